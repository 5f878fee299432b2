/-
  Messages that are gathered; the document's spread and count. Conditions: the lengths and numbers are bounded as the theorems say.
-/
import Derived.WalkKit
import Derived.WalkSpells
import Derived.Lib.Hide
import Derived.Outline
import Derived.Test.YtnkmljdkokcdjaaChecked
import Derived.Test.YtnkmljdkokcdjaaMn
import Derived.Test.YtnkmljdkokcdjaaMem
import Derived.Test.YtnkmljdkokcdjaaFed
import Derived.Test.YtnkmljdkokcdjaaRn2
import Derived.Test.YtnkmljdkokcdjaaClone
import Derived.Deep.DeepCutAuto
import Derived.Deep.CutBlock
import Derived.Deep.OwnRows
import Derived.IntWalk
set_option linter.unusedVariables false
set_option linter.unusedSimpArgs false
namespace Go.Proofs.Ytnkmljdkokcdjaa
open Go.RowKit Fed
set_option linter.unusedVariables false
attribute [local go_sem high] Fed.max2_int Fed.min2_int

/-- Messages that are gathered in a row of one's own, newer than B. -/
def OutAt (w : World) (B : Nat) (v : Value) (ms : List Fed.Msg) (ob : Option Nat) : Prop :=
  ∃ cs, MM.Row w B 34 10 v ms.length cs ob ∧ MsgsR w (fun k => B ≤ k ∧ MM.Ty w k 40) ms cs
namespace OutAt
variable {w w1 : World} {B : Nat} {v : Value} {ms : List Fed.Msg} {ob : Option Nat}
theorem nil (w : World) (B : Nat) (A : Option Addr) : OutAt w B (.slice A 0 0) [] none := ⟨[], MM.Row.nil _ _ _ _ _, rfl⟩
theorem keep (h : OutAt w B v ms ob) (hm : ∀ k, B ≤ k → k < w.heap.size → w1.heap[k]? = w.heap[k]?) : OutAt w1 B v ms ob := by
  obtain ⟨cs, h1, h2⟩ := h
  refine ⟨cs, h1.step fun k hk hlt => hm k (h1.lt k hk).1 hlt, ?_⟩
  have h3 := h2.mono (ok' := fun k => B ≤ k ∧ MM.Ty w1 k 40) fun k hk hlt => ⟨hk.1, by obtain ⟨c, f, hc⟩ := hk.2; exact ⟨c, f, (hm k hk.1 hlt).trans hc⟩⟩
  exact h3.step fun k hk hlt => hm k hk.1 hlt
theorem below (h : OutAt w B v ms ob) (hb : Below w.heap.size w w1) : OutAt w1 B v ms ob := h.keep fun k _ hk => hb.block k hk
theorem drew (h : OutAt w B v ms ob) : OutAt w.drew B v ms ob := h.keep fun _ _ _ => rfl
theorem toV (h : OutAt w B v ms ob) : MsgsV w (fun k => B ≤ k) v ms := by
  obtain ⟨cs, h1, h2⟩ := h
  exact ⟨cs, h1.rd.mono fun k hk _ => (h1.lt k hk).1, h2.mono fun k hk _ => hk.1⟩
theorem slice (h : OutAt w B v ms ob) : ∃ A c, v = .slice A ms.length c ∧ ms.length ≤ c ∧ c ≤ maxLen := by
  obtain ⟨cs, h1, h2⟩ := h
  exact h1.slice
end OutAt
/-- One more message is appended. -/
theorem append_msg {ops : Array Oper} {rest : List Oper} {o : Oper} {a : Act} {Q : Exit → Act → World → Prop} (w : World) (hgd : o.guard = none) (s x : Operand)
    (ho : o.op = .call { callee := .builtin .append, args := #[s, x], argTypes := #[30, 30] }) (hty : o.type = 30)
    (B : Nat) (v : Value) (ms : List Fed.Msg) (ob : Option Nat) (hs : a.eval s = v) (h : OutAt w B v ms ob)
    (b : Nat) (m : Fed.Msg) (A : Option Addr) (c : Nat) (hx : a.eval x = .slice (some ⟨b, 0, none⟩) 1 1) (hb : w.heap[b]? = some (.cells #[.int .i64 m.kind, .int .i64 m.frm, .int .i64 m.to, .int .i64 m.term, .int .i64 m.index, .int .i64 m.logTerm, .bool m.ok, .slice A m.entries.length c, .int .i64 m.commit, .int .i64 m.form] 34 (0, 0)))
    (he : MM.Rd w (fun k => B ≤ k ∧ MM.Ty w k 40) 2 (.slice A m.entries.length c) m.entries.length (entsC m.entries)) (hl : ms.length ≤ 1000000) (hB : B ≤ w.heap.size)
    (hK : ∀ A' c' w' ob', OutAt w' B (.slice A' (ms.length + 1) c') (ms ++ [m]) ob' → (∀ k t, MM.Ty w k t → t ≠ 34 → w'.heap[k]? = w.heap[k]?) → Below B w w' → wpList Try.prog ops Q rest (a.put o.dst (.slice A' (ms.length + 1) c')) w') : wpList Try.prog ops Q (o :: rest) a w := by
  obtain ⟨i0, hi, hz0, hz1, hz2⟩ := info_parts info34
  obtain ⟨cs, h1, h2⟩ := h
  refine MM.wpList_append_row _ hgd s x 30 ho B 34 i0 _ 10 96 Try.underlying30 hi hz0 hz1 hz2 rfl (by decide) v ms.length cs ob hs h1 (fun _ => True) _ 1 (msgC m (.slice A m.entries.length c)) hx (MM.Rd.lit hb trivial rfl (Nat.le_refl _) (by simp [maxLen]) (by simp [msgC])) (msgC_one rfl) (by simp only [maxLen]; omega) (by omega) hB ?_
  intro v' w' ob' hr hg _
  obtain ⟨A', c', rfl, _, _⟩ := hr.slice
  have kp : ∀ k t, MM.Ty w k t → t ≠ 34 → w'.heap[k]? = w.heap[k]? := fun k t hk hne => hg.block k (by obtain ⟨_, _, hc⟩ := hk; exact MM.blk_lt hc) fun e => ty_ne hk (h1.ty k e.symm) hne rfl
  refine hK A' c' w' ob' ⟨cs ++ msgC m (.slice A m.entries.length c), by simpa using hr, ?_⟩ kp ((Below.refl B w).grown hg hB (fun k hk => (h1.lt k hk).1))
  have h3 := h2.append (MsgsR.one he)
  have h4 := h3.mono (ok' := fun k => (B ≤ k ∧ MM.Ty w' k 40) ∧ MM.Ty w k 40) fun k hk _ => ⟨⟨hk.1, by obtain ⟨c0, f, hc⟩ := hk.2; exact ⟨c0, f, (kp k _ hk.2 (by decide)).trans hc⟩⟩, hk.2⟩
  exact (h4.step fun k hk _ => kp k _ hk.2 (by decide)).mono fun k hk _ => hk.1
set_option maxRecDepth 100000 in
set_option maxHeartbeats 4000000 in
theorem rspread_any (w : World) (ok : Nat → Prop) (n : Fed.Node) (σ : Sl5) (h : NodeVs w ok n σ) (l1 : n.log.length ≤ 1000000) (l2 : n.votes.length ≤ 1000) (l3 : n.votes.length ≤ n.nxt.length) (hx : ∀ i : Nat, i < n.votes.length → (i : Int) ≠ n.id → 1 ≤ n.nxt.getD i 0 ∧ n.nxt.getD i 0 ≤ n.log.length + 1) :
    Calls Try.prog 110 #[.agg #[.int .i64 n.id, .int .i64 n.term, .int .i64 n.vote, .slice σ.A3 n.log.length σ.k3, .int .i64 n.form, .int .i64 n.role, .int .i64 n.commit, .slice σ.A7 n.votes.length σ.k7, .slice σ.A8 n.nxt.length σ.k8, .slice σ.A9 n.mtch.length σ.k9, .slice σ.A10 n.forms.length σ.k10, .int .i64 n.clock, .int .i64 n.due]] w fun e w' => ∃ A c ob, e = .returned (.slice A (spreadMsgs n n.votes.length).length c) ∧ OutAt w' w.heap.size (.slice A (spreadMsgs n n.votes.length).length c) (spreadMsgs n n.votes.length) ob ∧ Below w.heap.size w w' := by
  have H := Lib.hid (h.mono (ok' := fun k => k < w.heap.size) (fun k _ hk => hk))
  have HXX := Lib.hid hx
  have L3 := Lib.hid l3
  clear h hx l3
  go_enter Try.func110, Try.ntmps110
  go_upto_region 1 with (fail)
  refine name_world (F := fun W => Hid (W.heap[w.heap.size]? = some (.cells #[.int .i64 n.id, .int .i64 n.term, .int .i64 n.vote, .slice σ.A3 n.log.length σ.k3, .int .i64 n.form, .int .i64 n.role, .int .i64 n.commit, .slice σ.A7 n.votes.length σ.k7, .slice σ.A8 n.nxt.length σ.k8, .slice σ.A9 n.mtch.length σ.k9, .slice σ.A10 n.forms.length σ.k10, .int .i64 n.clock, .int .i64 n.due] 28 (0, 0))) ∧ Hid (NodeVs W (fun k => k < w.heap.size) n σ) ∧ Hid (Below w.heap.size w W)) _ ⟨Lib.hid (MM.alloc_new w _), Lib.hid (H.out.step (fun k hk _ => Below.heap_alloc w _ k hk)), Lib.hid ((Below.refl _ w).alloc (Nat.le_refl _) _)⟩ ?_
  clear H
  intro w1 ⟨X, V, HB⟩
  go_wp2_with fail
  go_loopw [3, 4] (fun t3 t4 wr => ∃ (i : Nat) (A : Option Addr) (c : Nat) (ob : Option Nat), i ≤ n.votes.length ∧ t3 = .slice A (spreadMsgs n i).length c ∧ t4 = .int .i64 i ∧ Hid (wr.heap[w.heap.size]? = some (.cells #[.int .i64 n.id, .int .i64 n.term, .int .i64 n.vote, .slice σ.A3 n.log.length σ.k3, .int .i64 n.form, .int .i64 n.role, .int .i64 n.commit, .slice σ.A7 n.votes.length σ.k7, .slice σ.A8 n.nxt.length σ.k8, .slice σ.A9 n.mtch.length σ.k9, .slice σ.A10 n.forms.length σ.k10, .int .i64 n.clock, .int .i64 n.due] 28 (0, 0))) ∧ Hid (NodeVs wr (fun k => k < w.heap.size) n σ) ∧ Hid (OutAt wr w.heap.size (.slice A (spreadMsgs n i).length c) (spreadMsgs n i) ob) ∧ Hid (Below w.heap.size w wr)) (fun _ t4 _ => n.votes.length - (intOf t4).toNat)
  case atStart => exact ⟨0, none, 0, none, by omega, rfl, rfl, X, V, Lib.hid (OutAt.nil _ _ _), HB⟩
  case round =>
    obtain ⟨i, A, c, ob, hi, rfl, rfl, X, V, O, HB⟩ := hrel
    have hsp := spreadMsgs_le n i
    obtain ⟨c0, c1, c2, c3, c4, c5, c6, c7, c8, c9, c10, c11, c12⟩ := MM.cells13 X.out
    by_cases hlt : i < n.votes.length
    · have hltb : decide ((i : Int) < (n.votes.length : Int)) = true := decide_eq_true (by omega)
      by_cases hne : (i : Int) = n.id
      · have hneb : ((i : Int) != n.id) = false := by simpa using hne
        have HNE := Lib.hid hne
        clear hne
        go_wp2_with fail
        go_roundw
        case rel => exact ⟨i + 1, A, c, ob, by omega, by rw [spreadMsgs_skip HNE.out], by go_num, X, V, Lib.hid (by rw [spreadMsgs_skip HNE.out]; exact O.out), HB⟩
        case measure => simp [intOf]; omega
      · have hneb : ((i : Int) != n.id) = true := by simpa using hne
        have HNE := Lib.hid hne
        have HX1 := Lib.hid (HXX.out i hlt hne)
        clear hne
        go_wp2_with fail
        refine (rsend_any _ _ n σ V.out i l1 (Nat.lt_of_lt_of_le hlt L3.out) HX1.out.1 HX1.out.2).mono ?_
        rintro e w2 ⟨A2, c2, rfl, hr2, hb2⟩
        have O2 := Lib.hid (O.out.below hb2)
        have X2 := Lib.hid ((hb2.block _ (MM.blk_lt X.out)).trans X.out)
        have V2 := Lib.hid (V.out.below hb2)
        have HB2 := Lib.hid (HB.out.trans (hb2.mono HB.out.size))
        have R2 := Lib.hid (hr2.mono (ok' := fun k => w.heap.size ≤ k ∧ MM.Ty w2 k 40) (fun k hk _ => ⟨Nat.le_trans HB.out.size hk.1, hk.2⟩))
        clear hr2 hb2
        go_wp2_with (at_builtin; refine append_msg _ rfl (.tmp 16) (.tmp 20) rfl rfl w.heap.size _ _ ob rfl (O2.out.below ((Below.refl _ _).alloc (Nat.le_refl _) _)) w2.heap.size (entriesMsg n i) A2 c2 rfl (MM.alloc_new _ _) ?_ (by omega) (by have := HB2.out.size; simp; omega) ?_)
        · exact ((R2.out.mono (ok' := fun k => w.heap.size ≤ k ∧ MM.Ty (w2.alloc (.cells #[.int .i64 (entriesMsg n i).kind, .int .i64 (entriesMsg n i).frm, .int .i64 (entriesMsg n i).to, .int .i64 (entriesMsg n i).term, .int .i64 (entriesMsg n i).index, .int .i64 (entriesMsg n i).logTerm, .bool (entriesMsg n i).ok, .slice A2 (entriesMsg n i).entries.length c2, .int .i64 (entriesMsg n i).commit, .int .i64 (entriesMsg n i).form] 34 (0, 0))) k 40) (fun k hk hlt => ⟨hk.1, by obtain ⟨c0, f, hc⟩ := hk.2; exact ⟨c0, f, (Below.heap_alloc _ _ k hlt).trans hc⟩⟩)).alloc _)
        · intro A' c' w' ob' ho hk hbl
          go_wp2_with fail
          have X3 := Lib.hid ((hk _ 28 ⟨_, _, (Below.heap_alloc _ _ _ (MM.blk_lt X2.out)).trans X2.out⟩ (by decide)).trans ((Below.heap_alloc _ _ _ (MM.blk_lt X2.out)).trans X2.out))
          go_roundw
          case rel => exact ⟨i + 1, A', c', ob', by omega, by rw [spreadMsgs_step HNE.out, List.length_append]; rfl, by go_num, X3, Lib.hid (V2.out.step (fun k hk2 hlt2 => (hbl.block k hk2).trans (Below.heap_alloc _ _ k hlt2))), Lib.hid (by rw [spreadMsgs_step HNE.out, List.length_append]; exact ho), Lib.hid ((HB2.out.alloc HB2.out.size _).trans hbl)⟩
          case measure => simp [intOf]; omega
    · obtain rfl : i = n.votes.length := by omega
      have hltb : decide ((n.votes.length : Int) < (n.votes.length : Int)) = false := by simp
      go_wp2_with fail
      go_ret
      exact ⟨A, c, ob, rfl, O.out, HB.out⟩
set_option maxRecDepth 100000 in
set_option maxHeartbeats 4000000 in
theorem rcount_any (w : World) (ok : Nat → Prop) (l : List Bool) (A : Option Addr) (c : Nat) (h : MM.Rd w ok 1 (.slice A l.length c) l.length (boolsC l)) (hl : l.length ≤ 1000000) :
    Calls Try.prog 114 #[.slice A l.length c] w fun e w' => e = .returned (.int .i64 (countT l)) ∧ w = w' := by
  have H := Lib.hid h
  clear h
  go_enter Try.func114, Try.ntmps114
  go_wp2_with fail
  go_loop [3, 4] (fun t3 t4 => ∃ i : Nat, i ≤ l.length ∧ t3 = .int .i64 (countT (l.take i)) ∧ t4 = .int .i64 i) (fun _ t4 => l.length - (intOf t4).toNat)
  case atStart => exact ⟨0, by omega, by simp [countT], rfl⟩
  case round =>
    obtain ⟨i, hi, rfl, rfl⟩ := hrel
    have hc := countT_take_le l i
    by_cases hlt : i < l.length
    · have hltb : decide ((i : Int) < (l.length : Int)) = true := decide_eq_true (by omega)
      obtain ⟨_, A', c', ea, _, _, r1⟩ := H.out
      injection ea with ea1 _ ea2
      subst ea1 ea2
      obtain ⟨b, o, rfl, _, _, g1⟩ := r1 (by omega)
      have ce := g1 _ _ (boolsC_get hlt)
      have HS := Lib.hid (countT_take_succ hlt)
      clear g1 r1
      by_cases hv : l.getD i false = true
      · rw [hv] at ce
        have HV := Lib.hid hv
        clear hv
        go_wp2_with fail
        go_round
        case rel => exact ⟨i + 1, by omega, by rw [HS.out, if_pos HV.out]; go_num, by go_num⟩
        case measure => simp [intOf]; omega
      · have hv' : l.getD i false = false := by simpa using hv
        rw [hv'] at ce
        have HV := Lib.hid hv
        clear hv hv'
        go_wp2_with fail
        go_round
        case rel => exact ⟨i + 1, by omega, by rw [HS.out, if_neg HV.out]; go_num, by go_num⟩
        case measure => simp [intOf]; omega
    · obtain rfl : i = l.length := by omega
      have hltb : decide ((l.length : Int) < (l.length : Int)) = false := by simp
      go_wp2_with fail
      go_ret
      exact ⟨rfl, rfl⟩

end Go.Proofs.Ytnkmljdkokcdjaa
