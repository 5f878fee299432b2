/- The law GroupApplied: at each step one node's applied commands are a front of another one's; what was applied somewhere is never another. -/
import Derived.WalkKit
import Derived.ArgAppend
import Derived.WalkSpells
import Derived.Lib.Hide
import Derived.Outline
import Derived.Test.YtnkmljdkokcdjaaChecked
import Derived.Test.YtnkmljdkokcdjaaB0
import Derived.Test.YtnkmljdkokcdjaaB1
import Derived.Test.YtnkmljdkokcdjaaHs
import Derived.Test.YtnkmljdkokcdjaaHn
import Derived.Deep.DeepCutAuto
import Derived.Deep.CutBlock
import Derived.Deep.OwnRows
import Derived.IntWalk
set_option maxRecDepth 100000
set_option maxHeartbeats 40000000
set_option linter.unusedVariables false
set_option linter.unusedSimpArgs false
namespace Go.Proofs.Ytnkmljdkokcdjaa
open Go.RowKit Fed Go.RT
attribute [local go_sem high] Fed.max2_int Fed.min2_int Fed.MA Fed.ZN Fed.ZM Fed.NA
theorem grownBy_setCells (g : Nat) : ∀ (vs : List Value) (o : Nat) (w : World), w.grownBy (w.setCells g o vs) (some g)
 | [], _, w => ⟨rfl, rfl, rfl, Nat.le_refl _, fun _ _ _ => rfl⟩
 | v :: r, o, w => by
  have h := grownBy_setCells g r (o + 1) (w.setCell ⟨g, o, none⟩ v)
  have e : w.setCells g o (v :: r) = (w.setCell ⟨g, o, none⟩ v).setCells g (o + 1) r := rfl
  rw [e]
  refine ⟨h.os, h.tape, h.output, by have := h.size; simpa [World.setCell] using this, fun k hk hne => (h.block k (by simpa [World.setCell] using hk) hne).trans (Below.heap_setCell w _ _ k (fun q => hne (by rw [q])))⟩
theorem run_append_tail {P : Program} (w : World) (base : Nat) (t ty e : TypeId) (i : TypeInfo) (z : Value) (ht : P.underlying t = some (.slice e)) (hi : P.info? e = some i) (hz : i.zero = some z) (hs1 : i.size = 1) (hby : i.bytes = 16) (hzs : z.cells.size = 1)
  (A : Option Addr) (N c : Nat) (xs : List Value) (ob : Option Nat) (hr : MM.Row w base e 1 (.slice A N c) N xs ob) (n : Nat) (hn : n ≤ N)
  (ok : Nat → Prop) (B : Option Addr) (m d : Nat) (news : List Value) (hu : MM.Rd w ok 1 (.slice B m d) m news) (h1 : ∀ u ∈ news, u.oneCell' = true) (hnm : 0 < m → n = N) (h63 : N + m ≤ 8796093022207) :
  ∃ A' c' w', (Builtin.append_ #[t, t] ty #[.slice (if c = n then A else A.map (·.add (n * 1))) (N - n) (c - n), .slice B m d]).run P w = .ok (.slice A' (N - n + m) c') w' ∧ MM.Rd w' (fun k => ob = some k ∨ w.heap.size ≤ k) 1 (.slice A' (N - n + m) c') (N - n + m) (xs.drop n ++ news) ∧ w.grownBy w' ob := by
 obtain ⟨_, c2, e2, hc1, hc2⟩ := hr.slice
 injection e2 with _ _ e2
 subst e2
 have hxl : xs.length = N := by have := hr.len; omega
 rcases Nat.eq_zero_or_pos m with rfl | hm
 ·have hnl : news = [] := List.eq_nil_of_length_eq_zero (by have := hu.1; omega)
  subst hnl
  have hcut := hr.rd.cut (lo := n) (hi := N) (m := c) hn (Nat.le_refl _) hc1 (Nat.le_refl _)
  refine ⟨_, _, w, MM.run_append_none w t ty e i ht hi _ _ _ _ _ (by omega), ?_, ⟨rfl, rfl, rfl, Nat.le_refl _, fun _ _ _ => rfl⟩⟩
  have e3 : (xs.drop (n * 1)).take ((N - n) * 1) = xs.drop n ++ [] := by
   rw [Nat.mul_one, Nat.mul_one, List.append_nil, List.take_of_length_le (by rw [List.length_drop]; omega)]
  rw [e3] at hcut
  exact hcut.mono fun k hk _ => .inl hk
 ·obtain rfl := hnm hm
  have hd : xs.drop n = [] := List.drop_eq_nil_of_le (by omega)
  rw [hd, List.nil_append, Nat.sub_self, Nat.zero_add]
  obtain ⟨hl, B', d', eb, hmd, hdm, hcell⟩ := hu
  injection eb with eb _ _
  subst eb
  obtain ⟨bb, bo, rfl, _, _, hcc⟩ := hcell hm
  have hnews : ∀ j u, news[j]? = some u → w.cell? ((⟨bb, bo, none⟩ : Addr).add j) = some u := fun j u hj => by rw [Addr.add_lit]; exact hcc j u hj
  have grows : ∀ (p : Addr) (cap : Nat), cap < m → ∃ A' c' w', (Builtin.append_ #[t, t] ty #[.slice (some p) 0 cap, .slice (some ⟨bb, bo, none⟩) m d]).run P w = .ok (.slice A' m c') w' ∧ MM.Rd w' (fun k => ob = some k ∨ w.heap.size ≤ k) 1 (.slice A' m c') m news ∧ w.grownBy w' ob := fun p cap hcap => by
   obtain ⟨v', w', hrun, ⟨k0, k1⟩, r2⟩ := run_append_arg_grows (P := P) w t ty e i z 1 16 ht hi hz hs1 hby hzs (by omega) p 0 cap [] (by simp) (fun j u hj => by simp at hj) _ m d news hl hnews (by omega) (by simp only [maxLen]; omega) (by omega)
   rcases k1 with k1 | ⟨g, cap', cur, rfl, k3, k4, k5, k6, k7, k8⟩
   ·omega
   ·rw [Nat.zero_add] at hrun k5 k8
    rw [List.nil_append] at k8
    exact ⟨_, _, w', hrun, ⟨hl, _, _, rfl, k5, k6, fun _ => ⟨g, 0, rfl, .inr k3, MM.blk_lt k4, fun j u hj => by
     rw [Nat.zero_add]
     rw [← k8, List.getElem?_take] at hj
     split at hj
     ·rw [Array.getElem?_toList] at hj; simp [World.cell?, k4, hj]
     ·cases hj⟩⟩, ⟨r2.os, r2.tape, r2.output, r2.size, fun k hk _ => r2.block k hk (by simp)⟩⟩
  cases ob with
  | none =>
   obtain ⟨_, rfl, A2, e4⟩ := hr
   injection e4 with e4 _ e5
   subst e4 e5
   rw [if_pos rfl]
   cases A with
   | some p => exact grows p 0 hm
   | none =>
    obtain ⟨v', w', hrun, ⟨k0, k1⟩, r2, _⟩ := run_append_own (P := P) w w.heap.size t ty e i z 1 16 ht hi hz hs1 hby hzs (by omega) (.slice none 0 0) 0 [] (World.ownsRow_nil w _ e 1) _ m d news hl hnews h1 (by simp only [maxLen]; omega) (by omega) (Nat.le_refl _)
    rcases k1 with k1 | ⟨g, cap', cur, rfl, k3, k4, k5, k6, k7, k8⟩
    ·omega
    ·rw [Nat.zero_add] at hrun k5 k8
     rw [List.nil_append] at k8
     exact ⟨_, _, w', hrun, ⟨hl, _, _, rfl, k5, k6, fun _ => ⟨g, 0, rfl, .inr k3, MM.blk_lt k4, fun j u hj => by
      rw [Nat.zero_add]
      rw [← k8, List.getElem?_take] at hj
      split at hj
      ·rw [Array.getElem?_toList] at hj; simp [World.cell?, k4, hj]
      ·cases hj⟩⟩, ⟨r2.os, r2.tape, r2.output, r2.size, fun k hk _ => r2.block k hk (by simp [Value.ownBlock])⟩⟩
  | some g =>
   have hlt := (hr.lt g rfl).2
   have hfr := hr.free
   obtain ⟨h0, cap, cur, e4, h2, h3, h4, h5, h6, h7⟩ := hr
   injection e4 with e4 _ e5
   subst e4 e5
   by_cases hcn : c = n
   ·rw [if_pos hcn]
    exact grows _ _ (by omega)
   ·rw [if_neg hcn]
    have ea : (Option.map (fun x : Addr => x.add (n * 1)) (some ⟨g, 0, none⟩)) = some ⟨g, n, none⟩ := by simp [Addr.add_lit]
    rw [ea]
    by_cases hroom : m ≤ c - n
    ·have hthere : ∀ j, j < news.length → (w.cell? ⟨g, n + j, none⟩).isSome = true := fun j hj => by
      have hlt2 : n + j < cur.size := by rw [h6]; omega
      simp [World.cell?, h3, hlt2]
     have hrun := run_append_room_cells (P := P) w t ty e i ht hi g n 0 (c - n) ⟨bb, bo, none⟩ m d news (by rw [hs1]; exact hl) hnews h1 (by omega) (fun j hj => by rw [Nat.zero_mul, Nat.add_zero]; exact hthere j hj) (fun j hj => hfr _)
     rw [Nat.zero_mul, Nat.add_zero, Nat.zero_add] at hrun
     refine ⟨_, _, _, hrun, ⟨hl, _, _, rfl, by omega, by omega, fun _ => ⟨g, n, rfl, .inl rfl, ?_, fun j u hj => ?_⟩⟩, grownBy_setCells g news n w⟩
     ·exact Nat.lt_of_lt_of_le hlt (grownBy_setCells g news n w).size
     ·obtain ⟨hjl, hju⟩ := List.getElem?_eq_some_iff.1 hj
      rw [World.cell?_setCells_in g news n w hthere j hjl, hju]
    ·exact grows _ _ (by omega)
theorem Both.ge {w0 w : World} {g x n : Nat} {s t : GS} {Z : Nat → Prop} (h : Both w0 w g x s t Z) (hz : ∀ k, k < n → Z k) : n ≤ w.heap.size := by
 by_cases q : n ≤ w.heap.size
 ·exact q
 ·exact absurd (h.lt w.heap.size (hz _ (by omega))) (by omega)
theorem wpList_append_tail {P : Program} (w : World) {ops : Array Oper} {rest : List Oper} {o : Oper} {a : Act} {Q : Exit → Act → World → Prop} (hgd : o.guard = none) (s x : Operand) (t : TypeId) (ho : o.op = .call { callee := .builtin .append, args := #[s, x], argTypes := #[t, t] })
  (base : Nat) (e : TypeId) (i : TypeInfo) (z : Value) (ht : P.underlying t = some (.slice e)) (hi : P.info? e = some i) (hz : i.zero = some z) (hs1 : i.size = 1) (hby : i.bytes = 16) (hzs : z.cells.size = 1)
  (A : Option Addr) (N c : Nat) (xs : List Value) (ob : Option Nat) (hr : MM.Row w base e 1 (.slice A N c) N xs ob) (n : Nat) (hn : n ≤ N) (A3 : Option Addr) (hA3 : A3 = if c = n then A else A.map (·.add (n * 1))) (hs : a.eval s = .slice A3 (N - n) (c - n))
  (ok : Nat → Prop) (B : Option Addr) (m d : Nat) (news : List Value) (hx : a.eval x = .slice B m d) (hu : MM.Rd w ok 1 (.slice B m d) m news) (h1 : ∀ u ∈ news, u.oneCell' = true) (hnm : 0 < m → n = N) (h63 : N + m ≤ 8796093022207)
  (h : ∀ A' c' w', MM.Rd w' (fun k => ob = some k ∨ w.heap.size ≤ k) 1 (.slice A' (N - n + m) c') (N - n + m) (xs.drop n ++ news) → w.grownBy w' ob → wpList P ops Q rest (a.put o.dst (.slice A' (N - n + m) c')) w') : wpList P ops Q (o :: rest) a w := by
 refine wpList_plain hgd fun K hK => ?_
 obtain ⟨A', c', w', hrun, h2, h3⟩ := run_append_tail (P := P) w base t o.type e i z ht hi hz hs1 hby hzs A N c xs ob hr n hn ok B m d news hu h1 hnm h63
 rw [← hA3] at hrun
 unfold Oper.wp
 simp [execOp, ho, resolve, invoke, builtin, hs, hx, hrun, Result.andThen]
 exact hK _ _ (h A' c' w' h2 h3)
theorem step_lo {P : Program} {ops : Array Oper} {Q : Exit → Act → World → Prop} {a : Act} {w : World} {i : Nat} {t : Go.RT.T} {o : Oper} (ho : ops[i]? = some o) (hg : o.guard = none) (ty : TypeId) (x y : Operand) (hop : o.op = .slice ty x (some y) none none) (hu : P.underlying ty = some (.slice (P.elem ty)))
  (hz : ∀ w', (sizeOf (P.elem ty)).run P w' = .ok 1 w') (A : Option Addr) (N c n : Nat) (hx : a.eval x = .slice A N c) (hy : a.eval y = .int .i64 (n : Int)) (hn : n ≤ N) (A3 : Option Addr) (hA3 : A3 = if c = n then A else A.map (·.add (n * 1)))
  (h : Go.RT.wpC P ops Q t (a.put o.dst (.slice A3 (N - n) (c - n))) w) : Go.RT.wpC P ops Q (.p i t) a w := by
 refine sP ho fun K hK => ?_
 rw [if_pos (Go.RT.wanted_none hg _)]
 refine ⟨_, fun w' => ?_, hK _ h⟩
 have e1 := run_slice_l (P := P) w' ty A N c hu .i64 (n : Int) (by omega) (by omega)
 have e2 : (Instr.sliceAt ty (.slice A N c) (some (.int .i64 (n : Int))) none none).run P w' = .ok (.slice A3 (N - n) (c - n)) w' := by
  rw [run_sliceAt_slice w' ty _ _ _ _ hu, e1, hz w']
  simp [Result.andThen, sliced, hA3]
 simp [execOp, hop, hx, hy, e2, Result.andThen]
theorem Both.sub2 {w0 w : World} {g x : Nat} {s t : GS} {Z Z' : Nat → Prop} (h : Both w0 w g x s t Z) (hz : ∀ k, Z' k → Z k) : Both w0 w g x s t Z' := h.touch (fun _ _ _ => rfl) (Below.refl _ _) (fun k hk => .inl (hz k hk))
theorem textsC_one (l : List ByteArray) : ∀ u ∈ textsC l, u.oneCell' = true := fun u hu => by obtain ⟨b, _, rfl⟩ := List.mem_map.1 hu; rfl
theorem textsC_take (l : List ByteArray) (n : Nat) : (textsC l).take n = textsC (l.take n) := by unfold textsC; rw [List.map_take]
theorem textsC_drop (l : List ByteArray) (n : Nat) : (textsC l).drop n = textsC (l.drop n) := by unfold textsC; rw [List.map_drop]
theorem applied_law (a0 : Int) (v1 : Value) (l1 : List Int) (x0 : (Lit.int .i64 a0).wf = true) (w : World) (hr1 : MM.Rd w (fun j => j < w.heap.size) 1 v1 l1.length (intsC l1)) (hw1 : ∀ x, x ∈ l1 → (Lit.int .i64 x).wf = true) :
  Calls Try.prog 16 #[.int .i64 a0, v1] w fun e w' => e = .returned (.bool true) ∧ Below w.heap.size w w' := by
 obtain ⟨A1, c1, rfl, q1, q2⟩ := hr1.slice
 have hm_l1 : l1.length ≤ maxLen := by omega
 unfold maxLen at hm_l1
 clear q1 q2
 have Hhr1 := Hd hr1
 have Hhw1 := Hd hw1
 clear hr1 hw1
 go_enter Try.func16, Try.ntmps16
 go_wp2_with fail
 refine (gknown_any _).mono ?_
 rintro e w1 ⟨rfl, hb1⟩
 have HB1 := Hd hb1
 clear hb1
 go_wp2_with fail
 refine (within9_fn _ a0 5 x0 (by omega) (by omega)).mono ?_
 rintro e w' ⟨rfl, rfl⟩
 have hv := wi_range a0 5 (by omega)
 generalize wi a0 5 = q at hv ⊢
 obtain ⟨q, rfl⟩ : ∃ q' : Nat, q = q' := ⟨q.toNat, by omega⟩
 have hk5 : q < 5 := by omega
 clear hv
 have hws : IntKind.i64.wrap (1 + (q : Int)) = ((q + 1 : Nat) : Int) := by rw [IntWalk.i64_in _ (by omega)]; omega
 go_wp2_with fail
 obtain ⟨K, hK⟩ : ∃ K : Nat, (q : Int) + 1 = K := ⟨q + 1, by omega⟩
 rw [hK]
 have hK1 : 1 ≤ K := by omega
 have hK5 : K ≤ 5 := by omega
 clear hws hk5 hK
 refine (newG w w1 (K : Int) K rfl (by omega) (by omega) HB1.out).mono ?_
 rintro e wa ⟨g, rfl, h2⟩
 have GA := Hd h2
 clear h2
 go_wp2_with fail
 refine (rGNew_any wa K (by omega) (by omega)).mono ?_
 rintro e wb ⟨x, ρ, ok, rfl, hr, hok, hb⟩
 have H0 := Hd (show Both w wb g x (GS.new K) (GS.new K) (fun k => k < w1.heap.size) from Both.new GA.out hr hok hb)
 clear hr hok hb GA
 have H00 := Hd (show Both w wb g x (gst K l1 0) (gst K l1 0) (fun k => k < w1.heap.size ∨ (none : Option Nat) = some k) from H0.out.touch (fun _ _ _ => rfl) (Below.refl _ _) (fun k hk => by rcases hk with hk | hk; exact .inl hk; cases hk))
 have F0 := Hd (show (∃ G, GI K G (gst K l1 0) ∧ Front K G []) ∧ ([] : List ByteArray).length ≤ 100000 from by
  obtain ⟨G, gi⟩ := GI.new K
  exact ⟨⟨G, gi, Front.nil _ _⟩, by simp⟩)
 clear H0
 go_wp2_with fail
 go_loopw [8, 9] (fun t8 t9 wr => ∃ (i : Nat) (A : Option Addr) (c : Nat) (ob : Option Nat) (all : List ByteArray), i ≤ l1.length ∧ i ≤ 300 ∧ t8 = .slice A all.length c ∧ t9 = .int .i64 i ∧ Hid (MM.Row wr w1.heap.size 9 1 (.slice A all.length c) all.length (textsC all) ob) ∧ Hid (Both w wr g x (gst K l1 i) (gst K l1 i) (fun k => k < w1.heap.size ∨ ob = some k)) ∧ Hid ((∃ G, GI K G (gst K l1 i) ∧ Front K G all) ∧ all.length ≤ 100000)) (fun _ t9 _ => l1.length - (intOf t9).toNat)
 case atStart => exact ⟨0, none, 0, none, [], by omega, by omega, rfl, rfl, Hd (MM.Row.nil _ _ _ _ _), H00, F0⟩
 case round =>
  clear H00 F0
  obtain ⟨i, A, c, ob, all, hi, hi2, rfl, rfl, R, H, F⟩ := hrel
  obtain ⟨b, hb⟩ : ∃ b : Bool, b = (decide (i < l1.length) && decide (i < 300)) := ⟨_, rfl⟩
  have HBB := Hd hb
  clear hb
  go_upto_region 9 with (fail)
  go_cut [31] (fun vb wc => vb = .bool b ∧ wr = wc)
  case first =>
   by_cases h1 : i < l1.length
   ·have h1b : decide ((i : Int) < (l1.length : Int)) = true := decide_eq_true (by omega)
    by_cases h2 : i < 300
    ·have h2b : decide ((i : Int) < 300) = true := decide_eq_true (by omega)
     have hbb : b = true := by rw [HBB.out, decide_eq_true h1, decide_eq_true h2]; rfl
     subst hbb
     go_wp2_with fail
     go_meet
     case rel => exact ⟨by first | rfl | (simp; omega), rfl⟩
    ·have h2b : decide ((i : Int) < 300) = false := decide_eq_false (by omega)
     have hbb : b = false := by rw [HBB.out, decide_eq_false h2]; simp
     subst hbb
     go_wp2_with fail
     go_meet
     case rel => exact ⟨by first | rfl | (simp; omega), rfl⟩
   ·have h1b : decide ((i : Int) < (l1.length : Int)) = false := decide_eq_false (by omega)
    have hbb : b = false := by rw [HBB.out, decide_eq_false h1]; rfl
    subst hbb
    go_wp2_with fail
    go_meet
    case rel => exact ⟨by first | rfl | (simp; omega), rfl⟩
  case rest =>
   obtain ⟨rfl, rfl⟩ := hcut
   cases b
   ·clear HBB
    go_wp2_with fail
    go_ret
    exact ⟨rfl, H.out.bel⟩
   ·have hb2 : i < l1.length ∧ i < 300 := by
     have h := HBB.out
     have h' : (decide (i < l1.length) && decide (i < 300)) = true := h.symm
     simpa using h'
    clear HBB
    obtain ⟨hl1, hl2⟩ := hb2
    have hrd := Hhr1.out.step (w1 := wr) (fun j hj _ => H.out.bel.block j hj)
    obtain ⟨_, A', c', ea, _, _, hrest⟩ := hrd
    injection ea with ea1 el ea2
    clear el
    subst ea1 ea2
    obtain ⟨be_xx, oe_xx, rfl, _, _, hcell⟩ := hrest (by omega)
    have x0 : wr.cell? ⟨be_xx, oe_xx + i, none⟩ = some (.int .i64 (l1.getD i 0)) := hcell _ _ (intsC_get hl1)
    have HXW := Hd (Hhw1.out (l1.getD i 0) (by rw [List.getD_eq_getElem?_getD, List.getElem?_eq_getElem hl1]; exact List.getElem_mem hl1))
    clear hcell hrest
    obtain ⟨xx, hxx⟩ : ∃ y, y = l1.getD i 0 := ⟨_, rfl⟩
    rw [← hxx] at x0 HXW
    have hvn := wi_range xx 1073741824 (by omega)
    obtain ⟨n, hnn⟩ : ∃ n : Nat, wi xx 1073741824 = n := ⟨_, (Int.toNat_of_nonneg hvn.1).symm⟩
    have nb : n < 1073741824 := by omega
    have NXT := Hd (show stepS K (gst K l1 i) n = gst K l1 (i + 1) from by show _ = stepS K (gst K l1 i) (wi (l1.getD i 0) 1073741824).toNat; rw [← hxx, hnn, Int.toNat_natCast])
    have WN_n := Hd hnn
    clear hxx hvn hnn
    go_wp2_with fail
    refine (within9_fn _ xx 1073741824 HXW.out (by omega) (by omega)).mono ?_
    rintro e w' ⟨rfl, rfl⟩
    rw [WN_n.out]
    clear WN_n HXW
    go_wp2_with fail
    refine (step_any w wr g x _ _ H.out K _ (gst_sys (by omega) l1 i) (by omega) (by omega) (by omega) n nb).mono ?_
    rintro e w5 ⟨rfl, h5, hs5⟩
    rw [NXT.out] at h5
    have H5 := Hd h5
    have S5 := Hd hs5
    clear h5 hs5 NXT
    obtain ⟨i0, hi0, hz0, hz1, hz2⟩ := info_parts info9
    obtain ⟨s, hs⟩ : ∃ s, s = gst K l1 (i + 1) := ⟨_, rfl⟩
    rw [← hs] at H5
    have SE := Hd hs
    have GG := Hd (show GoodG K s from by rw [SE.out]; exact gst_good hK5 l1 (i + 1) (by omega))
    have FR := Hd (show (∃ G, GI K G s ∧ Front K G all) ∧ all.length ≤ 100000 from by
     obtain ⟨⟨G, gi, fr⟩, hb⟩ := F.out
     obtain ⟨G', gr, gi'⟩ := gi.step (wi (l1.getD i 0) 1073741824).toNat
     exact ⟨⟨G', by rw [SE.out]; exact gi', fr.grow gr⟩, hb⟩)
    have R5 := Hd (R.out.step (w1 := w5) (fun k hk _ => S5.out.1 k (.inr hk)))
    have I1 : i + 1 ≤ l1.length ∧ i + 1 ≤ 300 := by omega
    clear hs R S5 F x0 hl1 hl2
    go_wp2_with fail
    go_loopw [8, 10] (fun t8 t10 wr => ∃ (j : Nat) (A : Option Addr) (c : Nat) (ob : Option Nat) (all : List ByteArray), j ≤ K ∧ t8 = .slice A all.length c ∧ t10 = .int .i64 j ∧ Hid (MM.Row wr w1.heap.size 9 1 (.slice A all.length c) all.length (textsC all) ob) ∧ Hid (Both w wr g x s s (fun k => k < w1.heap.size ∨ ob = some k)) ∧ Hid ((∃ G, GI K G s ∧ Front K G all) ∧ all.length ≤ 100000)) (fun _ t10 _ => K - (intOf t10).toNat)
    case atStart => exact ⟨0, A, c, ob, all, by omega, rfl, rfl, R5, H5, FR⟩
    case round =>
     clear R5 H5 FR
     obtain ⟨j, A, c, ob, all, hj, rfl, rfl, R, H, F⟩ := hrel
     by_cases hlt : j < K
     ·have hlb : decide ((j : Int) < (K : Int)) = true := decide_eq_true (by omega)
      have hAL := F.out.2
      have HH := H.out
      obtain ⟨ρ9, ok9, r9, p9, z9⟩ := HH
      have P9 := Hd p9
      clear r9 p9 z9
      go_wp2_with fail
      refine (appliedRowG w wr g s _ P9.out K GG.out (by omega) (j : Int)).mono ?_
      rintro e w6 ⟨⟨A2, c2, ob2, rfl, hr2⟩, _, hb6⟩
      have HL2 : (s.applied (j : Int)).length ≤ 100000 := by
       unfold GS.applied
       split
       ·rename_i hu
        obtain ⟨jj, e, hjj, _⟩ := isUp_some hu
        rw [e]
        have := (GG.out.node hjj).l
        have h2 := datas_take_len (s.node (jj : Int)).log (s.node (jj : Int)).commit.toNat
        have h3 := (datas_prefix (s.node (jj : Int)).log (s.node (jj : Int)).commit.toNat)
        have h4 : (datas ((s.node (jj : Int)).log.take (s.node (jj : Int)).commit.toNat)).length ≤ (s.node (jj : Int)).log.length := by
         unfold datas
         rw [List.length_map]
         exact Nat.le_trans (List.length_filter_le _ _) (List.length_take_le' _ _)
        exact Nat.le_trans h4 this
       ·simp
      have R6 := Hd (R.out.below hb6)
      have R2 := Hd hr2
      have HB6 := Hd hb6
      have F6 := Hd (show (∃ G, GI K G s ∧ Front K G all ∧ Front K G (s.applied (j : Int))) from by
       obtain ⟨⟨G, gi, fr⟩, _⟩ := F.out
       exact ⟨G, gi, fr, gi.front _⟩)
      obtain ⟨L, hL⟩ : ∃ L, L = s.applied (j : Int) := ⟨_, rfl⟩
      rw [← hL] at HL2 R2 F6 ⊢
      clear hr2 hb6 R P9 hL F
      obtain ⟨n, hn⟩ : ∃ n, n = min L.length all.length := ⟨_, rfl⟩
      have hmn : mn (L.length : Int) (all.length : Int) = (n : Int) := by rw [mn_eq]; omega
      have n1 : n ≤ L.length := by omega
      have n2 : n ≤ all.length := by omega
      have HN := Hd hn
      have FE := Hd (show L.take n = all.take n from by
       obtain ⟨G, gi, f1, f2⟩ := F6.out
       rw [hn]
       exact Front.agree gi.g f2 f1)
      clear hn
      go_upto_region 18 with (fail)
      obtain ⟨_, _, e1, k1, k2⟩ := R2.out.slice
      injection e1 with ea el ec
      clear el
      subst ea ec
      obtain ⟨_, _, e1, k3, k4⟩ := R6.out.slice
      injection e1 with ea el ec
      clear el
      subst ea ec
      have hA1 : n ≤ c2 := by omega
      have hA2 : n ≤ c := by omega
      have hA3 : (n : Int) ≤ (c2 : Int) := by omega
      have hA4 : (n : Int) ≤ (c : Int) := by omega
      have hA5 : (n : Int) ≤ (L.length : Int) := by omega
      have hA6 : (n : Int) ≤ (all.length : Int) := by omega
      have l1n : (L.take n).length = n := by rw [List.length_take]; omega
      have l2n : (all.take n).length = n := by rw [List.length_take]; omega
      have q1 := rd_front (m := c2) R2.out.rd n1 hA1 (Nat.le_refl _)
      have q2 := rd_front (m := c) R6.out.rd n2 hA2 (Nat.le_refl _)
      rw [Nat.mul_one, textsC_take, FE.out] at q1
      rw [Nat.mul_one, textsC_take] at q2
      have HT := Hd (show Calls Try.prog 42 #[.slice A2 n c2, .slice A n c] w6.drew (fun e w' => e = .returned (.bool true) ∧ Below w6.drew.heap.size w6.drew w') from by
       have h := texts_same w6.drew _ _ A2 A c2 c (all.take n) (by rw [l2n]; exact q1.drew) (by rw [l2n]; exact q2.drew)
       rw [l2n] at h
       exact h)
      have Q2 := Hd q2
      have L1N := Hd l1n
      have L2N := Hd l2n
      clear q1 q2 k1 k2 k3 k4 hmn l1n l2n
      refine wT (.p 0 (.p 1 (.p 2 (.p 3 (.p 4 (.p 5 (.w 6 [] (.p 7 .nil) .stop))))))) (by kernel_rfl) (by kernel_rfl) ?_
      repeat ((first | refine sP rfl fun K hK => ?_ | refine sS rfl fun K hK => ?_); go_simp; refine hK _ ?_; clear hK K)
      refine sW rfl rfl (fun K hK => ?_) sT
      go_wp2_with fail
      refine HT.out.mono ?_
      rintro e w8 ⟨rfl, hb8⟩
      go_wp2_with fail
      refine qN _ _ _ _ (hK _ _ ?_ ?_) <;> clear hK K
      ·repeat first | exact aN | refine aO rfl rfl ?_ | refine aI rfl (by go_simp <;> rfl) ?_
      repeat ((first | refine sP rfl fun K hK => ?_ | refine sS rfl fun K hK => ?_); go_simp; refine hK _ ?_; clear hK K)
      refine sN ?_
      have R8 := Hd (R6.out.drew.below hb8)
      have R28 := Hd (R2.out.drew.below hb8)
      have HB8 := Hd (show Below wr.heap.size wr w8 from HB6.out.trans (((Below.refl _ _).drew.trans hb8).mono HB6.out.size))
      have Q8 := Hd (Q2.out.drew.below hb8)
      clear hb8 R6 R2 HB6 Q2 HT
      go_upto_region 20 with (fail)
      obtain ⟨A3, hA3⟩ : ∃ A3, A3 = if c2 = n then A2 else A2.map (·.add (n * 1)) := ⟨_, rfl⟩
      obtain ⟨A4, hA4⟩ : ∃ A4, A4 = if c = n then A else A.map (·.add (n * 1)) := ⟨_, rfl⟩
      have HA3 := Hd hA3
      have HA4 := Hd hA4
      clear hA3 hA4
      refine wT (.p 1 (.p 2 (.p 3 (.p 5 (.p 6 (.p 7 (.p 8 (.p 9 (.p 10 (.w 0 [] (.w 4 [] (.w 11 [] (.w 12 [] (.w 13 [] .nil .stop) .stop) .stop) .stop) .stop)))))))))) (by kernel_rfl) (by kernel_rfl) ?_
      (refine sP rfl fun K hK => ?_; go_simp; refine hK _ ?_; clear hK K)
      (refine sP rfl fun K hK => ?_; go_simp; refine hK _ ?_; clear hK K)
      (refine sP rfl fun K hK => ?_; go_simp; refine hK _ ?_; clear hK K)
      (refine sP rfl fun K hK => ?_; go_simp; refine hK _ ?_; clear hK K)
      (refine sP rfl fun K hK => ?_; go_simp; refine hK _ ?_; clear hK K)
      refine step_lo rfl rfl 61 (.tmp 69) (.tmp 70) rfl Try.underlying61 (fun _ => by rfl) A2 L.length c2 n rfl rfl (by omega) A3 HA3.out ?_
      (refine sP rfl fun K hK => ?_; go_simp; refine hK _ ?_; clear hK K)
      (refine sP rfl fun K hK => ?_; go_simp; refine hK _ ?_; clear hK K)
      refine step_lo rfl rfl 61 (.tmp 72) (.tmp 73) rfl Try.underlying61 (fun _ => by rfl) A all.length c n rfl rfl (by omega) A4 HA4.out ?_
      refine sW rfl rfl (fun K hK => ?_) sT
      go_wp2_with fail
      refine name_world (F := fun W => Hid (MM.Row W w1.heap.size 9 1 (.slice A all.length c) all.length (textsC all) ob) ∧ Hid (MM.Row W wr.heap.size 9 1 (.slice A2 L.length c2) L.length (textsC L) ob2) ∧ Hid (Below wr.heap.size wr W) ∧ Hid (MM.Rd W (fun k => ob = some k) 1 (.slice A n c) n (textsC (all.take n)))) _ (by exact ⟨Hd (R8.out.drew.alloc _), Hd (R28.out.drew.alloc _), Hd (HB8.out.drew.alloc HB8.out.size _), Hd (Q8.out.drew.alloc _)⟩) ?_
      clear R8 R28 HB8 Q8
      intro v0 ⟨R9, R29, HB9, Q9⟩
      have VS := Hd HB9.out.size
      go_wp2_with fail
      refine qN _ _ _ _ (hK _ _ ?_ ?_) <;> clear hK K
      ·repeat first | exact aN | refine aO rfl rfl ?_ | refine aI rfl (by go_simp <;> rfl) ?_
      refine sW rfl rfl (fun K hK => ?_) sT
      refine MM.wpList_append_row _ rfl (.tmp 64) (.tmp 67) 61 rfl w1.heap.size 9 i0 _ 1 16 Try.underlying61 hi0 hz0 hz1 hz2 rfl (by decide) _ 0 [] none rfl (MM.Row.nil _ _ _ _ _) (fun k => ob = some k) _ n (textsC (all.take n)) rfl Q9.out (textsC_one _) (by simp only [maxLen]; omega) (by omega) (Nat.le_trans (H.out.ge (fun k hk => .inl hk)) HB9.out.size) ?_
      intro v' v4 ob4 hr4 hg4 hob4
      obtain ⟨A10, c10, rfl, _, _⟩ := hr4.slice
      rw [Nat.zero_add, List.nil_append] at hr4
      rw [Nat.zero_add]
      have B4 := Hd (show Below v0.heap.size v0 v4 from ⟨hg4.os, hg4.tape, hg4.output, hg4.size, fun k hk => hg4.block k hk (by simp)⟩)
      have R10 := Hd hr4
      have R210 := Hd (R29.out.below B4.out)
      have HB10 := Hd (HB9.out.trans (B4.out.mono HB9.out.size))
      have O10 := Hd (show ∀ k, ob4 = some k → v0.heap.size ≤ k from fun k hk => by
       rcases hob4 with e | ⟨b9, e, h9⟩
       ·rw [e] at hk; cases hk
       ·rw [e] at hk; injection hk with hk; omega)
      have U10 := Hd (show MM.Rd v4 (fun k => ob = some k) 1 (.slice A4 (all.length - n) (c - n)) (all.length - n) (textsC (all.drop n)) from by
       have h := (R9.out.rd.below B4.out).cut (lo := n) (hi := all.length) (m := c) n2 (Nat.le_refl _) (by obtain ⟨_, _, e9, k9, _⟩ := R9.out.slice; injection e9 with _ _ e9; omega) (Nat.le_refl _)
       rw [← HA4.out, Nat.mul_one, Nat.mul_one, textsC_drop, List.take_of_length_le (by simp [textsC])] at h
       exact h)
      have L2 := Hd (show ∀ k, ob2 = some k → wr.heap.size ≤ k ∧ k < v0.heap.size from fun k hk => R29.out.lt k hk)
      clear hr4 hg4 hob4 R9 R29 HB9 Q9 B4
      go_wp2_with fail
      refine qN _ _ _ _ (hK _ _ ?_ ?_) <;> clear hK K
      ·repeat first | exact aN | refine aO rfl rfl ?_ | refine aI rfl (by go_simp <;> rfl) ?_
      refine sW rfl rfl (fun K hK => ?_) sT
      refine wpList_append_tail _ rfl (.tmp 71) (.tmp 74) 61 rfl wr.heap.size 9 i0 _ Try.underlying61 hi0 hz0 hz1 hz2 rfl A2 L.length c2 (textsC L) ob2 R210.out n n1 A3 HA3.out rfl (fun k => ob = some k) A4 (all.length - n) (c - n) (textsC (all.drop n)) rfl U10.out (textsC_one _) (fun h => by have h2 := HN.out; omega) (by omega) ?_
      intro A5 c5 v11 h5 hg5
      have R11 := Hd (R10.out.step (w1 := v11) (fun k hk hl => hg5.block k hl (fun e => by have h1 := O10.out k hk; have h2 := (L2.out k e.symm).2; omega)))
      have HB11 := Hd (HB10.out.grown hg5 HB10.out.size (fun k hk => (L2.out k hk).1))
      have S5 := Hd h5
      clear h5 hg5 R10 R210 HB10 U10 L2
      go_wp2_with fail
      refine qN _ _ _ _ (hK _ _ ?_ ?_) <;> clear hK K
      ·repeat first | exact aN | refine aO rfl rfl ?_ | refine aI rfl (by go_simp <;> rfl) ?_
      refine sW rfl rfl (fun K hK => ?_) sT
      refine MM.wpList_append_row _ rfl (.tmp 68) (.tmp 75) 61 rfl w1.heap.size 9 i0 _ 1 16 Try.underlying61 hi0 hz0 hz1 hz2 rfl (by decide) _ n (textsC (all.take n)) ob4 rfl R11.out _ _ _ _ rfl S5.out (fun u hu => by
       rcases List.mem_append.1 hu with hu | hu
       ·rw [textsC_drop] at hu; exact textsC_one _ u hu
       ·exact textsC_one _ u hu) (by simp only [maxLen]; omega) (by omega) (Nat.le_trans (H.out.ge (fun k hk => .inl hk)) HB11.out.size) ?_
      intro v' v12 ob12 hr12 hg12 hob12
      obtain ⟨A12, c12, rfl, _, _⟩ := hr12.slice
      have HB12 := Hd (HB11.out.grown hg12 HB11.out.size (fun k hk => Nat.le_trans (show wr.heap.size ≤ v0.heap.size from VS.out) (O10.out k hk)))
      have FL := Hd (show n + (L.length - n + (all.length - n)) = (longer all L).length ∧ textsC (longer all L) = textsC (all.take n) ++ ((textsC L).drop n ++ textsC (all.drop n)) from by
       have h2 := HN.out
       have m1 : min all.length L.length = n := by omega
       have m2 : min L.length all.length = n := by omega
       unfold longer
       rw [m1, m2, textsC_drop]
       refine ⟨by simp only [List.length_append, List.length_take, List.length_drop]; omega, by unfold textsC; simp only [List.map_append]⟩)
      have hll := FL.out.1
      rw [hll, ← FL.out.2] at hr12
      rw [hll]
      have R12 := Hd hr12
      have H12 := Hd (show Both w v12 g x s s (fun k => k < w1.heap.size ∨ ob12 = some k) from (H.out.newer HB12.out).sub2 (fun k hk => by
       rcases hk with hk | hk
       ·exact .inl (.inl hk)
       ·rcases hob12 with e | ⟨b9, e, h9⟩
        ·exact .inr ⟨Nat.le_trans VS.out (O10.out k (by rw [← e]; exact hk)), (hr12.lt k hk).2⟩
        ·rw [e] at hk; injection hk with hk; exact .inr ⟨by have := HB11.out.size; omega, by have := (hr12.lt k (by rw [e, hk])).2; exact this⟩))
      clear hr12 hg12 hob12 hll R11 S5 HB11 O10 FL
      go_wp2_with fail
      refine qN _ _ _ _ (hK _ _ ?_ ?_) <;> clear hK K
      ·repeat first | exact aN | refine aO rfl rfl ?_ | refine aI rfl (by go_simp <;> rfl) ?_
      refine sW rfl rfl (fun K hK => ?_) sT
      go_wp2
      refine qN _ _ _ _ (hK _ _ ?_ ?_) <;> clear hK K
      ·repeat first | exact aN | refine aO rfl rfl ?_ | refine aI rfl (by go_simp <;> rfl) ?_
      refine sN ?_
      have F12 := Hd (show (∃ G, GI K G s ∧ Front K G (longer all L)) ∧ (longer all L).length ≤ 100000 from by
       obtain ⟨G, gi, f1, f2⟩ := F6.out
       exact ⟨⟨G, gi, Front.longer gi.g f1 f2⟩, by unfold longer; simp only [List.length_append, List.length_take, List.length_drop]; omega⟩)
      clear H HA3 HA4 HN FE F6 HB12 hA1 hA2 hA3 hA4 hA5 hA6 n1 n2 VS HL2 hAL
      go_wp2_with fail
      go_roundw
      case rel => first | exact ⟨j + 1, A12, c12, ob12, longer all L, by omega, rfl, by go_num, R12, H12, F12⟩ | ((repeat apply Exists.intro); refine ⟨?_, rfl⟩; exact ⟨j + 1, A12, c12, ob12, longer all L, by omega, rfl, by go_num, R12, H12, F12⟩)
      case measure => simp [intOf]; omega
     ·have hlb : decide ((j : Int) < (K : Int)) = false := decide_eq_false (by omega)
      have H9 := Hd (show Both w wr g x (gst K l1 (i + 1)) (gst K l1 (i + 1)) (fun k => k < w1.heap.size ∨ ob = some k) from by rw [← SE.out]; exact H.out)
      have F9 := Hd (show (∃ G, GI K G (gst K l1 (i + 1)) ∧ Front K G all) ∧ all.length ≤ 100000 from by rw [← SE.out]; exact F.out)
      clear H F
      go_wp2_with fail
      go_roundw
      case rel => first | exact ⟨i + 1, A, c, ob, all, I1.1, I1.2, rfl, by go_num, R, H9, F9⟩ | ((repeat apply Exists.intro); refine ⟨?_, rfl⟩; exact ⟨i + 1, A, c, ob, all, I1.1, I1.2, rfl, by go_num, R, H9, F9⟩)
      case measure => simp [intOf]; omega
end Go.Proofs.Ytnkmljdkokcdjaa
