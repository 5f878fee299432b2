/-
  The document's leads. Conditions: the lengths and numbers are bounded as the theorem says.
-/
import Derived.WalkKit
import Derived.WalkSpells
import Derived.Lib.Hide
import Derived.Outline
import Derived.Test.YtnkmljdkokcdjaaChecked
import Derived.Test.YtnkmljdkokcdjaaMn
import Derived.Test.YtnkmljdkokcdjaaMem
import Derived.Test.YtnkmljdkokcdjaaFed
import Derived.Test.YtnkmljdkokcdjaaRn3
import Derived.Test.YtnkmljdkokcdjaaRn4
import Derived.Deep.DeepCutAuto
import Derived.Deep.CutBlock
import Derived.Deep.OwnRows
import Derived.IntWalk
set_option linter.unusedVariables false
set_option linter.unusedSimpArgs false
namespace Go.Proofs.Ytnkmljdkokcdjaa
open Go.RowKit Fed
set_option linter.unusedVariables false
attribute [local go_sem high] Fed.max2_int Fed.min2_int

/-- x, as far as i; then what was there. -/
def fillTo (l : List Int) (i : Nat) (x : Int) : List Int := List.replicate i x ++ l.drop i
theorem fillTo_len {l : List Int} {i : Nat} {x : Int} (h : i ≤ l.length) : (fillTo l i x).length = l.length := by simp [fillTo]; omega
theorem fillTo_set {l : List Int} {i : Nat} {x : Int} (h : i < l.length) : (fillTo l i x).set i x = fillTo l (i + 1) x := by
  unfold fillTo
  rw [List.set_append_right _ _ (by simp), List.length_replicate, Nat.sub_self, List.drop_eq_getElem_cons h, List.set_cons_zero, List.replicate_succ']
  simp
theorem fillTo_all (l : List Int) (x : Int) : fillTo l l.length x = List.replicate l.length x := by simp [fillTo]
theorem fillTo_zero (l : List Int) (x : Int) : fillTo l 0 x = l := by simp [fillTo]
theorem OutAt.lower {w : World} {B B' : Nat} {v : Value} {ms : List Fed.Msg} {ob : Option Nat} (h : OutAt w B v ms ob) (hb : B' ≤ B) : OutAt w B' v ms ob := by
  obtain ⟨cs, h1, h2⟩ := h
  exact ⟨cs, h1.lower hb, h2.mono fun k hk _ => ⟨Nat.le_trans hb hk.1, hk.2⟩⟩
theorem OutAt.types {w w1 : World} {B : Nat} {v : Value} {ms : List Fed.Msg} {ob : Option Nat} (h : OutAt w B v ms ob) (hm : ∀ k t, MM.Ty w k t → t = 40 ∨ t = 34 → w1.heap[k]? = w.heap[k]?) : OutAt w1 B v ms ob := by
  obtain ⟨cs, h1, h2⟩ := h
  refine ⟨cs, h1.step fun k hk hlt => hm k _ (h1.ty k hk) (.inr rfl), ?_⟩
  have h3 := h2.mono (ok' := fun k => (B ≤ k ∧ MM.Ty w1 k 40) ∧ MM.Ty w k 40) fun k hk hlt => ⟨⟨hk.1, by obtain ⟨c, f, hc⟩ := hk.2; exact ⟨c, f, (hm k _ hk.2 (.inl rfl)).trans hc⟩⟩, hk.2⟩
  exact (h3.step fun k hk _ => hm k _ hk.2 (.inl rfl)).mono fun k hk _ => hk.1
/-- Another node: the one that leads, with its entry. -/
def leadsN (n : Fed.Node) : Fed.Node := putN (leadN n) ⟨#[]⟩
theorem leadsN_votes (n : Fed.Node) : (leadsN n).votes = n.votes := rfl
theorem leadsN_len (n : Fed.Node) : (leadsN n).log.length = n.log.length + 1 := by simp [leadsN, putN, leadN]
def leadAt (n : Fed.Node) (i : Nat) : Fed.Node := { n with role := 2, nxt := fillTo n.nxt i ((n.log.length : Int) + 1), mtch := fillTo n.mtch i 0 }
theorem NB.mk13 {w : World} {B b : Nat} {n : Fed.Node} {σ : Sl5} {ω : O5} {a0 a1 a2 a3 a4 a5 a6 a7 a8 a9 a10 a11 a12 : Value} (hB : B ≤ b) (hX : w.heap[b]? = some (.cells #[a0, a1, a2, a3, a4, a5, a6, a7, a8, a9, a10, a11, a12] 28 (0, 0))) (h : NodeOs w B n σ ω) : NB (((((((((((((w.setCell ⟨b, 0, none⟩ (.int .i64 n.id)).setCell ⟨b, 1, none⟩ (.int .i64 n.term)).setCell ⟨b, 2, none⟩ (.int .i64 n.vote)).setCell ⟨b, 3, none⟩ (.slice σ.A3 n.log.length σ.k3)).setCell ⟨b, 4, none⟩ (.int .i64 n.form)).setCell ⟨b, 5, none⟩ (.int .i64 n.role)).setCell ⟨b, 6, none⟩ (.int .i64 n.commit)).setCell ⟨b, 7, none⟩ (.slice σ.A7 n.votes.length σ.k7)).setCell ⟨b, 8, none⟩ (.slice σ.A8 n.nxt.length σ.k8)).setCell ⟨b, 9, none⟩ (.slice σ.A9 n.mtch.length σ.k9)).setCell ⟨b, 10, none⟩ (.slice σ.A10 n.forms.length σ.k10)).setCell ⟨b, 11, none⟩ (.int .i64 n.clock)).setCell ⟨b, 12, none⟩ (.int .i64 n.due)) B b n σ ω :=
  ⟨hB, set13 hX, h.types fun k t hk ht' => far13 (ty_ne hk ⟨_, _, hX⟩ (by rcases ht' with rfl | rfl | rfl <;> decide))⟩
set_option maxRecDepth 100000 in
set_option maxHeartbeats 4000000 in
theorem rleads_any (w : World) (B : Nat) (n : Fed.Node) (σ : Sl5) (ω : O5) (h : NodeOs w B n σ ω) (hB : B ≤ w.heap.size) (l1 : n.log.length ≤ 999990) (l2 : n.votes.length ≤ 1000) (l3 : n.nxt.length = n.votes.length) (l4 : n.mtch.length = n.votes.length) (hi0 : 0 ≤ n.id) (hi1 : n.id < n.votes.length) :
    Calls Try.prog 111 #[.agg #[.int .i64 n.id, .int .i64 n.term, .int .i64 n.vote, .slice σ.A3 n.log.length σ.k3, .int .i64 n.form, .int .i64 n.role, .int .i64 n.commit, .slice σ.A7 n.votes.length σ.k7, .slice σ.A8 n.nxt.length σ.k8, .slice σ.A9 n.mtch.length σ.k9, .slice σ.A10 n.forms.length σ.k10, .int .i64 n.clock, .int .i64 n.due]] w fun e w' => ∃ τ υ A c ob, e = .returned (.tuple #[.agg #[.int .i64 (leadsN n).id, .int .i64 (leadsN n).term, .int .i64 (leadsN n).vote, .slice τ.A3 (leadsN n).log.length τ.k3, .int .i64 (leadsN n).form, .int .i64 (leadsN n).role, .int .i64 (leadsN n).commit, .slice τ.A7 (leadsN n).votes.length τ.k7, .slice τ.A8 (leadsN n).nxt.length τ.k8, .slice τ.A9 (leadsN n).mtch.length τ.k9, .slice τ.A10 (leadsN n).forms.length τ.k10, .int .i64 (leadsN n).clock, .int .i64 (leadsN n).due], .slice A (spreadMsgs (leadsN n) n.votes.length).length c]) ∧ NodeOs w' B (leadsN n) τ υ ∧ OutAt w' B (.slice A (spreadMsgs (leadsN n) n.votes.length).length c) (spreadMsgs (leadsN n) n.votes.length) ob ∧ Below B w w' ∧ Kp w w' := by
  have H := Lib.hid h
  have L3 := Lib.hid l3
  have L4 := Lib.hid l4
  clear h l3 l4
  go_enter Try.func111, Try.ntmps111
  go_upto_region 1 with (fail)
  refine name_world (F := fun W => Hid (NB W B w.heap.size n σ ω) ∧ Hid (W.heap[w.heap.size + 1]? = some (.cells #[.int .i64 0, .int .i64 0, .int .i64 0, .slice none 0 0, .int .i64 0, .int .i64 0, .int .i64 0, .slice none 0 0, .slice none 0 0, .slice none 0 0, .slice none 0 0, .int .i64 0, .int .i64 0] 28 (0, 0))) ∧ Hid (Below B w W) ∧ Hid (Kp w W)) _ ⟨Lib.hid (⟨hB, (Below.heap_alloc _ _ _ (by simp)).trans (MM.alloc_new w _), (H.out.alloc _).alloc _⟩), Lib.hid (MM.alloc_new1 w _ _), Lib.hid (((Below.refl B w).alloc hB _).alloc (by simp; omega) _), Lib.hid (Kp.old (fun k hk => (Below.heap_alloc _ _ k (by simp; omega)).trans (Below.heap_alloc w _ k hk)))⟩ ?_
  clear H
  intro w1 ⟨N1, Y, HB, HK⟩
  have c5 : w1.cell? ⟨w.heap.size, 5, none⟩ = some (.int .i64 n.role) := MM.cell_blk N1.out.blk rfl
  have g5 : w1.frozen? ⟨w.heap.size, 5, none⟩ = false := MM.free_blk N1.out.blk
  go_upto_region 2 with (fail)
  refine name_world (F := fun W => Hid (NB W B w.heap.size (leadAt n 0) σ ω) ∧ Hid (W.heap[w.heap.size + 1]? = some (.cells #[.int .i64 0, .int .i64 0, .int .i64 0, .slice none 0 0, .int .i64 0, .int .i64 0, .int .i64 0, .slice none 0 0, .slice none 0 0, .slice none 0 0, .slice none 0 0, .int .i64 0, .int .i64 0] 28 (0, 0))) ∧ Hid (Below B w W) ∧ Hid (Kp w W)) _ ⟨Lib.hid ((show NB _ B w.heap.size { n with role := 2 } σ ω from N1.out.set rfl ⟨rfl, rfl, rfl, rfl, rfl⟩)), Lib.hid ((Below.heap_setCell _ _ _ _ (by show w.heap.size + 1 ≠ w.heap.size; omega)).trans Y.out), Lib.hid (HB.out.setCell hB _), Lib.hid (HK.out.new (Nat.le_refl _) _)⟩ ?_
  clear N1 Y HB HK c5 g5
  intro w2 ⟨N, Y2, HB2, HK2⟩
  go_wp2_with fail
  go_loopw [4] (fun t4 wr => ∃ (i : Nat) (m : Fed.Node), i ≤ n.votes.length ∧ t4 = .int .i64 i ∧ Hid (m = leadAt n i) ∧ Hid (NB wr B w.heap.size m σ ω) ∧ Hid (wr.heap[w.heap.size + 1]? = some (.cells #[.int .i64 0, .int .i64 0, .int .i64 0, .slice none 0 0, .int .i64 0, .int .i64 0, .int .i64 0, .slice none 0 0, .slice none 0 0, .slice none 0 0, .slice none 0 0, .int .i64 0, .int .i64 0] 28 (0, 0))) ∧ Hid (Below B w wr) ∧ Hid (Kp w wr)) (fun t4 _ => n.votes.length - (intOf t4).toNat)
  case atStart => exact ⟨0, leadAt n 0, by omega, rfl, Lib.hid rfl, N, Y2, HB2, HK2⟩
  case round =>
    obtain ⟨i, m, hi, rfl, HM, N, Y, HB, HK⟩ := hrel
    clear Y2 HB2 HK2
    have ev : m.votes.length = n.votes.length := by rw [HM.out]; rfl
    have EV := Lib.hid ev
    have hs1 : w.heap.size + 1 < wr.heap.size := MM.blk_lt Y.out
    have hs0 : w.heap.size < wr.heap.size := by omega
    have en : m.nxt.length = n.votes.length := by rw [HM.out]; show (fillTo _ _ _).length = _; rw [fillTo_len (by rw [L3.out]; exact hi)]; exact L3.out
    have em : m.mtch.length = n.votes.length := by rw [HM.out]; show (fillTo _ _ _).length = _; rw [fillTo_len (by rw [L4.out]; exact hi)]; exact L4.out
    have el : m.log.length = n.log.length := by rw [HM.out]; rfl
    have EN := Lib.hid en
    have EM := Lib.hid em
    have EL := Lib.hid el
    have ml : m.log.length ≤ 999990 := by omega
    clear en em el ev
    have c7 : wr.cell? ⟨w.heap.size, 7, none⟩ = some (.slice σ.A7 m.votes.length σ.k7) := N.out.c 7 _ rfl
    have c3 : wr.cell? ⟨w.heap.size, 3, none⟩ = some (.slice σ.A3 m.log.length σ.k3) := N.out.c 3 _ rfl
    by_cases hlt : i < n.votes.length
    · have hltb : decide ((i : Int) < (m.votes.length : Int)) = true := decide_eq_true (by rw [EV.out]; omega)
      have hltn : i < m.votes.length := by rw [EV.out]; exact hlt
      have hi8 : i < m.nxt.length := by rw [EN.out]; exact hlt
      have hi9 : i < m.mtch.length := by rw [EM.out]; exact hlt
      obtain ⟨p8, hp8⟩ := N.out.rows.hn.some_of (by omega)
      have hr8 := N.out.rows.hn
      rw [hp8] at hr8
      obtain ⟨cap8, e8, q81, q82⟩ := hr8.form
      have c8 : wr.cell? ⟨w.heap.size, 8, none⟩ = some (.slice (some ⟨p8, 0, none⟩) m.nxt.length cap8) := N.out.c 8 _ (congrArg some e8)
      have HP8 := Lib.hid hp8
      have HR8 := Lib.hid hr8
      clear e8 hp8 hr8
      have ce8 : wr.cell? ⟨p8, i, none⟩ = some (.int .i64 (m.nxt.getD (i) 0)) := HR8.out.cell (intsC_get (by omega))
      have fe8 : wr.frozen? ⟨p8, i, none⟩ = false := HR8.out.free _
      obtain ⟨p9, hp9⟩ := N.out.rows.hm.some_of (by omega)
      have hr9 := N.out.rows.hm
      rw [hp9] at hr9
      obtain ⟨cap9, e9, q91, q92⟩ := hr9.form
      have c9 : wr.cell? ⟨w.heap.size, 9, none⟩ = some (.slice (some ⟨p9, 0, none⟩) m.mtch.length cap9) := N.out.c 9 _ (congrArg some e9)
      have HP9 := Lib.hid hp9
      have HR9 := Lib.hid hr9
      clear e9 hp9 hr9
      have ce9 : wr.cell? ⟨p9, i, none⟩ = some (.int .i64 (m.mtch.getD (i) 0)) := HR9.out.cell (intsC_get (by omega))
      have fe9 : wr.frozen? ⟨p9, i, none⟩ = false := HR9.out.free _
      have n98 : p9 ≠ p8 := fun e => N.out.rows.nm p8 HP8.out (by rw [HP9.out, e])
      have nb8 : w.heap.size ≠ p8 := fun e => ty_ne N.out.ty (HR8.out.ty _ rfl) (by decide) e
      go_wp2_with fail
      refine Go.RT.wp_region_tree [0, 1, 0, 0, 8, 0, 0, 64, 192, 448, 967, 1991, 4095, 8191] (.p 0 (.s 1 (.p 2 (.p 3 (.s 4 (.p 5 (.p 6 (.s 7 (.p 8 (.p 9 (.p 10 (.w 11 [4] (.p 12 (.w 13 [] .nil .stop)) .stop)))))))))))) (by kernel_rfl) (by kernel_rfl) ?_
      repeat (first | (refine Go.RT.step_p rfl (fun K hK => ?_); go_simp; refine hK _ ?_; clear hK K) | (refine Go.RT.step_s rfl (fun K hK => ?_); go_simp; refine hK _ ?_; clear hK K))
      (refine Go.RT.step_w rfl rfl (fun K hK => ?_) Go.RT.step_stop)
      go_wp2
      refine Go.RT.QK_normal _ _ _ _ (hK _ _ ?_ ?_) <;> clear hK K
      · repeat (first | exact Go.RT.again_nil | (refine Go.RT.again_not rfl rfl ?_) | (refine Go.RT.again_one rfl (by go_simp <;> rfl) ?_))
      repeat (first | (refine Go.RT.step_p rfl (fun K hK => ?_); go_simp; refine hK _ ?_; clear hK K) | (refine Go.RT.step_s rfl (fun K hK => ?_); go_simp; refine hK _ ?_; clear hK K))
      (refine Go.RT.step_w rfl rfl (fun K hK => ?_) Go.RT.step_stop)
      go_wp2
      refine Go.RT.QK_normal _ _ _ _ (hK _ _ ?_ ?_) <;> clear hK K
      · repeat (first | exact Go.RT.again_nil | (refine Go.RT.again_not rfl rfl ?_) | (refine Go.RT.again_one rfl (by go_simp <;> rfl) ?_))
      refine Go.RT.step_nil ?_
      go_wp2_with fail
      have NF := Lib.hid (((N.out.set_n (x := (m.log.length : Int) + 1) HP8.out hi8).set_m (x := 0) HP9.out (show i < m.mtch.length from hi9)).drew)
      have EF := Lib.hid (show ({ m with nxt := m.nxt.set i ((m.log.length : Int) + 1), mtch := m.mtch.set i 0 } : Fed.Node) = leadAt n (i + 1) from by
        rw [EL.out, HM.out]
        unfold leadAt
        simp only []
        rw [fillTo_set (by rw [L3.out]; exact hlt), fillTo_set (by rw [L4.out]; exact hlt)])
      go_roundw
      case rel => exact ⟨i + 1, _, by omega, by go_num, EF, NF, Lib.hid ((Below.heap_setCell _ _ _ _ (ty_ne ⟨_, _, Y.out⟩ (HR9.out.ty _ rfl) (by decide))).trans ((Below.heap_setCell _ _ _ _ (ty_ne ⟨_, _, Y.out⟩ (HR8.out.ty _ rfl) (by decide))).trans Y.out)), Lib.hid (((HB.out.setCell (HR8.out.lt _ rfl).1 _).setCell (HR9.out.lt _ rfl).1 _).drew), Lib.hid (((HK.out.set (HR8.out.ty _ rfl) (.inl rfl) _).set (p := ⟨p9, i, none⟩) (t := 3) (by obtain ⟨c0, f0, h0⟩ := HR9.out.ty _ rfl; exact ⟨c0, f0, (Below.heap_setCell _ _ _ _ n98).trans h0⟩) (.inl rfl) _))⟩
      case measure => simp [intOf]; omega
    · obtain rfl : i = n.votes.length := by omega
      have hltb : decide ((n.votes.length : Int) < (m.votes.length : Int)) = false := decide_eq_false (by rw [EV.out]; omega)
      have hltn : ¬ n.votes.length < m.votes.length := by rw [EV.out]; omega
      have hml : m.mtch.length = n.votes.length := EM.out
      have hid1 : m.id = n.id := by rw [HM.out]; rfl
      have q1 : 0 ≤ m.id := by rw [hid1]; exact hi0
      have q2 : m.id < (m.mtch.length : Int) := by rw [hid1, hml]; exact hi1
      have q3 : m.votes.length ≤ 1000 := by rw [EV.out]; exact l2
      have ELN := Lib.hid (show leadN n = m from by
        rw [HM.out]
        unfold leadAt leadN
        rw [← L3.out, fillTo_all, L3.out, ← L4.out, fillTo_all])
      clear hml hid1
      have c0 : wr.cell? ⟨w.heap.size, 0, none⟩ = some (.int .i64 m.id) := N.out.c 0 _ rfl
      have c1 : wr.cell? ⟨w.heap.size, 1, none⟩ = some (.int .i64 m.term) := N.out.c 1 _ rfl
      have c2 : wr.cell? ⟨w.heap.size, 2, none⟩ = some (.int .i64 m.vote) := N.out.c 2 _ rfl
      have c4 : wr.cell? ⟨w.heap.size, 4, none⟩ = some (.int .i64 m.form) := N.out.c 4 _ rfl
      have c5 : wr.cell? ⟨w.heap.size, 5, none⟩ = some (.int .i64 m.role) := N.out.c 5 _ rfl
      have c6 : wr.cell? ⟨w.heap.size, 6, none⟩ = some (.int .i64 m.commit) := N.out.c 6 _ rfl
      have c8 : wr.cell? ⟨w.heap.size, 8, none⟩ = some (.slice σ.A8 m.nxt.length σ.k8) := N.out.c 8 _ rfl
      have c9 : wr.cell? ⟨w.heap.size, 9, none⟩ = some (.slice σ.A9 m.mtch.length σ.k9) := N.out.c 9 _ rfl
      have c10 : wr.cell? ⟨w.heap.size, 10, none⟩ = some (.slice σ.A10 m.forms.length σ.k10) := N.out.c 10 _ rfl
      have c11 : wr.cell? ⟨w.heap.size, 11, none⟩ = some (.int .i64 m.clock) := N.out.c 11 _ rfl
      have c12 : wr.cell? ⟨w.heap.size, 12, none⟩ = some (.int .i64 m.due) := N.out.c 12 _ rfl
      go_wp2_with fail
      refine (rput_any _ B m σ ω ⟨#[]⟩ N.out.rows (by omega) (by omega) q3 q1 q2).mono ?_
      rintro e w4 ⟨τ, υ, rfl, hn4, hb4, hk4⟩
      have X4 := Lib.hid (hk4.blk N.out.blk (by decide) (by decide))
      have Y4 := Lib.hid (hk4.blk Y.out (by decide) (by decide))
      have HB4 := Lib.hid (HB.out.trans hb4)
      have HK4 := Lib.hid (HK.out.trans hk4)
      have HN4 := Lib.hid hn4
      clear hn4 hb4 hk4
      obtain ⟨g0, g1, g2, g3, g4, g5, g6, g7, g8, g9, g10, g11, g12⟩ := MM.frees13 X4.out
      obtain ⟨ca0, ca1, ca2, ca3, ca4, ca5, ca6, ca7, ca8, ca9, ca10, ca11, ca12⟩ := MM.cells13 X4.out
      go_upto_region 7 with (fail)
      refine name_world (F := fun W => Hid (NB W B w.heap.size (leadsN n) τ υ) ∧ Hid (W.heap[w.heap.size + 1]? = some (.cells #[.int .i64 0, .int .i64 0, .int .i64 0, .slice none 0 0, .int .i64 0, .int .i64 0, .int .i64 0, .slice none 0 0, .slice none 0 0, .slice none 0 0, .slice none 0 0, .int .i64 0, .int .i64 0] 28 (0, 0))) ∧ Hid (Below B w W) ∧ Hid (Kp w W)) _ ⟨Lib.hid ((show NB _ B w.heap.size (putN (leadN n) ⟨#[]⟩) τ υ from by rw [ELN.out]; exact NB.mk13 hB X4.out HN4.out)), Lib.hid ((far13 (by show w.heap.size + 1 ≠ w.heap.size; omega)).trans Y4.out), Lib.hid (below13 HB4.out hB), Lib.hid (HK4.out.new13 (Nat.le_refl _))⟩ ?_
      clear X4 Y4 HB4 HK4 N Y HB HK HN4 g0 ca0 c0 g1 ca1 c1 g2 ca2 c2 g3 ca3 c3 g4 ca4 c4 g5 ca5 c5 g6 ca6 c6 g7 ca7 c7 g8 ca8 c8 g9 ca9 c9 g10 ca10 c10 g11 ca11 c11 g12 ca12 c12
      intro w5 ⟨N5, Y5, HB5, HK5⟩
      have VV := Lib.hid (leadsN_votes n)
      have hs5 : w.heap.size + 1 < w5.heap.size := MM.blk_lt Y5.out
      have XX := Lib.hid (show ∀ i : Nat, i < (leadsN n).votes.length → (i : Int) ≠ (leadsN n).id → 1 ≤ (leadsN n).nxt.getD i 0 ∧ (leadsN n).nxt.getD i 0 ≤ (leadsN n).log.length + 1 from fun i h1 _ => by
        have e : (leadsN n).nxt.getD i 0 = (n.log.length : Int) + 1 := by
          show (List.replicate n.votes.length ((n.log.length : Int) + 1)).getD i 0 = _
          have h1' : i < n.votes.length := h1
          simp [List.getD_eq_getElem?_getD, List.getElem?_replicate, h1']
        rw [e, leadsN_len]
        omega)
      have LN := Lib.hid (leadsN_len n)
      obtain ⟨nl, hnl⟩ : ∃ x, x = leadsN n := ⟨_, rfl⟩
      rw [← hnl] at N5 VV XX LN
      have HNL := Lib.hid hnl
      clear hnl
      obtain ⟨c0, c1, c2, c3, c4, c5, c6, c7, c8, c9, c10, c11, c12⟩ := MM.cells13 N5.out.blk
      go_wp2_with fail
      refine Go.RT.wp_region_tree [0, 0, 2, 7, 15] (.s 0 (.s 1 (.w 2 [0] (.w 3 [] (.w 4 [] .nil .stop) .stop) .stop))) (by kernel_rfl) (by kernel_rfl) ?_
      repeat (first | (refine Go.RT.step_p rfl (fun K hK => ?_); go_simp; refine hK _ ?_; clear hK K) | (refine Go.RT.step_s rfl (fun K hK => ?_); go_simp; refine hK _ ?_; clear hK K))
      (refine Go.RT.step_w rfl rfl (fun K hK => ?_) Go.RT.step_stop)
      go_wp2_with fail
      refine (rspread_any _ _ nl τ (N5.out.drew.toV) (by rw [LN.out]; omega) (by rw [VV.out]; exact l2) (by rw [HNL.out]; show n.votes.length ≤ (List.replicate n.votes.length _).length; simp) XX.out).mono ?_
      rintro e v6 ⟨As, cs, os, rfl, ho6, hb6⟩
      have X6 := Lib.hid ((hb6.block _ (MM.blk_lt N5.out.blk)).trans N5.out.blk)
      have Y6 := Lib.hid ((hb6.block _ (MM.blk_lt Y5.out)).trans Y5.out)
      have N6 := Lib.hid (N5.out.rows.drew.below hb6)
      have B6 := Lib.hid (HB5.out.drew.trans (hb6.mono (Nat.le_trans N5.out.hB (Nat.le_of_lt N5.out.lt))))
      have K6 := Lib.hid (HK5.out.trans (Kp.old (fun k hk => hb6.block k hk)))
      have O6 := Lib.hid (ho6.lower (Nat.le_trans N5.out.hB (Nat.le_of_lt N5.out.lt)))
      clear ho6 hb6
      obtain ⟨cs0, cs1, cs2, cs3, cs4, cs5, cs6, cs7, cs8, cs9, cs10, cs11, cs12⟩ := MM.cells13 X6.out
      obtain ⟨ys0, ys1, ys2, ys3, ys4, ys5, ys6, ys7, ys8, ys9, ys10, ys11, ys12⟩ := MM.cells13 Y6.out
      obtain ⟨zs0, zs1, zs2, zs3, zs4, zs5, zs6, zs7, zs8, zs9, zs10, zs11, zs12⟩ := MM.frees13 Y6.out
      go_wp2_with fail
      refine Go.RT.QK_normal _ _ _ _ (hK _ _ ?_ ?_) <;> clear hK K
      · repeat (first | exact Go.RT.again_nil | (refine Go.RT.again_not rfl rfl ?_) | (refine Go.RT.again_one rfl (by go_simp <;> rfl) ?_))
      (refine Go.RT.step_w rfl rfl (fun K hK => ?_) Go.RT.step_stop)
      go_wp2
      refine Go.RT.QK_normal _ _ _ _ (hK _ _ ?_ ?_) <;> clear hK K
      · repeat (first | exact Go.RT.again_nil | (refine Go.RT.again_not rfl rfl ?_) | (refine Go.RT.again_one rfl (by go_simp <;> rfl) ?_))
      (refine Go.RT.step_w rfl rfl (fun K hK => ?_) Go.RT.step_stop)
      go_wp2
      refine Go.RT.QK_normal _ _ _ _ (hK _ _ ?_ ?_) <;> clear hK K
      · repeat (first | exact Go.RT.again_nil | (refine Go.RT.again_not rfl rfl ?_) | (refine Go.RT.again_one rfl (by go_simp <;> rfl) ?_))
      refine Go.RT.step_nil ?_
      go_wp2_with fail
      refine name_world (F := fun W => Hid (W.heap[w.heap.size + 1]? = some (.cells #[.int .i64 nl.id, .int .i64 nl.term, .int .i64 nl.vote, .slice τ.A3 nl.log.length τ.k3, .int .i64 nl.form, .int .i64 nl.role, .int .i64 nl.commit, .slice τ.A7 nl.votes.length τ.k7, .slice τ.A8 nl.nxt.length τ.k8, .slice τ.A9 nl.mtch.length τ.k9, .slice τ.A10 nl.forms.length τ.k10, .int .i64 nl.clock, .int .i64 nl.due] 28 (0, 0))) ∧ Hid (NodeOs W B nl τ υ) ∧ Hid (Below B w W) ∧ Hid (Kp w W) ∧ Hid (OutAt W B (.slice As (spreadMsgs nl nl.votes.length).length cs) (spreadMsgs nl nl.votes.length) os)) _ ⟨Lib.hid ((set13 Y6.out).trans rfl), Lib.hid (N6.out.types (fun k t hk ht' => far13 (ty_ne hk ⟨_, _, Y6.out⟩ (by rcases ht' with rfl | rfl | rfl <;> decide)))), Lib.hid (below13 B6.out (Nat.le_trans N5.out.hB (by omega))), Lib.hid (K6.out.new13 (by omega)), Lib.hid (O6.out.types (fun k t hk ht' => far13 (ty_ne hk ⟨_, _, Y6.out⟩ (by rcases ht' with rfl | rfl <;> decide))))⟩ ?_
      intro wf ⟨Y9, N9, B9, K9, O9⟩
      obtain ⟨u0, u1, u2, u3, u4, u5, u6, u7, u8, u9, u10, u11, u12⟩ := MM.cells13 Y9.out
      refine bodyPost_ret (v := .tuple #[.agg #[.int .i64 nl.id, .int .i64 nl.term, .int .i64 nl.vote, .slice τ.A3 nl.log.length τ.k3, .int .i64 nl.form, .int .i64 nl.role, .int .i64 nl.commit, .slice τ.A7 nl.votes.length τ.k7, .slice τ.A8 nl.nxt.length τ.k8, .slice τ.A9 nl.mtch.length τ.k9, .slice τ.A10 nl.forms.length τ.k10, .int .i64 nl.clock, .int .i64 nl.due], .slice As (spreadMsgs nl nl.votes.length).length cs]) (by simp [results, Try.results111, go_sem, u0, u1, u2, u3, u4, u5, u6, u7, u8, u9, u10, u11, u12]) rfl ?_
      rw [← HNL.out, ← VV.out]
      exact ⟨τ, υ, As, cs, os, rfl, N9.out, O9.out, B9.out, K9.out⟩

end Go.Proofs.Ytnkmljdkokcdjaa
