/-
  Handle lets a node have a message, as the plain handleS says. Conditions: lengths and numbers are bounded as the theorem says.
-/
import Derived.WalkKit
import Derived.WalkSpells
import Derived.Lib.Hide
import Derived.Outline
import Derived.Test.YtnkmljdkokcdjaaChecked
import Derived.Test.YtnkmljdkokcdjaaMn
import Derived.Test.YtnkmljdkokcdjaaMem
import Derived.Test.YtnkmljdkokcdjaaFed
import Derived.Test.YtnkmljdkokcdjaaRe6
import Derived.Test.YtnkmljdkokcdjaaMl
import Derived.Deep.DeepCutAuto
import Derived.Deep.CutBlock
import Derived.IntWalk
set_option linter.unusedVariables false
set_option linter.unusedSimpArgs false
namespace Go.Proofs.Ytnkmljdkokcdjaa
open Go.RowKit Fed
set_option linter.unusedVariables false
attribute [local go_sem high] Fed.max2_int Fed.min2_int

set_option maxRecDepth 100000 in
set_option maxHeartbeats 8000000 in
theorem handle_any (w : World) (ok : Nat → Prop) (n : Fed.Node) (vl vv vn vm vf : Value) (h : NodeV w ok n vl vv vn vm vf) (m : Fed.Msg) (A : Option Addr) (c : Nat) (ok2 : Nat → Prop) (hr : MM.Rd w ok2 2 (.slice A m.entries.length c) m.entries.length (entsC m.entries))
    (l1 : n.log.length ≤ 700000) (l2 : n.votes.length ≤ 1000) (l3 : n.nxt.length = n.votes.length) (l4 : n.mtch.length = n.votes.length) (l5 : n.forms.length = n.votes.length) (he : m.entries.length ≤ 1000)
    (hc0 : -1000000000 ≤ n.clock) (hc1 : n.clock ≤ 1000000000) (hcm : 0 ≤ n.commit) (hz : 0 ≤ m.index ∧ m.index ≤ 1000000)
    (hx : ∀ i, i < n.nxt.length → -1000000 ≤ n.nxt.getD i 0 ∧ n.nxt.getD i 0 ≤ 1000000) (hy : ∀ i, i < n.mtch.length → -1000000 ≤ n.mtch.getD i 0 ∧ n.mtch.getD i 0 ≤ 1000000) :
    Calls Try.prog 26 #[.agg (nodeC n vl vv vn vm vf), .agg #[.int .i64 m.kind, .int .i64 m.frm, .int .i64 m.to, .int .i64 m.term, .int .i64 m.index, .int .i64 m.logTerm, .bool m.ok, .slice A m.entries.length c, .int .i64 m.commit, .int .i64 m.form]] w
      fun e w' => ∃ A3 k3 A7 k7 A8 k8 A9 k9 A10 k10 Ao ko, e = .returned (.tuple #[.agg #[.int .i64 (handleS n m).n.id, .int .i64 (handleS n m).n.term, .int .i64 (handleS n m).n.vote, .slice A3 (handleS n m).n.log.length k3, .int .i64 (handleS n m).n.form, .int .i64 (handleS n m).n.role, .int .i64 (handleS n m).n.commit, .slice A7 (handleS n m).n.votes.length k7, .slice A8 (handleS n m).n.nxt.length k8, .slice A9 (handleS n m).n.mtch.length k9, .slice A10 (handleS n m).n.forms.length k10, .int .i64 (handleS n m).n.clock, .int .i64 (handleS n m).n.due], .slice Ao (handleS n m).out.length ko]) ∧ NodeV w' (fun j => w.heap.size ≤ j) (handleS n m).n (.slice A3 (handleS n m).n.log.length k3) (.slice A7 (handleS n m).n.votes.length k7) (.slice A8 (handleS n m).n.nxt.length k8) (.slice A9 (handleS n m).n.mtch.length k9) (.slice A10 (handleS n m).n.forms.length k10) ∧ MsgsV w' (fun j => w.heap.size ≤ j) (.slice Ao (handleS n m).out.length ko) (handleS n m).out ∧ Below w.heap.size w w' := by
  have HS := Lib.hid (show handleS n m = _ from by unfold handleS; rfl)
  generalize handleS n m = s1 at HS ⊢
  have HXX := Lib.hid hx
  have HYY := Lib.hid hy
  have L3 := Lib.hid l3
  have L4 := Lib.hid l4
  have L5 := Lib.hid l5
  clear hx hy l3 l4 l5
  obtain ⟨Al0, kl0, rfl, _, _⟩ := h.hl.slice
  obtain ⟨Av0, kv0, rfl, _, _⟩ := h.hv.slice
  obtain ⟨An0, kn0, rfl, _, _⟩ := h.hn.slice
  obtain ⟨Am0, km0, rfl, _, _⟩ := h.hm.slice
  obtain ⟨Af0, kf0, rfl, _, _⟩ := h.hf.slice
  unfold nodeC
  have hb00 : Below w.heap.size w (((w.alloc (.cells #[.int .i64 n.id, .int .i64 n.term, .int .i64 n.vote, .slice Al0 n.log.length kl0, .int .i64 n.form, .int .i64 n.role, .int .i64 n.commit, .slice Av0 n.votes.length kv0, .slice An0 n.nxt.length kn0, .slice Am0 n.mtch.length km0, .slice Af0 n.forms.length kf0, .int .i64 n.clock, .int .i64 n.due] 28)).alloc (.cells #[.int .i64 m.kind, .int .i64 m.frm, .int .i64 m.to, .int .i64 m.term, .int .i64 m.index, .int .i64 m.logTerm, .bool m.ok, .slice A m.entries.length c, .int .i64 m.commit, .int .i64 m.form] 34)).alloc (.cells #[.int .i64 0, .int .i64 0, .int .i64 0, .slice none 0 0, .int .i64 0, .int .i64 0, .int .i64 0, .slice none 0 0, .slice none 0 0, .slice none 0 0, .slice none 0 0, .int .i64 0, .int .i64 0] 28)) := (((Below.refl _ w).alloc (Nat.le_refl _) _).alloc (by simp) _).alloc (by simp; omega) _
  have HV := Lib.hid (NodeV.below h hb00)
  have HR0 := Lib.hid ((hr.mono (ok' := fun k => k < w.heap.size) (fun _ _ hk => hk)).below hb00)
  clear h hr hb00
  go_enter Try.func26, Try.ntmps26
  go_wp2_with fail
  refine (begin_any _ ok n _ _ _ _ _ HV.out (by omega) l2 (by rw [L3.out]; exact l2) (by rw [L4.out]; exact l2) (by rw [L5.out]; exact l2)).mono ?_
  rintro e w1 ⟨g, μ, rfl, hn1, hb1⟩
  have hY1 := (hb1.block (w.heap.size + 2) (by simp)).trans (alloc_new2 w _ _ _)
  have hX1 := (hb1.block (w.heap.size + 1) (by simp)).trans (alloc_mid w _ _ _)
  have hB1 : Below w.heap.size w w1 := ((((Below.refl _ w).alloc (Nat.le_refl _) _).alloc (by simp) _).alloc (by simp; omega) _).trans (hb1.mono (by simp; omega))
  have hn1 : NodeAt w1 (w.heap.size + 3) g ⟨n, []⟩ μ := by rw [World.size_alloc, World.size_alloc, World.size_alloc] at hn1; exact hn1
  have HR1 := Lib.hid ((HR0.out.step (w1 := w1) (fun k hk _ => hb1.block k (by simp; omega))).mono (ok' := fun k => k < w.heap.size + 3) (fun k hk _ => by omega))
  have HN1 := Lib.hid hn1
  have HB1 := Lib.hid hB1
  have HX1 := Lib.hid hX1
  have HY1 := Lib.hid hY1
  have hgB := hn1.hB
  clear hn1 hB1 hX1 hY1 hb1 HV HR0
  have d1 : w1.cell? ⟨w.heap.size + 1, 1, none⟩ = some (.int .i64 m.frm) := MM.cell_blk HX1.out rfl
  have c0 : w1.cell? ⟨g, 0, none⟩ = some (.int .i64 n.id) := HN1.out.c 0 _ rfl
  go_upto_region 2 with (fail)
  go_cut [23] (fun v23 wc => ∃ b : Bool, v23 = .bool b ∧ Hid (b = true ↔ ¬ ((0 ≤ m.frm ∧ m.frm < (n.votes.length : Int)) ∧ (0 ≤ n.id ∧ n.id < (n.votes.length : Int)))) ∧ w1 = wc)
  case first =>
    by_cases hf : 0 ≤ m.frm ∧ m.frm < (n.votes.length : Int)
    · have hfb : decide (0 ≤ m.frm ∧ m.frm < (n.votes.length : Int)) = true := decide_eq_true hf
      have HF := Lib.hid hf
      clear hf
      go_wp2_with fail
      refine (show Calls Try.prog 60 _ _ (fun e w' => e = .returned (.bool (decide (0 ≤ m.frm ∧ m.frm < (n.votes.length : Int)))) ∧ _ = w') from within_any _ (w.heap.size + 3) g _ _ m.frm HN1.out).mono ?_
      rintro e w3 ⟨rfl, rfl⟩
      go_wp2_with fail
      refine (show Calls Try.prog 60 _ _ (fun e w' => e = .returned (.bool (decide (0 ≤ n.id ∧ n.id < (n.votes.length : Int)))) ∧ _ = w') from within_any _ (w.heap.size + 3) g _ _ n.id HN1.out).mono ?_
      rintro e w3 ⟨rfl, rfl⟩
      go_wp2_with fail
      go_meet
      case rel => exact ⟨_, rfl, Lib.hid (by have := HF.out; simp only [Bool.or_eq_true, Bool.not_eq_true', decide_eq_false_iff_not]; omega), rfl⟩
    · have hfb : decide (0 ≤ m.frm ∧ m.frm < (n.votes.length : Int)) = false := decide_eq_false hf
      have HF := Lib.hid hf
      clear hf
      go_wp2_with fail
      refine (show Calls Try.prog 60 _ _ (fun e w' => e = .returned (.bool (decide (0 ≤ m.frm ∧ m.frm < (n.votes.length : Int)))) ∧ _ = w') from within_any _ (w.heap.size + 3) g _ _ m.frm HN1.out).mono ?_
      rintro e w3 ⟨rfl, rfl⟩
      go_wp2_with fail
      go_meet
      case rel => exact ⟨true, rfl, Lib.hid (by have := HF.out; simp only [true_iff]; omega), rfl⟩
  case rest =>
    obtain ⟨bb, rfl, HBB, rfl⟩ := hcut
    by_cases hin : (0 ≤ m.frm ∧ m.frm < (n.votes.length : Int)) ∧ (0 ≤ n.id ∧ n.id < (n.votes.length : Int))
    case neg =>
      obtain rfl : bb = true := HBB.out.2 hin
      obtain rfl : s1 = ⟨n, []⟩ := by rw [HS.out, if_neg hin]
      clear hin
      go_wp2_with fail
      refine (end_shape _ (w.heap.size + 3) g _ _ HN1.out (by simp)).mono ?_
      rintro e we ⟨A3, k3, A7, k7, A8, k8, A9, k9, A10, k10, Ao, ko, rfl, hnv, hms, hbe⟩
      have hYe := (hbe.block (w.heap.size + 2) (by have := MM.blk_lt HY1.out; omega)).trans HY1.out
      have hBe := HB1.out.trans (hbe.mono (by have := HN1.out.Bsize; omega))
      clear hbe
      obtain ⟨y0, y1, y2, y3, y4, y5, y6, y7, y8, y9, y10, y11, y12⟩ := MM.cells13 hYe
      obtain ⟨g0, g1, g2, g3, g4, g5, g6, g7, g8, g9, g10, g11, g12⟩ := MM.frees13 hYe
      have HYE := Lib.hid hYe
      have HBE := Lib.hid hBe
      have HNV := Lib.hid hnv
      have HMS := Lib.hid hms
      clear hYe hBe hnv hms
      go_wp2_with fail
      have hYf : ((((((((((((((we).setCell ⟨w.heap.size + 2, 0, none⟩ (.int .i64 (⟨n, []⟩ : NS).n.id)).setCell ⟨w.heap.size + 2, 1, none⟩ (.int .i64 (⟨n, []⟩ : NS).n.term)).setCell ⟨w.heap.size + 2, 2, none⟩ (.int .i64 (⟨n, []⟩ : NS).n.vote)).setCell ⟨w.heap.size + 2, 3, none⟩ (.slice A3 (⟨n, []⟩ : NS).n.log.length k3)).setCell ⟨w.heap.size + 2, 4, none⟩ (.int .i64 (⟨n, []⟩ : NS).n.form)).setCell ⟨w.heap.size + 2, 5, none⟩ (.int .i64 (⟨n, []⟩ : NS).n.role)).setCell ⟨w.heap.size + 2, 6, none⟩ (.int .i64 (⟨n, []⟩ : NS).n.commit)).setCell ⟨w.heap.size + 2, 7, none⟩ (.slice A7 (⟨n, []⟩ : NS).n.votes.length k7)).setCell ⟨w.heap.size + 2, 8, none⟩ (.slice A8 (⟨n, []⟩ : NS).n.nxt.length k8)).setCell ⟨w.heap.size + 2, 9, none⟩ (.slice A9 (⟨n, []⟩ : NS).n.mtch.length k9)).setCell ⟨w.heap.size + 2, 10, none⟩ (.slice A10 (⟨n, []⟩ : NS).n.forms.length k10)).setCell ⟨w.heap.size + 2, 11, none⟩ (.int .i64 (⟨n, []⟩ : NS).n.clock)).setCell ⟨w.heap.size + 2, 12, none⟩ (.int .i64 (⟨n, []⟩ : NS).n.due)).heap[w.heap.size + 2]? = some (.cells #[.int .i64 (⟨n, []⟩ : NS).n.id, .int .i64 (⟨n, []⟩ : NS).n.term, .int .i64 (⟨n, []⟩ : NS).n.vote, .slice A3 (⟨n, []⟩ : NS).n.log.length k3, .int .i64 (⟨n, []⟩ : NS).n.form, .int .i64 (⟨n, []⟩ : NS).n.role, .int .i64 (⟨n, []⟩ : NS).n.commit, .slice A7 (⟨n, []⟩ : NS).n.votes.length k7, .slice A8 (⟨n, []⟩ : NS).n.nxt.length k8, .slice A9 (⟨n, []⟩ : NS).n.mtch.length k9, .slice A10 (⟨n, []⟩ : NS).n.forms.length k10, .int .i64 (⟨n, []⟩ : NS).n.clock, .int .i64 (⟨n, []⟩ : NS).n.due] 28 (0, 0)) := set13 HYE.out
      have far : ∀ j, w.heap.size + 3 ≤ j → ((((((((((((((we).setCell ⟨w.heap.size + 2, 0, none⟩ (.int .i64 (⟨n, []⟩ : NS).n.id)).setCell ⟨w.heap.size + 2, 1, none⟩ (.int .i64 (⟨n, []⟩ : NS).n.term)).setCell ⟨w.heap.size + 2, 2, none⟩ (.int .i64 (⟨n, []⟩ : NS).n.vote)).setCell ⟨w.heap.size + 2, 3, none⟩ (.slice A3 (⟨n, []⟩ : NS).n.log.length k3)).setCell ⟨w.heap.size + 2, 4, none⟩ (.int .i64 (⟨n, []⟩ : NS).n.form)).setCell ⟨w.heap.size + 2, 5, none⟩ (.int .i64 (⟨n, []⟩ : NS).n.role)).setCell ⟨w.heap.size + 2, 6, none⟩ (.int .i64 (⟨n, []⟩ : NS).n.commit)).setCell ⟨w.heap.size + 2, 7, none⟩ (.slice A7 (⟨n, []⟩ : NS).n.votes.length k7)).setCell ⟨w.heap.size + 2, 8, none⟩ (.slice A8 (⟨n, []⟩ : NS).n.nxt.length k8)).setCell ⟨w.heap.size + 2, 9, none⟩ (.slice A9 (⟨n, []⟩ : NS).n.mtch.length k9)).setCell ⟨w.heap.size + 2, 10, none⟩ (.slice A10 (⟨n, []⟩ : NS).n.forms.length k10)).setCell ⟨w.heap.size + 2, 11, none⟩ (.int .i64 (⟨n, []⟩ : NS).n.clock)).setCell ⟨w.heap.size + 2, 12, none⟩ (.int .i64 (⟨n, []⟩ : NS).n.due)).heap[j]? = we.heap[j]? := fun j hj => far13 (by omega)
      obtain ⟨wf, hwf⟩ : ∃ W, W = (((((((((((((we).setCell ⟨w.heap.size + 2, 0, none⟩ (.int .i64 (⟨n, []⟩ : NS).n.id)).setCell ⟨w.heap.size + 2, 1, none⟩ (.int .i64 (⟨n, []⟩ : NS).n.term)).setCell ⟨w.heap.size + 2, 2, none⟩ (.int .i64 (⟨n, []⟩ : NS).n.vote)).setCell ⟨w.heap.size + 2, 3, none⟩ (.slice A3 (⟨n, []⟩ : NS).n.log.length k3)).setCell ⟨w.heap.size + 2, 4, none⟩ (.int .i64 (⟨n, []⟩ : NS).n.form)).setCell ⟨w.heap.size + 2, 5, none⟩ (.int .i64 (⟨n, []⟩ : NS).n.role)).setCell ⟨w.heap.size + 2, 6, none⟩ (.int .i64 (⟨n, []⟩ : NS).n.commit)).setCell ⟨w.heap.size + 2, 7, none⟩ (.slice A7 (⟨n, []⟩ : NS).n.votes.length k7)).setCell ⟨w.heap.size + 2, 8, none⟩ (.slice A8 (⟨n, []⟩ : NS).n.nxt.length k8)).setCell ⟨w.heap.size + 2, 9, none⟩ (.slice A9 (⟨n, []⟩ : NS).n.mtch.length k9)).setCell ⟨w.heap.size + 2, 10, none⟩ (.slice A10 (⟨n, []⟩ : NS).n.forms.length k10)).setCell ⟨w.heap.size + 2, 11, none⟩ (.int .i64 (⟨n, []⟩ : NS).n.clock)).setCell ⟨w.heap.size + 2, 12, none⟩ (.int .i64 (⟨n, []⟩ : NS).n.due) := ⟨_, rfl⟩
      rw [← hwf] at hYf far ⊢
      have hBf : Below w.heap.size w wf := by rw [hwf]; exact below13 HBE.out (by omega)
      clear hwf
      obtain ⟨z0, z1, z2, z3, z4, z5, z6, z7, z8, z9, z10, z11, z12⟩ := MM.cells13 hYf
      refine bodyPost_ret (v := .tuple #[.agg #[.int .i64 (⟨n, []⟩ : NS).n.id, .int .i64 (⟨n, []⟩ : NS).n.term, .int .i64 (⟨n, []⟩ : NS).n.vote, .slice A3 (⟨n, []⟩ : NS).n.log.length k3, .int .i64 (⟨n, []⟩ : NS).n.form, .int .i64 (⟨n, []⟩ : NS).n.role, .int .i64 (⟨n, []⟩ : NS).n.commit, .slice A7 (⟨n, []⟩ : NS).n.votes.length k7, .slice A8 (⟨n, []⟩ : NS).n.nxt.length k8, .slice A9 (⟨n, []⟩ : NS).n.mtch.length k9, .slice A10 (⟨n, []⟩ : NS).n.forms.length k10, .int .i64 (⟨n, []⟩ : NS).n.clock, .int .i64 (⟨n, []⟩ : NS).n.due], .slice Ao (⟨n, []⟩ : NS).out.length ko]) (by simp [results, Try.results26, go_sem, z0, z1, z2, z3, z4, z5, z6, z7, z8, z9, z10, z11, z12]) rfl ⟨A3, k3, A7, k7, A8, k8, A9, k9, A10, k10, Ao, ko, rfl, (HNV.out.step fun j hj _ => far j hj).mono fun j hj _ => (by have : w.heap.size + 3 ≤ j := hj; omega), (HMS.out.step fun j hj _ => far j hj).mono fun j hj _ => (by have : w.heap.size + 3 ≤ j := hj; omega), hBf⟩
    obtain rfl : bb = false := by
      cases bb
      · rfl
      · exact absurd hin (HBB.out.1 rfl)
    have HS2 := Lib.hid (show s1 = handleIn ⟨bump n m, []⟩ m from by rw [HS.out, if_pos hin])
    have HIN := Lib.hid hin
    clear hin HS d1 c0
    go_upto_region 4 with (fail)
    have d3 : w1.cell? ⟨w.heap.size + 1, 3, none⟩ = some (.int .i64 m.term) := MM.cell_blk HX1.out rfl
    have c1 : w1.cell? ⟨g, 1, none⟩ = some (.int .i64 n.term) := HN1.out.c 1 _ rfl
    refine Go.RT.wp_region_tree [0, 1, 0, 4, 12, 28, 60, 127] (.p 0 (.s 1 (.p 2 (.p 3 (.p 4 (.p 5 (.s 6 (.p 7 .nil)))))))) (by kernel_rfl) (by kernel_rfl) ?_
    repeat (first | (refine Go.RT.step_p rfl (fun K hK => ?_); go_simp; refine hK _ ?_; clear hK K) | (refine Go.RT.step_s rfl (fun K hK => ?_); go_simp; refine hK _ ?_; clear hK K))
    refine Go.RT.step_nil ?_
    obtain ⟨wq, hwq⟩ : ∃ W, W = w1.drew := ⟨_, rfl⟩
    have qNq : NodeAt (w1.drew) (w.heap.size + 3) g ⟨n, []⟩ μ := HN1.out.drew
    have qXq : ((w1.drew)).heap[w.heap.size + 1]? = some (.cells #[.int .i64 m.kind, .int .i64 m.frm, .int .i64 m.to, .int .i64 m.term, .int .i64 m.index, .int .i64 m.logTerm, .bool m.ok, .slice A m.entries.length c, .int .i64 m.commit, .int .i64 m.form] 34 (0, 0)) := HX1.out
    have qYq : ((w1.drew)).heap[w.heap.size + 2]? = some (.cells #[.int .i64 0, .int .i64 0, .int .i64 0, .slice none 0 0, .int .i64 0, .int .i64 0, .int .i64 0, .slice none 0 0, .slice none 0 0, .slice none 0 0, .slice none 0 0, .int .i64 0, .int .i64 0] 28 (0, 0)) := HY1.out
    have qBq : Below w.heap.size w (w1.drew) := HB1.out.drew
    have qRq : MM.Rd (w1.drew) (fun k => k < w.heap.size + 3) 2 (.slice A m.entries.length c) m.entries.length (entsC m.entries) := HR1.out.drew
    rw [← hwq] at qNq qXq qYq qBq qRq ⊢
    have HNq := Lib.hid qNq
    have HXq := Lib.hid qXq
    have HYq := Lib.hid qYq
    have HBq := Lib.hid qBq
    have HRq := Lib.hid qRq
    clear qNq qXq qYq qBq qRq hwq HR1 HN1 HX1 HY1 HB1
    clear c1 d3
    go_upto_if 35 with (fail)
    go_cut [] (fun wc => ∃ μ', Hid (NodeAt wc (w.heap.size + 3) g ⟨bump n m, []⟩ μ') ∧ Hid ((wc).heap[w.heap.size + 1]? = some (.cells #[.int .i64 m.kind, .int .i64 m.frm, .int .i64 m.to, .int .i64 m.term, .int .i64 m.index, .int .i64 m.logTerm, .bool m.ok, .slice A m.entries.length c, .int .i64 m.commit, .int .i64 m.form] 34 (0, 0))) ∧ Hid ((wc).heap[w.heap.size + 2]? = some (.cells #[.int .i64 0, .int .i64 0, .int .i64 0, .slice none 0 0, .int .i64 0, .int .i64 0, .int .i64 0, .slice none 0 0, .slice none 0 0, .slice none 0 0, .slice none 0 0, .int .i64 0, .int .i64 0] 28 (0, 0))) ∧ Hid (Below w.heap.size w wc) ∧ Hid (MM.Rd wc (fun k => k < w.heap.size + 3) 2 (.slice A m.entries.length c) m.entries.length (entsC m.entries)))
    case first =>
      by_cases ht : n.term < m.term
      · have htb : decide (n.term < m.term) = true := decide_eq_true ht
        have HBU := Lib.hid (show bump n m = { n with term := m.term, vote := -1, role := 0 } from by unfold bump; rw [if_pos ht])
        have d3 : wq.cell? ⟨w.heap.size + 1, 3, none⟩ = some (.int .i64 m.term) := MM.cell_blk HXq.out rfl
        have c1 : wq.cell? ⟨g, 1, none⟩ = some (.int .i64 n.term) := HNq.out.c 1 _ rfl
        have c2 : wq.cell? ⟨g, 2, none⟩ = some (.int .i64 n.vote) := HNq.out.c 2 _ rfl
        have c5 : wq.cell? ⟨g, 5, none⟩ = some (.int .i64 n.role) := HNq.out.c 5 _ rfl
        have f1 := HNq.out.fr 1
        have f2 := HNq.out.fr 2
        have f5 := HNq.out.fr 5
        have hN5 := Lib.hid (show NodeAt (((wq.setCell ⟨g, 1, none⟩ (.int .i64 m.term)).setCell ⟨g, 2, none⟩ (.int .i64 (-1))).setCell ⟨g, 5, none⟩ (.int .i64 0)) (w.heap.size + 3) g ⟨bump n m, []⟩ μ from by
          rw [HBU.out]
          exact ((HNq.out.setg (i := 1) (u := .int .i64 m.term) (s' := ⟨{ n with term := m.term }, []⟩) rfl rfl rfl rfl rfl rfl rfl).setg (i := 2) (u := .int .i64 (-1)) (s' := ⟨{ n with term := m.term, vote := -1 }, []⟩) rfl rfl rfl rfl rfl rfl rfl).setg (i := 5) (u := .int .i64 0) (s' := ⟨{ n with term := m.term, vote := -1, role := 0 }, []⟩) rfl rfl rfl rfl rfl rfl rfl)
        have fr3 : ∀ k, k ≠ g → (((wq.setCell ⟨g, 1, none⟩ (.int .i64 m.term)).setCell ⟨g, 2, none⟩ (.int .i64 (-1))).setCell ⟨g, 5, none⟩ (.int .i64 0)).heap[k]? = wq.heap[k]? := fun k hk => (Below.heap_setCell _ _ _ k hk).trans ((Below.heap_setCell _ _ _ k hk).trans (Below.heap_setCell _ _ _ k hk))
        have FR3 := Lib.hid fr3
        clear ht fr3
        simp only [htb]
        go_wp2
        go_meet
        case rel => exact ⟨μ, hN5, Lib.hid ((FR3.out _ (by omega)).trans HXq.out), Lib.hid ((FR3.out _ (by omega)).trans HYq.out), Lib.hid (((HBq.out.setCell (p := ⟨g, _, none⟩) (by show w.heap.size ≤ g; omega) _).setCell (p := ⟨g, _, none⟩) (by show w.heap.size ≤ g; omega) _).setCell (p := ⟨g, _, none⟩) (by show w.heap.size ≤ g; omega) _), Lib.hid (HRq.out.step (fun k hk _ => FR3.out k (by omega)))⟩
      · have htb : decide (n.term < m.term) = false := decide_eq_false ht
        have HBU := Lib.hid (show bump n m = n from by unfold bump; rw [if_neg ht])
        clear ht
        simp only [htb]
        go_wp2
        go_meet
        case rel => exact ⟨μ, by rw [HBU.out]; exact HNq, HXq, HYq, HBq, HRq⟩
    case rest =>
      obtain ⟨μ2, HN2, HX2, HY2, HB2, HRK⟩ := hcut
      clear HNq HXq HYq HBq
      obtain ⟨nb, hnb⟩ : ∃ nb, nb = bump n m := ⟨_, rfl⟩
      rw [← hnb] at HN2 HS2
      have HNB := Lib.hid hnb
      have hv1 : nb.votes.length = n.votes.length := by rw [hnb, bump_votes]
      have hv2 : nb.log.length = n.log.length := by rw [hnb, bump_log]
      have hv3 : nb.id = n.id := by rw [hnb, bump_id]
      have hv4 : nb.clock = n.clock := by rw [hnb, bump_clock]
      have hv5 : nb.commit = n.commit := by rw [hnb, bump_commit]
      have HV1 := Lib.hid hv1
      have HV2 := Lib.hid hv2
      have HV3 := Lib.hid hv3
      have HV4 := Lib.hid hv4
      have HV5 := Lib.hid hv5
      have HV6 := Lib.hid (show nb.nxt = n.nxt from by rw [hnb, bump_nxt])
      have HV7 := Lib.hid (show nb.mtch = n.mtch from by rw [hnb, bump_mtch])
      have HV8 := Lib.hid (show nb.forms = n.forms from by rw [hnb, bump_forms])
      clear hnb hv1 hv2 hv3 hv4 hv5
      obtain ⟨d0, d1, d2, d3, d4, d5, d6, d7, d8, d9⟩ := MM.cells10 HX2.out
      go_upto_block 0 with (fail)
      go_cut [] (fun wc => ∃ μ', Hid (NodeAt wc (w.heap.size + 3) g s1 μ') ∧ Hid ((wc).heap[w.heap.size + 2]? = some (.cells #[.int .i64 0, .int .i64 0, .int .i64 0, .slice none 0 0, .int .i64 0, .int .i64 0, .int .i64 0, .slice none 0 0, .slice none 0 0, .slice none 0 0, .slice none 0 0, .int .i64 0, .int .i64 0] 28 (0, 0))) ∧ Hid (Below w.heap.size w wc))
      case first =>
        have HRB := HRK
        by_cases k1 : m.kind = 1
        · have k1b : (m.kind == 1) = true := by simpa using k1
          have HS3 := Lib.hid (show s1 = voteS ⟨nb, []⟩ m from by rw [HS2.out]; unfold handleIn; rw [if_pos k1])
          clear k1
          go_wp2_with fail
          refine (vote_any _ (w.heap.size + 3) g ⟨nb, []⟩ μ2 m _ HN2.out (by simp) (by show nb.log.length ≤ 800000; rw [HV2.out]; omega) (by show -1000000000 ≤ nb.clock; rw [HV4.out]; exact hc0) (by show nb.clock ≤ 1000000000; rw [HV4.out]; exact hc1) (by show -1000000000 ≤ nb.id; rw [HV3.out]; have := HIN.out; omega) (by show nb.id ≤ 1000000000; rw [HV3.out]; have := HIN.out; omega)).mono ?_
          rintro e w5 ⟨μ5, rfl, hn5, hb5⟩
          go_wp2_with fail
          go_meet
          case rel => exact ⟨μ5, by rw [HS3.out]; exact Lib.hid hn5, Lib.hid ((hb5.block _ (by omega)).trans HY2.out), Lib.hid (HB2.out.trans (hb5.mono (by omega)))⟩
        have k1b : (m.kind == 1) = false := by simpa using k1
        by_cases k2 : m.kind = 2
        · have k2b : (m.kind == 2) = true := by simpa using k2
          have HS3 := Lib.hid (show s1 = votedS ⟨nb, []⟩ m from by rw [HS2.out]; unfold handleIn; rw [if_neg k1, if_pos k2])
          clear k1 k2
          go_wp2_with fail
          refine (voted_any _ (w.heap.size + 3) g ⟨nb, []⟩ μ2 m _ HN2.out (by simp) (by show nb.log.length ≤ 800000; rw [HV2.out]; omega) (by show nb.votes.length ≤ 1000; rw [HV1.out]; exact l2) (by show 0 ≤ nb.id; rw [HV3.out]; exact HIN.out.2.1) (by show nb.id < (nb.votes.length : Int); rw [HV3.out, HV1.out]; exact HIN.out.2.2) HIN.out.1.1 (by show m.frm < (nb.votes.length : Int); rw [HV1.out]; exact HIN.out.1.2)).mono ?_
          rintro e w5 ⟨μ5, rfl, hn5, hb5⟩
          go_wp2_with fail
          go_meet
          case rel => exact ⟨μ5, by rw [HS3.out]; exact Lib.hid hn5, Lib.hid ((hb5.block _ (by omega)).trans HY2.out), Lib.hid (HB2.out.trans (hb5.mono (by omega)))⟩
        have k2b : (m.kind == 2) = false := by simpa using k2
        by_cases k3 : m.kind = 3
        · have k3b : (m.kind == 3) = true := by simpa using k3
          have HS3 := Lib.hid (show s1 = appendS ⟨nb, []⟩ m from by rw [HS2.out]; unfold handleIn; rw [if_neg k1, if_neg k2, if_pos k3])
          clear k1 k2 k3
          go_wp2_with fail
          refine (append_any _ (w.heap.size + 3) g ⟨nb, []⟩ μ2 m A c HN2.out HRB.out (by simp) (by show nb.log.length ≤ 700000; rw [HV2.out]; exact l1) he (by show -1000000000 ≤ nb.clock; rw [HV4.out]; exact hc0) (by show nb.clock ≤ 1000000000; rw [HV4.out]; exact hc1) (by show -1000000000 ≤ nb.id; rw [HV3.out]; have := HIN.out; omega) (by show nb.id ≤ 1000000000; rw [HV3.out]; have := HIN.out; omega) hz).mono ?_
          rintro e w5 ⟨μ5, rfl, hn5, hb5⟩
          go_wp2_with fail
          go_meet
          case rel => exact ⟨μ5, by rw [HS3.out]; exact Lib.hid hn5, Lib.hid ((hb5.block _ (by omega)).trans HY2.out), Lib.hid (HB2.out.trans (hb5.mono (by omega)))⟩
        have k3b : (m.kind == 3) = false := by simpa using k3
        by_cases k4 : m.kind = 4
        · have k4b : (m.kind == 4) = true := by simpa using k4
          have HS3 := Lib.hid (show s1 = matchS ⟨nb, []⟩ m from by rw [HS2.out]; unfold handleIn; rw [if_neg k1, if_neg k2, if_neg k3, if_pos k4])
          clear k1 k2 k3 k4
          go_wp2_with fail
          refine (match_any _ (w.heap.size + 3) g ⟨nb, []⟩ μ2 m _ HN2.out (by simp) (by show nb.log.length ≤ 800000; rw [HV2.out]; omega) (by show nb.votes.length ≤ 1000; rw [HV1.out]; exact l2) HIN.out.1.1 (by show m.frm < (nb.votes.length : Int); rw [HV1.out]; exact HIN.out.1.2) (by show nb.nxt.length = nb.votes.length; rw [HV6.out, HV1.out]; exact L3.out) (by show nb.mtch.length = nb.votes.length; rw [HV7.out, HV1.out]; exact L4.out) (by show nb.forms.length = nb.votes.length; rw [HV8.out, HV1.out]; exact L5.out) (by show 0 ≤ nb.commit; rw [HV5.out]; exact hcm) (by show ∀ i, i < nb.nxt.length → _ ≤ nb.nxt.getD i 0 ∧ nb.nxt.getD i 0 ≤ _; rw [HV6.out]; exact HXX.out) (by show ∀ i, i < nb.mtch.length → _ ≤ nb.mtch.getD i 0 ∧ nb.mtch.getD i 0 ≤ _; rw [HV7.out]; exact HYY.out) ⟨by omega, by omega⟩).mono ?_
          rintro e w5 ⟨μ5, rfl, hn5, hb5⟩
          go_wp2_with fail
          go_meet
          case rel => exact ⟨μ5, by rw [HS3.out]; exact Lib.hid hn5, Lib.hid ((hb5.block _ (by omega)).trans HY2.out), Lib.hid (HB2.out.trans (hb5.mono (by omega)))⟩
        have k4b : (m.kind == 4) = false := by simpa using k4
        have HS3 := Lib.hid (show s1 = ⟨nb, []⟩ from by rw [HS2.out]; unfold handleIn; rw [if_neg k1, if_neg k2, if_neg k3, if_neg k4])
        clear k1 k2 k3 k4
        go_wp2_with fail
        go_meet
        case rel => exact ⟨μ2, by rw [HS3.out]; exact HN2, HY2, HB2⟩
      case rest =>
        obtain ⟨μ3, HN3, HY3, HB3⟩ := hcut
        have HOUT := Lib.hid (show s1.out.length ≤ 1000000 from by rw [HS2.out]; exact handleIn_out nb m (by rw [HV1.out]; exact l2))
        clear HN2 HX2 HY2 HB2 d0 d1 d2 d3 d4 d5 d6 d7 d8 d9
        go_wp2_with fail
        refine (end_shape _ (w.heap.size + 3) g _ _ HN3.out HOUT.out).mono ?_
        rintro e we ⟨A3, k3, A7, k7, A8, k8, A9, k9, A10, k10, Ao, ko, rfl, hnv, hms, hbe⟩
        have hYe := (hbe.block (w.heap.size + 2) (by have := MM.blk_lt HY3.out; omega)).trans HY3.out
        have hBe := HB3.out.trans (hbe.mono (by have := HN3.out.Bsize; omega))
        clear hbe
        obtain ⟨y0, y1, y2, y3, y4, y5, y6, y7, y8, y9, y10, y11, y12⟩ := MM.cells13 hYe
        obtain ⟨g0, g1, g2, g3, g4, g5, g6, g7, g8, g9, g10, g11, g12⟩ := MM.frees13 hYe
        have HYE := Lib.hid hYe
        have HBE := Lib.hid hBe
        have HNV := Lib.hid hnv
        have HMS := Lib.hid hms
        clear hYe hBe hnv hms
        go_wp2_with fail
        have hYf : ((((((((((((((we).setCell ⟨w.heap.size + 2, 0, none⟩ (.int .i64 s1.n.id)).setCell ⟨w.heap.size + 2, 1, none⟩ (.int .i64 s1.n.term)).setCell ⟨w.heap.size + 2, 2, none⟩ (.int .i64 s1.n.vote)).setCell ⟨w.heap.size + 2, 3, none⟩ (.slice A3 s1.n.log.length k3)).setCell ⟨w.heap.size + 2, 4, none⟩ (.int .i64 s1.n.form)).setCell ⟨w.heap.size + 2, 5, none⟩ (.int .i64 s1.n.role)).setCell ⟨w.heap.size + 2, 6, none⟩ (.int .i64 s1.n.commit)).setCell ⟨w.heap.size + 2, 7, none⟩ (.slice A7 s1.n.votes.length k7)).setCell ⟨w.heap.size + 2, 8, none⟩ (.slice A8 s1.n.nxt.length k8)).setCell ⟨w.heap.size + 2, 9, none⟩ (.slice A9 s1.n.mtch.length k9)).setCell ⟨w.heap.size + 2, 10, none⟩ (.slice A10 s1.n.forms.length k10)).setCell ⟨w.heap.size + 2, 11, none⟩ (.int .i64 s1.n.clock)).setCell ⟨w.heap.size + 2, 12, none⟩ (.int .i64 s1.n.due)).heap[w.heap.size + 2]? = some (.cells #[.int .i64 s1.n.id, .int .i64 s1.n.term, .int .i64 s1.n.vote, .slice A3 s1.n.log.length k3, .int .i64 s1.n.form, .int .i64 s1.n.role, .int .i64 s1.n.commit, .slice A7 s1.n.votes.length k7, .slice A8 s1.n.nxt.length k8, .slice A9 s1.n.mtch.length k9, .slice A10 s1.n.forms.length k10, .int .i64 s1.n.clock, .int .i64 s1.n.due] 28 (0, 0)) := set13 HYE.out
        have far : ∀ j, w.heap.size + 3 ≤ j → ((((((((((((((we).setCell ⟨w.heap.size + 2, 0, none⟩ (.int .i64 s1.n.id)).setCell ⟨w.heap.size + 2, 1, none⟩ (.int .i64 s1.n.term)).setCell ⟨w.heap.size + 2, 2, none⟩ (.int .i64 s1.n.vote)).setCell ⟨w.heap.size + 2, 3, none⟩ (.slice A3 s1.n.log.length k3)).setCell ⟨w.heap.size + 2, 4, none⟩ (.int .i64 s1.n.form)).setCell ⟨w.heap.size + 2, 5, none⟩ (.int .i64 s1.n.role)).setCell ⟨w.heap.size + 2, 6, none⟩ (.int .i64 s1.n.commit)).setCell ⟨w.heap.size + 2, 7, none⟩ (.slice A7 s1.n.votes.length k7)).setCell ⟨w.heap.size + 2, 8, none⟩ (.slice A8 s1.n.nxt.length k8)).setCell ⟨w.heap.size + 2, 9, none⟩ (.slice A9 s1.n.mtch.length k9)).setCell ⟨w.heap.size + 2, 10, none⟩ (.slice A10 s1.n.forms.length k10)).setCell ⟨w.heap.size + 2, 11, none⟩ (.int .i64 s1.n.clock)).setCell ⟨w.heap.size + 2, 12, none⟩ (.int .i64 s1.n.due)).heap[j]? = we.heap[j]? := fun j hj => far13 (by omega)
        obtain ⟨wf, hwf⟩ : ∃ W, W = (((((((((((((we).setCell ⟨w.heap.size + 2, 0, none⟩ (.int .i64 s1.n.id)).setCell ⟨w.heap.size + 2, 1, none⟩ (.int .i64 s1.n.term)).setCell ⟨w.heap.size + 2, 2, none⟩ (.int .i64 s1.n.vote)).setCell ⟨w.heap.size + 2, 3, none⟩ (.slice A3 s1.n.log.length k3)).setCell ⟨w.heap.size + 2, 4, none⟩ (.int .i64 s1.n.form)).setCell ⟨w.heap.size + 2, 5, none⟩ (.int .i64 s1.n.role)).setCell ⟨w.heap.size + 2, 6, none⟩ (.int .i64 s1.n.commit)).setCell ⟨w.heap.size + 2, 7, none⟩ (.slice A7 s1.n.votes.length k7)).setCell ⟨w.heap.size + 2, 8, none⟩ (.slice A8 s1.n.nxt.length k8)).setCell ⟨w.heap.size + 2, 9, none⟩ (.slice A9 s1.n.mtch.length k9)).setCell ⟨w.heap.size + 2, 10, none⟩ (.slice A10 s1.n.forms.length k10)).setCell ⟨w.heap.size + 2, 11, none⟩ (.int .i64 s1.n.clock)).setCell ⟨w.heap.size + 2, 12, none⟩ (.int .i64 s1.n.due) := ⟨_, rfl⟩
        rw [← hwf] at hYf far ⊢
        have hBf : Below w.heap.size w wf := by rw [hwf]; exact below13 HBE.out (by omega)
        clear hwf
        obtain ⟨z0, z1, z2, z3, z4, z5, z6, z7, z8, z9, z10, z11, z12⟩ := MM.cells13 hYf
        refine bodyPost_ret (v := .tuple #[.agg #[.int .i64 s1.n.id, .int .i64 s1.n.term, .int .i64 s1.n.vote, .slice A3 s1.n.log.length k3, .int .i64 s1.n.form, .int .i64 s1.n.role, .int .i64 s1.n.commit, .slice A7 s1.n.votes.length k7, .slice A8 s1.n.nxt.length k8, .slice A9 s1.n.mtch.length k9, .slice A10 s1.n.forms.length k10, .int .i64 s1.n.clock, .int .i64 s1.n.due], .slice Ao s1.out.length ko]) (by simp [results, Try.results26, go_sem, z0, z1, z2, z3, z4, z5, z6, z7, z8, z9, z10, z11, z12]) rfl ⟨A3, k3, A7, k7, A8, k8, A9, k9, A10, k10, Ao, ko, rfl, (HNV.out.step fun j hj _ => far j hj).mono fun j hj _ => (by have : w.heap.size + 3 ≤ j := hj; omega), (HMS.out.step fun j hj _ => far j hj).mono fun j hj _ => (by have : w.heap.size + 3 ≤ j := hj; omega), hBf⟩

end Go.Proofs.Ytnkmljdkokcdjaa
