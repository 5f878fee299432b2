/-
begin and end of a node at work.
fresh, New.
-/
import Derived.WalkKit
import Derived.WalkSpells
import Derived.Lib.Hide
import Derived.Outline
import Derived.Test.YtnkmljdkokcdjaaChecked
import Derived.Test.YtnkmljdkokcdjaaB0
import Derived.Test.YtnkmljdkokcdjaaB1
import Derived.Test.YtnkmljdkokcdjaaB3
import Derived.OwnWalk
set_option maxRecDepth 100000
set_option maxHeartbeats 4000000
set_option linter.unusedVariables false
set_option linter.unusedSimpArgs false
namespace Go.Proofs.Ytnkmljdkokcdjaa
open Go.RowKit Fed Go.RT
attribute [local go_sem high] Fed.max2_int Fed.min2_int Fed.MA Fed.ZN Fed.ZM
theorem begin_any (w : World) (ok : Nat → Prop) (n : Fed.Node) (vl vv vn vm vf : Value) (h : NodeV w ok n vl vv vn vm vf) (l1 : n.log.length ≤ 1000000) (l2 : n.votes.length ≤ 1000) (l3 : n.nxt.length ≤ 1000) (l4 : n.mtch.length ≤ 1000) (l5 : n.forms.length ≤ 1000) :
  Calls Try.prog 59 #[.agg (nodeC n vl vv vn vm vf)] w
   fun e w' => ∃ g μ, e = .returned (.pointer (some ⟨g, 0, none⟩)) ∧ NodeAt w' w.heap.size g ⟨n, []⟩ μ ∧ Below w.heap.size w w' := by
 obtain ⟨Al0, kl0, rfl, _, _⟩ := h.hl.slice
 obtain ⟨Av0, kv0, rfl, _, _⟩ := h.hv.slice
 obtain ⟨An0, kn0, rfl, _, _⟩ := h.hn.slice
 obtain ⟨Am0, km0, rfl, _, _⟩ := h.hm.slice
 obtain ⟨Af0, kf0, rfl, _, _⟩ := h.hf.slice
 have HV := Hd h
 clear h
 unfold nodeC
 go_enter Try.func59, Try.ntmps59
 go_wp2
 refine wT (.p 0 (.s 1 (.p 3 (.s 4 (.p 6 (.s 7 (.p 9 (.s 10 (.p 12 (.s 13 (.w 2 [4, 7, 10, 13] (.p 15 (.w 5 [7, 10, 13] (.w 8 [10, 13] (.w 11 [13] (.w 14 [] (.w 16 [] (.p 17 (.w 18 [] (.p 19 (.w 20 [] (.p 21 (.w 22 [] (.p 23 (.w 24 [] .nil .stop)) .stop)) .stop)) .stop)) .stop) .stop) .stop) .stop) .stop)) .stop))))))))))) (by kernel_rfl) (by kernel_rfl) ?_
 (refine sP rfl fun K hK => ?_; go_simp; refine hK _ ?_; clear hK K)
 (refine sS rfl fun K hK => ?_; go_simp; refine hK _ ?_; clear hK K)
 (refine sP rfl fun K hK => ?_; go_simp; refine hK _ ?_; clear hK K)
 (refine sS rfl fun K hK => ?_; go_simp; refine hK _ ?_; clear hK K)
 (refine sP rfl fun K hK => ?_; go_simp; refine hK _ ?_; clear hK K)
 (refine sS rfl fun K hK => ?_; go_simp; refine hK _ ?_; clear hK K)
 (refine sP rfl fun K hK => ?_; go_simp; refine hK _ ?_; clear hK K)
 (refine sS rfl fun K hK => ?_; go_simp; refine hK _ ?_; clear hK K)
 (refine sP rfl fun K hK => ?_; go_simp; refine hK _ ?_; clear hK K)
 (refine sS rfl fun K hK => ?_; go_simp; refine hK _ ?_; clear hK K)
 refine sW rfl rfl (fun K hK => ?_) sT
 go_wp2_with fail
 refine (clone_entry _ ok _ _ _ (by exact MM.Rd.below HV.out.hl (by repeat (first | exact Below.refl _ _ | refine Below.setCell ?_ (by simp) _ | refine Below.alloc ?_ (by simp) _ | refine Below.drew ?_))) (entsC_one _) (by omega)).mono ?_
 rintro e w1 ⟨cl, ol, rfl, hr1, hb1⟩
 go_wp2_with fail
 have HV1 := Hd ((NodeV.below HV.out (by repeat (first | exact Below.refl _ _ | refine Below.setCell ?_ (by simp) _ | refine Below.alloc ?_ (by simp) _ | refine Below.drew ?_))).below hb1)
 have HBX1 := Hd ((hb1.block w.heap.size (by simp)).trans (MM.alloc_new w (.cells #[.int .i64 n.id, .int .i64 n.term, .int .i64 n.vote, .slice Al0 n.log.length kl0, .int .i64 n.form, .int .i64 n.role, .int .i64 n.commit, .slice Av0 n.votes.length kv0, .slice An0 n.nxt.length kn0, .slice Am0 n.mtch.length km0, .slice Af0 n.forms.length kf0, .int .i64 n.clock, .int .i64 n.due] 28)))
 have HB1 := Hd (show Below w.heap.size w w1 from Below.trans (by repeat (first | exact Below.refl _ _ | refine Below.setCell ?_ (by simp) _ | refine Below.alloc ?_ (by simp) _ | refine Below.drew ?_)) (hb1.mono (by simp)))
 have hz1 : w.heap.size + 1 ≤ w1.heap.size := by have := hb1.size; simpa using this
 have R1_1 := Hd (hr1.lower (base' := w.heap.size + 1) (by simp))
 obtain ⟨Al, kl, rfl, _, _⟩ := hr1.slice
 have x1_3 : w1.cell? ⟨w.heap.size, 3, none⟩ = some (.slice Al0 n.log.length kl0) := MM.cell_blk HBX1.out rfl
 have x1_7 : w1.cell? ⟨w.heap.size, 7, none⟩ = some (.slice Av0 n.votes.length kv0) := MM.cell_blk HBX1.out rfl
 have x1_8 : w1.cell? ⟨w.heap.size, 8, none⟩ = some (.slice An0 n.nxt.length kn0) := MM.cell_blk HBX1.out rfl
 have x1_9 : w1.cell? ⟨w.heap.size, 9, none⟩ = some (.slice Am0 n.mtch.length km0) := MM.cell_blk HBX1.out rfl
 have x1_10 : w1.cell? ⟨w.heap.size, 10, none⟩ = some (.slice Af0 n.forms.length kf0) := MM.cell_blk HBX1.out rfl
 clear hr1 hb1
 refine qN _ _ _ _ (hK _ _ ?_ ?_) <;> clear hK K
 ·refine aI rfl ?_ ?_; · (go_simp <;> rfl)
  refine aI rfl ?_ ?_; · (go_simp <;> rfl)
  refine aI rfl ?_ ?_; · (go_simp <;> rfl)
  refine aI rfl ?_ ?_; · (go_simp <;> rfl)
  exact aN
 (refine sP rfl fun K hK => ?_; go_simp; refine hK _ ?_; clear hK K)
 refine sW rfl rfl (fun K hK => ?_) sT
 go_wp2_with fail
 refine (clone_bool _ ok _ _ _ (by exact HV1.out.hv) (boolsC_one _) (by omega)).mono ?_
 rintro e w2 ⟨cv, ov, rfl, hr2, hb2⟩
 go_wp2_with fail
 have HV2 := Hd (HV1.out.below hb2)
 have HBX2 := Hd ((hb2.block w.heap.size (by omega)).trans HBX1.out)
 have HB2 := Hd (HB1.out.trans (hb2.mono (by omega)))
 have hz2 : w1.heap.size ≤ w2.heap.size := hb2.size
 have R2_2 := Hd hr2
 have R1_2 := Hd (R1_1.out.below hb2)
 clear R1_1
 obtain ⟨Av, kv, rfl, _, _⟩ := hr2.slice
 have x2_3 : w2.cell? ⟨w.heap.size, 3, none⟩ = some (.slice Al0 n.log.length kl0) := MM.cell_blk HBX2.out rfl
 have x2_7 : w2.cell? ⟨w.heap.size, 7, none⟩ = some (.slice Av0 n.votes.length kv0) := MM.cell_blk HBX2.out rfl
 have x2_8 : w2.cell? ⟨w.heap.size, 8, none⟩ = some (.slice An0 n.nxt.length kn0) := MM.cell_blk HBX2.out rfl
 have x2_9 : w2.cell? ⟨w.heap.size, 9, none⟩ = some (.slice Am0 n.mtch.length km0) := MM.cell_blk HBX2.out rfl
 have x2_10 : w2.cell? ⟨w.heap.size, 10, none⟩ = some (.slice Af0 n.forms.length kf0) := MM.cell_blk HBX2.out rfl
 clear hr2 hb2 x1_3 x1_7 x1_8 x1_9 x1_10
 refine qN _ _ _ _ (hK _ _ ?_ ?_) <;> clear hK K
 ·refine aI rfl ?_ ?_; · (go_simp <;> rfl)
  refine aI rfl ?_ ?_; · (go_simp <;> rfl)
  refine aI rfl ?_ ?_; · (go_simp <;> rfl)
  exact aN
 refine sW rfl rfl (fun K hK => ?_) sT
 go_wp2_with fail
 refine (clone_int _ ok _ _ _ (by exact HV2.out.hn) (intsC_one _) (by omega)).mono ?_
 rintro e w3 ⟨cn, on, rfl, hr3, hb3⟩
 go_wp2_with fail
 have HV3 := Hd (HV2.out.below hb3)
 have HBX3 := Hd ((hb3.block w.heap.size (by omega)).trans HBX2.out)
 have HB3 := Hd (HB2.out.trans (hb3.mono (by omega)))
 have hz3 : w2.heap.size ≤ w3.heap.size := hb3.size
 have R3_3 := Hd hr3
 have R1_3 := Hd (R1_2.out.below hb3)
 have R2_3 := Hd (R2_2.out.below hb3)
 clear R1_2 R2_2
 obtain ⟨An, kn, rfl, _, _⟩ := hr3.slice
 have q3 := Hd (show ∀ k, on = some k → k < w3.heap.size from fun k hk => (hr3.lt k hk).2)
 have x3_3 : w3.cell? ⟨w.heap.size, 3, none⟩ = some (.slice Al0 n.log.length kl0) := MM.cell_blk HBX3.out rfl
 have x3_7 : w3.cell? ⟨w.heap.size, 7, none⟩ = some (.slice Av0 n.votes.length kv0) := MM.cell_blk HBX3.out rfl
 have x3_8 : w3.cell? ⟨w.heap.size, 8, none⟩ = some (.slice An0 n.nxt.length kn0) := MM.cell_blk HBX3.out rfl
 have x3_9 : w3.cell? ⟨w.heap.size, 9, none⟩ = some (.slice Am0 n.mtch.length km0) := MM.cell_blk HBX3.out rfl
 have x3_10 : w3.cell? ⟨w.heap.size, 10, none⟩ = some (.slice Af0 n.forms.length kf0) := MM.cell_blk HBX3.out rfl
 clear hr3 hb3 x2_3 x2_7 x2_8 x2_9 x2_10
 refine qN _ _ _ _ (hK _ _ ?_ ?_) <;> clear hK K
 ·refine aI rfl ?_ ?_; · (go_simp <;> rfl)
  refine aI rfl ?_ ?_; · (go_simp <;> rfl)
  exact aN
 refine sW rfl rfl (fun K hK => ?_) sT
 go_wp2_with fail
 refine (clone_int _ ok _ _ _ (by exact HV3.out.hm) (intsC_one _) (by omega)).mono ?_
 rintro e w4 ⟨cm, om, rfl, hr4, hb4⟩
 go_wp2_with fail
 have HV4 := Hd (HV3.out.below hb4)
 have HBX4 := Hd ((hb4.block w.heap.size (by omega)).trans HBX3.out)
 have HB4 := Hd (HB3.out.trans (hb4.mono (by omega)))
 have hz4 : w3.heap.size ≤ w4.heap.size := hb4.size
 have R4_4 := Hd hr4
 have R1_4 := Hd (R1_3.out.below hb4)
 have R2_4 := Hd (R2_3.out.below hb4)
 have R3_4 := Hd (R3_3.out.below hb4)
 clear R1_3 R2_3 R3_3
 obtain ⟨Am, km, rfl, _, _⟩ := hr4.slice
 have q4 := Hd (show ∀ k, om = some k → k < w4.heap.size from fun k hk => (hr4.lt k hk).2)
 have x4_3 : w4.cell? ⟨w.heap.size, 3, none⟩ = some (.slice Al0 n.log.length kl0) := MM.cell_blk HBX4.out rfl
 have x4_7 : w4.cell? ⟨w.heap.size, 7, none⟩ = some (.slice Av0 n.votes.length kv0) := MM.cell_blk HBX4.out rfl
 have x4_8 : w4.cell? ⟨w.heap.size, 8, none⟩ = some (.slice An0 n.nxt.length kn0) := MM.cell_blk HBX4.out rfl
 have x4_9 : w4.cell? ⟨w.heap.size, 9, none⟩ = some (.slice Am0 n.mtch.length km0) := MM.cell_blk HBX4.out rfl
 have x4_10 : w4.cell? ⟨w.heap.size, 10, none⟩ = some (.slice Af0 n.forms.length kf0) := MM.cell_blk HBX4.out rfl
 clear hr4 hb4 x3_3 x3_7 x3_8 x3_9 x3_10
 refine qN _ _ _ _ (hK _ _ ?_ ?_) <;> clear hK K
 ·refine aI rfl ?_ ?_; · (go_simp <;> rfl)
  exact aN
 refine sW rfl rfl (fun K hK => ?_) sT
 go_wp2_with fail
 refine (clone_int _ ok _ _ _ (by exact HV4.out.hf) (intsC_one _) (by omega)).mono ?_
 rintro e w5 ⟨cf, of, rfl, hr5, hb5⟩
 go_wp2_with fail
 have HV5 := Hd (HV4.out.below hb5)
 have HBX5 := Hd ((hb5.block w.heap.size (by omega)).trans HBX4.out)
 have HB5 := Hd (HB4.out.trans (hb5.mono (by omega)))
 have hz5 : w4.heap.size ≤ w5.heap.size := hb5.size
 have R5_5 := Hd hr5
 have R1_5 := Hd (R1_4.out.below hb5)
 have R2_5 := Hd (R2_4.out.below hb5)
 have R3_5 := Hd (R3_4.out.below hb5)
 have R4_5 := Hd (R4_4.out.below hb5)
 clear R1_4 R2_4 R3_4 R4_4
 obtain ⟨Af, kf, rfl, _, _⟩ := hr5.slice
 have N34 := Hd (show ∀ k, on = some k → k < w3.heap.size ∧ k < w4.heap.size from fun k hk => ⟨q3.out k hk, by have := q3.out k hk; omega⟩)
 have N45 := Hd (show ∀ k, om = some k → k < w4.heap.size from q4.out)
 have x5_3 : w5.cell? ⟨w.heap.size, 3, none⟩ = some (.slice Al0 n.log.length kl0) := MM.cell_blk HBX5.out rfl
 have x5_7 : w5.cell? ⟨w.heap.size, 7, none⟩ = some (.slice Av0 n.votes.length kv0) := MM.cell_blk HBX5.out rfl
 have x5_8 : w5.cell? ⟨w.heap.size, 8, none⟩ = some (.slice An0 n.nxt.length kn0) := MM.cell_blk HBX5.out rfl
 have x5_9 : w5.cell? ⟨w.heap.size, 9, none⟩ = some (.slice Am0 n.mtch.length km0) := MM.cell_blk HBX5.out rfl
 have x5_10 : w5.cell? ⟨w.heap.size, 10, none⟩ = some (.slice Af0 n.forms.length kf0) := MM.cell_blk HBX5.out rfl
 have y3 : w5.frozen? ⟨w.heap.size, 3, none⟩ = false := MM.free_blk HBX5.out
 have y7 : w5.frozen? ⟨w.heap.size, 7, none⟩ = false := MM.free_blk HBX5.out
 have y8 : w5.frozen? ⟨w.heap.size, 8, none⟩ = false := MM.free_blk HBX5.out
 have y9 : w5.frozen? ⟨w.heap.size, 9, none⟩ = false := MM.free_blk HBX5.out
 have y10 : w5.frozen? ⟨w.heap.size, 10, none⟩ = false := MM.free_blk HBX5.out
 have z0 : w5.cell? ⟨w.heap.size, 0, none⟩ = some (.int .i64 n.id) := MM.cell_blk HBX5.out rfl
 have z1 : w5.cell? ⟨w.heap.size, 1, none⟩ = some (.int .i64 n.term) := MM.cell_blk HBX5.out rfl
 have z2 : w5.cell? ⟨w.heap.size, 2, none⟩ = some (.int .i64 n.vote) := MM.cell_blk HBX5.out rfl
 have z4 : w5.cell? ⟨w.heap.size, 4, none⟩ = some (.int .i64 n.form) := MM.cell_blk HBX5.out rfl
 have z5 : w5.cell? ⟨w.heap.size, 5, none⟩ = some (.int .i64 n.role) := MM.cell_blk HBX5.out rfl
 have z6 : w5.cell? ⟨w.heap.size, 6, none⟩ = some (.int .i64 n.commit) := MM.cell_blk HBX5.out rfl
 have z11 : w5.cell? ⟨w.heap.size, 11, none⟩ = some (.int .i64 n.clock) := MM.cell_blk HBX5.out rfl
 have z12 : w5.cell? ⟨w.heap.size, 12, none⟩ = some (.int .i64 n.due) := MM.cell_blk HBX5.out rfl
 clear hr5 hb5 x4_3 x4_7 x4_8 x4_9 x4_10
 refine qN _ _ _ _ (hK _ _ ?_ ?_) <;> clear hK K
 ·exact aN
 refine sW rfl rfl (fun K hK => ?_) sT
 go_wp2
 refine qN _ _ _ _ (hK _ _ ?_ ?_) <;> clear hK K
 ·exact aN
 (refine sP rfl fun K hK => ?_; go_simp; refine hK _ ?_; clear hK K)
 refine sW rfl rfl (fun K hK => ?_) sT
 go_wp2
 refine qN _ _ _ _ (hK _ _ ?_ ?_) <;> clear hK K
 ·exact aN
 (refine sP rfl fun K hK => ?_; go_simp; refine hK _ ?_; clear hK K)
 refine sW rfl rfl (fun K hK => ?_) sT
 go_wp2
 refine qN _ _ _ _ (hK _ _ ?_ ?_) <;> clear hK K
 ·exact aN
 (refine sP rfl fun K hK => ?_; go_simp; refine hK _ ?_; clear hK K)
 refine sW rfl rfl (fun K hK => ?_) sT
 go_wp2
 refine qN _ _ _ _ (hK _ _ ?_ ?_) <;> clear hK K
 ·exact aN
 (refine sP rfl fun K hK => ?_; go_simp; refine hK _ ?_; clear hK K)
 refine sW rfl rfl (fun K hK => ?_) sT
 go_wp2
 refine qN _ _ _ _ (hK _ _ ?_ ?_) <;> clear hK K
 ·exact aN
 refine sN ?_
 have hX6 : ((((((w5).setCell ⟨w.heap.size, 3, none⟩ (.slice Al n.log.length kl)).setCell ⟨w.heap.size, 7, none⟩ (.slice Av n.votes.length kv)).setCell ⟨w.heap.size, 8, none⟩ (.slice An n.nxt.length kn)).setCell ⟨w.heap.size, 9, none⟩ (.slice Am n.mtch.length km)).setCell ⟨w.heap.size, 10, none⟩ (.slice Af n.forms.length kf)).heap[w.heap.size]? = some (.cells #[.int .i64 n.id, .int .i64 n.term, .int .i64 n.vote, .slice Al n.log.length kl, .int .i64 n.form, .int .i64 n.role, .int .i64 n.commit, .slice Av n.votes.length kv, .slice An n.nxt.length kn, .slice Am n.mtch.length km, .slice Af n.forms.length kf, .int .i64 n.clock, .int .i64 n.due] 28 (0, 0)) := by simp [World.setCell, Array.getElem?_modify, HBX5.out]
 have far6 : ∀ k, k ≠ w.heap.size → ((((((w5).setCell ⟨w.heap.size, 3, none⟩ (.slice Al n.log.length kl)).setCell ⟨w.heap.size, 7, none⟩ (.slice Av n.votes.length kv)).setCell ⟨w.heap.size, 8, none⟩ (.slice An n.nxt.length kn)).setCell ⟨w.heap.size, 9, none⟩ (.slice Am n.mtch.length km)).setCell ⟨w.heap.size, 10, none⟩ (.slice Af n.forms.length kf)).heap[k]? = w5.heap[k]? := fun k hk => (Below.heap_setCell _ _ _ k hk).trans ((Below.heap_setCell _ _ _ k hk).trans ((Below.heap_setCell _ _ _ k hk).trans ((Below.heap_setCell _ _ _ k hk).trans (Below.heap_setCell _ _ _ k hk))))
 have hB6 : Below w.heap.size w ((((((w5).setCell ⟨w.heap.size, 3, none⟩ (.slice Al n.log.length kl)).setCell ⟨w.heap.size, 7, none⟩ (.slice Av n.votes.length kv)).setCell ⟨w.heap.size, 8, none⟩ (.slice An n.nxt.length kn)).setCell ⟨w.heap.size, 9, none⟩ (.slice Am n.mtch.length km)).setCell ⟨w.heap.size, 10, none⟩ (.slice Af n.forms.length kf)) := ((((HB5.out.setCell (p := ⟨w.heap.size, 3, none⟩) (Nat.le_refl _) _).setCell (p := ⟨w.heap.size, 7, none⟩) (Nat.le_refl _) _).setCell (p := ⟨w.heap.size, 8, none⟩) (Nat.le_refl _) _).setCell (p := ⟨w.heap.size, 9, none⟩) (Nat.le_refl _) _).setCell (p := ⟨w.heap.size, 10, none⟩) (Nat.le_refl _) _
 obtain ⟨w6, hw6⟩ : ∃ W, W = (((((w5).setCell ⟨w.heap.size, 3, none⟩ (.slice Al n.log.length kl)).setCell ⟨w.heap.size, 7, none⟩ (.slice Av n.votes.length kv)).setCell ⟨w.heap.size, 8, none⟩ (.slice An n.nxt.length kn)).setCell ⟨w.heap.size, 9, none⟩ (.slice Am n.mtch.length km)).setCell ⟨w.heap.size, 10, none⟩ (.slice Af n.forms.length kf) := ⟨_, rfl⟩
 rw [← hw6] at hX6 far6 hB6 ⊢
 clear hw6 x5_3 x5_7 x5_8 x5_9 x5_10 y3 y7 y8 y9 y10 z0 z1 z2 z4 z5 z6 z11 z12
 obtain ⟨z0, z1, z2, z3, z4, z5, z6, z7, z8, z9, z10, z11, z12⟩ := MM.cells13 hX6
 have r1 := R1_5.out.step (w1 := w6) fun k hk _ => far6 k (by have := (R1_5.out.lt k hk).1; omega)
 have r2 := R2_5.out.step (w1 := w6) fun k hk _ => far6 k (by have := (R2_5.out.lt k hk).1; omega)
 have r3 := R3_5.out.step (w1 := w6) fun k hk _ => far6 k (by have := (R3_5.out.lt k hk).1; omega)
 have r4 := R4_5.out.step (w1 := w6) fun k hk _ => far6 k (by have := (R4_5.out.lt k hk).1; omega)
 have r5 := R5_5.out.step (w1 := w6) fun k hk _ => far6 k (by have := (R5_5.out.lt k hk).1; omega)
 have HA := Hd (show NodeAt (w6.alloc (.cells (cellsN ⟨n, []⟩ ⟨⟨.slice Al n.log.length kl, ol⟩, ⟨.slice Av n.votes.length kv, ov⟩, ⟨.slice An n.nxt.length kn, on⟩, ⟨.slice Am n.mtch.length km, om⟩, ⟨.slice Af n.forms.length kf, of⟩, ⟨.slice none 0 0, none⟩⟩) 82)) w.heap.size w6.heap.size ⟨n, []⟩ ⟨⟨.slice Al n.log.length kl, ol⟩, ⟨.slice Av n.votes.length kv, ov⟩, ⟨.slice An n.nxt.length kn, on⟩, ⟨.slice Am n.mtch.length km, om⟩, ⟨.slice Af n.forms.length kf, of⟩, ⟨.slice none 0 0, none⟩⟩ from {
  hB := hB6.size
  blk := MM.alloc_new w6 _
  hl := (r1.lower (by omega)).alloc _
  hv := (r2.lower (by omega)).alloc _
  hn := (r3.lower (by omega)).alloc _
  hm := (r4.lower (by omega)).alloc _
  hf := (r5.lower (by omega)).alloc _
  ho := ⟨[], MM.Row.nil _ _ _ _ _, rfl⟩
  nm := fun k h1 h2 => by have := (N34.out k h1).1; have := (R4_5.out.lt k h2).1; omega
  nf := fun k h1 h2 => by have := (N34.out k h1).2; have := (R5_5.out.lt k h2).1; omega
  mf := fun k h1 h2 => by have := (N45.out k h1); have := (R5_5.out.lt k h2).1; omega })
 have HB6 := Hd (hB6.alloc hB6.size (.cells (cellsN ⟨n, []⟩ ⟨⟨.slice Al n.log.length kl, ol⟩, ⟨.slice Av n.votes.length kv, ov⟩, ⟨.slice An n.nxt.length kn, on⟩, ⟨.slice Am n.mtch.length km, om⟩, ⟨.slice Af n.forms.length kf, of⟩, ⟨.slice none 0 0, none⟩⟩) 82))
 clear far6 hB6 r1 r2 r3 r4 r5 hX6
 go_wp2
 go_ret
 exact ⟨_, _, rfl, HA.out, HB6.out⟩
end Go.Proofs.Ytnkmljdkokcdjaa
namespace Go.Proofs.Ytnkmljdkokcdjaa
open Go.RowKit Fed Go.RT
attribute [local go_sem high] Fed.max2_int Fed.min2_int
theorem setCell_blk {w : World} {b i : Nat} {c : Array Value} {t : TypeId} {f : Nat × Nat} (u : Value) (h : w.heap[b]? = some (.cells c t f)) : (w.setCell ⟨b, i, none⟩ u).heap[b]? = some (.cells (c.setIfInBounds i u) t f) := by
 simp [World.setCell, Array.getElem?_modify, h]
theorem set13 {w : World} {b t : Nat} {f : Nat × Nat} {a0 a1 a2 a3 a4 a5 a6 a7 a8 a9 a10 a11 a12 u0 u1 u2 u3 u4 u5 u6 u7 u8 u9 u10 u11 u12 : Value} (q : w.heap[b]? = some (.cells #[a0, a1, a2, a3, a4, a5, a6, a7, a8, a9, a10, a11, a12] t f)) : ((((((((((((((w).setCell ⟨b, 0, none⟩ u0).setCell ⟨b, 1, none⟩ u1).setCell ⟨b, 2, none⟩ u2).setCell ⟨b, 3, none⟩ u3).setCell ⟨b, 4, none⟩ u4).setCell ⟨b, 5, none⟩ u5).setCell ⟨b, 6, none⟩ u6).setCell ⟨b, 7, none⟩ u7).setCell ⟨b, 8, none⟩ u8).setCell ⟨b, 9, none⟩ u9).setCell ⟨b, 10, none⟩ u10).setCell ⟨b, 11, none⟩ u11).setCell ⟨b, 12, none⟩ u12).heap[b]? = some (.cells #[u0, u1, u2, u3, u4, u5, u6, u7, u8, u9, u10, u11, u12] t f) := by
 replace q : (w.setCell ⟨b, 0, none⟩ u0).heap[b]? = some (.cells #[u0, a1, a2, a3, a4, a5, a6, a7, a8, a9, a10, a11, a12] t f) := setCell_blk u0 q
 generalize w.setCell ⟨b, 0, none⟩ u0 = w0 at q ⊢
 replace q : (w0.setCell ⟨b, 1, none⟩ u1).heap[b]? = some (.cells #[u0, u1, a2, a3, a4, a5, a6, a7, a8, a9, a10, a11, a12] t f) := setCell_blk u1 q
 generalize w0.setCell ⟨b, 1, none⟩ u1 = w1 at q ⊢
 replace q : (w1.setCell ⟨b, 2, none⟩ u2).heap[b]? = some (.cells #[u0, u1, u2, a3, a4, a5, a6, a7, a8, a9, a10, a11, a12] t f) := setCell_blk u2 q
 generalize w1.setCell ⟨b, 2, none⟩ u2 = w2 at q ⊢
 replace q : (w2.setCell ⟨b, 3, none⟩ u3).heap[b]? = some (.cells #[u0, u1, u2, u3, a4, a5, a6, a7, a8, a9, a10, a11, a12] t f) := setCell_blk u3 q
 generalize w2.setCell ⟨b, 3, none⟩ u3 = w3 at q ⊢
 replace q : (w3.setCell ⟨b, 4, none⟩ u4).heap[b]? = some (.cells #[u0, u1, u2, u3, u4, a5, a6, a7, a8, a9, a10, a11, a12] t f) := setCell_blk u4 q
 generalize w3.setCell ⟨b, 4, none⟩ u4 = w4 at q ⊢
 replace q : (w4.setCell ⟨b, 5, none⟩ u5).heap[b]? = some (.cells #[u0, u1, u2, u3, u4, u5, a6, a7, a8, a9, a10, a11, a12] t f) := setCell_blk u5 q
 generalize w4.setCell ⟨b, 5, none⟩ u5 = w5 at q ⊢
 replace q : (w5.setCell ⟨b, 6, none⟩ u6).heap[b]? = some (.cells #[u0, u1, u2, u3, u4, u5, u6, a7, a8, a9, a10, a11, a12] t f) := setCell_blk u6 q
 generalize w5.setCell ⟨b, 6, none⟩ u6 = w6 at q ⊢
 replace q : (w6.setCell ⟨b, 7, none⟩ u7).heap[b]? = some (.cells #[u0, u1, u2, u3, u4, u5, u6, u7, a8, a9, a10, a11, a12] t f) := setCell_blk u7 q
 generalize w6.setCell ⟨b, 7, none⟩ u7 = w7 at q ⊢
 replace q : (w7.setCell ⟨b, 8, none⟩ u8).heap[b]? = some (.cells #[u0, u1, u2, u3, u4, u5, u6, u7, u8, a9, a10, a11, a12] t f) := setCell_blk u8 q
 generalize w7.setCell ⟨b, 8, none⟩ u8 = w8 at q ⊢
 replace q : (w8.setCell ⟨b, 9, none⟩ u9).heap[b]? = some (.cells #[u0, u1, u2, u3, u4, u5, u6, u7, u8, u9, a10, a11, a12] t f) := setCell_blk u9 q
 generalize w8.setCell ⟨b, 9, none⟩ u9 = w9 at q ⊢
 replace q : (w9.setCell ⟨b, 10, none⟩ u10).heap[b]? = some (.cells #[u0, u1, u2, u3, u4, u5, u6, u7, u8, u9, u10, a11, a12] t f) := setCell_blk u10 q
 generalize w9.setCell ⟨b, 10, none⟩ u10 = w10 at q ⊢
 replace q : (w10.setCell ⟨b, 11, none⟩ u11).heap[b]? = some (.cells #[u0, u1, u2, u3, u4, u5, u6, u7, u8, u9, u10, u11, a12] t f) := setCell_blk u11 q
 generalize w10.setCell ⟨b, 11, none⟩ u11 = w11 at q ⊢
 replace q : (w11.setCell ⟨b, 12, none⟩ u12).heap[b]? = some (.cells #[u0, u1, u2, u3, u4, u5, u6, u7, u8, u9, u10, u11, u12] t f) := setCell_blk u12 q
 exact q
theorem below13 {n b : Nat} {w0 w : World} {u0 u1 u2 u3 u4 u5 u6 u7 u8 u9 u10 u11 u12 : Value} (q : Below n w0 w) (h : n ≤ b) : Below n w0 ((((((((((((((w).setCell ⟨b, 0, none⟩ u0).setCell ⟨b, 1, none⟩ u1).setCell ⟨b, 2, none⟩ u2).setCell ⟨b, 3, none⟩ u3).setCell ⟨b, 4, none⟩ u4).setCell ⟨b, 5, none⟩ u5).setCell ⟨b, 6, none⟩ u6).setCell ⟨b, 7, none⟩ u7).setCell ⟨b, 8, none⟩ u8).setCell ⟨b, 9, none⟩ u9).setCell ⟨b, 10, none⟩ u10).setCell ⟨b, 11, none⟩ u11).setCell ⟨b, 12, none⟩ u12) := Below.setCell (Below.setCell (Below.setCell (Below.setCell (Below.setCell (Below.setCell (Below.setCell (Below.setCell (Below.setCell (Below.setCell (Below.setCell (Below.setCell (Below.setCell (q) h _) h _) h _) h _) h _) h _) h _) h _) h _) h _) h _) h _) h _
theorem far13 {b k : Nat} {w : World} {u0 u1 u2 u3 u4 u5 u6 u7 u8 u9 u10 u11 u12 : Value} (h : k ≠ b) : ((((((((((((((w).setCell ⟨b, 0, none⟩ u0).setCell ⟨b, 1, none⟩ u1).setCell ⟨b, 2, none⟩ u2).setCell ⟨b, 3, none⟩ u3).setCell ⟨b, 4, none⟩ u4).setCell ⟨b, 5, none⟩ u5).setCell ⟨b, 6, none⟩ u6).setCell ⟨b, 7, none⟩ u7).setCell ⟨b, 8, none⟩ u8).setCell ⟨b, 9, none⟩ u9).setCell ⟨b, 10, none⟩ u10).setCell ⟨b, 11, none⟩ u11).setCell ⟨b, 12, none⟩ u12).heap[k]? = w.heap[k]? := (Below.heap_setCell _ _ _ k h).trans ((Below.heap_setCell _ _ _ k h).trans ((Below.heap_setCell _ _ _ k h).trans ((Below.heap_setCell _ _ _ k h).trans ((Below.heap_setCell _ _ _ k h).trans ((Below.heap_setCell _ _ _ k h).trans ((Below.heap_setCell _ _ _ k h).trans ((Below.heap_setCell _ _ _ k h).trans ((Below.heap_setCell _ _ _ k h).trans ((Below.heap_setCell _ _ _ k h).trans ((Below.heap_setCell _ _ _ k h).trans ((Below.heap_setCell _ _ _ k h).trans ((Below.heap_setCell _ _ _ k h).trans (rfl)))))))))))))
theorem end_any (w : World) (B g : Nat) (s : NS) (μ : NM) (h : NodeAt w B g s μ) (ho : s.out.length ≤ 1000000) :
  Calls Try.prog 64 #[.pointer (some ⟨g, 0, none⟩)] w
   fun e w' => ∃ vo, e = .returned (.tuple #[.agg (nodeC s.n μ.l.v μ.v.v μ.n.v μ.m.v μ.f.v), vo]) ∧ NodeV w' (fun k => B ≤ k) s.n μ.l.v μ.v.v μ.n.v μ.m.v μ.f.v ∧ MsgsV w' (fun k => B ≤ k) vo s.out ∧ Below w.heap.size w w' := by
 have c0 : w.cell? ⟨g, 0, none⟩ = some (.int .i64 s.n.id) := h.c 0 _ rfl
 have c1 : w.cell? ⟨g, 1, none⟩ = some (.int .i64 s.n.term) := h.c 1 _ rfl
 have c2 : w.cell? ⟨g, 2, none⟩ = some (.int .i64 s.n.vote) := h.c 2 _ rfl
 obtain ⟨A3, k3, e3, u3, _⟩ := h.hl.slice
 have c3 : w.cell? ⟨g, 3, none⟩ = some (.slice A3 s.n.log.length k3) := h.c 3 _ (by rw [← e3]; rfl)
 have E3 := Hd e3; clear e3
 have c4 : w.cell? ⟨g, 4, none⟩ = some (.int .i64 s.n.form) := h.c 4 _ rfl
 have c5 : w.cell? ⟨g, 5, none⟩ = some (.int .i64 s.n.role) := h.c 5 _ rfl
 have c6 : w.cell? ⟨g, 6, none⟩ = some (.int .i64 s.n.commit) := h.c 6 _ rfl
 obtain ⟨A7, k7, e7, u7, _⟩ := h.hv.slice
 have c7 : w.cell? ⟨g, 7, none⟩ = some (.slice A7 s.n.votes.length k7) := h.c 7 _ (by rw [← e7]; rfl)
 have E7 := Hd e7; clear e7
 obtain ⟨A8, k8, e8, u8, _⟩ := h.hn.slice
 have c8 : w.cell? ⟨g, 8, none⟩ = some (.slice A8 s.n.nxt.length k8) := h.c 8 _ (by rw [← e8]; rfl)
 have E8 := Hd e8; clear e8
 obtain ⟨A9, k9, e9, u9, _⟩ := h.hm.slice
 have c9 : w.cell? ⟨g, 9, none⟩ = some (.slice A9 s.n.mtch.length k9) := h.c 9 _ (by rw [← e9]; rfl)
 have E9 := Hd e9; clear e9
 obtain ⟨A10, k10, e10, u10, _⟩ := h.hf.slice
 have c10 : w.cell? ⟨g, 10, none⟩ = some (.slice A10 s.n.forms.length k10) := h.c 10 _ (by rw [← e10]; rfl)
 have E10 := Hd e10; clear e10
 have c11 : w.cell? ⟨g, 11, none⟩ = some (.int .i64 s.n.clock) := h.c 11 _ rfl
 have c12 : w.cell? ⟨g, 12, none⟩ = some (.int .i64 s.n.due) := h.c 12 _ rfl
 have c13 : w.cell? ⟨g, 13, none⟩ = some μ.o.v := h.c 13 _ rfl
 obtain ⟨cs, hro, hrm⟩ := h.ho
 obtain ⟨Ao, ko, eo, _, _⟩ := hro.slice
 rw [eo] at c13
 have hlt := h.lt
 have hbs := h.Bsize
 have HRO := Hd (show MM.Rd w (fun k => B ≤ k) 10 (.slice Ao s.out.length ko) s.out.length cs from by rw [← eo]; exact hro.rd.mono fun k hk _ => (hro.lt k hk).1)
 have HRM := Hd (hrm.mono (ok' := fun k => B ≤ k) fun k hk _ => hk.1)
 have HC := Hd hrm.one_cell
 have H := Hd h
 have HO := Hd ho
 clear h ho hro hrm eo
 go_enter Try.func64, Try.ntmps64
 go_wp2
 refine wT (.p 0 (.p 1 (.p 2 (.s 3 (.p 4 (.p 5 (.p 6 (.s 7 (.w 8 [3] (.w 9 [] (.w 10 [] .nil .stop) .stop) .stop))))))))) (by kernel_rfl) (by kernel_rfl) ?_
 (refine sP rfl fun K hK => ?_; go_simp; refine hK _ ?_; clear hK K)
 (refine sP rfl fun K hK => ?_; go_simp; refine hK _ ?_; clear hK K)
 (refine sP rfl fun K hK => ?_; go_simp; refine hK _ ?_; clear hK K)
 (refine sS rfl fun K hK => ?_; go_simp; refine hK _ ?_; clear hK K)
 (refine sP rfl fun K hK => ?_; go_simp; refine hK _ ?_; clear hK K)
 (refine sP rfl fun K hK => ?_; go_simp; refine hK _ ?_; clear hK K)
 (refine sP rfl fun K hK => ?_; go_simp; refine hK _ ?_; clear hK K)
 (refine sS rfl fun K hK => ?_; go_simp; refine hK _ ?_; clear hK K)
 refine sW rfl rfl (fun K hK => ?_) sT
 go_wp2_with fail
 refine (clone_msg _ (fun k => B ≤ k) _ _ _ (by exact HRO.out.below (by repeat (first | exact Below.refl _ _ | refine Below.setCell ?_ (by simp) _ | refine Below.alloc ?_ (by simp) _ | refine Below.drew ?_))) HC.out (by have := HO.out; omega)).mono ?_
 rintro e w2 ⟨v2, o2, rfl, hr2, hb2⟩
 go_wp2_with fail
 obtain ⟨A2, k2, rfl, _, _⟩ := hr2.slice
 have hn2 := (H.out.below (by repeat (first | exact Below.refl _ _ | refine Below.setCell ?_ (by simp) _ | refine Below.alloc ?_ (by simp) _ | refine Below.drew ?_))).below hb2
 have d0 : w2.cell? ⟨g, 0, none⟩ = some (.int .i64 s.n.id) := hn2.c 0 _ rfl
 have d1 : w2.cell? ⟨g, 1, none⟩ = some (.int .i64 s.n.term) := hn2.c 1 _ rfl
 have d2 : w2.cell? ⟨g, 2, none⟩ = some (.int .i64 s.n.vote) := hn2.c 2 _ rfl
 have d3 : w2.cell? ⟨g, 3, none⟩ = some (.slice A3 s.n.log.length k3) := hn2.c 3 _ (by rw [← E3.out]; rfl)
 have d4 : w2.cell? ⟨g, 4, none⟩ = some (.int .i64 s.n.form) := hn2.c 4 _ rfl
 have d5 : w2.cell? ⟨g, 5, none⟩ = some (.int .i64 s.n.role) := hn2.c 5 _ rfl
 have d6 : w2.cell? ⟨g, 6, none⟩ = some (.int .i64 s.n.commit) := hn2.c 6 _ rfl
 have d7 : w2.cell? ⟨g, 7, none⟩ = some (.slice A7 s.n.votes.length k7) := hn2.c 7 _ (by rw [← E7.out]; rfl)
 have d8 : w2.cell? ⟨g, 8, none⟩ = some (.slice A8 s.n.nxt.length k8) := hn2.c 8 _ (by rw [← E8.out]; rfl)
 have d9 : w2.cell? ⟨g, 9, none⟩ = some (.slice A9 s.n.mtch.length k9) := hn2.c 9 _ (by rw [← E9.out]; rfl)
 have d10 : w2.cell? ⟨g, 10, none⟩ = some (.slice A10 s.n.forms.length k10) := hn2.c 10 _ (by rw [← E10.out]; rfl)
 have d11 : w2.cell? ⟨g, 11, none⟩ = some (.int .i64 s.n.clock) := hn2.c 11 _ rfl
 have d12 : w2.cell? ⟨g, 12, none⟩ = some (.int .i64 s.n.due) := hn2.c 12 _ rfl
 have hx2 : w2.heap[w.heap.size]? = some (.cells ZN 28 (0, 0)) := (hb2.block w.heap.size (by simp)).trans (MM.alloc_new w _)
 have f0 : w2.cell? ⟨w.heap.size, 0, none⟩ = some (.int .i64 0) := MM.cell_blk hx2 rfl
 have r0 : w2.frozen? ⟨w.heap.size, 0, none⟩ = false := MM.free_blk hx2
 have f1 : w2.cell? ⟨w.heap.size, 1, none⟩ = some (.int .i64 0) := MM.cell_blk hx2 rfl
 have r1 : w2.frozen? ⟨w.heap.size, 1, none⟩ = false := MM.free_blk hx2
 have f2 : w2.cell? ⟨w.heap.size, 2, none⟩ = some (.int .i64 0) := MM.cell_blk hx2 rfl
 have r2 : w2.frozen? ⟨w.heap.size, 2, none⟩ = false := MM.free_blk hx2
 have f3 : w2.cell? ⟨w.heap.size, 3, none⟩ = some (.slice none 0 0) := MM.cell_blk hx2 rfl
 have r3 : w2.frozen? ⟨w.heap.size, 3, none⟩ = false := MM.free_blk hx2
 have f4 : w2.cell? ⟨w.heap.size, 4, none⟩ = some (.int .i64 0) := MM.cell_blk hx2 rfl
 have r4 : w2.frozen? ⟨w.heap.size, 4, none⟩ = false := MM.free_blk hx2
 have f5 : w2.cell? ⟨w.heap.size, 5, none⟩ = some (.int .i64 0) := MM.cell_blk hx2 rfl
 have r5 : w2.frozen? ⟨w.heap.size, 5, none⟩ = false := MM.free_blk hx2
 have f6 : w2.cell? ⟨w.heap.size, 6, none⟩ = some (.int .i64 0) := MM.cell_blk hx2 rfl
 have r6 : w2.frozen? ⟨w.heap.size, 6, none⟩ = false := MM.free_blk hx2
 have f7 : w2.cell? ⟨w.heap.size, 7, none⟩ = some (.slice none 0 0) := MM.cell_blk hx2 rfl
 have r7 : w2.frozen? ⟨w.heap.size, 7, none⟩ = false := MM.free_blk hx2
 have f8 : w2.cell? ⟨w.heap.size, 8, none⟩ = some (.slice none 0 0) := MM.cell_blk hx2 rfl
 have r8 : w2.frozen? ⟨w.heap.size, 8, none⟩ = false := MM.free_blk hx2
 have f9 : w2.cell? ⟨w.heap.size, 9, none⟩ = some (.slice none 0 0) := MM.cell_blk hx2 rfl
 have r9 : w2.frozen? ⟨w.heap.size, 9, none⟩ = false := MM.free_blk hx2
 have f10 : w2.cell? ⟨w.heap.size, 10, none⟩ = some (.slice none 0 0) := MM.cell_blk hx2 rfl
 have r10 : w2.frozen? ⟨w.heap.size, 10, none⟩ = false := MM.free_blk hx2
 have f11 : w2.cell? ⟨w.heap.size, 11, none⟩ = some (.int .i64 0) := MM.cell_blk hx2 rfl
 have r11 : w2.frozen? ⟨w.heap.size, 11, none⟩ = false := MM.free_blk hx2
 have f12 : w2.cell? ⟨w.heap.size, 12, none⟩ = some (.int .i64 0) := MM.cell_blk hx2 rfl
 have r12 : w2.frozen? ⟨w.heap.size, 12, none⟩ = false := MM.free_blk hx2
 have HN2 := Hd hn2
 have HR2 := Hd (hr2.lower (base' := w.heap.size + 1) (by simp))
 have HB2 := Hd (show Below w.heap.size w w2 from Below.trans (by repeat (first | exact Below.refl _ _ | refine Below.setCell ?_ (by simp) _ | refine Below.alloc ?_ (by simp) _ | refine Below.drew ?_)) (hb2.mono (by simp)))
 have HM2 := Hd (((HRM.out.mono (ok' := fun k => B ≤ k ∧ k < w.heap.size) fun k hk hlt => ⟨hk, hlt⟩).step (fun k _ hk => Below.block (by repeat (first | exact Below.refl _ _ | refine Below.setCell ?_ (by simp) _ | refine Below.alloc ?_ (by simp) _ | refine Below.drew ?_)) k hk) : MsgsR _ (fun k => B ≤ k ∧ k < w.heap.size) s.out cs).step (fun k _ hk => hb2.block k hk))
 have HX2 := Hd hx2
 clear hn2 hr2 hb2 hx2
 refine qN _ _ _ _ (hK _ _ ?_ ?_) <;> clear hK K
 ·refine aI rfl ?_ ?_; · (go_simp <;> rfl)
  exact aN
 refine sW rfl rfl (fun K hK => ?_) sT
 go_wp2
 refine qN _ _ _ _ (hK _ _ ?_ ?_) <;> clear hK K
 ·exact aN
 refine sW rfl rfl (fun K hK => ?_) sT
 go_wp2
 refine qN _ _ _ _ (hK _ _ ?_ ?_) <;> clear hK K
 ·exact aN
 refine sN ?_
 clear HRO HRM HC c0 c1 c2 c3 c4 c5 c6 c7 c8 c9 c10 c11 c12 c13
 go_wp2
 have hX : ((((((((((((((w2).setCell ⟨w.heap.size, 0, none⟩ (.int .i64 s.n.id)).setCell ⟨w.heap.size, 1, none⟩ (.int .i64 s.n.term)).setCell ⟨w.heap.size, 2, none⟩ (.int .i64 s.n.vote)).setCell ⟨w.heap.size, 3, none⟩ (.slice A3 s.n.log.length k3)).setCell ⟨w.heap.size, 4, none⟩ (.int .i64 s.n.form)).setCell ⟨w.heap.size, 5, none⟩ (.int .i64 s.n.role)).setCell ⟨w.heap.size, 6, none⟩ (.int .i64 s.n.commit)).setCell ⟨w.heap.size, 7, none⟩ (.slice A7 s.n.votes.length k7)).setCell ⟨w.heap.size, 8, none⟩ (.slice A8 s.n.nxt.length k8)).setCell ⟨w.heap.size, 9, none⟩ (.slice A9 s.n.mtch.length k9)).setCell ⟨w.heap.size, 10, none⟩ (.slice A10 s.n.forms.length k10)).setCell ⟨w.heap.size, 11, none⟩ (.int .i64 s.n.clock)).setCell ⟨w.heap.size, 12, none⟩ (.int .i64 s.n.due)).heap[w.heap.size]? = some (.cells #[.int .i64 s.n.id, .int .i64 s.n.term, .int .i64 s.n.vote, .slice A3 s.n.log.length k3, .int .i64 s.n.form, .int .i64 s.n.role, .int .i64 s.n.commit, .slice A7 s.n.votes.length k7, .slice A8 s.n.nxt.length k8, .slice A9 s.n.mtch.length k9, .slice A10 s.n.forms.length k10, .int .i64 s.n.clock, .int .i64 s.n.due] 28 (0, 0)) := set13 HX2.out
 have hB : Below w.heap.size w ((((((((((((((w2).setCell ⟨w.heap.size, 0, none⟩ (.int .i64 s.n.id)).setCell ⟨w.heap.size, 1, none⟩ (.int .i64 s.n.term)).setCell ⟨w.heap.size, 2, none⟩ (.int .i64 s.n.vote)).setCell ⟨w.heap.size, 3, none⟩ (.slice A3 s.n.log.length k3)).setCell ⟨w.heap.size, 4, none⟩ (.int .i64 s.n.form)).setCell ⟨w.heap.size, 5, none⟩ (.int .i64 s.n.role)).setCell ⟨w.heap.size, 6, none⟩ (.int .i64 s.n.commit)).setCell ⟨w.heap.size, 7, none⟩ (.slice A7 s.n.votes.length k7)).setCell ⟨w.heap.size, 8, none⟩ (.slice A8 s.n.nxt.length k8)).setCell ⟨w.heap.size, 9, none⟩ (.slice A9 s.n.mtch.length k9)).setCell ⟨w.heap.size, 10, none⟩ (.slice A10 s.n.forms.length k10)).setCell ⟨w.heap.size, 11, none⟩ (.int .i64 s.n.clock)).setCell ⟨w.heap.size, 12, none⟩ (.int .i64 s.n.due)) := below13 HB2.out (Nat.le_refl _)
 have far : ∀ k, k ≠ w.heap.size → ((((((((((((((w2).setCell ⟨w.heap.size, 0, none⟩ (.int .i64 s.n.id)).setCell ⟨w.heap.size, 1, none⟩ (.int .i64 s.n.term)).setCell ⟨w.heap.size, 2, none⟩ (.int .i64 s.n.vote)).setCell ⟨w.heap.size, 3, none⟩ (.slice A3 s.n.log.length k3)).setCell ⟨w.heap.size, 4, none⟩ (.int .i64 s.n.form)).setCell ⟨w.heap.size, 5, none⟩ (.int .i64 s.n.role)).setCell ⟨w.heap.size, 6, none⟩ (.int .i64 s.n.commit)).setCell ⟨w.heap.size, 7, none⟩ (.slice A7 s.n.votes.length k7)).setCell ⟨w.heap.size, 8, none⟩ (.slice A8 s.n.nxt.length k8)).setCell ⟨w.heap.size, 9, none⟩ (.slice A9 s.n.mtch.length k9)).setCell ⟨w.heap.size, 10, none⟩ (.slice A10 s.n.forms.length k10)).setCell ⟨w.heap.size, 11, none⟩ (.int .i64 s.n.clock)).setCell ⟨w.heap.size, 12, none⟩ (.int .i64 s.n.due)).heap[k]? = w2.heap[k]? := fun k hk' => far13 hk'
 obtain ⟨wf, hwf⟩ : ∃ W, W = (((((((((((((w2).setCell ⟨w.heap.size, 0, none⟩ (.int .i64 s.n.id)).setCell ⟨w.heap.size, 1, none⟩ (.int .i64 s.n.term)).setCell ⟨w.heap.size, 2, none⟩ (.int .i64 s.n.vote)).setCell ⟨w.heap.size, 3, none⟩ (.slice A3 s.n.log.length k3)).setCell ⟨w.heap.size, 4, none⟩ (.int .i64 s.n.form)).setCell ⟨w.heap.size, 5, none⟩ (.int .i64 s.n.role)).setCell ⟨w.heap.size, 6, none⟩ (.int .i64 s.n.commit)).setCell ⟨w.heap.size, 7, none⟩ (.slice A7 s.n.votes.length k7)).setCell ⟨w.heap.size, 8, none⟩ (.slice A8 s.n.nxt.length k8)).setCell ⟨w.heap.size, 9, none⟩ (.slice A9 s.n.mtch.length k9)).setCell ⟨w.heap.size, 10, none⟩ (.slice A10 s.n.forms.length k10)).setCell ⟨w.heap.size, 11, none⟩ (.int .i64 s.n.clock)).setCell ⟨w.heap.size, 12, none⟩ (.int .i64 s.n.due) := ⟨_, rfl⟩
 rw [← hwf] at hX hB far ⊢
 clear hwf
 obtain ⟨z0, z1, z2, z3, z4, z5, z6, z7, z8, z9, z10, z11, z12⟩ := MM.cells13 hX
 refine bodyPost_ret (v := .tuple #[.agg #[.int .i64 s.n.id, .int .i64 s.n.term, .int .i64 s.n.vote, .slice A3 s.n.log.length k3, .int .i64 s.n.form, .int .i64 s.n.role, .int .i64 s.n.commit, .slice A7 s.n.votes.length k7, .slice A8 s.n.nxt.length k8, .slice A9 s.n.mtch.length k9, .slice A10 s.n.forms.length k10, .int .i64 s.n.clock, .int .i64 s.n.due], .slice A2 s.out.length k2]) (by simp [results, Try.results64, go_sem, z0, z1, z2, z3, z4, z5, z6, z7, z8, z9, z10, z11, z12]) rfl ⟨.slice A2 s.out.length k2, ?_, ?_, ?_, ?_⟩
 ·unfold nodeC
  rw [E3.out, E7.out, E8.out, E9.out, E10.out]
 ·exact H.out.nodeV.step fun k _ hk => hB.block k hk
 ·refine ⟨cs, ((HR2.out.rd.mono (ok' := fun k => B ≤ k ∧ w.heap.size + 1 ≤ k) fun k hk _ => ⟨by have := (HR2.out.lt k hk).1; omega, (HR2.out.lt k hk).1⟩).step fun k hk _ => far k (by have := hk.2; omega)).mono fun k hk _ => hk.1, (HM2.out.step fun k hk _ => far k (by have := hk.2; omega)).mono fun k hk _ => hk.1⟩
 ·exact hB
end Go.Proofs.Ytnkmljdkokcdjaa
namespace Go.Proofs.Ytnkmljdkokcdjaa
open Go.RowKit Fed
attribute [local go_sem high] Fed.max2_int Fed.min2_int Fed.MA Fed.ZN Fed.ZM
def Stop (p : Prop) : Prop := p
theorem stopped {p : Prop} (h : Stop p) : p := h
theorem go_on {p : Prop} (h : p) : Stop p := h
theorem row_of_owns {w : World} {base : Nat} {e : TypeId} {sz g n c : Nat} {xs : List Value} (h : w.ownsRow base e sz (.slice (some ⟨g, 0, none⟩) n c) n xs) : MM.Row w base e sz (.slice (some ⟨g, 0, none⟩) n c) n xs (some g) := by
 obtain ⟨h1, h2 | ⟨g', cap, cur, e1, h3, h4, h5, h6, h7, h8⟩⟩ := h
 ·simp at h2
 ·simp only [Value.slice.injEq, Option.some.injEq, Addr.mk.injEq] at e1
  obtain ⟨⟨rfl, _⟩, _, rfl⟩ := e1
  exact ⟨h1, c, cur, rfl, h3, h4, h5, h6, h7, h8⟩
theorem made_bool (k : Nat) : (madeCells (Value.bool false).cells (k * 1)).toList = boolsC (List.replicate k false) := by
 apply List.ext_getElem
 ·simp [madeCells, boolsC]
 ·intro i h1 h2
  simp [madeCells, boolsC, Value.cells, Nat.mod_one]
@[irreducible] def freshN (n : Fed.Node) (k : Nat) : Fed.Node := { n with role := 0, commit := 0, clock := 0, due := 5 + 2 * n.id, votes := List.replicate k false, nxt := List.replicate k 1, mtch := List.replicate k 0, forms := List.replicate k 1 }
theorem fresh_any (w : World) (n : Fed.Node) (Al : Option Addr) (ll kl : Nat) (v7 v8 v9 v10 : Value) (k : Nat) (hk : k ≤ 1000) (hi0 : -1000000000 ≤ n.id) (hi1 : n.id ≤ 1000000000) :
  Calls Try.prog 58 #[.agg (nodeC n (.slice Al ll kl) v7 v8 v9 v10), .int .i64 k] w
   fun e w' => ∃ r7 r8 r9 r10, e = .returned (.agg (nodeC (freshN n k) (.slice Al ll kl) r7 r8 r9 r10)) ∧ Below w.heap.size w w'
    ∧ MM.Rd w' (fun j => w.heap.size ≤ j) 1 r7 k (boolsC (List.replicate k false)) ∧ MM.Rd w' (fun j => w.heap.size ≤ j) 1 r8 k (intsC (List.replicate k 1))
    ∧ MM.Rd w' (fun j => w.heap.size ≤ j) 1 r9 k (intsC (List.replicate k 0)) ∧ MM.Rd w' (fun j => w.heap.size ≤ j) 1 r10 k (intsC (List.replicate k 1)) := by
 unfold freshN nodeC
 obtain ⟨i0, hi, hz0, hz1, hz2⟩ := info_parts info4
 go_enter Try.func58, Try.ntmps58
 go_wp2_with (at_make; refine stopped ?_)
 have hX1 : ((w.alloc (.cells #[.int .i64 n.id, .int .i64 n.term, .int .i64 n.vote, .slice Al ll kl, .int .i64 n.form, .int .i64 0, .int .i64 0, v7, v8, v9, v10, .int .i64 0, .int .i64 (5 + 2 * n.id)] 28)).alloc (.cells ZN 28)).heap[w.heap.size]? = some (.cells #[.int .i64 n.id, .int .i64 n.term, .int .i64 n.vote, .slice Al ll kl, .int .i64 n.form, .int .i64 0, .int .i64 0, v7, v8, v9, v10, .int .i64 0, .int .i64 (5 + 2 * n.id)] 28 (0, 0)) := (Below.heap_alloc _ _ _ (by simp)).trans (MM.alloc_new w _)
 have hY1 : ((w.alloc (.cells #[.int .i64 n.id, .int .i64 n.term, .int .i64 n.vote, .slice Al ll kl, .int .i64 n.form, .int .i64 0, .int .i64 0, v7, v8, v9, v10, .int .i64 0, .int .i64 (5 + 2 * n.id)] 28)).alloc (.cells ZN 28)).heap[w.heap.size + 1]? = some (.cells ZN 28 (0, 0)) := MM.alloc_new1 w _ _
 have hB1 : Below w.heap.size w ((w.alloc (.cells #[.int .i64 n.id, .int .i64 n.term, .int .i64 n.vote, .slice Al ll kl, .int .i64 n.form, .int .i64 0, .int .i64 0, v7, v8, v9, v10, .int .i64 0, .int .i64 (5 + 2 * n.id)] 28)).alloc (.cells ZN 28)) := ((Below.refl _ w).alloc (Nat.le_refl _) _).alloc (by simp) _
 obtain ⟨w1, hw1⟩ : ∃ W, W = (w.alloc (.cells #[.int .i64 n.id, .int .i64 n.term, .int .i64 n.vote, .slice Al ll kl, .int .i64 n.form, .int .i64 0, .int .i64 0, v7, v8, v9, v10, .int .i64 0, .int .i64 (5 + 2 * n.id)] 28)).alloc (.cells ZN 28) := ⟨_, rfl⟩
 rw [← hw1] at hX1 hY1 hB1 ⊢
 clear hw1
 have hz : w.heap.size + 2 ≤ w1.heap.size := MM.blk_lt hY1
 refine go_on ?_
 refine wpList_make_full w1 rfl (.tmp 13) (.tmp 13) 25 rfl w.heap.size 4 i0 _ 1 Try.underlying25 hi hz0 hz1 .i64 .i64 k k k rfl rfl rfl rfl (by rw [hz2]; omega) (by simp only [maxLen]; omega) (by omega) ?_
 intro w2 hr2 hg2
 have hR2 := row_of_owns hr2
 rw [made_bool] at hR2
 clear hr2
 have hX2 := (hg2.block w.heap.size (by omega) (by simp)).trans hX1
 have hY2 := (hg2.block (w.heap.size + 1) (by omega) (by simp)).trans hY1
 have hB2 := hB1.grown hg2 (by omega) (fun k h => absurd h (by simp))
 have hg2s := hg2.size
 have hR2 : MM.Row w2 (w.heap.size + 2) 4 1 (.slice (some ⟨w1.heap.size, 0, none⟩) k k) k (boolsC (List.replicate k false)) (some w1.heap.size) := by
  obtain ⟨q1, c, u, q2, q3, q4⟩ := hR2
  exact ⟨q1, c, u, q2, hz, q4⟩
 obtain ⟨A7, hA7⟩ : ∃ A, A = (some (⟨w1.heap.size, 0, none⟩ : Addr)) := ⟨_, rfl⟩
 obtain ⟨o7, ho7⟩ : ∃ A, A = (some w1.heap.size) := ⟨_, rfl⟩
 rw [← hA7, ← ho7] at hR2
 rw [← hA7]
 clear hA7 ho7 hg2 hX1 hY1 hB1
 obtain ⟨k7, hk7⟩ : ∃ c, c = k := ⟨k, rfl⟩
 have c7 : w2.cell? ⟨w.heap.size, 7, none⟩ = some (v7) := MM.cell_blk hX2 rfl
 have f7 : w2.frozen? ⟨w.heap.size, 7, none⟩ = false := MM.free_blk hX2
 have HX2 := Hd hX2
 have HY2 := Hd hY2
 have HB2 := Hd hB2
 have HR2 := Hd hR2
 clear hX2 hY2 hB2 hR2
 go_wp2_with fail
 have hX3 : (w2.setCell ⟨w.heap.size, 7, none⟩ (.slice A7 k k)).heap[w.heap.size]? = some (.cells #[.int .i64 n.id, .int .i64 n.term, .int .i64 n.vote, .slice Al ll kl, .int .i64 n.form, .int .i64 0, .int .i64 0, .slice A7 k k, v8, v9, v10, .int .i64 0, .int .i64 (5 + 2 * n.id)] 28 (0, 0)) := setCell_blk _ HX2.out
 have hY3 := (Below.heap_setCell w2 ⟨w.heap.size, 7, none⟩ (.slice A7 k k) (w.heap.size + 1) (by simp)).trans HY2.out
 have hB3 := HB2.out.setCell (p := ⟨w.heap.size, 7, none⟩) (Nat.le_refl _) (.slice A7 k k)
 have hR3 := HR2.out.far (p := ⟨w.heap.size, 7, none⟩) (fun j h => by have := (HR2.out.lt j h).1; show j ≠ w.heap.size; omega) (.slice A7 k k)
 have hz3 : w.heap.size + 2 ≤ (w2.setCell ⟨w.heap.size, 7, none⟩ (.slice A7 k k)).heap.size := MM.blk_lt hY3
 obtain ⟨w9, hw9⟩ : ∃ W, W = w2.setCell ⟨w.heap.size, 7, none⟩ (.slice A7 k k) := ⟨_, rfl⟩
 rw [← hw9] at hX3 hY3 hB3 hR3 hz3 ⊢
 clear hw9 HX2 HY2 HB2 HR2 c7 f7
 refine (filled_int _ k 1 hk).mono ?_
 rintro e w3 ⟨r8, ob8, rfl, hr8, hb3⟩
 go_wp2_with fail
 refine (filled_int _ k 0 hk).mono ?_
 rintro e w4 ⟨r9, ob9, rfl, hr9, hb4⟩
 have hz4 := hb3.size
 have hz5 := hb4.size
 go_wp2_with fail
 refine (filled_int _ k 1 hk).mono ?_
 rintro e w5 ⟨r10, ob10, rfl, hr10, hb5⟩
 obtain ⟨A8, k8, rfl, _, _⟩ := hr8.slice
 obtain ⟨A9, k9, rfl, _, _⟩ := hr9.slice
 obtain ⟨A10, k10, rfl, _, _⟩ := hr10.slice
 have hz6 := hb5.size
 have hX5 := (hb5.block w.heap.size (by omega)).trans ((hb4.block w.heap.size (by omega)).trans ((hb3.block w.heap.size (by omega)).trans hX3))
 have hY5 := (hb5.block (w.heap.size + 1) (by omega)).trans ((hb4.block (w.heap.size + 1) (by omega)).trans ((hb3.block (w.heap.size + 1) (by omega)).trans hY3))
 have hB5 : Below w.heap.size w w5 := ((hB3.trans (hb3.mono (by omega))).trans (hb4.mono (by omega))).trans (hb5.mono (by omega))
 have R7 := Hd (((hR3.below hb3).below hb4).below hb5)
 have R8 := Hd (((hr8.below hb4).below hb5).lower (base' := w.heap.size + 2) (by omega))
 have R9 := Hd ((hr9.below hb5).lower (base' := w.heap.size + 2) (by omega))
 have R10 := Hd (hr10.lower (base' := w.heap.size + 2) (by omega))
 clear hr8 hr9 hr10 hR3 hb3 hb4 hb5 hX3 hY3 hB3
 obtain ⟨c0, c1, c2, c3, c4, c5, c6, c7, c8, c9, c10, c11, c12⟩ := MM.cells13 hX5
 have f8 : w5.frozen? ⟨w.heap.size, 8, none⟩ = false := MM.free_blk hX5
 have f9 : w5.frozen? ⟨w.heap.size, 9, none⟩ = false := MM.free_blk hX5
 have f10 : w5.frozen? ⟨w.heap.size, 10, none⟩ = false := MM.free_blk hX5
 obtain ⟨y0, y1, y2, y3, y4, y5, y6, y7, y8, y9, y10, y11, y12⟩ := MM.cells13 hY5
 obtain ⟨g0, g1, g2, g3, g4, g5, g6, g7, g8, g9, g10, g11, g12⟩ := MM.frees13 hY5
 have HX5 := Hd hX5
 have HY5 := Hd hY5
 have HB5 := Hd hB5
 clear hX5 hY5 hB5
 go_wp2_with fail
 have hYf : ((((((((((((((((w5.setCell ⟨w.heap.size, 8, none⟩ (.slice A8 k k8)).setCell ⟨w.heap.size, 9, none⟩ (.slice A9 k k9)).setCell ⟨w.heap.size, 10, none⟩ (.slice A10 k k10)).setCell ⟨w.heap.size + 1, 0, none⟩ (.int .i64 n.id)).setCell ⟨w.heap.size + 1, 1, none⟩ (.int .i64 n.term)).setCell ⟨w.heap.size + 1, 2, none⟩ (.int .i64 n.vote)).setCell ⟨w.heap.size + 1, 3, none⟩ (.slice Al ll kl)).setCell ⟨w.heap.size + 1, 4, none⟩ (.int .i64 n.form)).setCell ⟨w.heap.size + 1, 5, none⟩ (.int .i64 0)).setCell ⟨w.heap.size + 1, 6, none⟩ (.int .i64 0)).setCell ⟨w.heap.size + 1, 7, none⟩ (.slice A7 k k)).setCell ⟨w.heap.size + 1, 8, none⟩ (.slice A8 k k8)).setCell ⟨w.heap.size + 1, 9, none⟩ (.slice A9 k k9)).setCell ⟨w.heap.size + 1, 10, none⟩ (.slice A10 k k10)).setCell ⟨w.heap.size + 1, 11, none⟩ (.int .i64 0)).setCell ⟨w.heap.size + 1, 12, none⟩ (.int .i64 (5 + 2 * n.id))).heap[w.heap.size + 1]? = some (.cells #[.int .i64 n.id, .int .i64 n.term, .int .i64 n.vote, .slice Al ll kl, .int .i64 n.form, .int .i64 0, .int .i64 0, .slice A7 k k, .slice A8 k k8, .slice A9 k k9, .slice A10 k k10, .int .i64 0, .int .i64 (5 + 2 * n.id)] 28 (0, 0)) := set13 (((Below.heap_setCell _ _ _ _ (by simp)).trans ((Below.heap_setCell _ _ _ _ (by simp)).trans (Below.heap_setCell _ _ _ _ (by simp)))).trans HY5.out)
 have hBf : Below w.heap.size w ((((((((((((((((w5.setCell ⟨w.heap.size, 8, none⟩ (.slice A8 k k8)).setCell ⟨w.heap.size, 9, none⟩ (.slice A9 k k9)).setCell ⟨w.heap.size, 10, none⟩ (.slice A10 k k10)).setCell ⟨w.heap.size + 1, 0, none⟩ (.int .i64 n.id)).setCell ⟨w.heap.size + 1, 1, none⟩ (.int .i64 n.term)).setCell ⟨w.heap.size + 1, 2, none⟩ (.int .i64 n.vote)).setCell ⟨w.heap.size + 1, 3, none⟩ (.slice Al ll kl)).setCell ⟨w.heap.size + 1, 4, none⟩ (.int .i64 n.form)).setCell ⟨w.heap.size + 1, 5, none⟩ (.int .i64 0)).setCell ⟨w.heap.size + 1, 6, none⟩ (.int .i64 0)).setCell ⟨w.heap.size + 1, 7, none⟩ (.slice A7 k k)).setCell ⟨w.heap.size + 1, 8, none⟩ (.slice A8 k k8)).setCell ⟨w.heap.size + 1, 9, none⟩ (.slice A9 k k9)).setCell ⟨w.heap.size + 1, 10, none⟩ (.slice A10 k k10)).setCell ⟨w.heap.size + 1, 11, none⟩ (.int .i64 0)).setCell ⟨w.heap.size + 1, 12, none⟩ (.int .i64 (5 + 2 * n.id))) := below13 (((HB5.out.setCell (p := ⟨w.heap.size, 8, none⟩) (Nat.le_refl _) _).setCell (p := ⟨w.heap.size, 9, none⟩) (Nat.le_refl _) _).setCell (p := ⟨w.heap.size, 10, none⟩) (Nat.le_refl _) _) (by omega)
 have far : ∀ j, w.heap.size + 2 ≤ j → ((((((((((((((((w5.setCell ⟨w.heap.size, 8, none⟩ (.slice A8 k k8)).setCell ⟨w.heap.size, 9, none⟩ (.slice A9 k k9)).setCell ⟨w.heap.size, 10, none⟩ (.slice A10 k k10)).setCell ⟨w.heap.size + 1, 0, none⟩ (.int .i64 n.id)).setCell ⟨w.heap.size + 1, 1, none⟩ (.int .i64 n.term)).setCell ⟨w.heap.size + 1, 2, none⟩ (.int .i64 n.vote)).setCell ⟨w.heap.size + 1, 3, none⟩ (.slice Al ll kl)).setCell ⟨w.heap.size + 1, 4, none⟩ (.int .i64 n.form)).setCell ⟨w.heap.size + 1, 5, none⟩ (.int .i64 0)).setCell ⟨w.heap.size + 1, 6, none⟩ (.int .i64 0)).setCell ⟨w.heap.size + 1, 7, none⟩ (.slice A7 k k)).setCell ⟨w.heap.size + 1, 8, none⟩ (.slice A8 k k8)).setCell ⟨w.heap.size + 1, 9, none⟩ (.slice A9 k k9)).setCell ⟨w.heap.size + 1, 10, none⟩ (.slice A10 k k10)).setCell ⟨w.heap.size + 1, 11, none⟩ (.int .i64 0)).setCell ⟨w.heap.size + 1, 12, none⟩ (.int .i64 (5 + 2 * n.id))).heap[j]? = w5.heap[j]? := fun j hj => (far13 (by omega)).trans ((Below.heap_setCell _ _ _ _ (by show j ≠ w.heap.size; omega)).trans ((Below.heap_setCell _ _ _ _ (by show j ≠ w.heap.size; omega)).trans (Below.heap_setCell _ _ _ _ (by show j ≠ w.heap.size; omega))))
 obtain ⟨wf, hwf⟩ : ∃ W, W = (((((((((((((((w5.setCell ⟨w.heap.size, 8, none⟩ (.slice A8 k k8)).setCell ⟨w.heap.size, 9, none⟩ (.slice A9 k k9)).setCell ⟨w.heap.size, 10, none⟩ (.slice A10 k k10)).setCell ⟨w.heap.size + 1, 0, none⟩ (.int .i64 n.id)).setCell ⟨w.heap.size + 1, 1, none⟩ (.int .i64 n.term)).setCell ⟨w.heap.size + 1, 2, none⟩ (.int .i64 n.vote)).setCell ⟨w.heap.size + 1, 3, none⟩ (.slice Al ll kl)).setCell ⟨w.heap.size + 1, 4, none⟩ (.int .i64 n.form)).setCell ⟨w.heap.size + 1, 5, none⟩ (.int .i64 0)).setCell ⟨w.heap.size + 1, 6, none⟩ (.int .i64 0)).setCell ⟨w.heap.size + 1, 7, none⟩ (.slice A7 k k)).setCell ⟨w.heap.size + 1, 8, none⟩ (.slice A8 k k8)).setCell ⟨w.heap.size + 1, 9, none⟩ (.slice A9 k k9)).setCell ⟨w.heap.size + 1, 10, none⟩ (.slice A10 k k10)).setCell ⟨w.heap.size + 1, 11, none⟩ (.int .i64 0)).setCell ⟨w.heap.size + 1, 12, none⟩ (.int .i64 (5 + 2 * n.id)) := ⟨_, rfl⟩
 rw [← hwf] at hYf hBf far ⊢
 clear hwf
 obtain ⟨z0, z1, z2, z3, z4, z5, z6, z7, z8, z9, z10, z11, z12⟩ := MM.cells13 hYf
 refine bodyPost_ret (v := .agg #[.int .i64 n.id, .int .i64 n.term, .int .i64 n.vote, .slice Al ll kl, .int .i64 n.form, .int .i64 0, .int .i64 0, .slice A7 k k, .slice A8 k k8, .slice A9 k k9, .slice A10 k k10, .int .i64 0, .int .i64 (5 + 2 * n.id)]) (by simp [results, Try.results58, go_sem, z0, z1, z2, z3, z4, z5, z6, z7, z8, z9, z10, z11, z12]) rfl ⟨_, _, _, _, rfl, hBf, ?_, ?_, ?_, ?_⟩
 ·exact (R7.out.step (w1 := wf) fun j hj _ => far j (R7.out.lt j hj).1).rd.mono fun j hj _ => by have := (R7.out.lt j hj).1; omega
 ·exact (R8.out.step (w1 := wf) fun j hj _ => far j (R8.out.lt j hj).1).rd.mono fun j hj _ => by have := (R8.out.lt j hj).1; omega
 ·exact (R9.out.step (w1 := wf) fun j hj _ => far j (R9.out.lt j hj).1).rd.mono fun j hj _ => by have := (R9.out.lt j hj).1; omega
 ·exact (R10.out.step (w1 := wf) fun j hj _ => far j (R10.out.lt j hj).1).rd.mono fun j hj _ => by have := (R10.out.lt j hj).1; omega
end Go.Proofs.Ytnkmljdkokcdjaa
namespace Go.Proofs.Ytnkmljdkokcdjaa
open Go.RowKit Fed
attribute [local go_sem high] Fed.max2_int Fed.min2_int
@[irreducible] def newN (id : Int) (k : Nat) (form : Int) : Fed.Node := { id := id, term := 0, vote := -1, log := [], form := form, role := 0, commit := 0, votes := List.replicate k false, nxt := List.replicate k 1, mtch := List.replicate k 0, forms := List.replicate k 1, clock := 0, due := 5 + 2 * id }
def blankN (id form : Int) : Fed.Node := { id := id, term := 0, vote := -1, log := [], form := form, role := 0, commit := 0, votes := [], nxt := [], mtch := [], forms := [], clock := 0, due := 0 }
theorem fresh_blank (w : World) (id form : Int) (k : Nat) (hk : k ≤ 1000) (hi0 : -1000000000 ≤ id) (hi1 : id ≤ 1000000000) :
  Calls Try.prog 58 #[.agg #[.int .i64 id, .int .i64 0, .int .i64 (-1), .slice none 0 0, .int .i64 form, .int .i64 0, .int .i64 0, .slice none 0 0, .slice none 0 0, .slice none 0 0, .slice none 0 0, .int .i64 0, .int .i64 0], .int .i64 k] w
   fun e w' => ∃ A7 k7 A8 k8 A9 k9 A10 k10, e = .returned (.agg #[.int .i64 id, .int .i64 0, .int .i64 (-1), .slice none 0 0, .int .i64 form, .int .i64 0, .int .i64 0, .slice A7 k k7, .slice A8 k k8, .slice A9 k k9, .slice A10 k k10, .int .i64 0, .int .i64 (5 + 2 * id)]) ∧ Below w.heap.size w w'
    ∧ MM.Rd w' (fun j => w.heap.size ≤ j) 1 (.slice A7 k k7) k (boolsC (List.replicate k false)) ∧ MM.Rd w' (fun j => w.heap.size ≤ j) 1 (.slice A8 k k8) k (intsC (List.replicate k 1))
    ∧ MM.Rd w' (fun j => w.heap.size ≤ j) 1 (.slice A9 k k9) k (intsC (List.replicate k 0)) ∧ MM.Rd w' (fun j => w.heap.size ≤ j) 1 (.slice A10 k k10) k (intsC (List.replicate k 1)) := by
 refine (fresh_any w (blankN id form) none 0 0 (.slice none 0 0) (.slice none 0 0) (.slice none 0 0) (.slice none 0 0) k hk hi0 hi1).mono ?_
 rintro e w' ⟨r7, r8, r9, r10, rfl, hb, h7, h8, h9, h10⟩
 obtain ⟨A7, k7, rfl, _, _⟩ := h7.slice
 obtain ⟨A8, k8, rfl, _, _⟩ := h8.slice
 obtain ⟨A9, k9, rfl, _, _⟩ := h9.slice
 obtain ⟨A10, k10, rfl, _, _⟩ := h10.slice
 exact ⟨A7, k7, A8, k8, A9, k9, A10, k10, by unfold freshN nodeC blankN; rfl, hb, h7, h8, h9, h10⟩
theorem new_any (w : World) (id form : Int) (k : Nat) (hk : k ≤ 1000) (hi0 : -1000000000 ≤ id) (hi1 : id ≤ 1000000000) :
  Calls Try.prog 24 #[.int .i64 id, .int .i64 k, .int .i64 form] w
   fun e w' => ∃ A7 k7 A8 k8 A9 k9 A10 k10, e = .returned (.agg #[.int .i64 id, .int .i64 0, .int .i64 (-1), .slice none 0 0, .int .i64 form, .int .i64 0, .int .i64 0, .slice A7 k k7, .slice A8 k k8, .slice A9 k k9, .slice A10 k k10, .int .i64 0, .int .i64 (5 + 2 * id)]) ∧ Below w.heap.size w w' ∧ NodeV w' (fun j => w.heap.size ≤ j) (newN id k form) (.slice none 0 0) (.slice A7 k k7) (.slice A8 k k8) (.slice A9 k k9) (.slice A10 k k10) := by
 go_enter Try.func24, Try.ntmps24
 go_wp2_with fail
 refine (fresh_blank _ id form k hk hi0 hi1).mono ?_
 rintro e w2 ⟨A7, k7, A8, k8, A9, k9, A10, k10, rfl, hb2, h7, h8, h9, h10⟩
 have hX2 := (hb2.block w.heap.size (by simp)).trans (MM.alloc_new w (.cells ZN 28))
 have hB2 : Below w.heap.size w w2 := ((Below.refl _ w).alloc (Nat.le_refl _) _).trans (hb2.mono (by simp))
 clear hb2
 obtain ⟨y0, y1, y2, y3, y4, y5, y6, y7, y8, y9, y10, y11, y12⟩ := MM.cells13 hX2
 obtain ⟨g0, g1, g2, g3, g4, g5, g6, g7, g8, g9, g10, g11, g12⟩ := MM.frees13 hX2
 have HX2 := Hd hX2
 have HB2 := Hd hB2
 have R7 := Hd h7
 have R8 := Hd h8
 have R9 := Hd h9
 have R10 := Hd h10
 clear hX2 hB2 h7 h8 h9 h10
 go_wp2_with fail
 have hYf : ((((((((((((((w2).setCell ⟨w.heap.size, 0, none⟩ (.int .i64 id)).setCell ⟨w.heap.size, 1, none⟩ (.int .i64 0)).setCell ⟨w.heap.size, 2, none⟩ (.int .i64 (-1))).setCell ⟨w.heap.size, 3, none⟩ (.slice none 0 0)).setCell ⟨w.heap.size, 4, none⟩ (.int .i64 form)).setCell ⟨w.heap.size, 5, none⟩ (.int .i64 0)).setCell ⟨w.heap.size, 6, none⟩ (.int .i64 0)).setCell ⟨w.heap.size, 7, none⟩ (.slice A7 k k7)).setCell ⟨w.heap.size, 8, none⟩ (.slice A8 k k8)).setCell ⟨w.heap.size, 9, none⟩ (.slice A9 k k9)).setCell ⟨w.heap.size, 10, none⟩ (.slice A10 k k10)).setCell ⟨w.heap.size, 11, none⟩ (.int .i64 0)).setCell ⟨w.heap.size, 12, none⟩ (.int .i64 (5 + 2 * id))).heap[w.heap.size]? = some (.cells #[.int .i64 id, .int .i64 0, .int .i64 (-1), .slice none 0 0, .int .i64 form, .int .i64 0, .int .i64 0, .slice A7 k k7, .slice A8 k k8, .slice A9 k k9, .slice A10 k k10, .int .i64 0, .int .i64 (5 + 2 * id)] 28 (0, 0)) := set13 HX2.out
 have hBf : Below w.heap.size w ((((((((((((((w2).setCell ⟨w.heap.size, 0, none⟩ (.int .i64 id)).setCell ⟨w.heap.size, 1, none⟩ (.int .i64 0)).setCell ⟨w.heap.size, 2, none⟩ (.int .i64 (-1))).setCell ⟨w.heap.size, 3, none⟩ (.slice none 0 0)).setCell ⟨w.heap.size, 4, none⟩ (.int .i64 form)).setCell ⟨w.heap.size, 5, none⟩ (.int .i64 0)).setCell ⟨w.heap.size, 6, none⟩ (.int .i64 0)).setCell ⟨w.heap.size, 7, none⟩ (.slice A7 k k7)).setCell ⟨w.heap.size, 8, none⟩ (.slice A8 k k8)).setCell ⟨w.heap.size, 9, none⟩ (.slice A9 k k9)).setCell ⟨w.heap.size, 10, none⟩ (.slice A10 k k10)).setCell ⟨w.heap.size, 11, none⟩ (.int .i64 0)).setCell ⟨w.heap.size, 12, none⟩ (.int .i64 (5 + 2 * id))) := below13 HB2.out (Nat.le_refl _)
 have far : ∀ j, w.heap.size + 1 ≤ j → ((((((((((((((w2).setCell ⟨w.heap.size, 0, none⟩ (.int .i64 id)).setCell ⟨w.heap.size, 1, none⟩ (.int .i64 0)).setCell ⟨w.heap.size, 2, none⟩ (.int .i64 (-1))).setCell ⟨w.heap.size, 3, none⟩ (.slice none 0 0)).setCell ⟨w.heap.size, 4, none⟩ (.int .i64 form)).setCell ⟨w.heap.size, 5, none⟩ (.int .i64 0)).setCell ⟨w.heap.size, 6, none⟩ (.int .i64 0)).setCell ⟨w.heap.size, 7, none⟩ (.slice A7 k k7)).setCell ⟨w.heap.size, 8, none⟩ (.slice A8 k k8)).setCell ⟨w.heap.size, 9, none⟩ (.slice A9 k k9)).setCell ⟨w.heap.size, 10, none⟩ (.slice A10 k k10)).setCell ⟨w.heap.size, 11, none⟩ (.int .i64 0)).setCell ⟨w.heap.size, 12, none⟩ (.int .i64 (5 + 2 * id))).heap[j]? = w2.heap[j]? := fun j hj => far13 (by omega)
 obtain ⟨wf, hwf⟩ : ∃ W, W = (((((((((((((w2).setCell ⟨w.heap.size, 0, none⟩ (.int .i64 id)).setCell ⟨w.heap.size, 1, none⟩ (.int .i64 0)).setCell ⟨w.heap.size, 2, none⟩ (.int .i64 (-1))).setCell ⟨w.heap.size, 3, none⟩ (.slice none 0 0)).setCell ⟨w.heap.size, 4, none⟩ (.int .i64 form)).setCell ⟨w.heap.size, 5, none⟩ (.int .i64 0)).setCell ⟨w.heap.size, 6, none⟩ (.int .i64 0)).setCell ⟨w.heap.size, 7, none⟩ (.slice A7 k k7)).setCell ⟨w.heap.size, 8, none⟩ (.slice A8 k k8)).setCell ⟨w.heap.size, 9, none⟩ (.slice A9 k k9)).setCell ⟨w.heap.size, 10, none⟩ (.slice A10 k k10)).setCell ⟨w.heap.size, 11, none⟩ (.int .i64 0)).setCell ⟨w.heap.size, 12, none⟩ (.int .i64 (5 + 2 * id)) := ⟨_, rfl⟩
 rw [← hwf] at hYf hBf far ⊢
 clear hwf
 obtain ⟨z0, z1, z2, z3, z4, z5, z6, z7, z8, z9, z10, z11, z12⟩ := MM.cells13 hYf
 refine bodyPost_ret (v := .agg #[.int .i64 id, .int .i64 0, .int .i64 (-1), .slice none 0 0, .int .i64 form, .int .i64 0, .int .i64 0, .slice A7 k k7, .slice A8 k k8, .slice A9 k k9, .slice A10 k k10, .int .i64 0, .int .i64 (5 + 2 * id)]) (by simp [results, Try.results24, go_sem, z0, z1, z2, z3, z4, z5, z6, z7, z8, z9, z10, z11, z12]) rfl ⟨_, _, _, _, _, _, _, _, rfl, hBf, ?_⟩
 unfold newN
 refine ⟨MM.Rd.nil _ _ _ _ _ (by simp [maxLen]), ?_, ?_, ?_, ?_⟩
 ·show MM.Rd _ _ _ _ (List.replicate _ _).length _; rw [List.length_replicate]; exact (R7.out.step (w1 := wf) fun j hj _ => far j (by simpa using hj)).mono fun j hj _ => by simp at hj; omega
 ·show MM.Rd _ _ _ _ (List.replicate _ _).length _; rw [List.length_replicate]; exact (R8.out.step (w1 := wf) fun j hj _ => far j (by simpa using hj)).mono fun j hj _ => by simp at hj; omega
 ·show MM.Rd _ _ _ _ (List.replicate _ _).length _; rw [List.length_replicate]; exact (R9.out.step (w1 := wf) fun j hj _ => far j (by simpa using hj)).mono fun j hj _ => by simp at hj; omega
 ·show MM.Rd _ _ _ _ (List.replicate _ _).length _; rw [List.length_replicate]; exact (R10.out.step (w1 := wf) fun j hj _ => far j (by simpa using hj)).mono fun j hj _ => by simp at hj; omega
end Go.Proofs.Ytnkmljdkokcdjaa
