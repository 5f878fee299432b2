/-
  begin and end of a node at work.
-/
import Derived.WalkKit
import Derived.WalkSpells
import Derived.Lib.Hide
import Derived.Outline
import Derived.Test.YtnkmljdkokcdjaaChecked
import Derived.Test.YtnkmljdkokcdjaaMn
import Derived.Test.YtnkmljdkokcdjaaMem
import Derived.Test.YtnkmljdkokcdjaaFed
import Derived.Test.YtnkmljdkokcdjaaMb
set_option linter.unusedVariables false
set_option linter.unusedSimpArgs false
namespace Go.Proofs.Ytnkmljdkokcdjaa
open Go.RowKit Fed
set_option linter.unusedVariables false
attribute [local go_sem high] Fed.max2_int Fed.min2_int

set_option maxRecDepth 100000 in
set_option maxHeartbeats 4000000 in
theorem begin_any (w : World) (ok : Nat → Prop) (n : Fed.Node) (vl vv vn vm vf : Value) (h : NodeV w ok n vl vv vn vm vf) (l1 : n.log.length ≤ 1000000) (l2 : n.votes.length ≤ 1000) (l3 : n.nxt.length ≤ 1000) (l4 : n.mtch.length ≤ 1000) (l5 : n.forms.length ≤ 1000) :
    Calls Try.prog 59 #[.agg (nodeC n vl vv vn vm vf)] w
      fun e w' => ∃ g μ, e = .returned (.pointer (some ⟨g, 0, none⟩)) ∧ NodeAt w' w.heap.size g ⟨n, []⟩ μ ∧ Below w.heap.size w w' := by
  obtain ⟨Al0, kl0, rfl, _, _⟩ := h.hl.slice
  obtain ⟨Av0, kv0, rfl, _, _⟩ := h.hv.slice
  obtain ⟨An0, kn0, rfl, _, _⟩ := h.hn.slice
  obtain ⟨Am0, km0, rfl, _, _⟩ := h.hm.slice
  obtain ⟨Af0, kf0, rfl, _, _⟩ := h.hf.slice
  have HV := Lib.hid h
  clear h
  unfold nodeC
  go_enter Try.func59, Try.ntmps59
  go_wp2
  refine Go.RT.wp_region_tree [0, 1, 3, 0, 8, 31, 0, 64, 255, 0, 512, 2047, 0, 4096, 16383, 14047, 65535, 131071, 262143, 524287, 1048575, 2097151, 4194303, 8388607, 16777215] (.p 0 (.s 1 (.p 3 (.s 4 (.p 6 (.s 7 (.p 9 (.s 10 (.p 12 (.s 13 (.w 2 [4, 7, 10, 13] (.p 15 (.w 5 [7, 10, 13] (.w 8 [10, 13] (.w 11 [13] (.w 14 [] (.w 16 [] (.p 17 (.w 18 [] (.p 19 (.w 20 [] (.p 21 (.w 22 [] (.p 23 (.w 24 [] .nil .stop)) .stop)) .stop)) .stop)) .stop) .stop) .stop) .stop) .stop)) .stop))))))))))) (by kernel_rfl) (by kernel_rfl) ?_
  (refine Go.RT.step_p rfl (fun K hK => ?_); go_simp; refine hK _ ?_; clear hK K)
  (refine Go.RT.step_s rfl (fun K hK => ?_); go_simp; refine hK _ ?_; clear hK K)
  (refine Go.RT.step_p rfl (fun K hK => ?_); go_simp; refine hK _ ?_; clear hK K)
  (refine Go.RT.step_s rfl (fun K hK => ?_); go_simp; refine hK _ ?_; clear hK K)
  (refine Go.RT.step_p rfl (fun K hK => ?_); go_simp; refine hK _ ?_; clear hK K)
  (refine Go.RT.step_s rfl (fun K hK => ?_); go_simp; refine hK _ ?_; clear hK K)
  (refine Go.RT.step_p rfl (fun K hK => ?_); go_simp; refine hK _ ?_; clear hK K)
  (refine Go.RT.step_s rfl (fun K hK => ?_); go_simp; refine hK _ ?_; clear hK K)
  (refine Go.RT.step_p rfl (fun K hK => ?_); go_simp; refine hK _ ?_; clear hK K)
  (refine Go.RT.step_s rfl (fun K hK => ?_); go_simp; refine hK _ ?_; clear hK K)
  (refine Go.RT.step_w rfl rfl (fun K hK => ?_) Go.RT.step_stop)
  go_wp2_with fail
  refine (clone_entry _ ok _ _ _ (by exact MM.Rd.below HV.out.hl (by repeat (first | exact Below.refl _ _ | refine Below.setCell ?_ (by simp) _ | refine Below.alloc ?_ (by simp) _ | refine Below.drew ?_))) (entsC_one _) (by omega)).mono ?_
  rintro e w1 ⟨cl, ol, rfl, hr1, hb1⟩
  go_wp2_with fail
  have HV1 := Lib.hid ((NodeV.below HV.out (by repeat (first | exact Below.refl _ _ | refine Below.setCell ?_ (by simp) _ | refine Below.alloc ?_ (by simp) _ | refine Below.drew ?_))).below hb1)
  have HBX1 := Lib.hid ((hb1.block w.heap.size (by simp)).trans (MM.alloc_new w (.cells #[.int .i64 n.id, .int .i64 n.term, .int .i64 n.vote, .slice Al0 n.log.length kl0, .int .i64 n.form, .int .i64 n.role, .int .i64 n.commit, .slice Av0 n.votes.length kv0, .slice An0 n.nxt.length kn0, .slice Am0 n.mtch.length km0, .slice Af0 n.forms.length kf0, .int .i64 n.clock, .int .i64 n.due] 28)))
  have HB1 := Lib.hid (show Below w.heap.size w w1 from Below.trans (by repeat (first | exact Below.refl _ _ | refine Below.setCell ?_ (by simp) _ | refine Below.alloc ?_ (by simp) _ | refine Below.drew ?_)) (hb1.mono (by simp)))
  have hz1 : w.heap.size + 1 ≤ w1.heap.size := by have := hb1.size; simpa using this
  have R1_1 := Lib.hid (hr1.lower (base' := w.heap.size + 1) (by simp))
  obtain ⟨Al, kl, rfl, _, _⟩ := hr1.slice
  have x1_3 : w1.cell? ⟨w.heap.size, 3, none⟩ = some (.slice Al0 n.log.length kl0) := MM.cell_blk HBX1.out rfl
  have x1_7 : w1.cell? ⟨w.heap.size, 7, none⟩ = some (.slice Av0 n.votes.length kv0) := MM.cell_blk HBX1.out rfl
  have x1_8 : w1.cell? ⟨w.heap.size, 8, none⟩ = some (.slice An0 n.nxt.length kn0) := MM.cell_blk HBX1.out rfl
  have x1_9 : w1.cell? ⟨w.heap.size, 9, none⟩ = some (.slice Am0 n.mtch.length km0) := MM.cell_blk HBX1.out rfl
  have x1_10 : w1.cell? ⟨w.heap.size, 10, none⟩ = some (.slice Af0 n.forms.length kf0) := MM.cell_blk HBX1.out rfl
  clear hr1 hb1
  refine Go.RT.QK_normal _ _ _ _ (hK _ _ ?_ ?_) <;> clear hK K
  · refine Go.RT.again_one rfl ?_ ?_; · (go_simp <;> rfl)
    refine Go.RT.again_one rfl ?_ ?_; · (go_simp <;> rfl)
    refine Go.RT.again_one rfl ?_ ?_; · (go_simp <;> rfl)
    refine Go.RT.again_one rfl ?_ ?_; · (go_simp <;> rfl)
    exact Go.RT.again_nil
  (refine Go.RT.step_p rfl (fun K hK => ?_); go_simp; refine hK _ ?_; clear hK K)
  (refine Go.RT.step_w rfl rfl (fun K hK => ?_) Go.RT.step_stop)
  go_wp2_with fail
  refine (clone_bool _ ok _ _ _ (by exact HV1.out.hv) (boolsC_one _) (by omega)).mono ?_
  rintro e w2 ⟨cv, ov, rfl, hr2, hb2⟩
  go_wp2_with fail
  have HV2 := Lib.hid (HV1.out.below hb2)
  have HBX2 := Lib.hid ((hb2.block w.heap.size (by omega)).trans HBX1.out)
  have HB2 := Lib.hid (HB1.out.trans (hb2.mono (by omega)))
  have hz2 : w1.heap.size ≤ w2.heap.size := hb2.size
  have R2_2 := Lib.hid hr2
  have R1_2 := Lib.hid (R1_1.out.below hb2)
  clear R1_1
  obtain ⟨Av, kv, rfl, _, _⟩ := hr2.slice
  have x2_3 : w2.cell? ⟨w.heap.size, 3, none⟩ = some (.slice Al0 n.log.length kl0) := MM.cell_blk HBX2.out rfl
  have x2_7 : w2.cell? ⟨w.heap.size, 7, none⟩ = some (.slice Av0 n.votes.length kv0) := MM.cell_blk HBX2.out rfl
  have x2_8 : w2.cell? ⟨w.heap.size, 8, none⟩ = some (.slice An0 n.nxt.length kn0) := MM.cell_blk HBX2.out rfl
  have x2_9 : w2.cell? ⟨w.heap.size, 9, none⟩ = some (.slice Am0 n.mtch.length km0) := MM.cell_blk HBX2.out rfl
  have x2_10 : w2.cell? ⟨w.heap.size, 10, none⟩ = some (.slice Af0 n.forms.length kf0) := MM.cell_blk HBX2.out rfl
  clear hr2 hb2 x1_3 x1_7 x1_8 x1_9 x1_10
  refine Go.RT.QK_normal _ _ _ _ (hK _ _ ?_ ?_) <;> clear hK K
  · refine Go.RT.again_one rfl ?_ ?_; · (go_simp <;> rfl)
    refine Go.RT.again_one rfl ?_ ?_; · (go_simp <;> rfl)
    refine Go.RT.again_one rfl ?_ ?_; · (go_simp <;> rfl)
    exact Go.RT.again_nil
  (refine Go.RT.step_w rfl rfl (fun K hK => ?_) Go.RT.step_stop)
  go_wp2_with fail
  refine (clone_int _ ok _ _ _ (by exact HV2.out.hn) (intsC_one _) (by omega)).mono ?_
  rintro e w3 ⟨cn, on, rfl, hr3, hb3⟩
  go_wp2_with fail
  have HV3 := Lib.hid (HV2.out.below hb3)
  have HBX3 := Lib.hid ((hb3.block w.heap.size (by omega)).trans HBX2.out)
  have HB3 := Lib.hid (HB2.out.trans (hb3.mono (by omega)))
  have hz3 : w2.heap.size ≤ w3.heap.size := hb3.size
  have R3_3 := Lib.hid hr3
  have R1_3 := Lib.hid (R1_2.out.below hb3)
  have R2_3 := Lib.hid (R2_2.out.below hb3)
  clear R1_2 R2_2
  obtain ⟨An, kn, rfl, _, _⟩ := hr3.slice
  have q3 := Lib.hid (show ∀ k, on = some k → k < w3.heap.size from fun k hk => (hr3.lt k hk).2)
  have x3_3 : w3.cell? ⟨w.heap.size, 3, none⟩ = some (.slice Al0 n.log.length kl0) := MM.cell_blk HBX3.out rfl
  have x3_7 : w3.cell? ⟨w.heap.size, 7, none⟩ = some (.slice Av0 n.votes.length kv0) := MM.cell_blk HBX3.out rfl
  have x3_8 : w3.cell? ⟨w.heap.size, 8, none⟩ = some (.slice An0 n.nxt.length kn0) := MM.cell_blk HBX3.out rfl
  have x3_9 : w3.cell? ⟨w.heap.size, 9, none⟩ = some (.slice Am0 n.mtch.length km0) := MM.cell_blk HBX3.out rfl
  have x3_10 : w3.cell? ⟨w.heap.size, 10, none⟩ = some (.slice Af0 n.forms.length kf0) := MM.cell_blk HBX3.out rfl
  clear hr3 hb3 x2_3 x2_7 x2_8 x2_9 x2_10
  refine Go.RT.QK_normal _ _ _ _ (hK _ _ ?_ ?_) <;> clear hK K
  · refine Go.RT.again_one rfl ?_ ?_; · (go_simp <;> rfl)
    refine Go.RT.again_one rfl ?_ ?_; · (go_simp <;> rfl)
    exact Go.RT.again_nil
  (refine Go.RT.step_w rfl rfl (fun K hK => ?_) Go.RT.step_stop)
  go_wp2_with fail
  refine (clone_int _ ok _ _ _ (by exact HV3.out.hm) (intsC_one _) (by omega)).mono ?_
  rintro e w4 ⟨cm, om, rfl, hr4, hb4⟩
  go_wp2_with fail
  have HV4 := Lib.hid (HV3.out.below hb4)
  have HBX4 := Lib.hid ((hb4.block w.heap.size (by omega)).trans HBX3.out)
  have HB4 := Lib.hid (HB3.out.trans (hb4.mono (by omega)))
  have hz4 : w3.heap.size ≤ w4.heap.size := hb4.size
  have R4_4 := Lib.hid hr4
  have R1_4 := Lib.hid (R1_3.out.below hb4)
  have R2_4 := Lib.hid (R2_3.out.below hb4)
  have R3_4 := Lib.hid (R3_3.out.below hb4)
  clear R1_3 R2_3 R3_3
  obtain ⟨Am, km, rfl, _, _⟩ := hr4.slice
  have q4 := Lib.hid (show ∀ k, om = some k → k < w4.heap.size from fun k hk => (hr4.lt k hk).2)
  have x4_3 : w4.cell? ⟨w.heap.size, 3, none⟩ = some (.slice Al0 n.log.length kl0) := MM.cell_blk HBX4.out rfl
  have x4_7 : w4.cell? ⟨w.heap.size, 7, none⟩ = some (.slice Av0 n.votes.length kv0) := MM.cell_blk HBX4.out rfl
  have x4_8 : w4.cell? ⟨w.heap.size, 8, none⟩ = some (.slice An0 n.nxt.length kn0) := MM.cell_blk HBX4.out rfl
  have x4_9 : w4.cell? ⟨w.heap.size, 9, none⟩ = some (.slice Am0 n.mtch.length km0) := MM.cell_blk HBX4.out rfl
  have x4_10 : w4.cell? ⟨w.heap.size, 10, none⟩ = some (.slice Af0 n.forms.length kf0) := MM.cell_blk HBX4.out rfl
  clear hr4 hb4 x3_3 x3_7 x3_8 x3_9 x3_10
  refine Go.RT.QK_normal _ _ _ _ (hK _ _ ?_ ?_) <;> clear hK K
  · refine Go.RT.again_one rfl ?_ ?_; · (go_simp <;> rfl)
    exact Go.RT.again_nil
  (refine Go.RT.step_w rfl rfl (fun K hK => ?_) Go.RT.step_stop)
  go_wp2_with fail
  refine (clone_int _ ok _ _ _ (by exact HV4.out.hf) (intsC_one _) (by omega)).mono ?_
  rintro e w5 ⟨cf, of, rfl, hr5, hb5⟩
  go_wp2_with fail
  have HV5 := Lib.hid (HV4.out.below hb5)
  have HBX5 := Lib.hid ((hb5.block w.heap.size (by omega)).trans HBX4.out)
  have HB5 := Lib.hid (HB4.out.trans (hb5.mono (by omega)))
  have hz5 : w4.heap.size ≤ w5.heap.size := hb5.size
  have R5_5 := Lib.hid hr5
  have R1_5 := Lib.hid (R1_4.out.below hb5)
  have R2_5 := Lib.hid (R2_4.out.below hb5)
  have R3_5 := Lib.hid (R3_4.out.below hb5)
  have R4_5 := Lib.hid (R4_4.out.below hb5)
  clear R1_4 R2_4 R3_4 R4_4
  obtain ⟨Af, kf, rfl, _, _⟩ := hr5.slice
  have N34 := Lib.hid (show ∀ k, on = some k → k < w3.heap.size ∧ k < w4.heap.size from fun k hk => ⟨q3.out k hk, by have := q3.out k hk; omega⟩)
  have N45 := Lib.hid (show ∀ k, om = some k → k < w4.heap.size from q4.out)
  have x5_3 : w5.cell? ⟨w.heap.size, 3, none⟩ = some (.slice Al0 n.log.length kl0) := MM.cell_blk HBX5.out rfl
  have x5_7 : w5.cell? ⟨w.heap.size, 7, none⟩ = some (.slice Av0 n.votes.length kv0) := MM.cell_blk HBX5.out rfl
  have x5_8 : w5.cell? ⟨w.heap.size, 8, none⟩ = some (.slice An0 n.nxt.length kn0) := MM.cell_blk HBX5.out rfl
  have x5_9 : w5.cell? ⟨w.heap.size, 9, none⟩ = some (.slice Am0 n.mtch.length km0) := MM.cell_blk HBX5.out rfl
  have x5_10 : w5.cell? ⟨w.heap.size, 10, none⟩ = some (.slice Af0 n.forms.length kf0) := MM.cell_blk HBX5.out rfl
  have y3 : w5.frozen? ⟨w.heap.size, 3, none⟩ = false := MM.free_blk HBX5.out
  have y7 : w5.frozen? ⟨w.heap.size, 7, none⟩ = false := MM.free_blk HBX5.out
  have y8 : w5.frozen? ⟨w.heap.size, 8, none⟩ = false := MM.free_blk HBX5.out
  have y9 : w5.frozen? ⟨w.heap.size, 9, none⟩ = false := MM.free_blk HBX5.out
  have y10 : w5.frozen? ⟨w.heap.size, 10, none⟩ = false := MM.free_blk HBX5.out
  have z0 : w5.cell? ⟨w.heap.size, 0, none⟩ = some (.int .i64 n.id) := MM.cell_blk HBX5.out rfl
  have z1 : w5.cell? ⟨w.heap.size, 1, none⟩ = some (.int .i64 n.term) := MM.cell_blk HBX5.out rfl
  have z2 : w5.cell? ⟨w.heap.size, 2, none⟩ = some (.int .i64 n.vote) := MM.cell_blk HBX5.out rfl
  have z4 : w5.cell? ⟨w.heap.size, 4, none⟩ = some (.int .i64 n.form) := MM.cell_blk HBX5.out rfl
  have z5 : w5.cell? ⟨w.heap.size, 5, none⟩ = some (.int .i64 n.role) := MM.cell_blk HBX5.out rfl
  have z6 : w5.cell? ⟨w.heap.size, 6, none⟩ = some (.int .i64 n.commit) := MM.cell_blk HBX5.out rfl
  have z11 : w5.cell? ⟨w.heap.size, 11, none⟩ = some (.int .i64 n.clock) := MM.cell_blk HBX5.out rfl
  have z12 : w5.cell? ⟨w.heap.size, 12, none⟩ = some (.int .i64 n.due) := MM.cell_blk HBX5.out rfl
  clear hr5 hb5 x4_3 x4_7 x4_8 x4_9 x4_10
  refine Go.RT.QK_normal _ _ _ _ (hK _ _ ?_ ?_) <;> clear hK K
  · exact Go.RT.again_nil
  (refine Go.RT.step_w rfl rfl (fun K hK => ?_) Go.RT.step_stop)
  go_wp2
  refine Go.RT.QK_normal _ _ _ _ (hK _ _ ?_ ?_) <;> clear hK K
  · exact Go.RT.again_nil
  (refine Go.RT.step_p rfl (fun K hK => ?_); go_simp; refine hK _ ?_; clear hK K)
  (refine Go.RT.step_w rfl rfl (fun K hK => ?_) Go.RT.step_stop)
  go_wp2
  refine Go.RT.QK_normal _ _ _ _ (hK _ _ ?_ ?_) <;> clear hK K
  · exact Go.RT.again_nil
  (refine Go.RT.step_p rfl (fun K hK => ?_); go_simp; refine hK _ ?_; clear hK K)
  (refine Go.RT.step_w rfl rfl (fun K hK => ?_) Go.RT.step_stop)
  go_wp2
  refine Go.RT.QK_normal _ _ _ _ (hK _ _ ?_ ?_) <;> clear hK K
  · exact Go.RT.again_nil
  (refine Go.RT.step_p rfl (fun K hK => ?_); go_simp; refine hK _ ?_; clear hK K)
  (refine Go.RT.step_w rfl rfl (fun K hK => ?_) Go.RT.step_stop)
  go_wp2
  refine Go.RT.QK_normal _ _ _ _ (hK _ _ ?_ ?_) <;> clear hK K
  · exact Go.RT.again_nil
  (refine Go.RT.step_p rfl (fun K hK => ?_); go_simp; refine hK _ ?_; clear hK K)
  (refine Go.RT.step_w rfl rfl (fun K hK => ?_) Go.RT.step_stop)
  go_wp2
  refine Go.RT.QK_normal _ _ _ _ (hK _ _ ?_ ?_) <;> clear hK K
  · exact Go.RT.again_nil
  refine Go.RT.step_nil ?_
  have hX6 : ((((((w5).setCell ⟨w.heap.size, 3, none⟩ (.slice Al n.log.length kl)).setCell ⟨w.heap.size, 7, none⟩ (.slice Av n.votes.length kv)).setCell ⟨w.heap.size, 8, none⟩ (.slice An n.nxt.length kn)).setCell ⟨w.heap.size, 9, none⟩ (.slice Am n.mtch.length km)).setCell ⟨w.heap.size, 10, none⟩ (.slice Af n.forms.length kf)).heap[w.heap.size]? = some (.cells #[.int .i64 n.id, .int .i64 n.term, .int .i64 n.vote, .slice Al n.log.length kl, .int .i64 n.form, .int .i64 n.role, .int .i64 n.commit, .slice Av n.votes.length kv, .slice An n.nxt.length kn, .slice Am n.mtch.length km, .slice Af n.forms.length kf, .int .i64 n.clock, .int .i64 n.due] 28 (0, 0)) := by simp [World.setCell, Array.getElem?_modify, HBX5.out]
  have far6 : ∀ k, k ≠ w.heap.size → ((((((w5).setCell ⟨w.heap.size, 3, none⟩ (.slice Al n.log.length kl)).setCell ⟨w.heap.size, 7, none⟩ (.slice Av n.votes.length kv)).setCell ⟨w.heap.size, 8, none⟩ (.slice An n.nxt.length kn)).setCell ⟨w.heap.size, 9, none⟩ (.slice Am n.mtch.length km)).setCell ⟨w.heap.size, 10, none⟩ (.slice Af n.forms.length kf)).heap[k]? = w5.heap[k]? := fun k hk => (Below.heap_setCell _ _ _ k hk).trans ((Below.heap_setCell _ _ _ k hk).trans ((Below.heap_setCell _ _ _ k hk).trans ((Below.heap_setCell _ _ _ k hk).trans (Below.heap_setCell _ _ _ k hk))))
  have hB6 : Below w.heap.size w ((((((w5).setCell ⟨w.heap.size, 3, none⟩ (.slice Al n.log.length kl)).setCell ⟨w.heap.size, 7, none⟩ (.slice Av n.votes.length kv)).setCell ⟨w.heap.size, 8, none⟩ (.slice An n.nxt.length kn)).setCell ⟨w.heap.size, 9, none⟩ (.slice Am n.mtch.length km)).setCell ⟨w.heap.size, 10, none⟩ (.slice Af n.forms.length kf)) := ((((HB5.out.setCell (p := ⟨w.heap.size, 3, none⟩) (Nat.le_refl _) _).setCell (p := ⟨w.heap.size, 7, none⟩) (Nat.le_refl _) _).setCell (p := ⟨w.heap.size, 8, none⟩) (Nat.le_refl _) _).setCell (p := ⟨w.heap.size, 9, none⟩) (Nat.le_refl _) _).setCell (p := ⟨w.heap.size, 10, none⟩) (Nat.le_refl _) _
  obtain ⟨w6, hw6⟩ : ∃ W, W = (((((w5).setCell ⟨w.heap.size, 3, none⟩ (.slice Al n.log.length kl)).setCell ⟨w.heap.size, 7, none⟩ (.slice Av n.votes.length kv)).setCell ⟨w.heap.size, 8, none⟩ (.slice An n.nxt.length kn)).setCell ⟨w.heap.size, 9, none⟩ (.slice Am n.mtch.length km)).setCell ⟨w.heap.size, 10, none⟩ (.slice Af n.forms.length kf) := ⟨_, rfl⟩
  rw [← hw6] at hX6 far6 hB6 ⊢
  clear hw6 x5_3 x5_7 x5_8 x5_9 x5_10 y3 y7 y8 y9 y10 z0 z1 z2 z4 z5 z6 z11 z12
  obtain ⟨z0, z1, z2, z3, z4, z5, z6, z7, z8, z9, z10, z11, z12⟩ := MM.cells13 hX6
  have r1 := R1_5.out.step (w1 := w6) fun k hk _ => far6 k (by have := (R1_5.out.lt k hk).1; omega)
  have r2 := R2_5.out.step (w1 := w6) fun k hk _ => far6 k (by have := (R2_5.out.lt k hk).1; omega)
  have r3 := R3_5.out.step (w1 := w6) fun k hk _ => far6 k (by have := (R3_5.out.lt k hk).1; omega)
  have r4 := R4_5.out.step (w1 := w6) fun k hk _ => far6 k (by have := (R4_5.out.lt k hk).1; omega)
  have r5 := R5_5.out.step (w1 := w6) fun k hk _ => far6 k (by have := (R5_5.out.lt k hk).1; omega)
  have HA := Lib.hid (show NodeAt (w6.alloc (.cells (cellsN ⟨n, []⟩ ⟨⟨.slice Al n.log.length kl, ol⟩, ⟨.slice Av n.votes.length kv, ov⟩, ⟨.slice An n.nxt.length kn, on⟩, ⟨.slice Am n.mtch.length km, om⟩, ⟨.slice Af n.forms.length kf, of⟩, ⟨.slice none 0 0, none⟩⟩) 82)) w.heap.size w6.heap.size ⟨n, []⟩ ⟨⟨.slice Al n.log.length kl, ol⟩, ⟨.slice Av n.votes.length kv, ov⟩, ⟨.slice An n.nxt.length kn, on⟩, ⟨.slice Am n.mtch.length km, om⟩, ⟨.slice Af n.forms.length kf, of⟩, ⟨.slice none 0 0, none⟩⟩ from {
    hB := hB6.size
    blk := MM.alloc_new w6 _
    hl := (r1.lower (by omega)).alloc _
    hv := (r2.lower (by omega)).alloc _
    hn := (r3.lower (by omega)).alloc _
    hm := (r4.lower (by omega)).alloc _
    hf := (r5.lower (by omega)).alloc _
    ho := ⟨[], MM.Row.nil _ _ _ _ _, rfl⟩
    nm := fun k h1 h2 => by have := (N34.out k h1).1; have := (R4_5.out.lt k h2).1; omega
    nf := fun k h1 h2 => by have := (N34.out k h1).2; have := (R5_5.out.lt k h2).1; omega
    mf := fun k h1 h2 => by have := (N45.out k h1); have := (R5_5.out.lt k h2).1; omega })
  have HB6 := Lib.hid (hB6.alloc hB6.size (.cells (cellsN ⟨n, []⟩ ⟨⟨.slice Al n.log.length kl, ol⟩, ⟨.slice Av n.votes.length kv, ov⟩, ⟨.slice An n.nxt.length kn, on⟩, ⟨.slice Am n.mtch.length km, om⟩, ⟨.slice Af n.forms.length kf, of⟩, ⟨.slice none 0 0, none⟩⟩) 82))
  clear far6 hB6 r1 r2 r3 r4 r5 hX6
  go_wp2
  go_ret
  exact ⟨_, _, rfl, HA.out, HB6.out⟩

end Go.Proofs.Ytnkmljdkokcdjaa
namespace Go.Proofs.Ytnkmljdkokcdjaa
open Go.RowKit Fed
set_option linter.unusedVariables false
attribute [local go_sem high] Fed.max2_int Fed.min2_int

theorem setCell_blk {w : World} {b i : Nat} {c : Array Value} {t : TypeId} {f : Nat × Nat} (u : Value) (h : w.heap[b]? = some (.cells c t f)) : (w.setCell ⟨b, i, none⟩ u).heap[b]? = some (.cells (c.setIfInBounds i u) t f) := by
  simp [World.setCell, Array.getElem?_modify, h]
theorem set13 {w : World} {b t : Nat} {f : Nat × Nat} {a0 a1 a2 a3 a4 a5 a6 a7 a8 a9 a10 a11 a12 u0 u1 u2 u3 u4 u5 u6 u7 u8 u9 u10 u11 u12 : Value} (q : w.heap[b]? = some (.cells #[a0, a1, a2, a3, a4, a5, a6, a7, a8, a9, a10, a11, a12] t f)) : ((((((((((((((w).setCell ⟨b, 0, none⟩ u0).setCell ⟨b, 1, none⟩ u1).setCell ⟨b, 2, none⟩ u2).setCell ⟨b, 3, none⟩ u3).setCell ⟨b, 4, none⟩ u4).setCell ⟨b, 5, none⟩ u5).setCell ⟨b, 6, none⟩ u6).setCell ⟨b, 7, none⟩ u7).setCell ⟨b, 8, none⟩ u8).setCell ⟨b, 9, none⟩ u9).setCell ⟨b, 10, none⟩ u10).setCell ⟨b, 11, none⟩ u11).setCell ⟨b, 12, none⟩ u12).heap[b]? = some (.cells #[u0, u1, u2, u3, u4, u5, u6, u7, u8, u9, u10, u11, u12] t f) := by
  replace q : (w.setCell ⟨b, 0, none⟩ u0).heap[b]? = some (.cells #[u0, a1, a2, a3, a4, a5, a6, a7, a8, a9, a10, a11, a12] t f) := setCell_blk u0 q
  generalize w.setCell ⟨b, 0, none⟩ u0 = w0 at q ⊢
  replace q : (w0.setCell ⟨b, 1, none⟩ u1).heap[b]? = some (.cells #[u0, u1, a2, a3, a4, a5, a6, a7, a8, a9, a10, a11, a12] t f) := setCell_blk u1 q
  generalize w0.setCell ⟨b, 1, none⟩ u1 = w1 at q ⊢
  replace q : (w1.setCell ⟨b, 2, none⟩ u2).heap[b]? = some (.cells #[u0, u1, u2, a3, a4, a5, a6, a7, a8, a9, a10, a11, a12] t f) := setCell_blk u2 q
  generalize w1.setCell ⟨b, 2, none⟩ u2 = w2 at q ⊢
  replace q : (w2.setCell ⟨b, 3, none⟩ u3).heap[b]? = some (.cells #[u0, u1, u2, u3, a4, a5, a6, a7, a8, a9, a10, a11, a12] t f) := setCell_blk u3 q
  generalize w2.setCell ⟨b, 3, none⟩ u3 = w3 at q ⊢
  replace q : (w3.setCell ⟨b, 4, none⟩ u4).heap[b]? = some (.cells #[u0, u1, u2, u3, u4, a5, a6, a7, a8, a9, a10, a11, a12] t f) := setCell_blk u4 q
  generalize w3.setCell ⟨b, 4, none⟩ u4 = w4 at q ⊢
  replace q : (w4.setCell ⟨b, 5, none⟩ u5).heap[b]? = some (.cells #[u0, u1, u2, u3, u4, u5, a6, a7, a8, a9, a10, a11, a12] t f) := setCell_blk u5 q
  generalize w4.setCell ⟨b, 5, none⟩ u5 = w5 at q ⊢
  replace q : (w5.setCell ⟨b, 6, none⟩ u6).heap[b]? = some (.cells #[u0, u1, u2, u3, u4, u5, u6, a7, a8, a9, a10, a11, a12] t f) := setCell_blk u6 q
  generalize w5.setCell ⟨b, 6, none⟩ u6 = w6 at q ⊢
  replace q : (w6.setCell ⟨b, 7, none⟩ u7).heap[b]? = some (.cells #[u0, u1, u2, u3, u4, u5, u6, u7, a8, a9, a10, a11, a12] t f) := setCell_blk u7 q
  generalize w6.setCell ⟨b, 7, none⟩ u7 = w7 at q ⊢
  replace q : (w7.setCell ⟨b, 8, none⟩ u8).heap[b]? = some (.cells #[u0, u1, u2, u3, u4, u5, u6, u7, u8, a9, a10, a11, a12] t f) := setCell_blk u8 q
  generalize w7.setCell ⟨b, 8, none⟩ u8 = w8 at q ⊢
  replace q : (w8.setCell ⟨b, 9, none⟩ u9).heap[b]? = some (.cells #[u0, u1, u2, u3, u4, u5, u6, u7, u8, u9, a10, a11, a12] t f) := setCell_blk u9 q
  generalize w8.setCell ⟨b, 9, none⟩ u9 = w9 at q ⊢
  replace q : (w9.setCell ⟨b, 10, none⟩ u10).heap[b]? = some (.cells #[u0, u1, u2, u3, u4, u5, u6, u7, u8, u9, u10, a11, a12] t f) := setCell_blk u10 q
  generalize w9.setCell ⟨b, 10, none⟩ u10 = w10 at q ⊢
  replace q : (w10.setCell ⟨b, 11, none⟩ u11).heap[b]? = some (.cells #[u0, u1, u2, u3, u4, u5, u6, u7, u8, u9, u10, u11, a12] t f) := setCell_blk u11 q
  generalize w10.setCell ⟨b, 11, none⟩ u11 = w11 at q ⊢
  replace q : (w11.setCell ⟨b, 12, none⟩ u12).heap[b]? = some (.cells #[u0, u1, u2, u3, u4, u5, u6, u7, u8, u9, u10, u11, u12] t f) := setCell_blk u12 q
  exact q
theorem below13 {n b : Nat} {w0 w : World} {u0 u1 u2 u3 u4 u5 u6 u7 u8 u9 u10 u11 u12 : Value} (q : Below n w0 w) (h : n ≤ b) : Below n w0 ((((((((((((((w).setCell ⟨b, 0, none⟩ u0).setCell ⟨b, 1, none⟩ u1).setCell ⟨b, 2, none⟩ u2).setCell ⟨b, 3, none⟩ u3).setCell ⟨b, 4, none⟩ u4).setCell ⟨b, 5, none⟩ u5).setCell ⟨b, 6, none⟩ u6).setCell ⟨b, 7, none⟩ u7).setCell ⟨b, 8, none⟩ u8).setCell ⟨b, 9, none⟩ u9).setCell ⟨b, 10, none⟩ u10).setCell ⟨b, 11, none⟩ u11).setCell ⟨b, 12, none⟩ u12) := Below.setCell (Below.setCell (Below.setCell (Below.setCell (Below.setCell (Below.setCell (Below.setCell (Below.setCell (Below.setCell (Below.setCell (Below.setCell (Below.setCell (Below.setCell (q) h _) h _) h _) h _) h _) h _) h _) h _) h _) h _) h _) h _) h _
theorem far13 {b k : Nat} {w : World} {u0 u1 u2 u3 u4 u5 u6 u7 u8 u9 u10 u11 u12 : Value} (h : k ≠ b) : ((((((((((((((w).setCell ⟨b, 0, none⟩ u0).setCell ⟨b, 1, none⟩ u1).setCell ⟨b, 2, none⟩ u2).setCell ⟨b, 3, none⟩ u3).setCell ⟨b, 4, none⟩ u4).setCell ⟨b, 5, none⟩ u5).setCell ⟨b, 6, none⟩ u6).setCell ⟨b, 7, none⟩ u7).setCell ⟨b, 8, none⟩ u8).setCell ⟨b, 9, none⟩ u9).setCell ⟨b, 10, none⟩ u10).setCell ⟨b, 11, none⟩ u11).setCell ⟨b, 12, none⟩ u12).heap[k]? = w.heap[k]? := (Below.heap_setCell _ _ _ k h).trans ((Below.heap_setCell _ _ _ k h).trans ((Below.heap_setCell _ _ _ k h).trans ((Below.heap_setCell _ _ _ k h).trans ((Below.heap_setCell _ _ _ k h).trans ((Below.heap_setCell _ _ _ k h).trans ((Below.heap_setCell _ _ _ k h).trans ((Below.heap_setCell _ _ _ k h).trans ((Below.heap_setCell _ _ _ k h).trans ((Below.heap_setCell _ _ _ k h).trans ((Below.heap_setCell _ _ _ k h).trans ((Below.heap_setCell _ _ _ k h).trans ((Below.heap_setCell _ _ _ k h).trans (rfl)))))))))))))
set_option maxRecDepth 100000 in
set_option maxHeartbeats 4000000 in
theorem end_any (w : World) (B g : Nat) (s : NS) (μ : NM) (h : NodeAt w B g s μ) (ho : s.out.length ≤ 1000000) :
    Calls Try.prog 64 #[.pointer (some ⟨g, 0, none⟩)] w
      fun e w' => ∃ vo, e = .returned (.tuple #[.agg (nodeC s.n μ.l.v μ.v.v μ.n.v μ.m.v μ.f.v), vo]) ∧ NodeV w' (fun k => B ≤ k) s.n μ.l.v μ.v.v μ.n.v μ.m.v μ.f.v ∧ MsgsV w' (fun k => B ≤ k) vo s.out ∧ Below w.heap.size w w' := by
  have c0 : w.cell? ⟨g, 0, none⟩ = some (.int .i64 s.n.id) := h.c 0 _ rfl
  have c1 : w.cell? ⟨g, 1, none⟩ = some (.int .i64 s.n.term) := h.c 1 _ rfl
  have c2 : w.cell? ⟨g, 2, none⟩ = some (.int .i64 s.n.vote) := h.c 2 _ rfl
  obtain ⟨A3, k3, e3, u3, _⟩ := h.hl.slice
  have c3 : w.cell? ⟨g, 3, none⟩ = some (.slice A3 s.n.log.length k3) := h.c 3 _ (by rw [← e3]; rfl)
  have E3 := Lib.hid e3; clear e3
  have c4 : w.cell? ⟨g, 4, none⟩ = some (.int .i64 s.n.form) := h.c 4 _ rfl
  have c5 : w.cell? ⟨g, 5, none⟩ = some (.int .i64 s.n.role) := h.c 5 _ rfl
  have c6 : w.cell? ⟨g, 6, none⟩ = some (.int .i64 s.n.commit) := h.c 6 _ rfl
  obtain ⟨A7, k7, e7, u7, _⟩ := h.hv.slice
  have c7 : w.cell? ⟨g, 7, none⟩ = some (.slice A7 s.n.votes.length k7) := h.c 7 _ (by rw [← e7]; rfl)
  have E7 := Lib.hid e7; clear e7
  obtain ⟨A8, k8, e8, u8, _⟩ := h.hn.slice
  have c8 : w.cell? ⟨g, 8, none⟩ = some (.slice A8 s.n.nxt.length k8) := h.c 8 _ (by rw [← e8]; rfl)
  have E8 := Lib.hid e8; clear e8
  obtain ⟨A9, k9, e9, u9, _⟩ := h.hm.slice
  have c9 : w.cell? ⟨g, 9, none⟩ = some (.slice A9 s.n.mtch.length k9) := h.c 9 _ (by rw [← e9]; rfl)
  have E9 := Lib.hid e9; clear e9
  obtain ⟨A10, k10, e10, u10, _⟩ := h.hf.slice
  have c10 : w.cell? ⟨g, 10, none⟩ = some (.slice A10 s.n.forms.length k10) := h.c 10 _ (by rw [← e10]; rfl)
  have E10 := Lib.hid e10; clear e10
  have c11 : w.cell? ⟨g, 11, none⟩ = some (.int .i64 s.n.clock) := h.c 11 _ rfl
  have c12 : w.cell? ⟨g, 12, none⟩ = some (.int .i64 s.n.due) := h.c 12 _ rfl
  have c13 : w.cell? ⟨g, 13, none⟩ = some μ.o.v := h.c 13 _ rfl
  obtain ⟨cs, hro, hrm⟩ := h.ho
  obtain ⟨Ao, ko, eo, _, _⟩ := hro.slice
  rw [eo] at c13
  have hlt := h.lt
  have hbs := h.Bsize
  have HRO := Lib.hid (show MM.Rd w (fun k => B ≤ k) 10 (.slice Ao s.out.length ko) s.out.length cs from by rw [← eo]; exact hro.rd.mono fun k hk _ => (hro.lt k hk).1)
  have HRM := Lib.hid (hrm.mono (ok' := fun k => B ≤ k) fun k hk _ => hk.1)
  have HC := Lib.hid hrm.one_cell
  have H := Lib.hid h
  have HO := Lib.hid ho
  clear h ho hro hrm eo
  go_enter Try.func64, Try.ntmps64
  go_wp2
  refine Go.RT.wp_region_tree [0, 1, 3, 7, 0, 16, 48, 112, 240, 511, 1023] (.p 0 (.p 1 (.p 2 (.s 3 (.p 4 (.p 5 (.p 6 (.s 7 (.w 8 [3] (.w 9 [] (.w 10 [] .nil .stop) .stop) .stop))))))))) (by kernel_rfl) (by kernel_rfl) ?_
  (refine Go.RT.step_p rfl (fun K hK => ?_); go_simp; refine hK _ ?_; clear hK K)
  (refine Go.RT.step_p rfl (fun K hK => ?_); go_simp; refine hK _ ?_; clear hK K)
  (refine Go.RT.step_p rfl (fun K hK => ?_); go_simp; refine hK _ ?_; clear hK K)
  (refine Go.RT.step_s rfl (fun K hK => ?_); go_simp; refine hK _ ?_; clear hK K)
  (refine Go.RT.step_p rfl (fun K hK => ?_); go_simp; refine hK _ ?_; clear hK K)
  (refine Go.RT.step_p rfl (fun K hK => ?_); go_simp; refine hK _ ?_; clear hK K)
  (refine Go.RT.step_p rfl (fun K hK => ?_); go_simp; refine hK _ ?_; clear hK K)
  (refine Go.RT.step_s rfl (fun K hK => ?_); go_simp; refine hK _ ?_; clear hK K)
  (refine Go.RT.step_w rfl rfl (fun K hK => ?_) Go.RT.step_stop)
  go_wp2_with fail
  refine (clone_msg _ (fun k => B ≤ k) _ _ _ (by exact HRO.out.below (by repeat (first | exact Below.refl _ _ | refine Below.setCell ?_ (by simp) _ | refine Below.alloc ?_ (by simp) _ | refine Below.drew ?_))) HC.out (by have := HO.out; omega)).mono ?_
  rintro e w2 ⟨v2, o2, rfl, hr2, hb2⟩
  go_wp2_with fail
  obtain ⟨A2, k2, rfl, _, _⟩ := hr2.slice
  have hn2 := (H.out.below (by repeat (first | exact Below.refl _ _ | refine Below.setCell ?_ (by simp) _ | refine Below.alloc ?_ (by simp) _ | refine Below.drew ?_))).below hb2
  have d0 : w2.cell? ⟨g, 0, none⟩ = some (.int .i64 s.n.id) := hn2.c 0 _ rfl
  have d1 : w2.cell? ⟨g, 1, none⟩ = some (.int .i64 s.n.term) := hn2.c 1 _ rfl
  have d2 : w2.cell? ⟨g, 2, none⟩ = some (.int .i64 s.n.vote) := hn2.c 2 _ rfl
  have d3 : w2.cell? ⟨g, 3, none⟩ = some (.slice A3 s.n.log.length k3) := hn2.c 3 _ (by rw [← E3.out]; rfl)
  have d4 : w2.cell? ⟨g, 4, none⟩ = some (.int .i64 s.n.form) := hn2.c 4 _ rfl
  have d5 : w2.cell? ⟨g, 5, none⟩ = some (.int .i64 s.n.role) := hn2.c 5 _ rfl
  have d6 : w2.cell? ⟨g, 6, none⟩ = some (.int .i64 s.n.commit) := hn2.c 6 _ rfl
  have d7 : w2.cell? ⟨g, 7, none⟩ = some (.slice A7 s.n.votes.length k7) := hn2.c 7 _ (by rw [← E7.out]; rfl)
  have d8 : w2.cell? ⟨g, 8, none⟩ = some (.slice A8 s.n.nxt.length k8) := hn2.c 8 _ (by rw [← E8.out]; rfl)
  have d9 : w2.cell? ⟨g, 9, none⟩ = some (.slice A9 s.n.mtch.length k9) := hn2.c 9 _ (by rw [← E9.out]; rfl)
  have d10 : w2.cell? ⟨g, 10, none⟩ = some (.slice A10 s.n.forms.length k10) := hn2.c 10 _ (by rw [← E10.out]; rfl)
  have d11 : w2.cell? ⟨g, 11, none⟩ = some (.int .i64 s.n.clock) := hn2.c 11 _ rfl
  have d12 : w2.cell? ⟨g, 12, none⟩ = some (.int .i64 s.n.due) := hn2.c 12 _ rfl
  have hx2 : w2.heap[w.heap.size]? = some (.cells #[.int .i64 0, .int .i64 0, .int .i64 0, .slice none 0 0, .int .i64 0, .int .i64 0, .int .i64 0, .slice none 0 0, .slice none 0 0, .slice none 0 0, .slice none 0 0, .int .i64 0, .int .i64 0] 28 (0, 0)) := (hb2.block w.heap.size (by simp)).trans (MM.alloc_new w _)
  have f0 : w2.cell? ⟨w.heap.size, 0, none⟩ = some (.int .i64 0) := MM.cell_blk hx2 rfl
  have r0 : w2.frozen? ⟨w.heap.size, 0, none⟩ = false := MM.free_blk hx2
  have f1 : w2.cell? ⟨w.heap.size, 1, none⟩ = some (.int .i64 0) := MM.cell_blk hx2 rfl
  have r1 : w2.frozen? ⟨w.heap.size, 1, none⟩ = false := MM.free_blk hx2
  have f2 : w2.cell? ⟨w.heap.size, 2, none⟩ = some (.int .i64 0) := MM.cell_blk hx2 rfl
  have r2 : w2.frozen? ⟨w.heap.size, 2, none⟩ = false := MM.free_blk hx2
  have f3 : w2.cell? ⟨w.heap.size, 3, none⟩ = some (.slice none 0 0) := MM.cell_blk hx2 rfl
  have r3 : w2.frozen? ⟨w.heap.size, 3, none⟩ = false := MM.free_blk hx2
  have f4 : w2.cell? ⟨w.heap.size, 4, none⟩ = some (.int .i64 0) := MM.cell_blk hx2 rfl
  have r4 : w2.frozen? ⟨w.heap.size, 4, none⟩ = false := MM.free_blk hx2
  have f5 : w2.cell? ⟨w.heap.size, 5, none⟩ = some (.int .i64 0) := MM.cell_blk hx2 rfl
  have r5 : w2.frozen? ⟨w.heap.size, 5, none⟩ = false := MM.free_blk hx2
  have f6 : w2.cell? ⟨w.heap.size, 6, none⟩ = some (.int .i64 0) := MM.cell_blk hx2 rfl
  have r6 : w2.frozen? ⟨w.heap.size, 6, none⟩ = false := MM.free_blk hx2
  have f7 : w2.cell? ⟨w.heap.size, 7, none⟩ = some (.slice none 0 0) := MM.cell_blk hx2 rfl
  have r7 : w2.frozen? ⟨w.heap.size, 7, none⟩ = false := MM.free_blk hx2
  have f8 : w2.cell? ⟨w.heap.size, 8, none⟩ = some (.slice none 0 0) := MM.cell_blk hx2 rfl
  have r8 : w2.frozen? ⟨w.heap.size, 8, none⟩ = false := MM.free_blk hx2
  have f9 : w2.cell? ⟨w.heap.size, 9, none⟩ = some (.slice none 0 0) := MM.cell_blk hx2 rfl
  have r9 : w2.frozen? ⟨w.heap.size, 9, none⟩ = false := MM.free_blk hx2
  have f10 : w2.cell? ⟨w.heap.size, 10, none⟩ = some (.slice none 0 0) := MM.cell_blk hx2 rfl
  have r10 : w2.frozen? ⟨w.heap.size, 10, none⟩ = false := MM.free_blk hx2
  have f11 : w2.cell? ⟨w.heap.size, 11, none⟩ = some (.int .i64 0) := MM.cell_blk hx2 rfl
  have r11 : w2.frozen? ⟨w.heap.size, 11, none⟩ = false := MM.free_blk hx2
  have f12 : w2.cell? ⟨w.heap.size, 12, none⟩ = some (.int .i64 0) := MM.cell_blk hx2 rfl
  have r12 : w2.frozen? ⟨w.heap.size, 12, none⟩ = false := MM.free_blk hx2
  have HN2 := Lib.hid hn2
  have HR2 := Lib.hid (hr2.lower (base' := w.heap.size + 1) (by simp))
  have HB2 := Lib.hid (show Below w.heap.size w w2 from Below.trans (by repeat (first | exact Below.refl _ _ | refine Below.setCell ?_ (by simp) _ | refine Below.alloc ?_ (by simp) _ | refine Below.drew ?_)) (hb2.mono (by simp)))
  have HM2 := Lib.hid (((HRM.out.mono (ok' := fun k => B ≤ k ∧ k < w.heap.size) fun k hk hlt => ⟨hk, hlt⟩).step (fun k _ hk => Below.block (by repeat (first | exact Below.refl _ _ | refine Below.setCell ?_ (by simp) _ | refine Below.alloc ?_ (by simp) _ | refine Below.drew ?_)) k hk) : MsgsR _ (fun k => B ≤ k ∧ k < w.heap.size) s.out cs).step (fun k _ hk => hb2.block k hk))
  have HX2 := Lib.hid hx2
  clear hn2 hr2 hb2 hx2
  refine Go.RT.QK_normal _ _ _ _ (hK _ _ ?_ ?_) <;> clear hK K
  · refine Go.RT.again_one rfl ?_ ?_; · (go_simp <;> rfl)
    exact Go.RT.again_nil
  (refine Go.RT.step_w rfl rfl (fun K hK => ?_) Go.RT.step_stop)
  go_wp2
  refine Go.RT.QK_normal _ _ _ _ (hK _ _ ?_ ?_) <;> clear hK K
  · exact Go.RT.again_nil
  (refine Go.RT.step_w rfl rfl (fun K hK => ?_) Go.RT.step_stop)
  go_wp2
  refine Go.RT.QK_normal _ _ _ _ (hK _ _ ?_ ?_) <;> clear hK K
  · exact Go.RT.again_nil
  refine Go.RT.step_nil ?_
  clear HRO HRM HC c0 c1 c2 c3 c4 c5 c6 c7 c8 c9 c10 c11 c12 c13
  go_wp2
  have hX : ((((((((((((((w2).setCell ⟨w.heap.size, 0, none⟩ (.int .i64 s.n.id)).setCell ⟨w.heap.size, 1, none⟩ (.int .i64 s.n.term)).setCell ⟨w.heap.size, 2, none⟩ (.int .i64 s.n.vote)).setCell ⟨w.heap.size, 3, none⟩ (.slice A3 s.n.log.length k3)).setCell ⟨w.heap.size, 4, none⟩ (.int .i64 s.n.form)).setCell ⟨w.heap.size, 5, none⟩ (.int .i64 s.n.role)).setCell ⟨w.heap.size, 6, none⟩ (.int .i64 s.n.commit)).setCell ⟨w.heap.size, 7, none⟩ (.slice A7 s.n.votes.length k7)).setCell ⟨w.heap.size, 8, none⟩ (.slice A8 s.n.nxt.length k8)).setCell ⟨w.heap.size, 9, none⟩ (.slice A9 s.n.mtch.length k9)).setCell ⟨w.heap.size, 10, none⟩ (.slice A10 s.n.forms.length k10)).setCell ⟨w.heap.size, 11, none⟩ (.int .i64 s.n.clock)).setCell ⟨w.heap.size, 12, none⟩ (.int .i64 s.n.due)).heap[w.heap.size]? = some (.cells #[.int .i64 s.n.id, .int .i64 s.n.term, .int .i64 s.n.vote, .slice A3 s.n.log.length k3, .int .i64 s.n.form, .int .i64 s.n.role, .int .i64 s.n.commit, .slice A7 s.n.votes.length k7, .slice A8 s.n.nxt.length k8, .slice A9 s.n.mtch.length k9, .slice A10 s.n.forms.length k10, .int .i64 s.n.clock, .int .i64 s.n.due] 28 (0, 0)) := set13 HX2.out
  have hB : Below w.heap.size w ((((((((((((((w2).setCell ⟨w.heap.size, 0, none⟩ (.int .i64 s.n.id)).setCell ⟨w.heap.size, 1, none⟩ (.int .i64 s.n.term)).setCell ⟨w.heap.size, 2, none⟩ (.int .i64 s.n.vote)).setCell ⟨w.heap.size, 3, none⟩ (.slice A3 s.n.log.length k3)).setCell ⟨w.heap.size, 4, none⟩ (.int .i64 s.n.form)).setCell ⟨w.heap.size, 5, none⟩ (.int .i64 s.n.role)).setCell ⟨w.heap.size, 6, none⟩ (.int .i64 s.n.commit)).setCell ⟨w.heap.size, 7, none⟩ (.slice A7 s.n.votes.length k7)).setCell ⟨w.heap.size, 8, none⟩ (.slice A8 s.n.nxt.length k8)).setCell ⟨w.heap.size, 9, none⟩ (.slice A9 s.n.mtch.length k9)).setCell ⟨w.heap.size, 10, none⟩ (.slice A10 s.n.forms.length k10)).setCell ⟨w.heap.size, 11, none⟩ (.int .i64 s.n.clock)).setCell ⟨w.heap.size, 12, none⟩ (.int .i64 s.n.due)) := below13 HB2.out (Nat.le_refl _)
  have far : ∀ k, k ≠ w.heap.size → ((((((((((((((w2).setCell ⟨w.heap.size, 0, none⟩ (.int .i64 s.n.id)).setCell ⟨w.heap.size, 1, none⟩ (.int .i64 s.n.term)).setCell ⟨w.heap.size, 2, none⟩ (.int .i64 s.n.vote)).setCell ⟨w.heap.size, 3, none⟩ (.slice A3 s.n.log.length k3)).setCell ⟨w.heap.size, 4, none⟩ (.int .i64 s.n.form)).setCell ⟨w.heap.size, 5, none⟩ (.int .i64 s.n.role)).setCell ⟨w.heap.size, 6, none⟩ (.int .i64 s.n.commit)).setCell ⟨w.heap.size, 7, none⟩ (.slice A7 s.n.votes.length k7)).setCell ⟨w.heap.size, 8, none⟩ (.slice A8 s.n.nxt.length k8)).setCell ⟨w.heap.size, 9, none⟩ (.slice A9 s.n.mtch.length k9)).setCell ⟨w.heap.size, 10, none⟩ (.slice A10 s.n.forms.length k10)).setCell ⟨w.heap.size, 11, none⟩ (.int .i64 s.n.clock)).setCell ⟨w.heap.size, 12, none⟩ (.int .i64 s.n.due)).heap[k]? = w2.heap[k]? := fun k hk' => far13 hk'
  obtain ⟨wf, hwf⟩ : ∃ W, W = (((((((((((((w2).setCell ⟨w.heap.size, 0, none⟩ (.int .i64 s.n.id)).setCell ⟨w.heap.size, 1, none⟩ (.int .i64 s.n.term)).setCell ⟨w.heap.size, 2, none⟩ (.int .i64 s.n.vote)).setCell ⟨w.heap.size, 3, none⟩ (.slice A3 s.n.log.length k3)).setCell ⟨w.heap.size, 4, none⟩ (.int .i64 s.n.form)).setCell ⟨w.heap.size, 5, none⟩ (.int .i64 s.n.role)).setCell ⟨w.heap.size, 6, none⟩ (.int .i64 s.n.commit)).setCell ⟨w.heap.size, 7, none⟩ (.slice A7 s.n.votes.length k7)).setCell ⟨w.heap.size, 8, none⟩ (.slice A8 s.n.nxt.length k8)).setCell ⟨w.heap.size, 9, none⟩ (.slice A9 s.n.mtch.length k9)).setCell ⟨w.heap.size, 10, none⟩ (.slice A10 s.n.forms.length k10)).setCell ⟨w.heap.size, 11, none⟩ (.int .i64 s.n.clock)).setCell ⟨w.heap.size, 12, none⟩ (.int .i64 s.n.due) := ⟨_, rfl⟩
  rw [← hwf] at hX hB far ⊢
  clear hwf
  obtain ⟨z0, z1, z2, z3, z4, z5, z6, z7, z8, z9, z10, z11, z12⟩ := MM.cells13 hX
  refine bodyPost_ret (v := .tuple #[.agg #[.int .i64 s.n.id, .int .i64 s.n.term, .int .i64 s.n.vote, .slice A3 s.n.log.length k3, .int .i64 s.n.form, .int .i64 s.n.role, .int .i64 s.n.commit, .slice A7 s.n.votes.length k7, .slice A8 s.n.nxt.length k8, .slice A9 s.n.mtch.length k9, .slice A10 s.n.forms.length k10, .int .i64 s.n.clock, .int .i64 s.n.due], .slice A2 s.out.length k2]) (by simp [results, Try.results64, go_sem, z0, z1, z2, z3, z4, z5, z6, z7, z8, z9, z10, z11, z12]) rfl ⟨.slice A2 s.out.length k2, ?_, ?_, ?_, ?_⟩
  · unfold nodeC
    rw [E3.out, E7.out, E8.out, E9.out, E10.out]
  · exact H.out.nodeV.step fun k _ hk => hB.block k hk
  · refine ⟨cs, ((HR2.out.rd.mono (ok' := fun k => B ≤ k ∧ w.heap.size + 1 ≤ k) fun k hk _ => ⟨by have := (HR2.out.lt k hk).1; omega, (HR2.out.lt k hk).1⟩).step fun k hk _ => far k (by have := hk.2; omega)).mono fun k hk _ => hk.1, (HM2.out.step fun k hk _ => far k (by have := hk.2; omega)).mono fun k hk _ => hk.1⟩
  · exact hB

end Go.Proofs.Ytnkmljdkokcdjaa
