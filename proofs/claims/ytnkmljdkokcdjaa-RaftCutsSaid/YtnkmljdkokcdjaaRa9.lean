/-
  anew and stand: a node is due anew; it stands for being chosen.
-/
import Derived.WalkKit
import Derived.WalkSpells
import Derived.Lib.Hide
import Derived.Outline
import Derived.Test.YtnkmljdkokcdjaaChecked
import Derived.Test.YtnkmljdkokcdjaaRg
import Derived.Test.YtnkmljdkokcdjaaMem
import Derived.Test.YtnkmljdkokcdjaaFed
import Derived.Test.YtnkmljdkokcdjaaRa8
namespace Go.Proofs.Ytnkmljdkokcdjaa
open Go.RowKit Fed
set_option linter.unusedVariables false
attribute [local go_sem high] Fed.max2_int Fed.min2_int

set_option maxRecDepth 100000 in
theorem anew_any (w : World) (B g : Nat) (s : NS) (μ : NM) (h : NodeAt w B g s μ) (hc0 : -1000000000 ≤ s.n.clock) (hc1 : s.n.clock ≤ 1000000000) (hi0 : -1000000000 ≤ s.n.id) (hi1 : s.n.id ≤ 1000000000) :
    Calls Try.prog 102 #[.pointer (some ⟨g, 0, none⟩)] w
      fun e w' => e = .returned (.tuple #[]) ∧ NodeAt w' B g ⟨{ s.n with due := s.n.clock + 5 + 2 * s.n.id }, s.out⟩ μ ∧ Below B w w' ∧ Boxes w w' := by
  have c0 : w.cell? ⟨g, 0, none⟩ = some (.int .i64 s.n.id) := h.c 0 _ rfl
  have c11 : w.cell? ⟨g, 11, none⟩ = some (.int .i64 s.n.clock) := h.c 11 _ rfl
  have c12 : w.cell? ⟨g, 12, none⟩ = some (.int .i64 s.n.due) := h.c 12 _ rfl
  have fr12 := h.fr 12
  have H := Lib.hid h
  clear h
  go_enter Try.func102, Try.ntmps102
  go_wp2
  refine Go.RT.wp_region_tree [0, 0, 2, 6, 14, 30, 62, 0, 128, 384, 896, 1920, 3968, 8190, 16383, 32767, 65535, 131071] (.p 0 (.p 1 (.p 2 (.p 3 (.p 4 (.s 5 (.p 6 (.p 7 (.p 8 (.p 9 (.p 10 (.s 11 (.p 12 (.p 13 (.p 14 (.p 15 (.p 16 (.w 17 [] .nil .stop)))))))))))))))))) (by kernel_rfl) (by kernel_rfl) ?_
  (refine Go.RT.step_p rfl (fun K hK => ?_); go_simp; refine hK _ ?_; clear hK K)
  (refine Go.RT.step_p rfl (fun K hK => ?_); go_simp; refine hK _ ?_; clear hK K)
  (refine Go.RT.step_p rfl (fun K hK => ?_); go_simp; refine hK _ ?_; clear hK K)
  (refine Go.RT.step_p rfl (fun K hK => ?_); go_simp; refine hK _ ?_; clear hK K)
  (refine Go.RT.step_p rfl (fun K hK => ?_); go_simp; refine hK _ ?_; clear hK K)
  (refine Go.RT.step_s rfl (fun K hK => ?_); go_simp; refine hK _ ?_; clear hK K)
  (refine Go.RT.step_p rfl (fun K hK => ?_); go_simp; refine hK _ ?_; clear hK K)
  (refine Go.RT.step_p rfl (fun K hK => ?_); go_simp; refine hK _ ?_; clear hK K)
  (refine Go.RT.step_p rfl (fun K hK => ?_); go_simp; refine hK _ ?_; clear hK K)
  (refine Go.RT.step_p rfl (fun K hK => ?_); go_simp; refine hK _ ?_; clear hK K)
  (refine Go.RT.step_p rfl (fun K hK => ?_); go_simp; refine hK _ ?_; clear hK K)
  (refine Go.RT.step_s rfl (fun K hK => ?_); go_simp; refine hK _ ?_; clear hK K)
  (refine Go.RT.step_p rfl (fun K hK => ?_); go_simp; refine hK _ ?_; clear hK K)
  (refine Go.RT.step_p rfl (fun K hK => ?_); go_simp; refine hK _ ?_; clear hK K)
  (refine Go.RT.step_p rfl (fun K hK => ?_); go_simp; refine hK _ ?_; clear hK K)
  (refine Go.RT.step_p rfl (fun K hK => ?_); go_simp; refine hK _ ?_; clear hK K)
  (refine Go.RT.step_p rfl (fun K hK => ?_); go_simp; refine hK _ ?_; clear hK K)
  (refine Go.RT.step_w rfl rfl (fun K hK => ?_) Go.RT.step_stop)
  go_wp2
  refine Go.RT.QK_normal _ _ _ _ (hK _ _ ?_ ?_) <;> clear hK K
  · exact Go.RT.again_nil
  refine Go.RT.step_nil ?_
  go_end0
  refine ⟨rfl, NodeAt.setg H.out.drew (by rfl) rfl rfl rfl rfl rfl rfl, ((Below.refl B w).drew).setCell H.out.hB _, ?_⟩
  exact Boxes.setCell _ _ H.out.tyg (by decide)

set_option maxRecDepth 100000 in
set_option maxHeartbeats 4000000 in
theorem stand_any (w : World) (B g : Nat) (s : NS) (μ : NM) (h : NodeAt w B g s μ) (ho : s.out.length ≤ 800000) (hl : s.n.log.length ≤ 900000) (hv : s.n.votes.length ≤ 1000) (hi0 : 0 ≤ s.n.id) (hi1 : s.n.id < s.n.votes.length) (ht0 : -1000000000 ≤ s.n.term) (ht1 : s.n.term ≤ 1000000000) (hc0 : -1000000000 ≤ s.n.clock) (hc1 : s.n.clock ≤ 1000000000) :
    Calls Try.prog 63 #[.pointer (some ⟨g, 0, none⟩)] w
      fun e w' => ∃ μ', e = .returned (.tuple #[]) ∧ NodeAt w' B g (standS s) μ' ∧ Below B w w' := by
  have hbs := h.Bsize
  have c0 : w.cell? ⟨g, 0, none⟩ = some (.int .i64 s.n.id) := h.c 0 _ rfl
  have c1 : w.cell? ⟨g, 1, none⟩ = some (.int .i64 s.n.term) := h.c 1 _ rfl
  have c2 : w.cell? ⟨g, 2, none⟩ = some (.int .i64 s.n.vote) := h.c 2 _ rfl
  have c5 : w.cell? ⟨g, 5, none⟩ = some (.int .i64 s.n.role) := h.c 5 _ rfl
  have fr1 := h.fr 1
  have hlt := h.lt
  have H := Lib.hid h
  have HO := Lib.hid ho
  clear h ho
  go_enter Try.func63, Try.ntmps63
  go_wp2
  obtain ⟨w1, hw1⟩ : ∃ W, W = (w.setCell ⟨g, 1, none⟩ (.int .i64 (s.n.term + 1))).alloc (.cells #[.pointer (some ⟨g, 0, none⟩)] 79) := ⟨_, rfl⟩
  have hN1 := (H.out.setg (i := 1) (u := .int .i64 (s.n.term + 1)) (s' := ⟨{ s.n with term := s.n.term + 1 }, s.out⟩) rfl rfl rfl rfl rfl rfl rfl).alloc (.cells #[.pointer (some ⟨g, 0, none⟩)] 79)
  have hB1 : Below B w ((w.setCell ⟨g, 1, none⟩ (.int .i64 (s.n.term + 1))).alloc (.cells #[.pointer (some ⟨g, 0, none⟩)] 79)) := ((Below.refl B w).setCell (p := ⟨g, 1, none⟩) H.out.hB _).alloc (by simp; exact hbs) _
  have hX1 : ((w.setCell ⟨g, 1, none⟩ (.int .i64 (s.n.term + 1))).alloc (.cells #[.pointer (some ⟨g, 0, none⟩)] 79)).heap[w.heap.size]? = some (.cells #[.pointer (some ⟨g, 0, none⟩)] 79 (0, 0)) := by have h9 := MM.alloc_new (w.setCell ⟨g, 1, none⟩ (.int .i64 (s.n.term + 1))) (.cells #[.pointer (some ⟨g, 0, none⟩)] 79); simpa using h9
  rw [← hw1] at hN1 hB1 hX1 ⊢
  have cb1 : w1.cell? ⟨w.heap.size, 0, none⟩ = some (.pointer (some ⟨g, 0, none⟩)) := (Boxes.refl _).cell hX1
  have HN1 := Lib.hid hN1
  have HB1 := Lib.hid hB1
  have HX1 := Lib.hid hX1
  clear hN1 hB1 hX1 hw1

  have c0 : w1.cell? ⟨g, 0, none⟩ = some (.int .i64 s.n.id) := HN1.out.c 0 _ rfl
  have c2 : w1.cell? ⟨g, 2, none⟩ = some (.int .i64 s.n.vote) := HN1.out.c 2 _ rfl
  have c5 : w1.cell? ⟨g, 5, none⟩ = some (.int .i64 s.n.role) := HN1.out.c 5 _ rfl
  have fr5 := HN1.out.fr 5
  have fr2 := HN1.out.fr 2
  go_wp2
  refine Go.RT.wp_region_tree [0, 0, 0, 4, 12, 28, 60, 125, 253, 509, 1021, 2047, 4095, 8191, 16383] (.s 0 (.s 1 (.s 2 (.p 3 (.p 4 (.p 5 (.s 6 (.p 7 (.p 8 (.p 9 (.w 10 [1] (.p 11 (.p 12 (.p 13 (.w 14 [] .nil .stop)))) .stop))))))))))) (by kernel_rfl) (by kernel_rfl) ?_
  (refine Go.RT.step_s rfl (fun K hK => ?_); go_simp; refine hK _ ?_; clear hK K)
  (refine Go.RT.step_s rfl (fun K hK => ?_); go_simp; refine hK _ ?_; clear hK K)
  (refine Go.RT.step_s rfl (fun K hK => ?_); go_simp; refine hK _ ?_; clear hK K)
  (refine Go.RT.step_p rfl (fun K hK => ?_); go_simp; refine hK _ ?_; clear hK K)
  (refine Go.RT.step_p rfl (fun K hK => ?_); go_simp; refine hK _ ?_; clear hK K)
  (refine Go.RT.step_p rfl (fun K hK => ?_); go_simp; refine hK _ ?_; clear hK K)
  (refine Go.RT.step_s rfl (fun K hK => ?_); go_simp; refine hK _ ?_; clear hK K)
  (refine Go.RT.step_p rfl (fun K hK => ?_); go_simp; refine hK _ ?_; clear hK K)
  (refine Go.RT.step_p rfl (fun K hK => ?_); go_simp; refine hK _ ?_; clear hK K)
  (refine Go.RT.step_p rfl (fun K hK => ?_); go_simp; refine hK _ ?_; clear hK K)
  (refine Go.RT.step_w rfl rfl (fun K hK => ?_) Go.RT.step_stop)
  go_wp2
  refine Go.RT.QK_normal _ _ _ _ (hK _ _ ?_ ?_) <;> clear hK K
  · refine Go.RT.again_one rfl ?_ ?_; · (go_simp <;> rfl)
    exact Go.RT.again_nil
  (refine Go.RT.step_p rfl (fun K hK => ?_); go_simp; refine hK _ ?_; clear hK K)
  (refine Go.RT.step_p rfl (fun K hK => ?_); go_simp; refine hK _ ?_; clear hK K)
  (refine Go.RT.step_p rfl (fun K hK => ?_); go_simp; refine hK _ ?_; clear hK K)
  (refine Go.RT.step_w rfl rfl (fun K hK => ?_) Go.RT.step_stop)
  go_wp2
  refine Go.RT.QK_normal _ _ _ _ (hK _ _ ?_ ?_) <;> clear hK K
  · exact Go.RT.again_nil
  refine Go.RT.step_nil ?_
  obtain ⟨w2, hw2⟩ : ∃ W, W = ((w1.setCell ⟨g, 5, none⟩ (.int .i64 1)).setCell ⟨g, 2, none⟩ (.int .i64 s.n.id)).drew := ⟨_, rfl⟩
  have hN2 := ((HN1.out.setg (i := 5) (u := .int .i64 1) (s' := ⟨{ s.n with term := s.n.term + 1, role := 1 }, s.out⟩) rfl rfl rfl rfl rfl rfl rfl).setg (i := 2) (u := .int .i64 s.n.id) (s' := ⟨{ s.n with term := s.n.term + 1, role := 1, vote := s.n.id }, s.out⟩) rfl rfl rfl rfl rfl rfl rfl).drew
  have hB2 : Below B w (((w1.setCell ⟨g, 5, none⟩ (.int .i64 1)).setCell ⟨g, 2, none⟩ (.int .i64 s.n.id)).drew) := ((HB1.out.setCell (p := ⟨g, 5, none⟩) H.out.hB _).setCell (p := ⟨g, 2, none⟩) H.out.hB _).drew
  have hX2 : (((w1.setCell ⟨g, 5, none⟩ (.int .i64 1)).setCell ⟨g, 2, none⟩ (.int .i64 s.n.id)).drew).heap[w.heap.size]? = some (.cells #[.pointer (some ⟨g, 0, none⟩)] 79 (0, 0)) := ((Boxes.setCell (p := ⟨g, 5, none⟩) _ _ HN1.out.tyg (by decide)).trans (Boxes.setCell (p := ⟨g, 2, none⟩) _ _ (HN1.out.setg (i := 5) (u := .int .i64 1) (s' := ⟨{ s.n with term := s.n.term + 1, role := 1 }, s.out⟩) rfl rfl rfl rfl rfl rfl rfl).tyg (by decide))) _ _ _ HX1.out
  rw [← hw2] at hN2 hB2 hX2 ⊢
  have cb2 : w2.cell? ⟨w.heap.size, 0, none⟩ = some (.pointer (some ⟨g, 0, none⟩)) := (Boxes.refl _).cell hX2
  have HN2 := Lib.hid hN2
  have HB2 := Lib.hid hB2
  have HX2 := Lib.hid hX2
  clear hN2 hB2 hX2 hw2

  clear c0 c2 c5 fr5 fr2 cb1
  go_wp2
  refine Go.RT.wp_region_tree [0, 0, 2, 6, 15, 31, 63, 127] (.s 0 (.s 1 (.w 2 [0] (.w 3 [0] (.p 4 (.p 5 (.p 6 (.w 7 [] .nil .stop)))) .stop) .stop))) (by kernel_rfl) (by kernel_rfl) ?_
  (refine Go.RT.step_s rfl (fun K hK => ?_); go_simp; refine hK _ ?_; clear hK K)
  (refine Go.RT.step_s rfl (fun K hK => ?_); go_simp; refine hK _ ?_; clear hK K)
  (refine Go.RT.step_w rfl rfl (fun K hK => ?_) Go.RT.step_stop)
  go_wp2_with fail
  refine (size_any _ B g _ _ (HN2.out.below (by repeat (first | exact Below.refl _ _ | refine Below.setCell ?_ (by simp) _ | refine Below.alloc ?_ (by simp) _ | refine Below.drew ?_)))).mono ?_
  rintro e w2 ⟨rfl, rfl⟩
  go_wp2_with fail
  refine Go.RT.QK_normal _ _ _ _ (hK _ _ ?_ ?_) <;> clear hK K
  · refine Go.RT.again_one rfl ?_ ?_; · (go_simp <;> rfl)
    exact Go.RT.again_nil
  (refine Go.RT.step_w rfl rfl (fun K hK => ?_) Go.RT.step_stop)
  go_wp2_with fail
  refine (filled_bool _ s.n.votes.length false hv).mono ?_
  rintro e w3 ⟨v3, ob3, rfl, hr3, hb3⟩
  go_wp2_with fail
  obtain ⟨A3, k3, rfl, _, _⟩ := hr3.slice
  have hN3 := (HN2.out.drew).below hb3
  have c7 : w3.cell? ⟨g, 7, none⟩ = some μ.v.v := hN3.c 7 _ rfl
  have fr7 := hN3.fr 7
  have cb3 : w3.cell? ⟨w.heap.size, 0, none⟩ = some (.pointer (some ⟨g, 0, none⟩)) := (Boxes.below hb3).cell HX2.out
  have hBs := HN2.out.Bsize
  have HR3 := Lib.hid (hr3.lower (base' := B) hBs)
  have HB3 := Lib.hid (HB2.out.trans (Below.trans (Below.drew (Below.refl B w2)) (hb3.mono hBs)))
  have HX3 := Lib.hid (Boxes.below hb3 _ _ _ HX2.out)
  have HN3 := Lib.hid hN3
  clear hN3 hr3 hb3
  refine Go.RT.QK_normal _ _ _ _ (hK _ _ ?_ ?_) <;> clear hK K
  · refine Go.RT.again_one rfl ?_ ?_; · (go_simp <;> rfl)
    exact Go.RT.again_nil
  (refine Go.RT.step_p rfl (fun K hK => ?_); go_simp; refine hK _ ?_; clear hK K)
  (refine Go.RT.step_p rfl (fun K hK => ?_); go_simp; refine hK _ ?_; clear hK K)
  (refine Go.RT.step_p rfl (fun K hK => ?_); go_simp; refine hK _ ?_; clear hK K)
  (refine Go.RT.step_w rfl rfl (fun K hK => ?_) Go.RT.step_stop)
  go_wp2
  refine Go.RT.QK_normal _ _ _ _ (hK _ _ ?_ ?_) <;> clear hK K
  · exact Go.RT.again_nil
  refine Go.RT.step_nil ?_
  obtain ⟨w4, hw4⟩ : ∃ W, W = w3.setCell ⟨g, 7, none⟩ (.slice A3 s.n.votes.length k3) := ⟨_, rfl⟩
  have hN4 := HN3.out.rows (i := 7) (u := .slice A3 s.n.votes.length k3) (s' := ⟨{ s.n with term := s.n.term + 1, role := 1, vote := s.n.id, votes := List.replicate s.n.votes.length false }, s.out⟩) (μ' := { μ with v := ⟨.slice A3 s.n.votes.length k3, ob3⟩ }) rfl rfl rfl rfl rfl (by show MM.Row _ _ _ _ _ (List.replicate _ _).length _ _; rw [List.length_replicate]; exact HR3.out) HN3.out.hn HN3.out.hm HN3.out.hf HN3.out.nm HN3.out.nf HN3.out.mf
  have hB4 : Below B w (w3.setCell ⟨g, 7, none⟩ (.slice A3 s.n.votes.length k3)) := HB3.out.setCell (p := ⟨g, 7, none⟩) H.out.hB _
  have hX4 : (w3.setCell ⟨g, 7, none⟩ (.slice A3 s.n.votes.length k3)).heap[w.heap.size]? = some (.cells #[.pointer (some ⟨g, 0, none⟩)] 79 (0, 0)) := (Boxes.setCell (p := ⟨g, 7, none⟩) _ _ HN3.out.tyg (by decide)) _ _ _ HX3.out
  rw [← hw4] at hN4 hB4 hX4 ⊢
  have cb4 : w4.cell? ⟨w.heap.size, 0, none⟩ = some (.pointer (some ⟨g, 0, none⟩)) := (Boxes.refl _).cell hX4
  have HN4 := Lib.hid hN4
  have HB4 := Lib.hid hB4
  have HX4 := Lib.hid hX4
  clear hN4 hB4 hX4 hw4

  clear c7 fr7 cb3 cb2
  obtain ⟨bv, hbv⟩ := HR3.out.some_of (by omega)
  have hr4 := HN4.out.hv
  rw [show ob3 = some bv from hbv] at hr4
  obtain ⟨cap, e7, q1, q2⟩ := hr4.form
  have hlen : (List.replicate s.n.votes.length false).length = s.n.votes.length := List.length_replicate
  have c7 : w4.cell? ⟨g, 7, none⟩ = some (.slice (some ⟨bv, 0, none⟩) s.n.votes.length cap) := HN4.out.c 7 _ (by
    have e8 : (Value.slice A3 s.n.votes.length k3) = .slice (some ⟨bv, 0, none⟩) (List.replicate s.n.votes.length false).length cap := e7
    rw [hlen] at e8
    rw [← e8]; rfl)
  have c0 : w4.cell? ⟨g, 0, none⟩ = some (.int .i64 s.n.id) := HN4.out.c 0 _ rfl
  have hin : s.n.id.toNat < s.n.votes.length := by omega
  have ce : w4.cell? ⟨bv, s.n.id.toNat, none⟩ = some (.bool ((List.replicate s.n.votes.length false).getD s.n.id.toNat false)) := hr4.cell (boolsC_get (by rw [hlen]; exact hin))
  have fe : w4.frozen? ⟨bv, s.n.id.toNat, none⟩ = false := hr4.free _
  have HBV := Lib.hid hbv
  have HIN := Lib.hid hin
  have HTY := Lib.hid (hr4.ty bv rfl)
  have HGE := Lib.hid (hr4.lt bv rfl).1
  clear hr4 e7 hlen hbv hin
  go_wp2
  refine Go.RT.wp_region_tree [0, 1, 3, 7, 15, 0, 32, 96, 224, 480, 1023, 2047] (.s 0 (.p 1 (.p 2 (.p 3 (.s 4 (.s 5 (.p 6 (.p 7 (.p 8 (.s 9 (.p 10 (.w 11 [] .nil .stop)))))))))))) (by kernel_rfl) (by kernel_rfl) ?_
  (refine Go.RT.step_s rfl (fun K hK => ?_); go_simp; refine hK _ ?_; clear hK K)
  (refine Go.RT.step_p rfl (fun K hK => ?_); go_simp; refine hK _ ?_; clear hK K)
  (refine Go.RT.step_p rfl (fun K hK => ?_); go_simp; refine hK _ ?_; clear hK K)
  (refine Go.RT.step_p rfl (fun K hK => ?_); go_simp; refine hK _ ?_; clear hK K)
  (refine Go.RT.step_s rfl (fun K hK => ?_); go_simp; refine hK _ ?_; clear hK K)
  (refine Go.RT.step_s rfl (fun K hK => ?_); go_simp; refine hK _ ?_; clear hK K)
  (refine Go.RT.step_p rfl (fun K hK => ?_); go_simp; refine hK _ ?_; clear hK K)
  (refine Go.RT.step_p rfl (fun K hK => ?_); go_simp; refine hK _ ?_; clear hK K)
  (refine Go.RT.step_p rfl (fun K hK => ?_); go_simp; refine hK _ ?_; clear hK K)
  (refine Go.RT.step_s rfl (fun K hK => ?_); go_simp; refine hK _ ?_; clear hK K)
  (refine Go.RT.step_p rfl (fun K hK => ?_); go_simp; refine hK _ ?_; clear hK K)
  (refine Go.RT.step_w rfl rfl (fun K hK => ?_) Go.RT.step_stop)
  go_wp2
  refine Go.RT.QK_normal _ _ _ _ (hK _ _ ?_ ?_) <;> clear hK K
  · exact Go.RT.again_nil
  refine Go.RT.step_nil ?_
  obtain ⟨w5, hw5⟩ : ∃ W, W = (w4.setCell ⟨bv, s.n.id.toNat, none⟩ (.bool true)).drew := ⟨_, rfl⟩
  have hN5 := (HN4.out.set_v (i := s.n.id.toNat) (x := true) HBV.out (by show _ < (List.replicate _ _).length; rw [List.length_replicate]; exact HIN.out)).drew
  have hB5 : Below B w ((w4.setCell ⟨bv, s.n.id.toNat, none⟩ (.bool true)).drew) := (HB4.out.setCell (p := ⟨bv, s.n.id.toNat, none⟩) HGE.out _).drew
  have hX5 : ((w4.setCell ⟨bv, s.n.id.toNat, none⟩ (.bool true)).drew).heap[w.heap.size]? = some (.cells #[.pointer (some ⟨g, 0, none⟩)] 79 (0, 0)) := (Boxes.setCell (p := ⟨bv, s.n.id.toNat, none⟩) _ _ HTY.out (by decide)) _ _ _ HX4.out
  rw [← hw5] at hN5 hB5 hX5 ⊢
  have cb5 : w5.cell? ⟨w.heap.size, 0, none⟩ = some (.pointer (some ⟨g, 0, none⟩)) := (Boxes.refl _).cell hX5
  have HN5 := Lib.hid hN5
  have HB5 := Lib.hid hB5
  have HX5 := Lib.hid hX5
  clear hN5 hB5 hX5 hw5

  clear c7 c0 ce fe cb4
  go_wp2_with fail
  refine (anew_any _ B g _ _ HN5.out hc0 hc1 (by show -1000000000 ≤ s.n.id; omega) (by show s.n.id ≤ 1000000000; omega)).mono ?_
  rintro e w6 ⟨rfl, hn6, hb6, hx6⟩
  have cb6 := hx6.cell HX5.out
  have hvl : ((List.replicate s.n.votes.length false).set s.n.id.toNat true).length = s.n.votes.length := by simp
  have HN6 := Lib.hid (show NodeAt w6 B g ⟨standN s.n, s.out⟩ _ from hn6)
  have HB6 := Lib.hid (HB5.out.trans hb6)
  have HX6 := Lib.hid (hx6 _ _ _ HX5.out)
  clear hn6 hb6 hx6 cb5
  go_wp2_with fail
  refine (others_asks _ B g _ _ HN6.out w.heap.size HX6.out (by have := HO.out; show s.out.length ≤ 900000; omega) (by show s.n.log.length ≤ 1000000; omega) (by show ((List.replicate s.n.votes.length false).set s.n.id.toNat true).length ≤ 1000; rw [hvl]; exact hv)).mono ?_
  rintro e w7 ⟨o7, rfl, hn7, hb7, hx7⟩
  have cb7 := hx7.cell HX6.out
  rw [show (⟨standN s.n, s.out⟩ : NS).n.votes.length = s.n.votes.length from hvl] at hn7
  have HN7 := Lib.hid hn7
  have HB7 := Lib.hid (HB6.out.trans hb7)
  clear hn7 hb7 hx7 cb6
  go_wp2_with fail
  refine (size_any _ B g _ _ HN7.out).mono ?_
  rintro e w9 ⟨rfl, rfl⟩
  by_cases h1 : s.n.votes.length = 1
  · have hb : (((standN s.n).votes.length : Int) == 1) = true := by rw [show (standN s.n).votes.length = s.n.votes.length from hvl]; simp [h1]
    have HS := Lib.hid (show standS s = leadS ⟨standN s.n, s.out ++ askMsgs (standN s.n) s.n.votes.length⟩ from by unfold standS; rw [if_pos h1])
    have HVL := Lib.hid hvl
    clear h1 hvl
    go_wp2_with fail
    refine (lead_any _ B g _ _ HN7.out (by have := HO.out; have := askMsgs_le (standN s.n) s.n.votes.length; show (s.out ++ askMsgs (standN s.n) s.n.votes.length).length ≤ 900000; rw [List.length_append]; omega) hl (by show (standN s.n).votes.length ≤ 1000; rw [show (standN s.n).votes.length = s.n.votes.length from HVL.out]; exact hv) hi0 (by show s.n.id < ((standN s.n).votes.length : Int); rw [show (standN s.n).votes.length = s.n.votes.length from HVL.out]; exact hi1)).mono ?_
    rintro e w8 ⟨μ8, rfl, hn8, hb8⟩
    go_wp2_with fail
    go_end0
    exact ⟨μ8, rfl, by rw [HS.out]; exact hn8, HB7.out.trans hb8⟩
  · have hb : (((standN s.n).votes.length : Int) == 1) = false := by rw [show (standN s.n).votes.length = s.n.votes.length from hvl]; simp; omega
    have HS := Lib.hid (show standS s = ⟨standN s.n, s.out ++ askMsgs (standN s.n) s.n.votes.length⟩ from by unfold standS; rw [if_neg h1])
    clear h1 hvl
    go_wp2_with fail
    go_end0
    exact ⟨_, rfl, by rw [HS.out]; exact HN7.out, HB7.out⟩

end Go.Proofs.Ytnkmljdkokcdjaa
