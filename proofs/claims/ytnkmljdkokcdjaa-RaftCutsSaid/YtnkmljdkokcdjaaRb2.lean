/-
  end tells a node at work, and what it sends.
-/
import Derived.WalkKit
import Derived.WalkSpells
import Derived.Lib.Hide
import Derived.Outline
import Derived.Test.YtnkmljdkokcdjaaChecked
import Derived.Test.YtnkmljdkokcdjaaRg
import Derived.Test.YtnkmljdkokcdjaaMem
import Derived.Test.YtnkmljdkokcdjaaFed
import Derived.Test.YtnkmljdkokcdjaaRb1
namespace Go.Proofs.Ytnkmljdkokcdjaa
open Go.RowKit Fed
set_option linter.unusedVariables false
attribute [local go_sem high] Fed.max2_int Fed.min2_int

theorem setCell_blk {w : World} {b i : Nat} {c : Array Value} {t : TypeId} {f : Nat × Nat} (u : Value) (h : w.heap[b]? = some (.cells c t f)) : (w.setCell ⟨b, i, none⟩ u).heap[b]? = some (.cells (c.setIfInBounds i u) t f) := by
  simp [World.setCell, Array.getElem?_modify, h]
theorem set13 {w : World} {b t : Nat} {f : Nat × Nat} {a0 a1 a2 a3 a4 a5 a6 a7 a8 a9 a10 a11 a12 u0 u1 u2 u3 u4 u5 u6 u7 u8 u9 u10 u11 u12 : Value} (q : w.heap[b]? = some (.cells #[a0, a1, a2, a3, a4, a5, a6, a7, a8, a9, a10, a11, a12] t f)) : ((((((((((((((w).setCell ⟨b, 0, none⟩ u0).setCell ⟨b, 1, none⟩ u1).setCell ⟨b, 2, none⟩ u2).setCell ⟨b, 3, none⟩ u3).setCell ⟨b, 4, none⟩ u4).setCell ⟨b, 5, none⟩ u5).setCell ⟨b, 6, none⟩ u6).setCell ⟨b, 7, none⟩ u7).setCell ⟨b, 8, none⟩ u8).setCell ⟨b, 9, none⟩ u9).setCell ⟨b, 10, none⟩ u10).setCell ⟨b, 11, none⟩ u11).setCell ⟨b, 12, none⟩ u12).heap[b]? = some (.cells #[u0, u1, u2, u3, u4, u5, u6, u7, u8, u9, u10, u11, u12] t f) := by
  replace q : (w.setCell ⟨b, 0, none⟩ u0).heap[b]? = some (.cells #[u0, a1, a2, a3, a4, a5, a6, a7, a8, a9, a10, a11, a12] t f) := setCell_blk u0 q
  generalize w.setCell ⟨b, 0, none⟩ u0 = w0 at q ⊢
  replace q : (w0.setCell ⟨b, 1, none⟩ u1).heap[b]? = some (.cells #[u0, u1, a2, a3, a4, a5, a6, a7, a8, a9, a10, a11, a12] t f) := setCell_blk u1 q
  generalize w0.setCell ⟨b, 1, none⟩ u1 = w1 at q ⊢
  replace q : (w1.setCell ⟨b, 2, none⟩ u2).heap[b]? = some (.cells #[u0, u1, u2, a3, a4, a5, a6, a7, a8, a9, a10, a11, a12] t f) := setCell_blk u2 q
  generalize w1.setCell ⟨b, 2, none⟩ u2 = w2 at q ⊢
  replace q : (w2.setCell ⟨b, 3, none⟩ u3).heap[b]? = some (.cells #[u0, u1, u2, u3, a4, a5, a6, a7, a8, a9, a10, a11, a12] t f) := setCell_blk u3 q
  generalize w2.setCell ⟨b, 3, none⟩ u3 = w3 at q ⊢
  replace q : (w3.setCell ⟨b, 4, none⟩ u4).heap[b]? = some (.cells #[u0, u1, u2, u3, u4, a5, a6, a7, a8, a9, a10, a11, a12] t f) := setCell_blk u4 q
  generalize w3.setCell ⟨b, 4, none⟩ u4 = w4 at q ⊢
  replace q : (w4.setCell ⟨b, 5, none⟩ u5).heap[b]? = some (.cells #[u0, u1, u2, u3, u4, u5, a6, a7, a8, a9, a10, a11, a12] t f) := setCell_blk u5 q
  generalize w4.setCell ⟨b, 5, none⟩ u5 = w5 at q ⊢
  replace q : (w5.setCell ⟨b, 6, none⟩ u6).heap[b]? = some (.cells #[u0, u1, u2, u3, u4, u5, u6, a7, a8, a9, a10, a11, a12] t f) := setCell_blk u6 q
  generalize w5.setCell ⟨b, 6, none⟩ u6 = w6 at q ⊢
  replace q : (w6.setCell ⟨b, 7, none⟩ u7).heap[b]? = some (.cells #[u0, u1, u2, u3, u4, u5, u6, u7, a8, a9, a10, a11, a12] t f) := setCell_blk u7 q
  generalize w6.setCell ⟨b, 7, none⟩ u7 = w7 at q ⊢
  replace q : (w7.setCell ⟨b, 8, none⟩ u8).heap[b]? = some (.cells #[u0, u1, u2, u3, u4, u5, u6, u7, u8, a9, a10, a11, a12] t f) := setCell_blk u8 q
  generalize w7.setCell ⟨b, 8, none⟩ u8 = w8 at q ⊢
  replace q : (w8.setCell ⟨b, 9, none⟩ u9).heap[b]? = some (.cells #[u0, u1, u2, u3, u4, u5, u6, u7, u8, u9, a10, a11, a12] t f) := setCell_blk u9 q
  generalize w8.setCell ⟨b, 9, none⟩ u9 = w9 at q ⊢
  replace q : (w9.setCell ⟨b, 10, none⟩ u10).heap[b]? = some (.cells #[u0, u1, u2, u3, u4, u5, u6, u7, u8, u9, u10, a11, a12] t f) := setCell_blk u10 q
  generalize w9.setCell ⟨b, 10, none⟩ u10 = w10 at q ⊢
  replace q : (w10.setCell ⟨b, 11, none⟩ u11).heap[b]? = some (.cells #[u0, u1, u2, u3, u4, u5, u6, u7, u8, u9, u10, u11, a12] t f) := setCell_blk u11 q
  generalize w10.setCell ⟨b, 11, none⟩ u11 = w11 at q ⊢
  replace q : (w11.setCell ⟨b, 12, none⟩ u12).heap[b]? = some (.cells #[u0, u1, u2, u3, u4, u5, u6, u7, u8, u9, u10, u11, u12] t f) := setCell_blk u12 q
  exact q
theorem below13 {n b : Nat} {w0 w : World} {u0 u1 u2 u3 u4 u5 u6 u7 u8 u9 u10 u11 u12 : Value} (q : Below n w0 w) (h : n ≤ b) : Below n w0 ((((((((((((((w).setCell ⟨b, 0, none⟩ u0).setCell ⟨b, 1, none⟩ u1).setCell ⟨b, 2, none⟩ u2).setCell ⟨b, 3, none⟩ u3).setCell ⟨b, 4, none⟩ u4).setCell ⟨b, 5, none⟩ u5).setCell ⟨b, 6, none⟩ u6).setCell ⟨b, 7, none⟩ u7).setCell ⟨b, 8, none⟩ u8).setCell ⟨b, 9, none⟩ u9).setCell ⟨b, 10, none⟩ u10).setCell ⟨b, 11, none⟩ u11).setCell ⟨b, 12, none⟩ u12) := Below.setCell (Below.setCell (Below.setCell (Below.setCell (Below.setCell (Below.setCell (Below.setCell (Below.setCell (Below.setCell (Below.setCell (Below.setCell (Below.setCell (Below.setCell (q) h _) h _) h _) h _) h _) h _) h _) h _) h _) h _) h _) h _) h _
theorem far13 {b k : Nat} {w : World} {u0 u1 u2 u3 u4 u5 u6 u7 u8 u9 u10 u11 u12 : Value} (h : k ≠ b) : ((((((((((((((w).setCell ⟨b, 0, none⟩ u0).setCell ⟨b, 1, none⟩ u1).setCell ⟨b, 2, none⟩ u2).setCell ⟨b, 3, none⟩ u3).setCell ⟨b, 4, none⟩ u4).setCell ⟨b, 5, none⟩ u5).setCell ⟨b, 6, none⟩ u6).setCell ⟨b, 7, none⟩ u7).setCell ⟨b, 8, none⟩ u8).setCell ⟨b, 9, none⟩ u9).setCell ⟨b, 10, none⟩ u10).setCell ⟨b, 11, none⟩ u11).setCell ⟨b, 12, none⟩ u12).heap[k]? = w.heap[k]? := (Below.heap_setCell _ _ _ k h).trans ((Below.heap_setCell _ _ _ k h).trans ((Below.heap_setCell _ _ _ k h).trans ((Below.heap_setCell _ _ _ k h).trans ((Below.heap_setCell _ _ _ k h).trans ((Below.heap_setCell _ _ _ k h).trans ((Below.heap_setCell _ _ _ k h).trans ((Below.heap_setCell _ _ _ k h).trans ((Below.heap_setCell _ _ _ k h).trans ((Below.heap_setCell _ _ _ k h).trans ((Below.heap_setCell _ _ _ k h).trans ((Below.heap_setCell _ _ _ k h).trans ((Below.heap_setCell _ _ _ k h).trans (rfl)))))))))))))
set_option maxRecDepth 100000 in
set_option maxHeartbeats 4000000 in
theorem end_any (w : World) (B g : Nat) (s : NS) (μ : NM) (h : NodeAt w B g s μ) (ho : s.out.length ≤ 1000000) :
    Calls Try.prog 64 #[.pointer (some ⟨g, 0, none⟩)] w
      fun e w' => ∃ vo, e = .returned (.tuple #[.agg (nodeC s.n μ.l.v μ.v.v μ.n.v μ.m.v μ.f.v), vo]) ∧ NodeV w' (fun k => B ≤ k) s.n μ.l.v μ.v.v μ.n.v μ.m.v μ.f.v ∧ MsgsV w' (fun k => B ≤ k) vo s.out ∧ Below w.heap.size w w' := by
  have c0 : w.cell? ⟨g, 0, none⟩ = some (.int .i64 s.n.id) := h.c 0 _ rfl
  have c1 : w.cell? ⟨g, 1, none⟩ = some (.int .i64 s.n.term) := h.c 1 _ rfl
  have c2 : w.cell? ⟨g, 2, none⟩ = some (.int .i64 s.n.vote) := h.c 2 _ rfl
  obtain ⟨A3, k3, e3, u3, _⟩ := h.hl.slice
  have c3 : w.cell? ⟨g, 3, none⟩ = some (.slice A3 s.n.log.length k3) := h.c 3 _ (by rw [← e3]; rfl)
  have E3 := Lib.hid e3; clear e3
  have c4 : w.cell? ⟨g, 4, none⟩ = some (.int .i64 s.n.form) := h.c 4 _ rfl
  have c5 : w.cell? ⟨g, 5, none⟩ = some (.int .i64 s.n.role) := h.c 5 _ rfl
  have c6 : w.cell? ⟨g, 6, none⟩ = some (.int .i64 s.n.commit) := h.c 6 _ rfl
  obtain ⟨A7, k7, e7, u7, _⟩ := h.hv.slice
  have c7 : w.cell? ⟨g, 7, none⟩ = some (.slice A7 s.n.votes.length k7) := h.c 7 _ (by rw [← e7]; rfl)
  have E7 := Lib.hid e7; clear e7
  obtain ⟨A8, k8, e8, u8, _⟩ := h.hn.slice
  have c8 : w.cell? ⟨g, 8, none⟩ = some (.slice A8 s.n.nxt.length k8) := h.c 8 _ (by rw [← e8]; rfl)
  have E8 := Lib.hid e8; clear e8
  obtain ⟨A9, k9, e9, u9, _⟩ := h.hm.slice
  have c9 : w.cell? ⟨g, 9, none⟩ = some (.slice A9 s.n.mtch.length k9) := h.c 9 _ (by rw [← e9]; rfl)
  have E9 := Lib.hid e9; clear e9
  obtain ⟨A10, k10, e10, u10, _⟩ := h.hf.slice
  have c10 : w.cell? ⟨g, 10, none⟩ = some (.slice A10 s.n.forms.length k10) := h.c 10 _ (by rw [← e10]; rfl)
  have E10 := Lib.hid e10; clear e10
  have c11 : w.cell? ⟨g, 11, none⟩ = some (.int .i64 s.n.clock) := h.c 11 _ rfl
  have c12 : w.cell? ⟨g, 12, none⟩ = some (.int .i64 s.n.due) := h.c 12 _ rfl
  have c13 : w.cell? ⟨g, 13, none⟩ = some μ.o.v := h.c 13 _ rfl
  obtain ⟨cs, hro, hrm⟩ := h.ho
  obtain ⟨Ao, ko, eo, _, _⟩ := hro.slice
  rw [eo] at c13
  have hlt := h.lt
  have hbs := h.Bsize
  have HRO := Lib.hid (show MM.Rd w (fun k => B ≤ k) 10 (.slice Ao s.out.length ko) s.out.length cs from by rw [← eo]; exact hro.rd.mono fun k hk _ => (hro.lt k hk).1)
  have HRM := Lib.hid (hrm.mono (ok' := fun k => B ≤ k) fun k hk _ => hk.1)
  have HC := Lib.hid hrm.one_cell
  have H := Lib.hid h
  have HO := Lib.hid ho
  clear h ho hro hrm eo
  go_enter Try.func64, Try.ntmps64
  go_wp2
  refine Go.RT.wp_region_tree [0, 1, 3, 7, 0, 16, 48, 112, 240, 511, 1023] (.p 0 (.p 1 (.p 2 (.s 3 (.p 4 (.p 5 (.p 6 (.s 7 (.w 8 [3] (.w 9 [] (.w 10 [] .nil .stop) .stop) .stop))))))))) (by kernel_rfl) (by kernel_rfl) ?_
  (refine Go.RT.step_p rfl (fun K hK => ?_); go_simp; refine hK _ ?_; clear hK K)
  (refine Go.RT.step_p rfl (fun K hK => ?_); go_simp; refine hK _ ?_; clear hK K)
  (refine Go.RT.step_p rfl (fun K hK => ?_); go_simp; refine hK _ ?_; clear hK K)
  (refine Go.RT.step_s rfl (fun K hK => ?_); go_simp; refine hK _ ?_; clear hK K)
  (refine Go.RT.step_p rfl (fun K hK => ?_); go_simp; refine hK _ ?_; clear hK K)
  (refine Go.RT.step_p rfl (fun K hK => ?_); go_simp; refine hK _ ?_; clear hK K)
  (refine Go.RT.step_p rfl (fun K hK => ?_); go_simp; refine hK _ ?_; clear hK K)
  (refine Go.RT.step_s rfl (fun K hK => ?_); go_simp; refine hK _ ?_; clear hK K)
  (refine Go.RT.step_w rfl rfl (fun K hK => ?_) Go.RT.step_stop)
  go_wp2_with fail
  refine (clone_msg _ (fun k => B ≤ k) _ _ _ (by exact HRO.out.below (by repeat (first | exact Below.refl _ _ | refine Below.setCell ?_ (by simp) _ | refine Below.alloc ?_ (by simp) _ | refine Below.drew ?_))) HC.out (by have := HO.out; omega)).mono ?_
  rintro e w2 ⟨v2, o2, rfl, hr2, hb2⟩
  go_wp2_with fail
  obtain ⟨A2, k2, rfl, _, _⟩ := hr2.slice
  have hn2 := (H.out.below (by repeat (first | exact Below.refl _ _ | refine Below.setCell ?_ (by simp) _ | refine Below.alloc ?_ (by simp) _ | refine Below.drew ?_))).below hb2
  have d0 : w2.cell? ⟨g, 0, none⟩ = some (.int .i64 s.n.id) := hn2.c 0 _ rfl
  have d1 : w2.cell? ⟨g, 1, none⟩ = some (.int .i64 s.n.term) := hn2.c 1 _ rfl
  have d2 : w2.cell? ⟨g, 2, none⟩ = some (.int .i64 s.n.vote) := hn2.c 2 _ rfl
  have d3 : w2.cell? ⟨g, 3, none⟩ = some (.slice A3 s.n.log.length k3) := hn2.c 3 _ (by rw [← E3.out]; rfl)
  have d4 : w2.cell? ⟨g, 4, none⟩ = some (.int .i64 s.n.form) := hn2.c 4 _ rfl
  have d5 : w2.cell? ⟨g, 5, none⟩ = some (.int .i64 s.n.role) := hn2.c 5 _ rfl
  have d6 : w2.cell? ⟨g, 6, none⟩ = some (.int .i64 s.n.commit) := hn2.c 6 _ rfl
  have d7 : w2.cell? ⟨g, 7, none⟩ = some (.slice A7 s.n.votes.length k7) := hn2.c 7 _ (by rw [← E7.out]; rfl)
  have d8 : w2.cell? ⟨g, 8, none⟩ = some (.slice A8 s.n.nxt.length k8) := hn2.c 8 _ (by rw [← E8.out]; rfl)
  have d9 : w2.cell? ⟨g, 9, none⟩ = some (.slice A9 s.n.mtch.length k9) := hn2.c 9 _ (by rw [← E9.out]; rfl)
  have d10 : w2.cell? ⟨g, 10, none⟩ = some (.slice A10 s.n.forms.length k10) := hn2.c 10 _ (by rw [← E10.out]; rfl)
  have d11 : w2.cell? ⟨g, 11, none⟩ = some (.int .i64 s.n.clock) := hn2.c 11 _ rfl
  have d12 : w2.cell? ⟨g, 12, none⟩ = some (.int .i64 s.n.due) := hn2.c 12 _ rfl
  have hx2 : w2.heap[w.heap.size]? = some (.cells #[.int .i64 0, .int .i64 0, .int .i64 0, .slice none 0 0, .int .i64 0, .int .i64 0, .int .i64 0, .slice none 0 0, .slice none 0 0, .slice none 0 0, .slice none 0 0, .int .i64 0, .int .i64 0] 28 (0, 0)) := (hb2.block w.heap.size (by simp)).trans (MM.alloc_new w _)
  have f0 : w2.cell? ⟨w.heap.size, 0, none⟩ = some (.int .i64 0) := MM.cell_blk hx2 rfl
  have r0 : w2.frozen? ⟨w.heap.size, 0, none⟩ = false := MM.free_blk hx2
  have f1 : w2.cell? ⟨w.heap.size, 1, none⟩ = some (.int .i64 0) := MM.cell_blk hx2 rfl
  have r1 : w2.frozen? ⟨w.heap.size, 1, none⟩ = false := MM.free_blk hx2
  have f2 : w2.cell? ⟨w.heap.size, 2, none⟩ = some (.int .i64 0) := MM.cell_blk hx2 rfl
  have r2 : w2.frozen? ⟨w.heap.size, 2, none⟩ = false := MM.free_blk hx2
  have f3 : w2.cell? ⟨w.heap.size, 3, none⟩ = some (.slice none 0 0) := MM.cell_blk hx2 rfl
  have r3 : w2.frozen? ⟨w.heap.size, 3, none⟩ = false := MM.free_blk hx2
  have f4 : w2.cell? ⟨w.heap.size, 4, none⟩ = some (.int .i64 0) := MM.cell_blk hx2 rfl
  have r4 : w2.frozen? ⟨w.heap.size, 4, none⟩ = false := MM.free_blk hx2
  have f5 : w2.cell? ⟨w.heap.size, 5, none⟩ = some (.int .i64 0) := MM.cell_blk hx2 rfl
  have r5 : w2.frozen? ⟨w.heap.size, 5, none⟩ = false := MM.free_blk hx2
  have f6 : w2.cell? ⟨w.heap.size, 6, none⟩ = some (.int .i64 0) := MM.cell_blk hx2 rfl
  have r6 : w2.frozen? ⟨w.heap.size, 6, none⟩ = false := MM.free_blk hx2
  have f7 : w2.cell? ⟨w.heap.size, 7, none⟩ = some (.slice none 0 0) := MM.cell_blk hx2 rfl
  have r7 : w2.frozen? ⟨w.heap.size, 7, none⟩ = false := MM.free_blk hx2
  have f8 : w2.cell? ⟨w.heap.size, 8, none⟩ = some (.slice none 0 0) := MM.cell_blk hx2 rfl
  have r8 : w2.frozen? ⟨w.heap.size, 8, none⟩ = false := MM.free_blk hx2
  have f9 : w2.cell? ⟨w.heap.size, 9, none⟩ = some (.slice none 0 0) := MM.cell_blk hx2 rfl
  have r9 : w2.frozen? ⟨w.heap.size, 9, none⟩ = false := MM.free_blk hx2
  have f10 : w2.cell? ⟨w.heap.size, 10, none⟩ = some (.slice none 0 0) := MM.cell_blk hx2 rfl
  have r10 : w2.frozen? ⟨w.heap.size, 10, none⟩ = false := MM.free_blk hx2
  have f11 : w2.cell? ⟨w.heap.size, 11, none⟩ = some (.int .i64 0) := MM.cell_blk hx2 rfl
  have r11 : w2.frozen? ⟨w.heap.size, 11, none⟩ = false := MM.free_blk hx2
  have f12 : w2.cell? ⟨w.heap.size, 12, none⟩ = some (.int .i64 0) := MM.cell_blk hx2 rfl
  have r12 : w2.frozen? ⟨w.heap.size, 12, none⟩ = false := MM.free_blk hx2
  have HN2 := Lib.hid hn2
  have HR2 := Lib.hid (hr2.lower (base' := w.heap.size + 1) (by simp))
  have HB2 := Lib.hid (show Below w.heap.size w w2 from Below.trans (by repeat (first | exact Below.refl _ _ | refine Below.setCell ?_ (by simp) _ | refine Below.alloc ?_ (by simp) _ | refine Below.drew ?_)) (hb2.mono (by simp)))
  have HM2 := Lib.hid (((HRM.out.mono (ok' := fun k => B ≤ k ∧ k < w.heap.size) fun k hk hlt => ⟨hk, hlt⟩).step (fun k _ hk => Below.block (by repeat (first | exact Below.refl _ _ | refine Below.setCell ?_ (by simp) _ | refine Below.alloc ?_ (by simp) _ | refine Below.drew ?_)) k hk) : MsgsR _ (fun k => B ≤ k ∧ k < w.heap.size) s.out cs).step (fun k _ hk => hb2.block k hk))
  have HX2 := Lib.hid hx2
  clear hn2 hr2 hb2 hx2
  refine Go.RT.QK_normal _ _ _ _ (hK _ _ ?_ ?_) <;> clear hK K
  · refine Go.RT.again_one rfl ?_ ?_; · (go_simp <;> rfl)
    exact Go.RT.again_nil
  (refine Go.RT.step_w rfl rfl (fun K hK => ?_) Go.RT.step_stop)
  go_wp2
  refine Go.RT.QK_normal _ _ _ _ (hK _ _ ?_ ?_) <;> clear hK K
  · exact Go.RT.again_nil
  (refine Go.RT.step_w rfl rfl (fun K hK => ?_) Go.RT.step_stop)
  go_wp2
  refine Go.RT.QK_normal _ _ _ _ (hK _ _ ?_ ?_) <;> clear hK K
  · exact Go.RT.again_nil
  refine Go.RT.step_nil ?_
  clear HRO HRM HC c0 c1 c2 c3 c4 c5 c6 c7 c8 c9 c10 c11 c12 c13
  go_wp2
  have hX : ((((((((((((((w2).setCell ⟨w.heap.size, 0, none⟩ (.int .i64 s.n.id)).setCell ⟨w.heap.size, 1, none⟩ (.int .i64 s.n.term)).setCell ⟨w.heap.size, 2, none⟩ (.int .i64 s.n.vote)).setCell ⟨w.heap.size, 3, none⟩ (.slice A3 s.n.log.length k3)).setCell ⟨w.heap.size, 4, none⟩ (.int .i64 s.n.form)).setCell ⟨w.heap.size, 5, none⟩ (.int .i64 s.n.role)).setCell ⟨w.heap.size, 6, none⟩ (.int .i64 s.n.commit)).setCell ⟨w.heap.size, 7, none⟩ (.slice A7 s.n.votes.length k7)).setCell ⟨w.heap.size, 8, none⟩ (.slice A8 s.n.nxt.length k8)).setCell ⟨w.heap.size, 9, none⟩ (.slice A9 s.n.mtch.length k9)).setCell ⟨w.heap.size, 10, none⟩ (.slice A10 s.n.forms.length k10)).setCell ⟨w.heap.size, 11, none⟩ (.int .i64 s.n.clock)).setCell ⟨w.heap.size, 12, none⟩ (.int .i64 s.n.due)).heap[w.heap.size]? = some (.cells #[.int .i64 s.n.id, .int .i64 s.n.term, .int .i64 s.n.vote, .slice A3 s.n.log.length k3, .int .i64 s.n.form, .int .i64 s.n.role, .int .i64 s.n.commit, .slice A7 s.n.votes.length k7, .slice A8 s.n.nxt.length k8, .slice A9 s.n.mtch.length k9, .slice A10 s.n.forms.length k10, .int .i64 s.n.clock, .int .i64 s.n.due] 28 (0, 0)) := set13 HX2.out
  have hB : Below w.heap.size w ((((((((((((((w2).setCell ⟨w.heap.size, 0, none⟩ (.int .i64 s.n.id)).setCell ⟨w.heap.size, 1, none⟩ (.int .i64 s.n.term)).setCell ⟨w.heap.size, 2, none⟩ (.int .i64 s.n.vote)).setCell ⟨w.heap.size, 3, none⟩ (.slice A3 s.n.log.length k3)).setCell ⟨w.heap.size, 4, none⟩ (.int .i64 s.n.form)).setCell ⟨w.heap.size, 5, none⟩ (.int .i64 s.n.role)).setCell ⟨w.heap.size, 6, none⟩ (.int .i64 s.n.commit)).setCell ⟨w.heap.size, 7, none⟩ (.slice A7 s.n.votes.length k7)).setCell ⟨w.heap.size, 8, none⟩ (.slice A8 s.n.nxt.length k8)).setCell ⟨w.heap.size, 9, none⟩ (.slice A9 s.n.mtch.length k9)).setCell ⟨w.heap.size, 10, none⟩ (.slice A10 s.n.forms.length k10)).setCell ⟨w.heap.size, 11, none⟩ (.int .i64 s.n.clock)).setCell ⟨w.heap.size, 12, none⟩ (.int .i64 s.n.due)) := below13 HB2.out (Nat.le_refl _)
  have far : ∀ k, k ≠ w.heap.size → ((((((((((((((w2).setCell ⟨w.heap.size, 0, none⟩ (.int .i64 s.n.id)).setCell ⟨w.heap.size, 1, none⟩ (.int .i64 s.n.term)).setCell ⟨w.heap.size, 2, none⟩ (.int .i64 s.n.vote)).setCell ⟨w.heap.size, 3, none⟩ (.slice A3 s.n.log.length k3)).setCell ⟨w.heap.size, 4, none⟩ (.int .i64 s.n.form)).setCell ⟨w.heap.size, 5, none⟩ (.int .i64 s.n.role)).setCell ⟨w.heap.size, 6, none⟩ (.int .i64 s.n.commit)).setCell ⟨w.heap.size, 7, none⟩ (.slice A7 s.n.votes.length k7)).setCell ⟨w.heap.size, 8, none⟩ (.slice A8 s.n.nxt.length k8)).setCell ⟨w.heap.size, 9, none⟩ (.slice A9 s.n.mtch.length k9)).setCell ⟨w.heap.size, 10, none⟩ (.slice A10 s.n.forms.length k10)).setCell ⟨w.heap.size, 11, none⟩ (.int .i64 s.n.clock)).setCell ⟨w.heap.size, 12, none⟩ (.int .i64 s.n.due)).heap[k]? = w2.heap[k]? := fun k hk' => far13 hk'
  obtain ⟨wf, hwf⟩ : ∃ W, W = (((((((((((((w2).setCell ⟨w.heap.size, 0, none⟩ (.int .i64 s.n.id)).setCell ⟨w.heap.size, 1, none⟩ (.int .i64 s.n.term)).setCell ⟨w.heap.size, 2, none⟩ (.int .i64 s.n.vote)).setCell ⟨w.heap.size, 3, none⟩ (.slice A3 s.n.log.length k3)).setCell ⟨w.heap.size, 4, none⟩ (.int .i64 s.n.form)).setCell ⟨w.heap.size, 5, none⟩ (.int .i64 s.n.role)).setCell ⟨w.heap.size, 6, none⟩ (.int .i64 s.n.commit)).setCell ⟨w.heap.size, 7, none⟩ (.slice A7 s.n.votes.length k7)).setCell ⟨w.heap.size, 8, none⟩ (.slice A8 s.n.nxt.length k8)).setCell ⟨w.heap.size, 9, none⟩ (.slice A9 s.n.mtch.length k9)).setCell ⟨w.heap.size, 10, none⟩ (.slice A10 s.n.forms.length k10)).setCell ⟨w.heap.size, 11, none⟩ (.int .i64 s.n.clock)).setCell ⟨w.heap.size, 12, none⟩ (.int .i64 s.n.due) := ⟨_, rfl⟩
  rw [← hwf] at hX hB far ⊢
  clear hwf
  have z0 : wf.cell? ⟨w.heap.size, 0, none⟩ = some (.int .i64 s.n.id) := MM.cell_blk hX rfl
  have z1 : wf.cell? ⟨w.heap.size, 1, none⟩ = some (.int .i64 s.n.term) := MM.cell_blk hX rfl
  have z2 : wf.cell? ⟨w.heap.size, 2, none⟩ = some (.int .i64 s.n.vote) := MM.cell_blk hX rfl
  have z3 : wf.cell? ⟨w.heap.size, 3, none⟩ = some (.slice A3 s.n.log.length k3) := MM.cell_blk hX rfl
  have z4 : wf.cell? ⟨w.heap.size, 4, none⟩ = some (.int .i64 s.n.form) := MM.cell_blk hX rfl
  have z5 : wf.cell? ⟨w.heap.size, 5, none⟩ = some (.int .i64 s.n.role) := MM.cell_blk hX rfl
  have z6 : wf.cell? ⟨w.heap.size, 6, none⟩ = some (.int .i64 s.n.commit) := MM.cell_blk hX rfl
  have z7 : wf.cell? ⟨w.heap.size, 7, none⟩ = some (.slice A7 s.n.votes.length k7) := MM.cell_blk hX rfl
  have z8 : wf.cell? ⟨w.heap.size, 8, none⟩ = some (.slice A8 s.n.nxt.length k8) := MM.cell_blk hX rfl
  have z9 : wf.cell? ⟨w.heap.size, 9, none⟩ = some (.slice A9 s.n.mtch.length k9) := MM.cell_blk hX rfl
  have z10 : wf.cell? ⟨w.heap.size, 10, none⟩ = some (.slice A10 s.n.forms.length k10) := MM.cell_blk hX rfl
  have z11 : wf.cell? ⟨w.heap.size, 11, none⟩ = some (.int .i64 s.n.clock) := MM.cell_blk hX rfl
  have z12 : wf.cell? ⟨w.heap.size, 12, none⟩ = some (.int .i64 s.n.due) := MM.cell_blk hX rfl
  refine bodyPost_ret (v := .tuple #[.agg #[.int .i64 s.n.id, .int .i64 s.n.term, .int .i64 s.n.vote, .slice A3 s.n.log.length k3, .int .i64 s.n.form, .int .i64 s.n.role, .int .i64 s.n.commit, .slice A7 s.n.votes.length k7, .slice A8 s.n.nxt.length k8, .slice A9 s.n.mtch.length k9, .slice A10 s.n.forms.length k10, .int .i64 s.n.clock, .int .i64 s.n.due], .slice A2 s.out.length k2]) (by simp [results, Try.results64, go_sem, z0, z1, z2, z3, z4, z5, z6, z7, z8, z9, z10, z11, z12]) rfl ⟨.slice A2 s.out.length k2, ?_, ?_, ?_, ?_⟩
  · unfold nodeC
    rw [E3.out, E7.out, E8.out, E9.out, E10.out]
  · exact H.out.nodeV.step fun k _ hk => hB.block k hk
  · refine ⟨cs, ((HR2.out.rd.mono (ok' := fun k => B ≤ k ∧ w.heap.size + 1 ≤ k) fun k hk _ => ⟨by have := (HR2.out.lt k hk).1; omega, (HR2.out.lt k hk).1⟩).step fun k hk _ => far k (by have := hk.2; omega)).mono fun k hk _ => hk.1, (HM2.out.step fun k hk _ => far k (by have := hk.2; omega)).mono fun k hk _ => hk.1⟩
  · exact hB

end Go.Proofs.Ytnkmljdkokcdjaa
