/-
  fresh, New.
-/
import Derived.WalkKit
import Derived.WalkSpells
import Derived.Lib.Hide
import Derived.Outline
import Derived.Test.YtnkmljdkokcdjaaChecked
import Derived.Test.YtnkmljdkokcdjaaMn
import Derived.Test.YtnkmljdkokcdjaaMem
import Derived.Test.YtnkmljdkokcdjaaFed
import Derived.OwnWalk
import Derived.Test.YtnkmljdkokcdjaaMc
set_option linter.unusedVariables false
set_option linter.unusedSimpArgs false
namespace Go.Proofs.Ytnkmljdkokcdjaa
open Go.RowKit Fed
set_option linter.unusedVariables false
attribute [local go_sem high] Fed.max2_int Fed.min2_int

def Stop (p : Prop) : Prop := p
theorem stopped {p : Prop} (h : Stop p) : p := h
theorem go_on {p : Prop} (h : p) : Stop p := h
theorem row_of_owns {w : World} {base : Nat} {e : TypeId} {sz g n c : Nat} {xs : List Value} (h : w.ownsRow base e sz (.slice (some ⟨g, 0, none⟩) n c) n xs) : MM.Row w base e sz (.slice (some ⟨g, 0, none⟩) n c) n xs (some g) := by
  obtain ⟨h1, h2 | ⟨g', cap, cur, e1, h3, h4, h5, h6, h7, h8⟩⟩ := h
  · simp at h2
  · simp only [Value.slice.injEq, Option.some.injEq, Addr.mk.injEq] at e1
    obtain ⟨⟨rfl, _⟩, _, rfl⟩ := e1
    exact ⟨h1, c, cur, rfl, h3, h4, h5, h6, h7, h8⟩
theorem made_bool (k : Nat) : (madeCells (Value.bool false).cells (k * 1)).toList = boolsC (List.replicate k false) := by
  apply List.ext_getElem
  · simp [madeCells, boolsC]
  · intro i h1 h2
    simp [madeCells, boolsC, Value.cells, Nat.mod_one]
@[irreducible] def freshN (n : Fed.Node) (k : Nat) : Fed.Node := { n with role := 0, commit := 0, clock := 0, due := 5 + 2 * n.id, votes := List.replicate k false, nxt := List.replicate k 1, mtch := List.replicate k 0, forms := List.replicate k 1 }
set_option maxRecDepth 100000 in
set_option maxHeartbeats 1000000 in
theorem fresh_any (w : World) (n : Fed.Node) (Al : Option Addr) (ll kl : Nat) (v7 v8 v9 v10 : Value) (k : Nat) (hk : k ≤ 1000) (hi0 : -1000000000 ≤ n.id) (hi1 : n.id ≤ 1000000000) :
    Calls Try.prog 58 #[.agg (nodeC n (.slice Al ll kl) v7 v8 v9 v10), .int .i64 k] w
      fun e w' => ∃ r7 r8 r9 r10, e = .returned (.agg (nodeC (freshN n k) (.slice Al ll kl) r7 r8 r9 r10)) ∧ Below w.heap.size w w'
        ∧ MM.Rd w' (fun j => w.heap.size ≤ j) 1 r7 k (boolsC (List.replicate k false)) ∧ MM.Rd w' (fun j => w.heap.size ≤ j) 1 r8 k (intsC (List.replicate k 1))
        ∧ MM.Rd w' (fun j => w.heap.size ≤ j) 1 r9 k (intsC (List.replicate k 0)) ∧ MM.Rd w' (fun j => w.heap.size ≤ j) 1 r10 k (intsC (List.replicate k 1)) := by
  unfold freshN nodeC
  obtain ⟨i0, hi, hz0, hz1, hz2⟩ := info_parts info4
  go_enter Try.func58, Try.ntmps58
  go_wp2_with (at_make; refine stopped ?_)
  have hX1 : ((w.alloc (.cells #[.int .i64 n.id, .int .i64 n.term, .int .i64 n.vote, .slice Al ll kl, .int .i64 n.form, .int .i64 0, .int .i64 0, v7, v8, v9, v10, .int .i64 0, .int .i64 (5 + 2 * n.id)] 28)).alloc (.cells #[.int .i64 0, .int .i64 0, .int .i64 0, .slice none 0 0, .int .i64 0, .int .i64 0, .int .i64 0, .slice none 0 0, .slice none 0 0, .slice none 0 0, .slice none 0 0, .int .i64 0, .int .i64 0] 28)).heap[w.heap.size]? = some (.cells #[.int .i64 n.id, .int .i64 n.term, .int .i64 n.vote, .slice Al ll kl, .int .i64 n.form, .int .i64 0, .int .i64 0, v7, v8, v9, v10, .int .i64 0, .int .i64 (5 + 2 * n.id)] 28 (0, 0)) := (Below.heap_alloc _ _ _ (by simp)).trans (MM.alloc_new w _)
  have hY1 : ((w.alloc (.cells #[.int .i64 n.id, .int .i64 n.term, .int .i64 n.vote, .slice Al ll kl, .int .i64 n.form, .int .i64 0, .int .i64 0, v7, v8, v9, v10, .int .i64 0, .int .i64 (5 + 2 * n.id)] 28)).alloc (.cells #[.int .i64 0, .int .i64 0, .int .i64 0, .slice none 0 0, .int .i64 0, .int .i64 0, .int .i64 0, .slice none 0 0, .slice none 0 0, .slice none 0 0, .slice none 0 0, .int .i64 0, .int .i64 0] 28)).heap[w.heap.size + 1]? = some (.cells #[.int .i64 0, .int .i64 0, .int .i64 0, .slice none 0 0, .int .i64 0, .int .i64 0, .int .i64 0, .slice none 0 0, .slice none 0 0, .slice none 0 0, .slice none 0 0, .int .i64 0, .int .i64 0] 28 (0, 0)) := MM.alloc_new1 w _ _
  have hB1 : Below w.heap.size w ((w.alloc (.cells #[.int .i64 n.id, .int .i64 n.term, .int .i64 n.vote, .slice Al ll kl, .int .i64 n.form, .int .i64 0, .int .i64 0, v7, v8, v9, v10, .int .i64 0, .int .i64 (5 + 2 * n.id)] 28)).alloc (.cells #[.int .i64 0, .int .i64 0, .int .i64 0, .slice none 0 0, .int .i64 0, .int .i64 0, .int .i64 0, .slice none 0 0, .slice none 0 0, .slice none 0 0, .slice none 0 0, .int .i64 0, .int .i64 0] 28)) := ((Below.refl _ w).alloc (Nat.le_refl _) _).alloc (by simp) _
  obtain ⟨w1, hw1⟩ : ∃ W, W = (w.alloc (.cells #[.int .i64 n.id, .int .i64 n.term, .int .i64 n.vote, .slice Al ll kl, .int .i64 n.form, .int .i64 0, .int .i64 0, v7, v8, v9, v10, .int .i64 0, .int .i64 (5 + 2 * n.id)] 28)).alloc (.cells #[.int .i64 0, .int .i64 0, .int .i64 0, .slice none 0 0, .int .i64 0, .int .i64 0, .int .i64 0, .slice none 0 0, .slice none 0 0, .slice none 0 0, .slice none 0 0, .int .i64 0, .int .i64 0] 28) := ⟨_, rfl⟩
  rw [← hw1] at hX1 hY1 hB1 ⊢
  clear hw1
  have hz : w.heap.size + 2 ≤ w1.heap.size := MM.blk_lt hY1
  refine go_on ?_
  refine wpList_make_full w1 rfl (.tmp 13) (.tmp 13) 25 rfl w.heap.size 4 i0 _ 1 Try.underlying25 hi hz0 hz1 .i64 .i64 k k k rfl rfl rfl rfl (by rw [hz2]; omega) (by simp only [maxLen]; omega) (by omega) ?_
  intro w2 hr2 hg2
  have hR2 := row_of_owns hr2
  rw [made_bool] at hR2
  clear hr2
  have hX2 := (hg2.block w.heap.size (by omega) (by simp)).trans hX1
  have hY2 := (hg2.block (w.heap.size + 1) (by omega) (by simp)).trans hY1
  have hB2 := hB1.grown hg2 (by omega) (fun k h => absurd h (by simp))
  have hg2s := hg2.size
  have hR2 : MM.Row w2 (w.heap.size + 2) 4 1 (.slice (some ⟨w1.heap.size, 0, none⟩) k k) k (boolsC (List.replicate k false)) (some w1.heap.size) := by
    obtain ⟨q1, c, u, q2, q3, q4⟩ := hR2
    exact ⟨q1, c, u, q2, hz, q4⟩
  obtain ⟨A7, hA7⟩ : ∃ A, A = (some (⟨w1.heap.size, 0, none⟩ : Addr)) := ⟨_, rfl⟩
  obtain ⟨o7, ho7⟩ : ∃ A, A = (some w1.heap.size) := ⟨_, rfl⟩
  rw [← hA7, ← ho7] at hR2
  rw [← hA7]
  clear hA7 ho7 hg2 hX1 hY1 hB1
  obtain ⟨k7, hk7⟩ : ∃ c, c = k := ⟨k, rfl⟩
  have c7 : w2.cell? ⟨w.heap.size, 7, none⟩ = some (v7) := MM.cell_blk hX2 rfl
  have f7 : w2.frozen? ⟨w.heap.size, 7, none⟩ = false := MM.free_blk hX2
  have HX2 := Lib.hid hX2
  have HY2 := Lib.hid hY2
  have HB2 := Lib.hid hB2
  have HR2 := Lib.hid hR2
  clear hX2 hY2 hB2 hR2
  go_wp2_with fail
  have hX3 : (w2.setCell ⟨w.heap.size, 7, none⟩ (.slice A7 k k)).heap[w.heap.size]? = some (.cells #[.int .i64 n.id, .int .i64 n.term, .int .i64 n.vote, .slice Al ll kl, .int .i64 n.form, .int .i64 0, .int .i64 0, .slice A7 k k, v8, v9, v10, .int .i64 0, .int .i64 (5 + 2 * n.id)] 28 (0, 0)) := setCell_blk _ HX2.out
  have hY3 := (Below.heap_setCell w2 ⟨w.heap.size, 7, none⟩ (.slice A7 k k) (w.heap.size + 1) (by simp)).trans HY2.out
  have hB3 := HB2.out.setCell (p := ⟨w.heap.size, 7, none⟩) (Nat.le_refl _) (.slice A7 k k)
  have hR3 := HR2.out.far (p := ⟨w.heap.size, 7, none⟩) (fun j h => by have := (HR2.out.lt j h).1; show j ≠ w.heap.size; omega) (.slice A7 k k)
  have hz3 : w.heap.size + 2 ≤ (w2.setCell ⟨w.heap.size, 7, none⟩ (.slice A7 k k)).heap.size := MM.blk_lt hY3
  obtain ⟨w9, hw9⟩ : ∃ W, W = w2.setCell ⟨w.heap.size, 7, none⟩ (.slice A7 k k) := ⟨_, rfl⟩
  rw [← hw9] at hX3 hY3 hB3 hR3 hz3 ⊢
  clear hw9 HX2 HY2 HB2 HR2 c7 f7
  refine (filled_int _ k 1 hk).mono ?_
  rintro e w3 ⟨r8, ob8, rfl, hr8, hb3⟩
  go_wp2_with fail
  refine (filled_int _ k 0 hk).mono ?_
  rintro e w4 ⟨r9, ob9, rfl, hr9, hb4⟩
  have hz4 := hb3.size
  have hz5 := hb4.size
  go_wp2_with fail
  refine (filled_int _ k 1 hk).mono ?_
  rintro e w5 ⟨r10, ob10, rfl, hr10, hb5⟩
  obtain ⟨A8, k8, rfl, _, _⟩ := hr8.slice
  obtain ⟨A9, k9, rfl, _, _⟩ := hr9.slice
  obtain ⟨A10, k10, rfl, _, _⟩ := hr10.slice
  have hz6 := hb5.size
  have hX5 := (hb5.block w.heap.size (by omega)).trans ((hb4.block w.heap.size (by omega)).trans ((hb3.block w.heap.size (by omega)).trans hX3))
  have hY5 := (hb5.block (w.heap.size + 1) (by omega)).trans ((hb4.block (w.heap.size + 1) (by omega)).trans ((hb3.block (w.heap.size + 1) (by omega)).trans hY3))
  have hB5 : Below w.heap.size w w5 := ((hB3.trans (hb3.mono (by omega))).trans (hb4.mono (by omega))).trans (hb5.mono (by omega))
  have R7 := Lib.hid (((hR3.below hb3).below hb4).below hb5)
  have R8 := Lib.hid (((hr8.below hb4).below hb5).lower (base' := w.heap.size + 2) (by omega))
  have R9 := Lib.hid ((hr9.below hb5).lower (base' := w.heap.size + 2) (by omega))
  have R10 := Lib.hid (hr10.lower (base' := w.heap.size + 2) (by omega))
  clear hr8 hr9 hr10 hR3 hb3 hb4 hb5 hX3 hY3 hB3
  obtain ⟨c0, c1, c2, c3, c4, c5, c6, c7, c8, c9, c10, c11, c12⟩ := MM.cells13 hX5
  have f8 : w5.frozen? ⟨w.heap.size, 8, none⟩ = false := MM.free_blk hX5
  have f9 : w5.frozen? ⟨w.heap.size, 9, none⟩ = false := MM.free_blk hX5
  have f10 : w5.frozen? ⟨w.heap.size, 10, none⟩ = false := MM.free_blk hX5
  obtain ⟨y0, y1, y2, y3, y4, y5, y6, y7, y8, y9, y10, y11, y12⟩ := MM.cells13 hY5
  obtain ⟨g0, g1, g2, g3, g4, g5, g6, g7, g8, g9, g10, g11, g12⟩ := MM.frees13 hY5
  have HX5 := Lib.hid hX5
  have HY5 := Lib.hid hY5
  have HB5 := Lib.hid hB5
  clear hX5 hY5 hB5
  go_wp2_with fail
  have hYf : ((((((((((((((((w5.setCell ⟨w.heap.size, 8, none⟩ (.slice A8 k k8)).setCell ⟨w.heap.size, 9, none⟩ (.slice A9 k k9)).setCell ⟨w.heap.size, 10, none⟩ (.slice A10 k k10)).setCell ⟨w.heap.size + 1, 0, none⟩ (.int .i64 n.id)).setCell ⟨w.heap.size + 1, 1, none⟩ (.int .i64 n.term)).setCell ⟨w.heap.size + 1, 2, none⟩ (.int .i64 n.vote)).setCell ⟨w.heap.size + 1, 3, none⟩ (.slice Al ll kl)).setCell ⟨w.heap.size + 1, 4, none⟩ (.int .i64 n.form)).setCell ⟨w.heap.size + 1, 5, none⟩ (.int .i64 0)).setCell ⟨w.heap.size + 1, 6, none⟩ (.int .i64 0)).setCell ⟨w.heap.size + 1, 7, none⟩ (.slice A7 k k)).setCell ⟨w.heap.size + 1, 8, none⟩ (.slice A8 k k8)).setCell ⟨w.heap.size + 1, 9, none⟩ (.slice A9 k k9)).setCell ⟨w.heap.size + 1, 10, none⟩ (.slice A10 k k10)).setCell ⟨w.heap.size + 1, 11, none⟩ (.int .i64 0)).setCell ⟨w.heap.size + 1, 12, none⟩ (.int .i64 (5 + 2 * n.id))).heap[w.heap.size + 1]? = some (.cells #[.int .i64 n.id, .int .i64 n.term, .int .i64 n.vote, .slice Al ll kl, .int .i64 n.form, .int .i64 0, .int .i64 0, .slice A7 k k, .slice A8 k k8, .slice A9 k k9, .slice A10 k k10, .int .i64 0, .int .i64 (5 + 2 * n.id)] 28 (0, 0)) := set13 (((Below.heap_setCell _ _ _ _ (by simp)).trans ((Below.heap_setCell _ _ _ _ (by simp)).trans (Below.heap_setCell _ _ _ _ (by simp)))).trans HY5.out)
  have hBf : Below w.heap.size w ((((((((((((((((w5.setCell ⟨w.heap.size, 8, none⟩ (.slice A8 k k8)).setCell ⟨w.heap.size, 9, none⟩ (.slice A9 k k9)).setCell ⟨w.heap.size, 10, none⟩ (.slice A10 k k10)).setCell ⟨w.heap.size + 1, 0, none⟩ (.int .i64 n.id)).setCell ⟨w.heap.size + 1, 1, none⟩ (.int .i64 n.term)).setCell ⟨w.heap.size + 1, 2, none⟩ (.int .i64 n.vote)).setCell ⟨w.heap.size + 1, 3, none⟩ (.slice Al ll kl)).setCell ⟨w.heap.size + 1, 4, none⟩ (.int .i64 n.form)).setCell ⟨w.heap.size + 1, 5, none⟩ (.int .i64 0)).setCell ⟨w.heap.size + 1, 6, none⟩ (.int .i64 0)).setCell ⟨w.heap.size + 1, 7, none⟩ (.slice A7 k k)).setCell ⟨w.heap.size + 1, 8, none⟩ (.slice A8 k k8)).setCell ⟨w.heap.size + 1, 9, none⟩ (.slice A9 k k9)).setCell ⟨w.heap.size + 1, 10, none⟩ (.slice A10 k k10)).setCell ⟨w.heap.size + 1, 11, none⟩ (.int .i64 0)).setCell ⟨w.heap.size + 1, 12, none⟩ (.int .i64 (5 + 2 * n.id))) := below13 (((HB5.out.setCell (p := ⟨w.heap.size, 8, none⟩) (Nat.le_refl _) _).setCell (p := ⟨w.heap.size, 9, none⟩) (Nat.le_refl _) _).setCell (p := ⟨w.heap.size, 10, none⟩) (Nat.le_refl _) _) (by omega)
  have far : ∀ j, w.heap.size + 2 ≤ j → ((((((((((((((((w5.setCell ⟨w.heap.size, 8, none⟩ (.slice A8 k k8)).setCell ⟨w.heap.size, 9, none⟩ (.slice A9 k k9)).setCell ⟨w.heap.size, 10, none⟩ (.slice A10 k k10)).setCell ⟨w.heap.size + 1, 0, none⟩ (.int .i64 n.id)).setCell ⟨w.heap.size + 1, 1, none⟩ (.int .i64 n.term)).setCell ⟨w.heap.size + 1, 2, none⟩ (.int .i64 n.vote)).setCell ⟨w.heap.size + 1, 3, none⟩ (.slice Al ll kl)).setCell ⟨w.heap.size + 1, 4, none⟩ (.int .i64 n.form)).setCell ⟨w.heap.size + 1, 5, none⟩ (.int .i64 0)).setCell ⟨w.heap.size + 1, 6, none⟩ (.int .i64 0)).setCell ⟨w.heap.size + 1, 7, none⟩ (.slice A7 k k)).setCell ⟨w.heap.size + 1, 8, none⟩ (.slice A8 k k8)).setCell ⟨w.heap.size + 1, 9, none⟩ (.slice A9 k k9)).setCell ⟨w.heap.size + 1, 10, none⟩ (.slice A10 k k10)).setCell ⟨w.heap.size + 1, 11, none⟩ (.int .i64 0)).setCell ⟨w.heap.size + 1, 12, none⟩ (.int .i64 (5 + 2 * n.id))).heap[j]? = w5.heap[j]? := fun j hj => (far13 (by omega)).trans ((Below.heap_setCell _ _ _ _ (by show j ≠ w.heap.size; omega)).trans ((Below.heap_setCell _ _ _ _ (by show j ≠ w.heap.size; omega)).trans (Below.heap_setCell _ _ _ _ (by show j ≠ w.heap.size; omega))))
  obtain ⟨wf, hwf⟩ : ∃ W, W = (((((((((((((((w5.setCell ⟨w.heap.size, 8, none⟩ (.slice A8 k k8)).setCell ⟨w.heap.size, 9, none⟩ (.slice A9 k k9)).setCell ⟨w.heap.size, 10, none⟩ (.slice A10 k k10)).setCell ⟨w.heap.size + 1, 0, none⟩ (.int .i64 n.id)).setCell ⟨w.heap.size + 1, 1, none⟩ (.int .i64 n.term)).setCell ⟨w.heap.size + 1, 2, none⟩ (.int .i64 n.vote)).setCell ⟨w.heap.size + 1, 3, none⟩ (.slice Al ll kl)).setCell ⟨w.heap.size + 1, 4, none⟩ (.int .i64 n.form)).setCell ⟨w.heap.size + 1, 5, none⟩ (.int .i64 0)).setCell ⟨w.heap.size + 1, 6, none⟩ (.int .i64 0)).setCell ⟨w.heap.size + 1, 7, none⟩ (.slice A7 k k)).setCell ⟨w.heap.size + 1, 8, none⟩ (.slice A8 k k8)).setCell ⟨w.heap.size + 1, 9, none⟩ (.slice A9 k k9)).setCell ⟨w.heap.size + 1, 10, none⟩ (.slice A10 k k10)).setCell ⟨w.heap.size + 1, 11, none⟩ (.int .i64 0)).setCell ⟨w.heap.size + 1, 12, none⟩ (.int .i64 (5 + 2 * n.id)) := ⟨_, rfl⟩
  rw [← hwf] at hYf hBf far ⊢
  clear hwf
  obtain ⟨z0, z1, z2, z3, z4, z5, z6, z7, z8, z9, z10, z11, z12⟩ := MM.cells13 hYf
  refine bodyPost_ret (v := .agg #[.int .i64 n.id, .int .i64 n.term, .int .i64 n.vote, .slice Al ll kl, .int .i64 n.form, .int .i64 0, .int .i64 0, .slice A7 k k, .slice A8 k k8, .slice A9 k k9, .slice A10 k k10, .int .i64 0, .int .i64 (5 + 2 * n.id)]) (by simp [results, Try.results58, go_sem, z0, z1, z2, z3, z4, z5, z6, z7, z8, z9, z10, z11, z12]) rfl ⟨_, _, _, _, rfl, hBf, ?_, ?_, ?_, ?_⟩
  · exact (R7.out.step (w1 := wf) fun j hj _ => far j (R7.out.lt j hj).1).rd.mono fun j hj _ => by have := (R7.out.lt j hj).1; omega
  · exact (R8.out.step (w1 := wf) fun j hj _ => far j (R8.out.lt j hj).1).rd.mono fun j hj _ => by have := (R8.out.lt j hj).1; omega
  · exact (R9.out.step (w1 := wf) fun j hj _ => far j (R9.out.lt j hj).1).rd.mono fun j hj _ => by have := (R9.out.lt j hj).1; omega
  · exact (R10.out.step (w1 := wf) fun j hj _ => far j (R10.out.lt j hj).1).rd.mono fun j hj _ => by have := (R10.out.lt j hj).1; omega

end Go.Proofs.Ytnkmljdkokcdjaa
namespace Go.Proofs.Ytnkmljdkokcdjaa
open Go.RowKit Fed
set_option linter.unusedVariables false
attribute [local go_sem high] Fed.max2_int Fed.min2_int

@[irreducible] def newN (id : Int) (k : Nat) (form : Int) : Fed.Node := { id := id, term := 0, vote := -1, log := [], form := form, role := 0, commit := 0, votes := List.replicate k false, nxt := List.replicate k 1, mtch := List.replicate k 0, forms := List.replicate k 1, clock := 0, due := 5 + 2 * id }
def blankN (id form : Int) : Fed.Node := { id := id, term := 0, vote := -1, log := [], form := form, role := 0, commit := 0, votes := [], nxt := [], mtch := [], forms := [], clock := 0, due := 0 }
theorem fresh_blank (w : World) (id form : Int) (k : Nat) (hk : k ≤ 1000) (hi0 : -1000000000 ≤ id) (hi1 : id ≤ 1000000000) :
    Calls Try.prog 58 #[.agg #[.int .i64 id, .int .i64 0, .int .i64 (-1), .slice none 0 0, .int .i64 form, .int .i64 0, .int .i64 0, .slice none 0 0, .slice none 0 0, .slice none 0 0, .slice none 0 0, .int .i64 0, .int .i64 0], .int .i64 k] w
      fun e w' => ∃ A7 k7 A8 k8 A9 k9 A10 k10, e = .returned (.agg #[.int .i64 id, .int .i64 0, .int .i64 (-1), .slice none 0 0, .int .i64 form, .int .i64 0, .int .i64 0, .slice A7 k k7, .slice A8 k k8, .slice A9 k k9, .slice A10 k k10, .int .i64 0, .int .i64 (5 + 2 * id)]) ∧ Below w.heap.size w w'
        ∧ MM.Rd w' (fun j => w.heap.size ≤ j) 1 (.slice A7 k k7) k (boolsC (List.replicate k false)) ∧ MM.Rd w' (fun j => w.heap.size ≤ j) 1 (.slice A8 k k8) k (intsC (List.replicate k 1))
        ∧ MM.Rd w' (fun j => w.heap.size ≤ j) 1 (.slice A9 k k9) k (intsC (List.replicate k 0)) ∧ MM.Rd w' (fun j => w.heap.size ≤ j) 1 (.slice A10 k k10) k (intsC (List.replicate k 1)) := by
  refine (fresh_any w (blankN id form) none 0 0 (.slice none 0 0) (.slice none 0 0) (.slice none 0 0) (.slice none 0 0) k hk hi0 hi1).mono ?_
  rintro e w' ⟨r7, r8, r9, r10, rfl, hb, h7, h8, h9, h10⟩
  obtain ⟨A7, k7, rfl, _, _⟩ := h7.slice
  obtain ⟨A8, k8, rfl, _, _⟩ := h8.slice
  obtain ⟨A9, k9, rfl, _, _⟩ := h9.slice
  obtain ⟨A10, k10, rfl, _, _⟩ := h10.slice
  exact ⟨A7, k7, A8, k8, A9, k9, A10, k10, by unfold freshN nodeC blankN; rfl, hb, h7, h8, h9, h10⟩
set_option maxRecDepth 100000 in
set_option maxHeartbeats 1000000 in
theorem new_any (w : World) (id form : Int) (k : Nat) (hk : k ≤ 1000) (hi0 : -1000000000 ≤ id) (hi1 : id ≤ 1000000000) :
    Calls Try.prog 24 #[.int .i64 id, .int .i64 k, .int .i64 form] w
      fun e w' => ∃ A7 k7 A8 k8 A9 k9 A10 k10, e = .returned (.agg #[.int .i64 id, .int .i64 0, .int .i64 (-1), .slice none 0 0, .int .i64 form, .int .i64 0, .int .i64 0, .slice A7 k k7, .slice A8 k k8, .slice A9 k k9, .slice A10 k k10, .int .i64 0, .int .i64 (5 + 2 * id)]) ∧ Below w.heap.size w w' ∧ NodeV w' (fun j => w.heap.size ≤ j) (newN id k form) (.slice none 0 0) (.slice A7 k k7) (.slice A8 k k8) (.slice A9 k k9) (.slice A10 k k10) := by
  go_enter Try.func24, Try.ntmps24
  go_wp2_with fail
  refine (fresh_blank _ id form k hk hi0 hi1).mono ?_
  rintro e w2 ⟨A7, k7, A8, k8, A9, k9, A10, k10, rfl, hb2, h7, h8, h9, h10⟩
  have hX2 := (hb2.block w.heap.size (by simp)).trans (MM.alloc_new w (.cells #[.int .i64 0, .int .i64 0, .int .i64 0, .slice none 0 0, .int .i64 0, .int .i64 0, .int .i64 0, .slice none 0 0, .slice none 0 0, .slice none 0 0, .slice none 0 0, .int .i64 0, .int .i64 0] 28))
  have hB2 : Below w.heap.size w w2 := ((Below.refl _ w).alloc (Nat.le_refl _) _).trans (hb2.mono (by simp))
  clear hb2
  obtain ⟨y0, y1, y2, y3, y4, y5, y6, y7, y8, y9, y10, y11, y12⟩ := MM.cells13 hX2
  obtain ⟨g0, g1, g2, g3, g4, g5, g6, g7, g8, g9, g10, g11, g12⟩ := MM.frees13 hX2
  have HX2 := Lib.hid hX2
  have HB2 := Lib.hid hB2
  have R7 := Lib.hid h7
  have R8 := Lib.hid h8
  have R9 := Lib.hid h9
  have R10 := Lib.hid h10
  clear hX2 hB2 h7 h8 h9 h10
  go_wp2_with fail
  have hYf : ((((((((((((((w2).setCell ⟨w.heap.size, 0, none⟩ (.int .i64 id)).setCell ⟨w.heap.size, 1, none⟩ (.int .i64 0)).setCell ⟨w.heap.size, 2, none⟩ (.int .i64 (-1))).setCell ⟨w.heap.size, 3, none⟩ (.slice none 0 0)).setCell ⟨w.heap.size, 4, none⟩ (.int .i64 form)).setCell ⟨w.heap.size, 5, none⟩ (.int .i64 0)).setCell ⟨w.heap.size, 6, none⟩ (.int .i64 0)).setCell ⟨w.heap.size, 7, none⟩ (.slice A7 k k7)).setCell ⟨w.heap.size, 8, none⟩ (.slice A8 k k8)).setCell ⟨w.heap.size, 9, none⟩ (.slice A9 k k9)).setCell ⟨w.heap.size, 10, none⟩ (.slice A10 k k10)).setCell ⟨w.heap.size, 11, none⟩ (.int .i64 0)).setCell ⟨w.heap.size, 12, none⟩ (.int .i64 (5 + 2 * id))).heap[w.heap.size]? = some (.cells #[.int .i64 id, .int .i64 0, .int .i64 (-1), .slice none 0 0, .int .i64 form, .int .i64 0, .int .i64 0, .slice A7 k k7, .slice A8 k k8, .slice A9 k k9, .slice A10 k k10, .int .i64 0, .int .i64 (5 + 2 * id)] 28 (0, 0)) := set13 HX2.out
  have hBf : Below w.heap.size w ((((((((((((((w2).setCell ⟨w.heap.size, 0, none⟩ (.int .i64 id)).setCell ⟨w.heap.size, 1, none⟩ (.int .i64 0)).setCell ⟨w.heap.size, 2, none⟩ (.int .i64 (-1))).setCell ⟨w.heap.size, 3, none⟩ (.slice none 0 0)).setCell ⟨w.heap.size, 4, none⟩ (.int .i64 form)).setCell ⟨w.heap.size, 5, none⟩ (.int .i64 0)).setCell ⟨w.heap.size, 6, none⟩ (.int .i64 0)).setCell ⟨w.heap.size, 7, none⟩ (.slice A7 k k7)).setCell ⟨w.heap.size, 8, none⟩ (.slice A8 k k8)).setCell ⟨w.heap.size, 9, none⟩ (.slice A9 k k9)).setCell ⟨w.heap.size, 10, none⟩ (.slice A10 k k10)).setCell ⟨w.heap.size, 11, none⟩ (.int .i64 0)).setCell ⟨w.heap.size, 12, none⟩ (.int .i64 (5 + 2 * id))) := below13 HB2.out (Nat.le_refl _)
  have far : ∀ j, w.heap.size + 1 ≤ j → ((((((((((((((w2).setCell ⟨w.heap.size, 0, none⟩ (.int .i64 id)).setCell ⟨w.heap.size, 1, none⟩ (.int .i64 0)).setCell ⟨w.heap.size, 2, none⟩ (.int .i64 (-1))).setCell ⟨w.heap.size, 3, none⟩ (.slice none 0 0)).setCell ⟨w.heap.size, 4, none⟩ (.int .i64 form)).setCell ⟨w.heap.size, 5, none⟩ (.int .i64 0)).setCell ⟨w.heap.size, 6, none⟩ (.int .i64 0)).setCell ⟨w.heap.size, 7, none⟩ (.slice A7 k k7)).setCell ⟨w.heap.size, 8, none⟩ (.slice A8 k k8)).setCell ⟨w.heap.size, 9, none⟩ (.slice A9 k k9)).setCell ⟨w.heap.size, 10, none⟩ (.slice A10 k k10)).setCell ⟨w.heap.size, 11, none⟩ (.int .i64 0)).setCell ⟨w.heap.size, 12, none⟩ (.int .i64 (5 + 2 * id))).heap[j]? = w2.heap[j]? := fun j hj => far13 (by omega)
  obtain ⟨wf, hwf⟩ : ∃ W, W = (((((((((((((w2).setCell ⟨w.heap.size, 0, none⟩ (.int .i64 id)).setCell ⟨w.heap.size, 1, none⟩ (.int .i64 0)).setCell ⟨w.heap.size, 2, none⟩ (.int .i64 (-1))).setCell ⟨w.heap.size, 3, none⟩ (.slice none 0 0)).setCell ⟨w.heap.size, 4, none⟩ (.int .i64 form)).setCell ⟨w.heap.size, 5, none⟩ (.int .i64 0)).setCell ⟨w.heap.size, 6, none⟩ (.int .i64 0)).setCell ⟨w.heap.size, 7, none⟩ (.slice A7 k k7)).setCell ⟨w.heap.size, 8, none⟩ (.slice A8 k k8)).setCell ⟨w.heap.size, 9, none⟩ (.slice A9 k k9)).setCell ⟨w.heap.size, 10, none⟩ (.slice A10 k k10)).setCell ⟨w.heap.size, 11, none⟩ (.int .i64 0)).setCell ⟨w.heap.size, 12, none⟩ (.int .i64 (5 + 2 * id)) := ⟨_, rfl⟩
  rw [← hwf] at hYf hBf far ⊢
  clear hwf
  obtain ⟨z0, z1, z2, z3, z4, z5, z6, z7, z8, z9, z10, z11, z12⟩ := MM.cells13 hYf
  refine bodyPost_ret (v := .agg #[.int .i64 id, .int .i64 0, .int .i64 (-1), .slice none 0 0, .int .i64 form, .int .i64 0, .int .i64 0, .slice A7 k k7, .slice A8 k k8, .slice A9 k k9, .slice A10 k k10, .int .i64 0, .int .i64 (5 + 2 * id)]) (by simp [results, Try.results24, go_sem, z0, z1, z2, z3, z4, z5, z6, z7, z8, z9, z10, z11, z12]) rfl ⟨_, _, _, _, _, _, _, _, rfl, hBf, ?_⟩
  unfold newN
  refine ⟨MM.Rd.nil _ _ _ _ _ (by simp [maxLen]), ?_, ?_, ?_, ?_⟩
  · show MM.Rd _ _ _ _ (List.replicate _ _).length _; rw [List.length_replicate]; exact (R7.out.step (w1 := wf) fun j hj _ => far j (by simpa using hj)).mono fun j hj _ => by simp at hj; omega
  · show MM.Rd _ _ _ _ (List.replicate _ _).length _; rw [List.length_replicate]; exact (R8.out.step (w1 := wf) fun j hj _ => far j (by simpa using hj)).mono fun j hj _ => by simp at hj; omega
  · show MM.Rd _ _ _ _ (List.replicate _ _).length _; rw [List.length_replicate]; exact (R9.out.step (w1 := wf) fun j hj _ => far j (by simpa using hj)).mono fun j hj _ => by simp at hj; omega
  · show MM.Rd _ _ _ _ (List.replicate _ _).length _; rw [List.length_replicate]; exact (R10.out.step (w1 := wf) fun j hj _ => far j (by simpa using hj)).mono fun j hj _ => by simp at hj; omega

end Go.Proofs.Ytnkmljdkokcdjaa
