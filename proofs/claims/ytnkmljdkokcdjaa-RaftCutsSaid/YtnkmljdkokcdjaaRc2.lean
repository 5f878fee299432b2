/-
  New makes a new node.
-/
import Derived.WalkKit
import Derived.WalkSpells
import Derived.Lib.Hide
import Derived.Outline
import Derived.Test.YtnkmljdkokcdjaaChecked
import Derived.Test.YtnkmljdkokcdjaaRg
import Derived.Test.YtnkmljdkokcdjaaMem
import Derived.Test.YtnkmljdkokcdjaaFed
import Derived.Test.YtnkmljdkokcdjaaRc1
namespace Go.Proofs.Ytnkmljdkokcdjaa
open Go.RowKit Fed
set_option linter.unusedVariables false
attribute [local go_sem high] Fed.max2_int Fed.min2_int

@[irreducible] def newN (id : Int) (k : Nat) (form : Int) : Fed.Node := { id := id, term := 0, vote := -1, log := [], form := form, role := 0, commit := 0, votes := List.replicate k false, nxt := List.replicate k 1, mtch := List.replicate k 0, forms := List.replicate k 1, clock := 0, due := 5 + 2 * id }
def blankN (id form : Int) : Fed.Node := { id := id, term := 0, vote := -1, log := [], form := form, role := 0, commit := 0, votes := [], nxt := [], mtch := [], forms := [], clock := 0, due := 0 }
theorem fresh_blank (w : World) (id form : Int) (k : Nat) (hk : k ≤ 1000) (hi0 : -1000000000 ≤ id) (hi1 : id ≤ 1000000000) :
    Calls Try.prog 58 #[.agg #[.int .i64 id, .int .i64 0, .int .i64 (-1), .slice none 0 0, .int .i64 form, .int .i64 0, .int .i64 0, .slice none 0 0, .slice none 0 0, .slice none 0 0, .slice none 0 0, .int .i64 0, .int .i64 0], .int .i64 k] w
      fun e w' => ∃ A7 k7 A8 k8 A9 k9 A10 k10, e = .returned (.agg #[.int .i64 id, .int .i64 0, .int .i64 (-1), .slice none 0 0, .int .i64 form, .int .i64 0, .int .i64 0, .slice A7 k k7, .slice A8 k k8, .slice A9 k k9, .slice A10 k k10, .int .i64 0, .int .i64 (5 + 2 * id)]) ∧ Below w.heap.size w w'
        ∧ MM.Rd w' (fun j => w.heap.size ≤ j) 1 (.slice A7 k k7) k (boolsC (List.replicate k false)) ∧ MM.Rd w' (fun j => w.heap.size ≤ j) 1 (.slice A8 k k8) k (intsC (List.replicate k 1))
        ∧ MM.Rd w' (fun j => w.heap.size ≤ j) 1 (.slice A9 k k9) k (intsC (List.replicate k 0)) ∧ MM.Rd w' (fun j => w.heap.size ≤ j) 1 (.slice A10 k k10) k (intsC (List.replicate k 1)) := by
  refine (fresh_any w (blankN id form) none 0 0 (.slice none 0 0) (.slice none 0 0) (.slice none 0 0) (.slice none 0 0) k hk hi0 hi1).mono ?_
  rintro e w' ⟨r7, r8, r9, r10, rfl, hb, h7, h8, h9, h10⟩
  obtain ⟨A7, k7, rfl, _, _⟩ := h7.slice
  obtain ⟨A8, k8, rfl, _, _⟩ := h8.slice
  obtain ⟨A9, k9, rfl, _, _⟩ := h9.slice
  obtain ⟨A10, k10, rfl, _, _⟩ := h10.slice
  exact ⟨A7, k7, A8, k8, A9, k9, A10, k10, by unfold freshN nodeC blankN; rfl, hb, h7, h8, h9, h10⟩
set_option maxRecDepth 100000 in
set_option maxHeartbeats 1000000 in
theorem new_any (w : World) (id form : Int) (k : Nat) (hk : k ≤ 1000) (hi0 : -1000000000 ≤ id) (hi1 : id ≤ 1000000000) :
    Calls Try.prog 24 #[.int .i64 id, .int .i64 k, .int .i64 form] w
      fun e w' => ∃ A7 k7 A8 k8 A9 k9 A10 k10, e = .returned (.agg #[.int .i64 id, .int .i64 0, .int .i64 (-1), .slice none 0 0, .int .i64 form, .int .i64 0, .int .i64 0, .slice A7 k k7, .slice A8 k k8, .slice A9 k k9, .slice A10 k k10, .int .i64 0, .int .i64 (5 + 2 * id)]) ∧ Below w.heap.size w w' ∧ NodeV w' (fun j => w.heap.size ≤ j) (newN id k form) (.slice none 0 0) (.slice A7 k k7) (.slice A8 k k8) (.slice A9 k k9) (.slice A10 k k10) := by
  go_enter Try.func24, Try.ntmps24
  go_wp2_with fail
  refine (fresh_blank _ id form k hk hi0 hi1).mono ?_
  rintro e w2 ⟨A7, k7, A8, k8, A9, k9, A10, k10, rfl, hb2, h7, h8, h9, h10⟩
  have hX2 := (hb2.block w.heap.size (by simp)).trans (MM.alloc_new w (.cells #[.int .i64 0, .int .i64 0, .int .i64 0, .slice none 0 0, .int .i64 0, .int .i64 0, .int .i64 0, .slice none 0 0, .slice none 0 0, .slice none 0 0, .slice none 0 0, .int .i64 0, .int .i64 0] 28))
  have hB2 : Below w.heap.size w w2 := ((Below.refl _ w).alloc (Nat.le_refl _) _).trans (hb2.mono (by simp))
  clear hb2
  have y0 : w2.cell? ⟨w.heap.size, 0, none⟩ = some (.int .i64 0) := MM.cell_blk hX2 rfl
  have y1 : w2.cell? ⟨w.heap.size, 1, none⟩ = some (.int .i64 0) := MM.cell_blk hX2 rfl
  have y2 : w2.cell? ⟨w.heap.size, 2, none⟩ = some (.int .i64 0) := MM.cell_blk hX2 rfl
  have y3 : w2.cell? ⟨w.heap.size, 3, none⟩ = some (.slice none 0 0) := MM.cell_blk hX2 rfl
  have y4 : w2.cell? ⟨w.heap.size, 4, none⟩ = some (.int .i64 0) := MM.cell_blk hX2 rfl
  have y5 : w2.cell? ⟨w.heap.size, 5, none⟩ = some (.int .i64 0) := MM.cell_blk hX2 rfl
  have y6 : w2.cell? ⟨w.heap.size, 6, none⟩ = some (.int .i64 0) := MM.cell_blk hX2 rfl
  have y7 : w2.cell? ⟨w.heap.size, 7, none⟩ = some (.slice none 0 0) := MM.cell_blk hX2 rfl
  have y8 : w2.cell? ⟨w.heap.size, 8, none⟩ = some (.slice none 0 0) := MM.cell_blk hX2 rfl
  have y9 : w2.cell? ⟨w.heap.size, 9, none⟩ = some (.slice none 0 0) := MM.cell_blk hX2 rfl
  have y10 : w2.cell? ⟨w.heap.size, 10, none⟩ = some (.slice none 0 0) := MM.cell_blk hX2 rfl
  have y11 : w2.cell? ⟨w.heap.size, 11, none⟩ = some (.int .i64 0) := MM.cell_blk hX2 rfl
  have y12 : w2.cell? ⟨w.heap.size, 12, none⟩ = some (.int .i64 0) := MM.cell_blk hX2 rfl
  have g0 : w2.frozen? ⟨w.heap.size, 0, none⟩ = false := MM.free_blk hX2
  have g1 : w2.frozen? ⟨w.heap.size, 1, none⟩ = false := MM.free_blk hX2
  have g2 : w2.frozen? ⟨w.heap.size, 2, none⟩ = false := MM.free_blk hX2
  have g3 : w2.frozen? ⟨w.heap.size, 3, none⟩ = false := MM.free_blk hX2
  have g4 : w2.frozen? ⟨w.heap.size, 4, none⟩ = false := MM.free_blk hX2
  have g5 : w2.frozen? ⟨w.heap.size, 5, none⟩ = false := MM.free_blk hX2
  have g6 : w2.frozen? ⟨w.heap.size, 6, none⟩ = false := MM.free_blk hX2
  have g7 : w2.frozen? ⟨w.heap.size, 7, none⟩ = false := MM.free_blk hX2
  have g8 : w2.frozen? ⟨w.heap.size, 8, none⟩ = false := MM.free_blk hX2
  have g9 : w2.frozen? ⟨w.heap.size, 9, none⟩ = false := MM.free_blk hX2
  have g10 : w2.frozen? ⟨w.heap.size, 10, none⟩ = false := MM.free_blk hX2
  have g11 : w2.frozen? ⟨w.heap.size, 11, none⟩ = false := MM.free_blk hX2
  have g12 : w2.frozen? ⟨w.heap.size, 12, none⟩ = false := MM.free_blk hX2
  have HX2 := Lib.hid hX2
  have HB2 := Lib.hid hB2
  have R7 := Lib.hid h7
  have R8 := Lib.hid h8
  have R9 := Lib.hid h9
  have R10 := Lib.hid h10
  clear hX2 hB2 h7 h8 h9 h10
  go_wp2_with fail
  have hYf : ((((((((((((((w2).setCell ⟨w.heap.size, 0, none⟩ (.int .i64 id)).setCell ⟨w.heap.size, 1, none⟩ (.int .i64 0)).setCell ⟨w.heap.size, 2, none⟩ (.int .i64 (-1))).setCell ⟨w.heap.size, 3, none⟩ (.slice none 0 0)).setCell ⟨w.heap.size, 4, none⟩ (.int .i64 form)).setCell ⟨w.heap.size, 5, none⟩ (.int .i64 0)).setCell ⟨w.heap.size, 6, none⟩ (.int .i64 0)).setCell ⟨w.heap.size, 7, none⟩ (.slice A7 k k7)).setCell ⟨w.heap.size, 8, none⟩ (.slice A8 k k8)).setCell ⟨w.heap.size, 9, none⟩ (.slice A9 k k9)).setCell ⟨w.heap.size, 10, none⟩ (.slice A10 k k10)).setCell ⟨w.heap.size, 11, none⟩ (.int .i64 0)).setCell ⟨w.heap.size, 12, none⟩ (.int .i64 (5 + 2 * id))).heap[w.heap.size]? = some (.cells #[.int .i64 id, .int .i64 0, .int .i64 (-1), .slice none 0 0, .int .i64 form, .int .i64 0, .int .i64 0, .slice A7 k k7, .slice A8 k k8, .slice A9 k k9, .slice A10 k k10, .int .i64 0, .int .i64 (5 + 2 * id)] 28 (0, 0)) := set13 HX2.out
  have hBf : Below w.heap.size w ((((((((((((((w2).setCell ⟨w.heap.size, 0, none⟩ (.int .i64 id)).setCell ⟨w.heap.size, 1, none⟩ (.int .i64 0)).setCell ⟨w.heap.size, 2, none⟩ (.int .i64 (-1))).setCell ⟨w.heap.size, 3, none⟩ (.slice none 0 0)).setCell ⟨w.heap.size, 4, none⟩ (.int .i64 form)).setCell ⟨w.heap.size, 5, none⟩ (.int .i64 0)).setCell ⟨w.heap.size, 6, none⟩ (.int .i64 0)).setCell ⟨w.heap.size, 7, none⟩ (.slice A7 k k7)).setCell ⟨w.heap.size, 8, none⟩ (.slice A8 k k8)).setCell ⟨w.heap.size, 9, none⟩ (.slice A9 k k9)).setCell ⟨w.heap.size, 10, none⟩ (.slice A10 k k10)).setCell ⟨w.heap.size, 11, none⟩ (.int .i64 0)).setCell ⟨w.heap.size, 12, none⟩ (.int .i64 (5 + 2 * id))) := below13 HB2.out (Nat.le_refl _)
  have far : ∀ j, w.heap.size + 1 ≤ j → ((((((((((((((w2).setCell ⟨w.heap.size, 0, none⟩ (.int .i64 id)).setCell ⟨w.heap.size, 1, none⟩ (.int .i64 0)).setCell ⟨w.heap.size, 2, none⟩ (.int .i64 (-1))).setCell ⟨w.heap.size, 3, none⟩ (.slice none 0 0)).setCell ⟨w.heap.size, 4, none⟩ (.int .i64 form)).setCell ⟨w.heap.size, 5, none⟩ (.int .i64 0)).setCell ⟨w.heap.size, 6, none⟩ (.int .i64 0)).setCell ⟨w.heap.size, 7, none⟩ (.slice A7 k k7)).setCell ⟨w.heap.size, 8, none⟩ (.slice A8 k k8)).setCell ⟨w.heap.size, 9, none⟩ (.slice A9 k k9)).setCell ⟨w.heap.size, 10, none⟩ (.slice A10 k k10)).setCell ⟨w.heap.size, 11, none⟩ (.int .i64 0)).setCell ⟨w.heap.size, 12, none⟩ (.int .i64 (5 + 2 * id))).heap[j]? = w2.heap[j]? := fun j hj => far13 (by omega)
  obtain ⟨wf, hwf⟩ : ∃ W, W = (((((((((((((w2).setCell ⟨w.heap.size, 0, none⟩ (.int .i64 id)).setCell ⟨w.heap.size, 1, none⟩ (.int .i64 0)).setCell ⟨w.heap.size, 2, none⟩ (.int .i64 (-1))).setCell ⟨w.heap.size, 3, none⟩ (.slice none 0 0)).setCell ⟨w.heap.size, 4, none⟩ (.int .i64 form)).setCell ⟨w.heap.size, 5, none⟩ (.int .i64 0)).setCell ⟨w.heap.size, 6, none⟩ (.int .i64 0)).setCell ⟨w.heap.size, 7, none⟩ (.slice A7 k k7)).setCell ⟨w.heap.size, 8, none⟩ (.slice A8 k k8)).setCell ⟨w.heap.size, 9, none⟩ (.slice A9 k k9)).setCell ⟨w.heap.size, 10, none⟩ (.slice A10 k k10)).setCell ⟨w.heap.size, 11, none⟩ (.int .i64 0)).setCell ⟨w.heap.size, 12, none⟩ (.int .i64 (5 + 2 * id)) := ⟨_, rfl⟩
  rw [← hwf] at hYf hBf far ⊢
  clear hwf
  have z0 : wf.cell? ⟨w.heap.size, 0, none⟩ = some (.int .i64 id) := MM.cell_blk hYf rfl
  have z1 : wf.cell? ⟨w.heap.size, 1, none⟩ = some (.int .i64 0) := MM.cell_blk hYf rfl
  have z2 : wf.cell? ⟨w.heap.size, 2, none⟩ = some (.int .i64 (-1)) := MM.cell_blk hYf rfl
  have z3 : wf.cell? ⟨w.heap.size, 3, none⟩ = some (.slice none 0 0) := MM.cell_blk hYf rfl
  have z4 : wf.cell? ⟨w.heap.size, 4, none⟩ = some (.int .i64 form) := MM.cell_blk hYf rfl
  have z5 : wf.cell? ⟨w.heap.size, 5, none⟩ = some (.int .i64 0) := MM.cell_blk hYf rfl
  have z6 : wf.cell? ⟨w.heap.size, 6, none⟩ = some (.int .i64 0) := MM.cell_blk hYf rfl
  have z7 : wf.cell? ⟨w.heap.size, 7, none⟩ = some (.slice A7 k k7) := MM.cell_blk hYf rfl
  have z8 : wf.cell? ⟨w.heap.size, 8, none⟩ = some (.slice A8 k k8) := MM.cell_blk hYf rfl
  have z9 : wf.cell? ⟨w.heap.size, 9, none⟩ = some (.slice A9 k k9) := MM.cell_blk hYf rfl
  have z10 : wf.cell? ⟨w.heap.size, 10, none⟩ = some (.slice A10 k k10) := MM.cell_blk hYf rfl
  have z11 : wf.cell? ⟨w.heap.size, 11, none⟩ = some (.int .i64 0) := MM.cell_blk hYf rfl
  have z12 : wf.cell? ⟨w.heap.size, 12, none⟩ = some (.int .i64 (5 + 2 * id)) := MM.cell_blk hYf rfl
  refine bodyPost_ret (v := .agg #[.int .i64 id, .int .i64 0, .int .i64 (-1), .slice none 0 0, .int .i64 form, .int .i64 0, .int .i64 0, .slice A7 k k7, .slice A8 k k8, .slice A9 k k9, .slice A10 k k10, .int .i64 0, .int .i64 (5 + 2 * id)]) (by simp [results, Try.results24, go_sem, z0, z1, z2, z3, z4, z5, z6, z7, z8, z9, z10, z11, z12]) rfl ⟨_, _, _, _, _, _, _, _, rfl, hBf, ?_⟩
  unfold newN
  refine ⟨MM.Rd.nil _ _ _ _ _ (by simp [maxLen]), ?_, ?_, ?_, ?_⟩
  · show MM.Rd _ _ _ _ (List.replicate _ _).length _; rw [List.length_replicate]; exact (R7.out.step (w1 := wf) fun j hj _ => far j (by simpa using hj)).mono fun j hj _ => by simp at hj; omega
  · show MM.Rd _ _ _ _ (List.replicate _ _).length _; rw [List.length_replicate]; exact (R8.out.step (w1 := wf) fun j hj _ => far j (by simpa using hj)).mono fun j hj _ => by simp at hj; omega
  · show MM.Rd _ _ _ _ (List.replicate _ _).length _; rw [List.length_replicate]; exact (R9.out.step (w1 := wf) fun j hj _ => far j (by simpa using hj)).mono fun j hj _ => by simp at hj; omega
  · show MM.Rd _ _ _ _ (List.replicate _ _).length _; rw [List.length_replicate]; exact (R10.out.step (w1 := wf) fun j hj _ => far j (by simpa using hj)).mono fun j hj _ => by simp at hj; omega

end Go.Proofs.Ytnkmljdkokcdjaa
