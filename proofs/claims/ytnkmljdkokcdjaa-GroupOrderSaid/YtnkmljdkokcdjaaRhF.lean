/-
  The program's head word as a list of signs, and what is asked of it: cheap in the kernel.
-/
import Derived.Test.YtnkmljdkokcdjaaRows
import Derived.Test.YtnkmljdkokcdjaaChecked
import Derived.WalkKit
import Derived.ProofKit
import Derived.Test.YtnkmljdkokcdjaaFed
set_option linter.unusedVariables false
set_option linter.unusedSimpArgs false
namespace Go.Proofs.Ytnkmljdkokcdjaa

def headSigns : List Char := [Char.ofNat 104, Char.ofNat 97, Char.ofNat 114, Char.ofNat 110, Char.ofNat 101, Char.ofNat 115, Char.ofNat 115, Char.ofNat 32, Char.ofNat 48, Char.ofNat 98, Char.ofNat 54, Char.ofNat 56, Char.ofNat 52, Char.ofNat 52, Char.ofNat 57, Char.ofNat 49, Char.ofNat 57, Char.ofNat 99, Char.ofNat 50, Char.ofNat 98, Char.ofNat 57, Char.ofNat 97, Char.ofNat 99, Char.ofNat 54, Char.ofNat 52, Char.ofNat 99, Char.ofNat 57, Char.ofNat 98, Char.ofNat 97, Char.ofNat 100, Char.ofNat 102, Char.ofNat 55, Char.ofNat 53, Char.ofNat 50, Char.ofNat 51, Char.ofNat 50, Char.ofNat 100, Char.ofNat 100, Char.ofNat 102, Char.ofNat 54, Char.ofNat 97, Char.ofNat 52, Char.ofNat 100, Char.ofNat 99, Char.ofNat 48, Char.ofNat 49, Char.ofNat 50, Char.ofNat 53, Char.ofNat 101, Char.ofNat 52, Char.ofNat 98, Char.ofNat 102, Char.ofNat 52, Char.ofNat 50, Char.ofNat 52, Char.ofNat 102, Char.ofNat 98, Char.ofNat 48, Char.ofNat 53, Char.ofNat 57, Char.ofNat 52, Char.ofNat 55, Char.ofNat 57, Char.ofNat 98, Char.ofNat 99, Char.ofNat 100, Char.ofNat 99, Char.ofNat 57, Char.ofNat 56, Char.ofNat 49, Char.ofNat 52, Char.ofNat 52, Char.ofNat 32, Char.ofNat 99, Char.ofNat 117, Char.ofNat 116, Char.ofNat 32, Char.ofNat 97, Char.ofNat 116, Char.ofNat 32, Char.ofNat 102, Char.ofNat 101, Char.ofNat 100, Char.ofNat 101, Char.ofNat 114, Char.ofNat 97, Char.ofNat 116, Char.ofNat 105, Char.ofNat 111, Char.ofNat 110, Char.ofNat 47, Char.ofNat 102, Char.ofNat 101, Char.ofNat 100, Char.ofNat 101, Char.ofNat 114, Char.ofNat 97, Char.ofNat 116, Char.ofNat 105, Char.ofNat 111, Char.ofNat 110, Char.ofNat 108, Char.ofNat 97, Char.ofNat 119, Char.ofNat 56, Char.ofNat 46, Char.ofNat 82, Char.ofNat 97, Char.ofNat 102, Char.ofNat 116, Char.ofNat 84, Char.ofNat 105, Char.ofNat 99, Char.ofNat 107, Char.ofNat 115, Char.ofNat 32, Char.ofNat 102, Char.ofNat 101, Char.ofNat 100, Char.ofNat 101, Char.ofNat 114, Char.ofNat 97, Char.ofNat 116, Char.ofNat 105, Char.ofNat 111, Char.ofNat 110, Char.ofNat 47, Char.ofNat 102, Char.ofNat 101, Char.ofNat 100, Char.ofNat 101, Char.ofNat 114, Char.ofNat 97, Char.ofNat 116, Char.ofNat 105, Char.ofNat 111, Char.ofNat 110, Char.ofNat 108, Char.ofNat 97, Char.ofNat 119, Char.ofNat 56, Char.ofNat 46, Char.ofNat 82, Char.ofNat 97, Char.ofNat 102, Char.ofNat 116, Char.ofNat 76, Char.ofNat 101, Char.ofNat 97, Char.ofNat 100, Char.ofNat 115, Char.ofNat 32, Char.ofNat 102, Char.ofNat 101, Char.ofNat 100, Char.ofNat 101, Char.ofNat 114, Char.ofNat 97, Char.ofNat 116, Char.ofNat 105, Char.ofNat 111, Char.ofNat 110, Char.ofNat 47, Char.ofNat 102, Char.ofNat 101, Char.ofNat 100, Char.ofNat 101, Char.ofNat 114, Char.ofNat 97, Char.ofNat 116, Char.ofNat 105, Char.ofNat 111, Char.ofNat 110, Char.ofNat 108, Char.ofNat 97, Char.ofNat 119, Char.ofNat 56, Char.ofNat 46, Char.ofNat 82, Char.ofNat 97, Char.ofNat 102, Char.ofNat 116, Char.ofNat 67, Char.ofNat 117, Char.ofNat 116, Char.ofNat 115, Char.ofNat 32, Char.ofNat 102, Char.ofNat 101, Char.ofNat 100, Char.ofNat 101, Char.ofNat 114, Char.ofNat 97, Char.ofNat 116, Char.ofNat 105, Char.ofNat 111, Char.ofNat 110, Char.ofNat 47, Char.ofNat 102, Char.ofNat 101, Char.ofNat 100, Char.ofNat 101, Char.ofNat 114, Char.ofNat 97, Char.ofNat 116, Char.ofNat 105, Char.ofNat 111, Char.ofNat 110, Char.ofNat 108, Char.ofNat 97, Char.ofNat 119, Char.ofNat 56, Char.ofNat 46, Char.ofNat 82, Char.ofNat 97, Char.ofNat 102, Char.ofNat 116, Char.ofNat 67, Char.ofNat 111, Char.ofNat 109, Char.ofNat 109, Char.ofNat 105, Char.ofNat 116, Char.ofNat 115, Char.ofNat 32, Char.ofNat 102, Char.ofNat 101, Char.ofNat 100, Char.ofNat 101, Char.ofNat 114, Char.ofNat 97, Char.ofNat 116, Char.ofNat 105, Char.ofNat 111, Char.ofNat 110, Char.ofNat 47, Char.ofNat 102, Char.ofNat 101, Char.ofNat 100, Char.ofNat 101, Char.ofNat 114, Char.ofNat 97, Char.ofNat 116, Char.ofNat 105, Char.ofNat 111, Char.ofNat 110, Char.ofNat 108, Char.ofNat 97, Char.ofNat 119, Char.ofNat 56, Char.ofNat 46, Char.ofNat 82, Char.ofNat 97, Char.ofNat 102, Char.ofNat 116, Char.ofNat 80, Char.ofNat 108, Char.ofNat 97, Char.ofNat 121, Char.ofNat 115, Char.ofNat 32, Char.ofNat 102, Char.ofNat 101, Char.ofNat 100, Char.ofNat 101, Char.ofNat 114, Char.ofNat 97, Char.ofNat 116, Char.ofNat 105, Char.ofNat 111, Char.ofNat 110, Char.ofNat 47, Char.ofNat 102, Char.ofNat 101, Char.ofNat 100, Char.ofNat 101, Char.ofNat 114, Char.ofNat 97, Char.ofNat 116, Char.ofNat 105, Char.ofNat 111, Char.ofNat 110, Char.ofNat 108, Char.ofNat 97, Char.ofNat 119, Char.ofNat 56, Char.ofNat 46, Char.ofNat 82, Char.ofNat 97, Char.ofNat 102, Char.ofNat 116, Char.ofNat 76, Char.ofNat 111, Char.ofNat 103, Char.ofNat 115, Char.ofNat 32, Char.ofNat 102, Char.ofNat 101, Char.ofNat 100, Char.ofNat 101, Char.ofNat 114, Char.ofNat 97, Char.ofNat 116, Char.ofNat 105, Char.ofNat 111, Char.ofNat 110, Char.ofNat 47, Char.ofNat 102, Char.ofNat 101, Char.ofNat 100, Char.ofNat 101, Char.ofNat 114, Char.ofNat 97, Char.ofNat 116, Char.ofNat 105, Char.ofNat 111, Char.ofNat 110, Char.ofNat 108, Char.ofNat 97, Char.ofNat 119, Char.ofNat 56, Char.ofNat 46, Char.ofNat 82, Char.ofNat 97, Char.ofNat 102, Char.ofNat 116, Char.ofNat 86, Char.ofNat 111, Char.ofNat 116, Char.ofNat 101, Char.ofNat 115, Char.ofNat 32, Char.ofNat 102, Char.ofNat 101, Char.ofNat 100, Char.ofNat 101, Char.ofNat 114, Char.ofNat 97, Char.ofNat 116, Char.ofNat 105, Char.ofNat 111, Char.ofNat 110, Char.ofNat 47, Char.ofNat 102, Char.ofNat 101, Char.ofNat 100, Char.ofNat 101, Char.ofNat 114, Char.ofNat 97, Char.ofNat 116, Char.ofNat 105, Char.ofNat 111, Char.ofNat 110, Char.ofNat 108, Char.ofNat 97, Char.ofNat 119, Char.ofNat 56, Char.ofNat 46, Char.ofNat 82, Char.ofNat 97, Char.ofNat 102, Char.ofNat 116, Char.ofNat 79, Char.ofNat 119, Char.ofNat 110, Char.ofNat 32, Char.ofNat 102, Char.ofNat 101, Char.ofNat 100, Char.ofNat 101, Char.ofNat 114, Char.ofNat 97, Char.ofNat 116, Char.ofNat 105, Char.ofNat 111, Char.ofNat 110, Char.ofNat 47, Char.ofNat 102, Char.ofNat 101, Char.ofNat 100, Char.ofNat 101, Char.ofNat 114, Char.ofNat 97, Char.ofNat 116, Char.ofNat 105, Char.ofNat 111, Char.ofNat 110, Char.ofNat 108, Char.ofNat 97, Char.ofNat 119, Char.ofNat 56, Char.ofNat 46, Char.ofNat 82, Char.ofNat 97, Char.ofNat 102, Char.ofNat 116, Char.ofNat 79, Char.ofNat 108, Char.ofNat 100, Char.ofNat 101, Char.ofNat 114, Char.ofNat 32, Char.ofNat 102, Char.ofNat 101, Char.ofNat 100, Char.ofNat 101, Char.ofNat 114, Char.ofNat 97, Char.ofNat 116, Char.ofNat 105, Char.ofNat 111, Char.ofNat 110, Char.ofNat 47, Char.ofNat 102, Char.ofNat 101, Char.ofNat 100, Char.ofNat 101, Char.ofNat 114, Char.ofNat 97, Char.ofNat 116, Char.ofNat 105, Char.ofNat 111, Char.ofNat 110, Char.ofNat 108, Char.ofNat 97, Char.ofNat 119, Char.ofNat 57, Char.ofNat 46, Char.ofNat 71, Char.ofNat 114, Char.ofNat 111, Char.ofNat 117, Char.ofNat 112, Char.ofNat 69, Char.ofNat 108, Char.ofNat 101, Char.ofNat 99, Char.ofNat 116, Char.ofNat 115, Char.ofNat 32, Char.ofNat 102, Char.ofNat 101, Char.ofNat 100, Char.ofNat 101, Char.ofNat 114, Char.ofNat 97, Char.ofNat 116, Char.ofNat 105, Char.ofNat 111, Char.ofNat 110, Char.ofNat 47, Char.ofNat 102, Char.ofNat 101, Char.ofNat 100, Char.ofNat 101, Char.ofNat 114, Char.ofNat 97, Char.ofNat 116, Char.ofNat 105, Char.ofNat 111, Char.ofNat 110, Char.ofNat 108, Char.ofNat 97, Char.ofNat 119, Char.ofNat 57, Char.ofNat 46, Char.ofNat 71, Char.ofNat 114, Char.ofNat 111, Char.ofNat 117, Char.ofNat 112, Char.ofNat 77, Char.ofNat 105, Char.ofNat 110, Char.ofNat 111, Char.ofNat 114, Char.ofNat 32, Char.ofNat 102, Char.ofNat 101, Char.ofNat 100, Char.ofNat 101, Char.ofNat 114, Char.ofNat 97, Char.ofNat 116, Char.ofNat 105, Char.ofNat 111, Char.ofNat 110, Char.ofNat 47, Char.ofNat 102, Char.ofNat 101, Char.ofNat 100, Char.ofNat 101, Char.ofNat 114, Char.ofNat 97, Char.ofNat 116, Char.ofNat 105, Char.ofNat 111, Char.ofNat 110, Char.ofNat 108, Char.ofNat 97, Char.ofNat 119, Char.ofNat 57, Char.ofNat 46, Char.ofNat 71, Char.ofNat 114, Char.ofNat 111, Char.ofNat 117, Char.ofNat 112, Char.ofNat 79, Char.ofNat 114, Char.ofNat 100, Char.ofNat 101, Char.ofNat 114, Char.ofNat 32, Char.ofNat 102, Char.ofNat 101, Char.ofNat 100, Char.ofNat 101, Char.ofNat 114, Char.ofNat 97, Char.ofNat 116, Char.ofNat 105, Char.ofNat 111, Char.ofNat 110, Char.ofNat 47, Char.ofNat 102, Char.ofNat 101, Char.ofNat 100, Char.ofNat 101, Char.ofNat 114, Char.ofNat 97, Char.ofNat 116, Char.ofNat 105, Char.ofNat 111, Char.ofNat 110, Char.ofNat 108, Char.ofNat 97, Char.ofNat 119, Char.ofNat 57, Char.ofNat 46, Char.ofNat 71, Char.ofNat 114, Char.ofNat 111, Char.ofNat 117, Char.ofNat 112, Char.ofNat 68, Char.ofNat 111, Char.ofNat 119, Char.ofNat 110, Char.ofNat 32, Char.ofNat 102, Char.ofNat 101, Char.ofNat 100, Char.ofNat 101, Char.ofNat 114, Char.ofNat 97, Char.ofNat 116, Char.ofNat 105, Char.ofNat 111, Char.ofNat 110, Char.ofNat 47, Char.ofNat 102, Char.ofNat 101, Char.ofNat 100, Char.ofNat 101, Char.ofNat 114, Char.ofNat 97, Char.ofNat 116, Char.ofNat 105, Char.ofNat 111, Char.ofNat 110, Char.ofNat 108, Char.ofNat 97, Char.ofNat 119, Char.ofNat 57, Char.ofNat 46, Char.ofNat 71, Char.ofNat 114, Char.ofNat 111, Char.ofNat 117, Char.ofNat 112, Char.ofNat 65, Char.ofNat 112, Char.ofNat 112, Char.ofNat 108, Char.ofNat 105, Char.ofNat 101, Char.ofNat 100, Char.ofNat 32, Char.ofNat 102, Char.ofNat 101, Char.ofNat 100, Char.ofNat 101, Char.ofNat 114, Char.ofNat 97, Char.ofNat 116, Char.ofNat 105, Char.ofNat 111, Char.ofNat 110, Char.ofNat 47, Char.ofNat 102, Char.ofNat 101, Char.ofNat 100, Char.ofNat 101, Char.ofNat 114, Char.ofNat 97, Char.ofNat 116, Char.ofNat 105, Char.ofNat 111, Char.ofNat 110, Char.ofNat 108, Char.ofNat 97, Char.ofNat 119, Char.ofNat 57, Char.ofNat 46, Char.ofNat 71, Char.ofNat 114, Char.ofNat 111, Char.ofNat 117, Char.ofNat 112, Char.ofNat 70, Char.ofNat 108, Char.ofNat 105, Char.ofNat 103, Char.ofNat 104, Char.ofNat 116, Char.ofNat 32, Char.ofNat 102, Char.ofNat 101, Char.ofNat 100, Char.ofNat 101, Char.ofNat 114, Char.ofNat 97, Char.ofNat 116, Char.ofNat 105, Char.ofNat 111, Char.ofNat 110, Char.ofNat 47, Char.ofNat 102, Char.ofNat 101, Char.ofNat 100, Char.ofNat 101, Char.ofNat 114, Char.ofNat 97, Char.ofNat 116, Char.ofNat 105, Char.ofNat 111, Char.ofNat 110, Char.ofNat 108, Char.ofNat 97, Char.ofNat 119, Char.ofNat 57, Char.ofNat 46, Char.ofNat 71, Char.ofNat 114, Char.ofNat 111, Char.ofNat 117, Char.ofNat 112, Char.ofNat 80, Char.ofNat 108, Char.ofNat 97, Char.ofNat 121, Char.ofNat 115, Char.ofNat 32, Char.ofNat 102, Char.ofNat 101, Char.ofNat 100, Char.ofNat 101, Char.ofNat 114, Char.ofNat 97, Char.ofNat 116, Char.ofNat 105, Char.ofNat 111, Char.ofNat 110, Char.ofNat 47, Char.ofNat 102, Char.ofNat 101, Char.ofNat 100, Char.ofNat 101, Char.ofNat 114, Char.ofNat 97, Char.ofNat 116, Char.ofNat 105, Char.ofNat 111, Char.ofNat 110, Char.ofNat 108, Char.ofNat 97, Char.ofNat 119, Char.ofNat 57, Char.ofNat 46, Char.ofNat 71, Char.ofNat 114, Char.ofNat 111, Char.ofNat 117, Char.ofNat 112, Char.ofNat 79, Char.ofNat 110, Char.ofNat 101, Char.ofNat 32, Char.ofNat 102, Char.ofNat 101, Char.ofNat 100, Char.ofNat 101, Char.ofNat 114, Char.ofNat 97, Char.ofNat 116, Char.ofNat 105, Char.ofNat 111, Char.ofNat 110, Char.ofNat 47, Char.ofNat 102, Char.ofNat 101, Char.ofNat 100, Char.ofNat 101, Char.ofNat 114, Char.ofNat 97, Char.ofNat 116, Char.ofNat 105, Char.ofNat 111, Char.ofNat 110, Char.ofNat 108, Char.ofNat 97, Char.ofNat 119, Char.ofNat 57, Char.ofNat 46, Char.ofNat 71, Char.ofNat 114, Char.ofNat 111, Char.ofNat 117, Char.ofNat 112, Char.ofNat 82, Char.ofNat 101, Char.ofNat 115, Char.ofNat 116, Char.ofNat 97, Char.ofNat 114, Char.ofNat 116, Char.ofNat 115, Char.ofNat 32, Char.ofNat 102, Char.ofNat 101, Char.ofNat 100, Char.ofNat 101, Char.ofNat 114, Char.ofNat 97, Char.ofNat 116, Char.ofNat 105, Char.ofNat 111, Char.ofNat 110, Char.ofNat 47, Char.ofNat 102, Char.ofNat 101, Char.ofNat 100, Char.ofNat 101, Char.ofNat 114, Char.ofNat 97, Char.ofNat 116, Char.ofNat 105, Char.ofNat 111, Char.ofNat 110, Char.ofNat 108, Char.ofNat 97, Char.ofNat 119, Char.ofNat 57, Char.ofNat 46, Char.ofNat 71, Char.ofNat 114, Char.ofNat 111, Char.ofNat 117, Char.ofNat 112, Char.ofNat 65, Char.ofNat 112, Char.ofNat 97, Char.ofNat 114, Char.ofNat 116]
theorem head_is : Try.prog.initOrder = String.ofList headSigns := by kernel_rfl
theorem head_list : Try.prog.initOrder.toList = headSigns := by rw [head_is]; exact String.toList_ofList
theorem may_enter : Try.checked.prog.mayEnter = true := by
  show Try.prog.mayEnter = true
  unfold Program.mayEnter
  rw [head_list]
  kernel_rfl
theorem head_lifts : Try.prog.headLifts = [] := by
  unfold Program.headLifts
  rw [head_list]
  kernel_rfl
theorem lifts_final : Try.checked.prog.liftsFinal = false := by
  show Try.prog.liftsFinal = false
  unfold Program.liftsFinal
  rw [head_list, head_lifts]
  kernel_rfl
theorem make_cut : Try.checked.prog.make = some .cut := by
  show Try.prog.make = some .cut
  unfold Program.make
  rw [head_list, head_lifts]
  kernel_rfl
open Go Go.RowKit

def IsRow (k : IntKind) (w : World) (a : Option Addr) (len cap : Nat) (zs : List Int) : Prop :=
  (a = none ∧ len = 0 ∧ cap = 0 ∧ zs = []) ∨
  ∃ x, a = some x ∧ len ≤ cap ∧ cap ≤ maxLen ∧ zs.length = cap ∧ (∀ i, i < zs.length → w.cell? (x.add i) = some (.int k (zs.getD i 0))) ∧ ∀ n ∈ zs, (Lit.int k n).wf = true
theorem rd_of_row {w : World} {a : Option Addr} {len cap : Nat} {zs : List Int} (h : IsRow .i64 w a len cap zs) :
    ∃ l : List Int, l.length = len ∧ MM.Rd w (fun j => j < w.heap.size) 1 (.slice a len cap) len (Fed.intsC l) ∧ ∀ x ∈ l, (Lit.int .i64 x).wf = true := by
  rcases h with ⟨rfl, rfl, rfl, rfl⟩ | ⟨x, rfl, h1, h2, h3, h4, h5⟩
  · exact ⟨[], rfl, MM.Rd.nil _ _ _ _ _ (by simp [maxLen]), by simp⟩
  · refine ⟨zs.take len, by rw [List.length_take]; omega, ⟨by simp [Fed.intsC]; omega, some x, cap, rfl, h1, h2, fun hp => ?_⟩, fun y hy => h5 y (List.mem_of_mem_take hy)⟩
    have h0 := h4 0 (by omega)
    have hsp : x.spot = none := by
      cases hs : x.spot with
      | none => rfl
      | some s =>
        simp only [Addr.add, if_pos] at h0
        unfold World.cell? at h0
        rw [hs] at h0
        simp at h0
        split at h0 <;> simp at h0
    refine ⟨x.block, x.off, ?_, ?_, ?_, ?_⟩
    · cases x; simp at hsp; subst hsp; rfl
    · exact World.block_lt_of_cell? w x (by simpa [Addr.add] using h0)
    · exact World.block_lt_of_cell? w x (by simpa [Addr.add] using h0)
    · intro j u hj
      simp only [Fed.intsC, List.map_take] at hj
      rw [List.getElem?_take] at hj
      split at hj
      · rename_i hjl
        rw [List.getElem?_map] at hj
        have hjz : j < zs.length := by omega
        rw [List.getElem?_eq_getElem hjz] at hj
        have e := h4 j hjz
        rw [List.getD_eq_getElem?_getD, List.getElem?_eq_getElem hjz] at e
        have ea : x.add j = ⟨x.block, x.off + j, none⟩ := by
          cases x; simp at hsp; subst hsp
          unfold Addr.add
          split
          · rename_i hj0; subst hj0; rfl
          · rfl
        rw [ea] at e
        simp at hj
        rw [e, ← hj]
        rfl
      · cases hj
theorem own_knob : ownKnob Try.prog.godebug = none := by kernel_rfl
theorem laid_out : laidOutB Try.prog = true := by kernel_rfl
end Go.Proofs.Ytnkmljdkokcdjaa
