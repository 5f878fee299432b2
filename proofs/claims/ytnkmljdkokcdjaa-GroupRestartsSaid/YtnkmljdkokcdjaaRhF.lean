/-
 The program's head word as a list of signs, and what is asked of it: cheap in the kernel.
-/
import Derived.Test.YtnkmljdkokcdjaaRows
import Derived.Test.YtnkmljdkokcdjaaChecked
import Derived.WalkKit
import Derived.ProofKit
import Derived.Test.YtnkmljdkokcdjaaB1
set_option linter.unusedVariables false
set_option linter.unusedSimpArgs false
namespace Go.Proofs.Ytnkmljdkokcdjaa
def headSigns : List Char := ([104, 97, 114, 110, 101, 115, 115, 32, 48, 98, 54, 56, 52, 52, 57, 49, 57, 99, 50, 98, 57, 97, 99, 54, 52, 99, 57, 98, 97, 100, 102, 55, 53, 50, 51, 50, 100, 100, 102, 54, 97, 52, 100, 99, 48, 49, 50, 53, 101, 52, 98, 102, 52, 50, 52, 102, 98, 48, 53, 57, 52, 55, 57, 98, 99, 100, 99, 57, 56, 49, 52, 52, 32, 99, 117, 116, 32, 97, 116, 32, 102, 101, 100, 101, 114, 97, 116, 105, 111, 110, 47, 102, 101, 100, 101, 114, 97, 116, 105, 111, 110, 108, 97, 119, 56, 46, 82, 97, 102, 116, 84, 105, 99, 107, 115, 32, 102, 101, 100, 101, 114, 97, 116, 105, 111, 110, 47, 102, 101, 100, 101, 114, 97, 116, 105, 111, 110, 108, 97, 119, 56, 46, 82, 97, 102, 116, 76, 101, 97, 100, 115, 32, 102, 101, 100, 101, 114, 97, 116, 105, 111, 110, 47, 102, 101, 100, 101, 114, 97, 116, 105, 111, 110, 108, 97, 119, 56, 46, 82, 97, 102, 116, 67, 117, 116, 115, 32, 102, 101, 100, 101, 114, 97, 116, 105, 111, 110, 47, 102, 101, 100, 101, 114, 97, 116, 105, 111, 110, 108, 97, 119, 56, 46, 82, 97, 102, 116, 67, 111, 109, 109, 105, 116, 115, 32, 102, 101, 100, 101, 114, 97, 116, 105, 111, 110, 47, 102, 101, 100, 101, 114, 97, 116, 105, 111, 110, 108, 97, 119, 56, 46, 82, 97, 102, 116, 80, 108, 97, 121, 115, 32, 102, 101, 100, 101, 114, 97, 116, 105, 111, 110, 47, 102, 101, 100, 101, 114, 97, 116, 105, 111, 110, 108, 97, 119, 56, 46, 82, 97, 102, 116, 76, 111, 103, 115, 32, 102, 101, 100, 101, 114, 97, 116, 105, 111, 110, 47, 102, 101, 100, 101, 114, 97, 116, 105, 111, 110, 108, 97, 119, 56, 46, 82, 97, 102, 116, 86, 111, 116, 101, 115, 32, 102, 101, 100, 101, 114, 97, 116, 105, 111, 110, 47, 102, 101, 100, 101, 114, 97, 116, 105, 111, 110, 108, 97, 119, 56, 46, 82, 97, 102, 116, 79, 119, 110, 32, 102, 101, 100, 101, 114, 97, 116, 105, 111, 110, 47, 102, 101, 100, 101, 114, 97, 116, 105, 111, 110, 108, 97, 119, 56, 46, 82, 97, 102, 116, 79, 108, 100, 101, 114, 32, 102, 101, 100, 101, 114, 97, 116, 105, 111, 110, 47, 102, 101, 100, 101, 114, 97, 116, 105, 111, 110, 108, 97, 119, 57, 46, 71, 114, 111, 117, 112, 69, 108, 101, 99, 116, 115, 32, 102, 101, 100, 101, 114, 97, 116, 105, 111, 110, 47, 102, 101, 100, 101, 114, 97, 116, 105, 111, 110, 108, 97, 119, 57, 46, 71, 114, 111, 117, 112, 77, 105, 110, 111, 114, 32, 102, 101, 100, 101, 114, 97, 116, 105, 111, 110, 47, 102, 101, 100, 101, 114, 97, 116, 105, 111, 110, 108, 97, 119, 57, 46, 71, 114, 111, 117, 112, 79, 114, 100, 101, 114, 32, 102, 101, 100, 101, 114, 97, 116, 105, 111, 110, 47, 102, 101, 100, 101, 114, 97, 116, 105, 111, 110, 108, 97, 119, 57, 46, 71, 114, 111, 117, 112, 68, 111, 119, 110, 32, 102, 101, 100, 101, 114, 97, 116, 105, 111, 110, 47, 102, 101, 100, 101, 114, 97, 116, 105, 111, 110, 108, 97, 119, 57, 46, 71, 114, 111, 117, 112, 65, 112, 112, 108, 105, 101, 100, 32, 102, 101, 100, 101, 114, 97, 116, 105, 111, 110, 47, 102, 101, 100, 101, 114, 97, 116, 105, 111, 110, 108, 97, 119, 57, 46, 71, 114, 111, 117, 112, 70, 108, 105, 103, 104, 116, 32, 102, 101, 100, 101, 114, 97, 116, 105, 111, 110, 47, 102, 101, 100, 101, 114, 97, 116, 105, 111, 110, 108, 97, 119, 57, 46, 71, 114, 111, 117, 112, 80, 108, 97, 121, 115, 32, 102, 101, 100, 101, 114, 97, 116, 105, 111, 110, 47, 102, 101, 100, 101, 114, 97, 116, 105, 111, 110, 108, 97, 119, 57, 46, 71, 114, 111, 117, 112, 79, 110, 101, 32, 102, 101, 100, 101, 114, 97, 116, 105, 111, 110, 47, 102, 101, 100, 101, 114, 97, 116, 105, 111, 110, 108, 97, 119, 57, 46, 71, 114, 111, 117, 112, 82, 101, 115, 116, 97, 114, 116, 115, 32, 102, 101, 100, 101, 114, 97, 116, 105, 111, 110, 47, 102, 101, 100, 101, 114, 97, 116, 105, 111, 110, 108, 97, 119, 57, 46, 71, 114, 111, 117, 112, 65, 112, 97, 114, 116].map Char.ofNat)
theorem head_is : Try.prog.initOrder = String.ofList headSigns := by kernel_rfl
theorem head_list : Try.prog.initOrder.toList = headSigns := by rw [head_is]; exact String.toList_ofList
theorem may_enter : Try.checked.prog.mayEnter = true := by
 show Try.prog.mayEnter = true
 unfold Program.mayEnter
 rw [head_list]
 kernel_rfl
theorem head_lifts : Try.prog.headLifts = [] := by
 unfold Program.headLifts
 rw [head_list]
 kernel_rfl
theorem lifts_final : Try.checked.prog.liftsFinal = false := by
 show Try.prog.liftsFinal = false
 unfold Program.liftsFinal
 rw [head_list, head_lifts]
 kernel_rfl
theorem make_cut : Try.checked.prog.make = some .cut := by
 show Try.prog.make = some .cut
 unfold Program.make
 rw [head_list, head_lifts]
 kernel_rfl
open Go Go.RowKit
def IsRow (k : IntKind) (w : World) (a : Option Addr) (len cap : Nat) (zs : List Int) : Prop :=
 (a = none ∧ len = 0 ∧ cap = 0 ∧ zs = []) ∨
 ∃ x, a = some x ∧ len ≤ cap ∧ cap ≤ maxLen ∧ zs.length = cap ∧ (∀ i, i < zs.length → w.cell? (x.add i) = some (.int k (zs.getD i 0))) ∧ ∀ n ∈ zs, (Lit.int k n).wf = true
theorem rd_of_row {w : World} {a : Option Addr} {len cap : Nat} {zs : List Int} (h : IsRow .i64 w a len cap zs) :
  ∃ l : List Int, l.length = len ∧ MM.Rd w (fun j => j < w.heap.size) 1 (.slice a len cap) len (Fed.intsC l) ∧ ∀ x ∈ l, (Lit.int .i64 x).wf = true := by
 rcases h with ⟨rfl, rfl, rfl, rfl⟩ | ⟨x, rfl, h1, h2, h3, h4, h5⟩
 ·exact ⟨[], rfl, MM.Rd.nil _ _ _ _ _ (by simp [maxLen]), by simp⟩
 ·refine ⟨zs.take len, by rw [List.length_take]; omega, ⟨by simp [Fed.intsC]; omega, some x, cap, rfl, h1, h2, fun hp => ?_⟩, fun y hy => h5 y (List.mem_of_mem_take hy)⟩
  have h0 := h4 0 (by omega)
  have hsp : x.spot = none := by
   cases hs : x.spot with
   | none => rfl
   | some s =>
    simp only [Addr.add, if_pos] at h0
    unfold World.cell? at h0
    rw [hs] at h0
    simp at h0
    split at h0 <;> simp at h0
  refine ⟨x.block, x.off, ?_, ?_, ?_, ?_⟩
  ·cases x; simp at hsp; subst hsp; rfl
  ·exact World.block_lt_of_cell? w x (by simpa [Addr.add] using h0)
  ·exact World.block_lt_of_cell? w x (by simpa [Addr.add] using h0)
  ·intro j u hj
   simp only [Fed.intsC, List.map_take] at hj
   rw [List.getElem?_take] at hj
   split at hj
   ·rename_i hjl
    rw [List.getElem?_map] at hj
    have hjz : j < zs.length := by omega
    rw [List.getElem?_eq_getElem hjz] at hj
    have e := h4 j hjz
    rw [List.getD_eq_getElem?_getD, List.getElem?_eq_getElem hjz] at e
    have ea : x.add j = ⟨x.block, x.off + j, none⟩ := by
     cases x; simp at hsp; subst hsp
     unfold Addr.add
     split
     ·rename_i hj0; subst hj0; rfl
     ·rfl
    rw [ea] at e
    simp at hj
    rw [e, ← hj]
    rfl
   ·cases hj
theorem own_knob : ownKnob Try.prog.godebug = none := by kernel_rfl
theorem laid_out : laidOutB Try.prog = true := by kernel_rfl
end Go.Proofs.Ytnkmljdkokcdjaa
