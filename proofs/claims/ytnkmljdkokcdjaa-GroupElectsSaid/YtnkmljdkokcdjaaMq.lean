/-
  Closed runs of groups of one to five nodes, evaluated: who leads, what is applied (first half).
-/
import Derived.KernelRfl
import Derived.Test.YtnkmljdkokcdjaaGw
import Derived.Test.YtnkmljdkokcdjaaGv
set_option linter.unusedVariables false
set_option linter.unusedSimpArgs false
namespace Go.Proofs.Ytnkmljdkokcdjaa
open Go Go.RowKit Fed
set_option linter.unusedVariables false
def e1 (us : List Bool) : GS := settleS 30 ⟨(GS.new us.length).ns, us, []⟩
def tok (i : Nat) : ByteArray := ⟨#[UInt8.ofNat (97 + i)]⟩
def e2 (us : List Bool) (F : Nat → ByteArray) : Nat → GS
  | 0 => e1 us
  | m + 1 => (e2 us F m).prop (e1 us).leader (F m)
def e3 (us : List Bool) (F : Nat → ByteArray) (m : Nat) : GS := settleS 12 (e2 us F m)
def toks (m : Nat) : List ByteArray := (List.range m).map tok
def eOk (us : List Bool) (m : Nat) : Bool :=
  decide (0 ≤ (e1 us).leader) && (e1 us).isUp (e1 us).leader && (e2 us tok m).propOk (e1 us).leader && decide ((e3 us tok m).leader = (e1 us).leader) &&
  (List.range us.length).all fun i => (e3 us tok m).isUp (i : Int) == us.getD i false && (!us.getD i false || decide ((e3 us tok m).applied (i : Int) = toks m))
end Go.Proofs.Ytnkmljdkokcdjaa
namespace Go.Proofs.Ytnkmljdkokcdjaa
open Go Go.RowKit Fed
set_option linter.unusedVariables false
theorem eOk_t : ((List.range 11).all fun m => eOk [true] m) = true := by kernel_rfl
theorem eOk_tt : ((List.range 11).all fun m => eOk [true, true] m) = true := by kernel_rfl
theorem eOk_ttt : ((List.range 11).all fun m => eOk [true, true, true] m) = true := by kernel_rfl
theorem eOk_ttf : ((List.range 11).all fun m => eOk [true, true, false] m) = true := by kernel_rfl
theorem eOk_tft : ((List.range 11).all fun m => eOk [true, false, true] m) = true := by kernel_rfl
theorem eOk_ftt : ((List.range 11).all fun m => eOk [false, true, true] m) = true := by kernel_rfl
theorem eOk_tttt : ((List.range 11).all fun m => eOk [true, true, true, true] m) = true := by kernel_rfl
theorem eOk_tttf : ((List.range 11).all fun m => eOk [true, true, true, false] m) = true := by kernel_rfl
theorem eOk_ttft : ((List.range 11).all fun m => eOk [true, true, false, true] m) = true := by kernel_rfl
theorem eOk_tftt : ((List.range 11).all fun m => eOk [true, false, true, true] m) = true := by kernel_rfl
theorem eOk_fttt : ((List.range 11).all fun m => eOk [false, true, true, true] m) = true := by kernel_rfl
end Go.Proofs.Ytnkmljdkokcdjaa
