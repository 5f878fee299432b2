/- The law GroupPlays: whatever a group is told, it goes on as the document's. -/
import Derived.WalkKit
import Derived.WalkSpells
import Derived.Lib.Hide
import Derived.Outline
import Derived.Test.YtnkmljdkokcdjaaChecked
import Derived.Test.YtnkmljdkokcdjaaB0
import Derived.Test.YtnkmljdkokcdjaaB1
import Derived.Test.YtnkmljdkokcdjaaB29
import Derived.Deep.DeepCutAuto
import Derived.Deep.CutBlock
import Derived.Deep.OwnRows
import Derived.IntWalk
set_option maxRecDepth 100000
set_option maxHeartbeats 40000000
set_option linter.unusedVariables false
set_option linter.unusedSimpArgs false
namespace Go.Proofs.Ytnkmljdkokcdjaa
open Go.RowKit Fed
attribute [local go_sem high] Fed.max2_int Fed.min2_int Fed.MA Fed.ZN Fed.ZM Fed.NA
def gst (K : Nat) (l : List Int) : Nat → GS
 | 0 => GS.new K
 | i + 1 => stepS K (gst K l i) (wi (l.getD i 0) 1073741824).toNat
theorem gst_sys {K : Nat} (hK : K ≤ 5) (l : List Int) : ∀ i, GSys K (3 * i) (gst K l i)
 | 0 => GSys.new K
 | i + 1 => (gst_sys hK l i).step hK _
theorem gst_good {K : Nat} (hK : K ≤ 5) (l : List Int) (i : Nat) (hi : i ≤ 1000) : GoodG K (gst K l i) := (gst_sys hK l i).good (by omega)
end Go.Proofs.Ytnkmljdkokcdjaa
