/-
  The law RaftPlays returns true, and writes nothing that was there, for any int and any row of ints.
-/
import Derived.WalkKit
import Derived.WalkSpells
import Derived.Lib.Hide
import Derived.Outline
import Derived.Test.YtnkmljdkokcdjaaChecked
import Derived.Test.YtnkmljdkokcdjaaMn
import Derived.Test.YtnkmljdkokcdjaaMem
import Derived.Test.YtnkmljdkokcdjaaFed
import Derived.Test.YtnkmljdkokcdjaaRp3
import Derived.Test.YtnkmljdkokcdjaaMi
import Derived.Deep.DeepCutAuto
import Derived.Deep.CutBlock
import Derived.Deep.OwnRows
import Derived.IntWalk
set_option linter.unusedVariables false
set_option linter.unusedSimpArgs false
namespace Go.Proofs.Ytnkmljdkokcdjaa
open Go.RowKit Fed
set_option linter.unusedVariables false
attribute [local go_sem high] Fed.max2_int Fed.min2_int

set_option maxRecDepth 100000 in
set_option maxHeartbeats 40000000 in
/-- The law's Play: of whatever it is handed, true; the nodes behind it. -/
theorem play_all (w : World) (size : Nat) (l : List Int) (v : Value) (most : Nat) (h0 : 1 ≤ size) (h5 : size ≤ 5) (hr : MM.Rd w (fun k => k < w.heap.size) 1 v l.length (intsC l)) (hw : ∀ x, x ∈ l → (Lit.int .i64 x).wf = true) (hmost : most ≤ 400) :
    Calls Try.prog 31 #[.int .i64 size, v, .int .i64 most] w fun e w' => ∃ (b c : Nat) (ok : Nat → Prop), e = .returned (.tuple #[.slice (some ⟨b, 0, none⟩) size c, .bool true]) ∧ NodesAt w' ok b (pstates size l (min l.length most)).ns ∧ w.heap.size ≤ b ∧ Below w.heap.size w w' := by
  obtain ⟨An, cn, rfl, _, _⟩ := hr.slice
  exact play_one w size l An cn most h0 h5 hr hw (by omega) (fun i _ hi => good_states h0 l i (by omega))
end Go.Proofs.Ytnkmljdkokcdjaa
