/-
  The law RaftPlays returns true, and writes nothing that was there, for any int and any row of ints.
-/
import Derived.WalkKit
import Derived.WalkSpells
import Derived.Lib.Hide
import Derived.Outline
import Derived.Test.YtnkmljdkokcdjaaChecked
import Derived.Test.YtnkmljdkokcdjaaMn
import Derived.Test.YtnkmljdkokcdjaaMem
import Derived.Test.YtnkmljdkokcdjaaFed
import Derived.Test.YtnkmljdkokcdjaaRp3
import Derived.Test.YtnkmljdkokcdjaaMi
import Derived.Deep.DeepCutAuto
import Derived.Deep.CutBlock
import Derived.Deep.OwnRows
import Derived.IntWalk
set_option linter.unusedVariables false
set_option linter.unusedSimpArgs false
namespace Go.Proofs.Ytnkmljdkokcdjaa
open Go.RowKit Fed
set_option linter.unusedVariables false
attribute [local go_sem high] Fed.max2_int Fed.min2_int

set_option maxRecDepth 100000 in
set_option maxHeartbeats 40000000 in
/-- The law's Play: of whatever it is handed, true; the nodes behind it. -/
theorem play_all (w : World) (size : Nat) (l : List Int) (v : Value) (most : Nat) (h0 : 1 ≤ size) (h5 : size ≤ 5) (hr : MM.Rd w (fun k => k < w.heap.size) 1 v l.length (intsC l)) (hw : ∀ x, x ∈ l → (Lit.int .i64 x).wf = true) (hmost : most ≤ 400) :
    Calls Try.prog 31 #[.int .i64 size, v, .int .i64 most] w fun e w' => ∃ (b c : Nat) (ok : Nat → Prop), e = .returned (.tuple #[.slice (some ⟨b, 0, none⟩) size c, .bool true]) ∧ NodesAt w' ok b (pstates size l (min l.length most)).ns ∧ w.heap.size ≤ b ∧ Below w.heap.size w w' := by
  obtain ⟨An, cn, rfl, _, _⟩ := hr.slice
  exact play_one w size l An cn most h0 h5 hr hw (by omega) (fun i _ hi => good_states h0 l i (by omega))
set_option maxRecDepth 100000 in
set_option maxHeartbeats 40000000 in
theorem plays_law (a0 : Int) (v1 : Value) (l1 : List Int) (x0 : (Lit.int .i64 a0).wf = true) (w : World) (hr1 : MM.Rd w (fun j => j < w.heap.size) 1 v1 l1.length (intsC l1)) (hw1 : ∀ x, x ∈ l1 → (Lit.int .i64 x).wf = true) :
    Calls Try.prog 7 #[.int .i64 a0, v1] w fun e w' => e = .returned (.bool true) ∧ Below w.heap.size w w' := by
  have HR := Lib.hid hr1
  have HW := Lib.hid hw1
  clear hr1 hw1
  go_enter Try.func7, Try.ntmps7
  go_wp2_with fail
  refine (known_any _).mono ?_
  rintro e w1 ⟨rfl, hb1⟩
  have HB1 := Lib.hid hb1
  clear hb1
  go_wp2_with fail
  refine (within_fn _ a0 5 x0 (by omega) (by omega)).mono ?_
  rintro e w' ⟨rfl, rfl⟩
  have hv := wi_range a0 5 (by omega)
  generalize wi a0 5 = k at hv ⊢
  obtain ⟨k, rfl⟩ : ∃ k' : Nat, k = k' := ⟨k.toNat, by omega⟩
  have hk5 : k < 5 := by omega
  clear hv
  have hws : IntKind.i64.wrap (1 + (k : Int)) = ((k + 1 : Nat) : Int) := by rw [IntWalk.i64_in _ (by omega)]; omega
  go_wp2_with fail
  try rw [show (1 + (k : Int)) = ((k + 1 : Nat) : Int) from by omega]
  refine (play_all _ (k + 1) l1 v1 300 (by omega) (by omega) ((HR.out.step (fun x hx _ => HB1.out.block x hx)).mono (fun x hx _ => Nat.lt_of_lt_of_le hx HB1.out.size)) HW.out (by omega)).mono ?_
  rintro e w2 ⟨b, c, ok, rfl, hn, hb, hb2⟩
  have HB2 := Lib.hid (HB1.out.trans (hb2.mono HB1.out.size))
  clear hb2 hn hb
  go_wp2_with fail
  go_ret
  exact ⟨rfl, HB2.out⟩

end Go.Proofs.Ytnkmljdkokcdjaa
