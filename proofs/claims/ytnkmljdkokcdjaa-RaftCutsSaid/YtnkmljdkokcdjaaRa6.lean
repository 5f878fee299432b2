/-
  filled makes a row of one number, or of one bool.
-/
import Derived.WalkKit
import Derived.WalkSpells
import Derived.Lib.Hide
import Derived.Outline
import Derived.Test.YtnkmljdkokcdjaaChecked
import Derived.Test.YtnkmljdkokcdjaaRg
import Derived.Test.YtnkmljdkokcdjaaMem
import Derived.Test.YtnkmljdkokcdjaaFed
import Derived.Test.YtnkmljdkokcdjaaClone
namespace Go.Proofs.Ytnkmljdkokcdjaa
open Go.RowKit Fed
set_option linter.unusedVariables false
attribute [local go_sem high] Fed.max2_int Fed.min2_int

set_option maxRecDepth 100000 in
set_option maxHeartbeats 1000000 in
theorem filled_int (w : World) (k : Nat) (x : Int) (hk : k ≤ 1000) :
    Calls Try.prog 96 #[.int .i64 k, .int .i64 x] w fun e w' => ∃ v ob, e = .returned v ∧ MM.Row w' w.heap.size 3 1 v k (intsC (List.replicate k x)) ob ∧ Below w.heap.size w w' := by
  obtain ⟨i0, hi, hz0, hz1, hz2⟩ := info_parts info3
  go_enter Try.func96, Try.ntmps96
  go_wp2
  go_loopw [5, 7] (fun v i wr => ∃ (j : Nat) (ob : Option Nat), j ≤ k ∧ i = .int .i64 j ∧ MM.Row wr w.heap.size 3 1 v j (intsC (List.replicate j x)) ob ∧ Below w.heap.size w wr) (fun _ i _ => k - (intOf i).toNat)
  case atStart => exact ⟨0, none, Nat.zero_le _, rfl, MM.Row.nil _ _ _ _ _, Below.refl _ _⟩
  case round =>
    obtain ⟨j, ob, hj, rfl, hr, hb⟩ := hrel
    obtain ⟨A1, c1, rfl, _, _⟩ := hr.slice
    have hsz := hb.size
    have HR := Lib.hid hr
    have HB := Lib.hid hb
    clear hr hb
    by_cases hlt : j < k
    · go_wp2_with (at_builtin; refine MM.wpList_append_row _ rfl (.tmp 9) (.tmp 11) 26 rfl w.heap.size 3 i0 _ 1 8 Try.underlying26 hi hz0 hz1 hz2 rfl (by decide) _ j (intsC (List.replicate j x)) ob rfl (HR.out.alloc _) (fun _ => True) _ 1 [.int .i64 x] rfl ?_ ?_ ?_ ?_ ?_ ?_)
      · exact MM.Rd.lit (MM.alloc_new wr _) trivial rfl (Nat.le_refl _) (by simp [maxLen]) rfl
      · intro u hu; simp at hu; subst hu; rfl
      · simp only [maxLen]; omega
      · omega
      · simp; omega
      · intro v' w1 ob' hr' hg _
        have HR' := Lib.hid (show MM.Row w1 w.heap.size 3 1 v' (j + 1) (intsC (List.replicate (j + 1) x)) ob' from by rw [List.replicate_succ']; simpa [intsC] using hr')
        have HB' := Lib.hid ((HB.out.alloc hsz _).grown hg (by simp; omega) (fun k hk => (HR.out.lt k hk).1))
        clear hr' hg
        go_wp2
        go_roundw
        case rel => exact ⟨j + 1, ob', by omega, by go_num, HR'.out, HB'.out⟩
        case measure => simp [intOf]; omega
    · obtain rfl : j = k := by omega
      go_wp2_with (go_at_call 85; refine (clone_int _ (fun _ => True) _ _ _ (by exact HR.out.rd.mono (fun _ _ _ => trivial)) (intsC_one _) (by omega)).mono ?_; rintro e w2 ⟨v2, ob2, rfl, hr2, hb2⟩)
      go_ret
      exact ⟨_, ob2, rfl, hr2.lower hsz, HB.out.trans (hb2.mono hsz)⟩

set_option maxRecDepth 100000 in
set_option maxHeartbeats 1000000 in
theorem filled_bool (w : World) (k : Nat) (x : Bool) (hk : k ≤ 1000) :
    Calls Try.prog 101 #[.int .i64 k, .bool x] w fun e w' => ∃ v ob, e = .returned v ∧ MM.Row w' w.heap.size 4 1 v k (boolsC (List.replicate k x)) ob ∧ Below w.heap.size w w' := by
  obtain ⟨i0, hi, hz0, hz1, hz2⟩ := info_parts info4
  go_enter Try.func101, Try.ntmps101
  go_wp2
  go_loopw [5, 7] (fun v i wr => ∃ (j : Nat) (ob : Option Nat), j ≤ k ∧ i = .int .i64 j ∧ MM.Row wr w.heap.size 4 1 v j (boolsC (List.replicate j x)) ob ∧ Below w.heap.size w wr) (fun _ i _ => k - (intOf i).toNat)
  case atStart => exact ⟨0, none, Nat.zero_le _, rfl, MM.Row.nil _ _ _ _ _, Below.refl _ _⟩
  case round =>
    obtain ⟨j, ob, hj, rfl, hr, hb⟩ := hrel
    obtain ⟨A1, c1, rfl, _, _⟩ := hr.slice
    have hsz := hb.size
    have HR := Lib.hid hr
    have HB := Lib.hid hb
    clear hr hb
    by_cases hlt : j < k
    · go_wp2_with (at_builtin; refine MM.wpList_append_row _ rfl (.tmp 9) (.tmp 11) 25 rfl w.heap.size 4 i0 _ 1 1 Try.underlying25 hi hz0 hz1 hz2 rfl (by decide) _ j (boolsC (List.replicate j x)) ob rfl (HR.out.alloc _) (fun _ => True) _ 1 [.bool x] rfl ?_ ?_ ?_ ?_ ?_ ?_)
      · exact MM.Rd.lit (MM.alloc_new wr _) trivial rfl (Nat.le_refl _) (by simp [maxLen]) rfl
      · intro u hu; simp at hu; subst hu; rfl
      · simp only [maxLen]; omega
      · omega
      · simp; omega
      · intro v' w1 ob' hr' hg _
        have HR' := Lib.hid (show MM.Row w1 w.heap.size 4 1 v' (j + 1) (boolsC (List.replicate (j + 1) x)) ob' from by rw [List.replicate_succ']; simpa [boolsC] using hr')
        have HB' := Lib.hid ((HB.out.alloc hsz _).grown hg (by simp; omega) (fun k hk => (HR.out.lt k hk).1))
        clear hr' hg
        go_wp2
        go_roundw
        case rel => exact ⟨j + 1, ob', by omega, by go_num, HR'.out, HB'.out⟩
        case measure => simp [intOf]; omega
    · obtain rfl : j = k := by omega
      go_wp2_with (go_at_call 84; refine (clone_bool _ (fun _ => True) _ _ _ (by exact HR.out.rd.mono (fun _ _ _ => trivial)) (boolsC_one _) (by omega)).mono ?_; rintro e w2 ⟨v2, ob2, rfl, hr2, hb2⟩)
      go_ret
      exact ⟨_, ob2, rfl, hr2.lower hsz, HB.out.trans (hb2.mono hsz)⟩

end Go.Proofs.Ytnkmljdkokcdjaa
