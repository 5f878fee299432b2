/-
  The law's within is the plain remainder.
-/
import Derived.WalkKit
import Derived.WalkSpells
import Derived.Lib.Hide
import Derived.Outline
import Derived.Test.YtnkmljdkokcdjaaChecked
import Derived.Test.YtnkmljdkokcdjaaRg
import Derived.Test.YtnkmljdkokcdjaaMem
import Derived.Test.YtnkmljdkokcdjaaFed
import Derived.Test.YtnkmljdkokcdjaaRc3
namespace Go.Proofs.Ytnkmljdkokcdjaa
open Go.RowKit Fed
set_option linter.unusedVariables false
attribute [local go_sem high] Fed.max2_int Fed.min2_int

@[irreducible] def wi (a n : Int) : Int := if a.tmod n < 0 then a.tmod n + n else a.tmod n
theorem wi_range (a n : Int) (h : 0 < n) : 0 ≤ wi a n ∧ wi a n < n := by
  have h1 := Int.tmod_lt_of_pos a h
  have h2 : -n < a.tmod n := Int.lt_tmod_of_pos a h
  unfold wi
  split <;> omega
theorem within_fn (w : World) (a n : Int) (ha : (Lit.int .i64 a).wf = true) (h0 : 0 < n) (h1 : n ≤ 1000000) :
    Calls Try.prog 23 #[.int .i64 a, .int .i64 n] w fun e w' => e = .returned (.int .i64 (wi a n)) ∧ w = w' := by
  have h2 := Int.tmod_lt_of_pos a h0
  have h3 : -n < a.tmod n := Int.lt_tmod_of_pos a h0
  have h4 : (n == 0) = false := by simp; omega
  unfold wi
  by_cases h : a.tmod n < 0
  · go_enter Try.func23, Try.ntmps23
    go_wp2
    all_goals go_ret
    all_goals exact ⟨MM.ret_int (by first | (simp; done) | go_num), rfl⟩
  · go_enter Try.func23, Try.ntmps23
    go_wp2
    all_goals go_ret
    all_goals exact ⟨MM.ret_int (by first | (simp; done) | go_num), rfl⟩

end Go.Proofs.Ytnkmljdkokcdjaa
