/-
  The node that the law's known looks at, tick by tick.
-/
import Derived.WalkKit
import Derived.WalkSpells
import Derived.Lib.Hide
import Derived.Outline
import Derived.Test.YtnkmljdkokcdjaaChecked
import Derived.Test.YtnkmljdkokcdjaaRg
import Derived.Test.YtnkmljdkokcdjaaMem
import Derived.Test.YtnkmljdkokcdjaaFed
import Derived.Test.YtnkmljdkokcdjaaRd1
namespace Go.Proofs.Ytnkmljdkokcdjaa
open Go.RowKit Fed
set_option linter.unusedVariables false
attribute [local go_sem high] Fed.max2_int Fed.min2_int

def kn (j : Nat) : Fed.Node := if j < 5 then ⟨0, 0, -1, [], 2, 0, 0, [false], [1], [0], [1], j, 5⟩ else ⟨0, 1, 0, [⟨1, ⟨#[]⟩⟩], 2, 2, 1, [true], [1], [1], [1], 5, 10⟩
theorem kn_tick : ∀ j, j < 5 → tickS (kn j) = ⟨kn (j + 1), []⟩ := by
  intro j hj
  have h : j = 0 ∨ j = 1 ∨ j = 2 ∨ j = 3 ∨ j = 4 := by omega
  unfold tickS
  rcases h with rfl | rfl | rfl | rfl | rfl <;> rfl
theorem kn_new : newN 0 1 2 = kn 0 := by unfold newN; rfl
theorem kn_log : ∀ j, (kn j).log.length ≤ 800000 := by intro j; unfold kn; split <;> simp
theorem kn_votes : ∀ j, (kn j).votes.length = 1 := by intro j; unfold kn; split <;> rfl
theorem kn_nxt : ∀ j, (kn j).nxt.length = 1 := by intro j; unfold kn; split <;> rfl
theorem kn_mtch : ∀ j, (kn j).mtch.length = 1 := by intro j; unfold kn; split <;> rfl
theorem kn_forms : ∀ j, (kn j).forms.length = 1 := by intro j; unfold kn; split <;> rfl
theorem kn_term : ∀ j, -1000000000 ≤ (kn j).term ∧ (kn j).term ≤ 1000000000 := by intro j; unfold kn; split <;> simp
theorem kn_clock : ∀ j, -999999999 ≤ (kn j).clock ∧ (kn j).clock ≤ 999999999 := by intro j; unfold kn; split <;> simp; omega
theorem kn_next : ∀ j i, i < (kn j).nxt.length → -1000000000 ≤ (kn j).nxt.getD i 0 ∧ (kn j).nxt.getD i 0 ≤ 1000000000 := by
  intro j i hi
  rw [kn_nxt] at hi
  obtain rfl : i = 0 := by omega
  unfold kn
  split <;> simp
/-- New, with what comes back as a node's cells. -/
theorem new_node (w : World) (id form K : Int) (k : Nat) (hK : K = k) (hk : k ≤ 1000) (hi0 : -1000000000 ≤ id) (hi1 : id ≤ 1000000000) :
    Calls Try.prog 24 #[.int .i64 id, .int .i64 K, .int .i64 form] w
      fun e w' => ∃ A3 k3 A7 k7 A8 k8 A9 k9 A10 k10, e = .returned (.agg #[.int .i64 (newN id k form).id, .int .i64 (newN id k form).term, .int .i64 (newN id k form).vote, .slice A3 (newN id k form).log.length k3, .int .i64 (newN id k form).form, .int .i64 (newN id k form).role, .int .i64 (newN id k form).commit, .slice A7 (newN id k form).votes.length k7, .slice A8 (newN id k form).nxt.length k8, .slice A9 (newN id k form).mtch.length k9, .slice A10 (newN id k form).forms.length k10, .int .i64 (newN id k form).clock, .int .i64 (newN id k form).due]) ∧ Below w.heap.size w w' ∧ NodeV w' (fun j => w.heap.size ≤ j) (newN id k form) (.slice A3 (newN id k form).log.length k3) (.slice A7 (newN id k form).votes.length k7) (.slice A8 (newN id k form).nxt.length k8) (.slice A9 (newN id k form).mtch.length k9) (.slice A10 (newN id k form).forms.length k10) := by
  subst hK
  refine (new_any w id form k hk hi0 hi1).mono ?_
  rintro e w' ⟨A7, k7, A8, k8, A9, k9, A10, k10, rfl, hb, hn⟩
  refine ⟨none, 0, A7, k7, A8, k8, A9, k9, A10, k10, ?_, hb, ?_⟩
  · unfold newN; simp
  · unfold newN at hn ⊢
    simpa using hn

end Go.Proofs.Ytnkmljdkokcdjaa
