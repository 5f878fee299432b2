/-
  The document's Entries returns true of two rows of the same entries. Conditions: both rows read as the same list.
-/
import Derived.WalkKit
import Derived.WalkSpells
import Derived.Lib.Hide
import Derived.Outline
import Derived.Test.YtnkmljdkokcdjaaChecked
import Derived.Test.YtnkmljdkokcdjaaRg
import Derived.Test.YtnkmljdkokcdjaaMem
import Derived.Test.YtnkmljdkokcdjaaFed
import Derived.Test.YtnkmljdkokcdjaaRk1
namespace Go.Proofs.Ytnkmljdkokcdjaa
open Go.RowKit Fed
set_option linter.unusedVariables false
attribute [local go_sem high] Fed.max2_int Fed.min2_int

set_option maxRecDepth 100000 in
set_option maxHeartbeats 4000000 in
/-- Two rows of the same entries are the same. -/
theorem rents_same (w : World) (ok1 ok2 : Nat → Prop) (A1 A2 : Option Addr) (c1 c2 : Nat) (l : List Fed.Entry) (h1 : MM.Rd w ok1 2 (.slice A1 l.length c1) l.length (entsC l)) (h2 : MM.Rd w ok2 2 (.slice A2 l.length c2) l.length (entsC l)) :
    Calls Try.prog 28 #[.slice A1 l.length c1, .slice A2 l.length c2] w fun e w' => e = .returned (.bool true) ∧ Below w.heap.size w w' := by
  have H1 := Lib.hid h1
  have H2 := Lib.hid h2
  have hlm : l.length ≤ maxLen := by obtain ⟨_, _, _, _, q1, q2, _⟩ := h1; omega
  unfold maxLen at hlm
  clear h1 h2
  go_enter Try.func28, Try.ntmps28
  have hbq : ((l.length : Int) != (l.length : Int)) = false := by simp
  go_wp2_with fail
  go_loopw [5] (fun t5 wr => ∃ i : Nat, i ≤ l.length ∧ t5 = .int .i64 i ∧ Hid (Below w.heap.size w wr)) (fun t5 _ => l.length - (intOf t5).toNat)
  case atStart => exact ⟨0, by omega, rfl, Lib.hid (Below.refl _ _)⟩
  case round =>
    obtain ⟨i, hi, rfl, HB⟩ := hrel
    by_cases hlt : i < l.length
    · have hltb : decide ((i : Int) < (l.length : Int)) = true := decide_eq_true (by omega)
      obtain ⟨x, hx⟩ : ∃ x, l[i]? = some x := ⟨_, List.getElem?_eq_getElem hlt⟩
      obtain ⟨_, A1', c1', ea, _, _, r1⟩ := H1.out.mono (ok' := fun _ => True) (fun _ _ _ => trivial) |>.below (w1 := wr) HB.out
      injection ea with ea1 _ ea2
      subst ea1 ea2
      obtain ⟨b1, o1, rfl, _, _, g1⟩ := r1 (by omega)
      obtain ⟨_, A2', c2', ea, _, _, r2⟩ := H2.out.mono (ok' := fun _ => True) (fun _ _ _ => trivial) |>.below (w1 := wr) HB.out
      injection ea with ea1 _ ea2
      subst ea1 ea2
      obtain ⟨b2, o2, rfl, _, _, g2⟩ := r2 (by omega)
      have x1 : wr.cell? ⟨b1, o1 + i * 2, none⟩ = some (.int .i64 x.term) := g1 _ _ (entsC_get hx).1
      have x2 : wr.cell? ⟨b1, o1 + i * 2 + 1, none⟩ = some (.string x.data) := g1 _ _ (entsC_get hx).2
      have y1 : wr.cell? ⟨b2, o2 + i * 2, none⟩ = some (.int .i64 x.term) := g2 _ _ (entsC_get hx).1
      have y2 : wr.cell? ⟨b2, o2 + i * 2 + 1, none⟩ = some (.string x.data) := g2 _ _ (entsC_get hx).2
      clear g1 g2 r1 r2 hx
      go_wp2_with fail
      refine Go.RT.wp_region_tree [0, 0, 3, 7, 0, 0, 48, 112, 255] (.p 0 (.p 1 (.p 2 (.s 3 (.p 4 (.p 5 (.p 6 (.s 7 (.p 8 .nil))))))))) (by kernel_rfl) (by kernel_rfl) ?_
      repeat (first | (refine Go.RT.step_p rfl (fun K hK => ?_); go_simp; refine hK _ ?_; clear hK K) | (refine Go.RT.step_s rfl (fun K hK => ?_); go_simp; refine hK _ ?_; clear hK K))
      refine Go.RT.step_nil ?_
      go_wp2_with fail
      go_roundw
      case rel => exact ⟨i + 1, by omega, by go_num, Lib.hid HB.out.drew⟩
      case measure => simp [intOf]; omega
    · obtain rfl : i = l.length := by omega
      have hltb : decide ((l.length : Int) < (l.length : Int)) = false := by simp
      go_wp2_with fail
      go_ret
      exact ⟨rfl, HB.out⟩

end Go.Proofs.Ytnkmljdkokcdjaa
