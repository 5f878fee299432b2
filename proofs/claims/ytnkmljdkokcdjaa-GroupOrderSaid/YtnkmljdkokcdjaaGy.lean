/-
  The law's same, for two rows of equal texts. Condition: both may be read.
-/
import Derived.WalkKit
import Derived.WalkSpells
import Derived.Lib.Hide
import Derived.Outline
import Derived.Test.YtnkmljdkokcdjaaChecked
import Derived.Test.YtnkmljdkokcdjaaMn
import Derived.Test.YtnkmljdkokcdjaaMem
import Derived.Test.YtnkmljdkokcdjaaFed
import Derived.Test.YtnkmljdkokcdjaaGp
import Derived.Deep.DeepCutAuto
import Derived.Deep.CutBlock
import Derived.Deep.OwnRows
import Derived.IntWalk
set_option linter.unusedVariables false
set_option linter.unusedSimpArgs false
namespace Go.Proofs.Ytnkmljdkokcdjaa
open Go.RowKit Fed
set_option linter.unusedVariables false
attribute [local go_sem high] Fed.max2_int Fed.min2_int

set_option maxRecDepth 100000 in
set_option maxHeartbeats 40000000 in
theorem texts_same (w : World) (ok1 ok2 : Nat → Prop) (A1 A2 : Option Addr) (c1 c2 : Nat) (l : List ByteArray) (h1 : MM.Rd w ok1 1 (.slice A1 l.length c1) l.length (textsC l)) (h2 : MM.Rd w ok2 1 (.slice A2 l.length c2) l.length (textsC l)) :
    Calls Try.prog 42 #[.slice A1 l.length c1, .slice A2 l.length c2] w fun e w' => e = .returned (.bool true) ∧ Below w.heap.size w w' := by
  have H1 := Lib.hid h1
  have H2 := Lib.hid h2
  have hlm : l.length ≤ maxLen := by obtain ⟨_, _, _, _, q1, q2, _⟩ := h1; omega
  unfold maxLen at hlm
  have HB := Lib.hid (Below.refl w.heap.size w)
  clear h1 h2
  go_enter Try.func42, Try.ntmps42
  have hbq : ((l.length : Int) != (l.length : Int)) = false := by simp
  go_wp2_with fail
  go_loopw [5] (fun t5 wr => ∃ i : Nat, i ≤ l.length ∧ t5 = .int .i64 i ∧ Hid (Below w.heap.size w wr)) (fun t5 _ => l.length - (intOf t5).toNat)
  case atStart => exact ⟨0, by omega, rfl, HB⟩
  case round =>
    clear HB
    obtain ⟨i, hi, rfl, HB⟩ := hrel
    by_cases hlt : i < l.length
    · have hlb : decide ((i : Int) < (l.length : Int)) = true := decide_eq_true (by omega)
      obtain ⟨x, hx⟩ : ∃ x, l[i]? = some x := ⟨_, List.getElem?_eq_getElem hlt⟩
      have hxc : (textsC l)[i]? = some (.string x) := by unfold textsC; rw [List.getElem?_map, hx]; rfl
      obtain ⟨_, A1', c1', ea, _, _, r1⟩ := H1.out.mono (ok' := fun _ => True) (fun _ _ _ => trivial) |>.below (w1 := wr) HB.out
      injection ea with ea1 _ ea2
      subst ea1 ea2
      obtain ⟨b1, o1, rfl, _, _, g1⟩ := r1 (by omega)
      obtain ⟨_, A2', c2', ea, _, _, r2⟩ := H2.out.mono (ok' := fun _ => True) (fun _ _ _ => trivial) |>.below (w1 := wr) HB.out
      injection ea with ea1 _ ea2
      subst ea1 ea2
      obtain ⟨b2, o2, rfl, _, _, g2⟩ := r2 (by omega)
      have x1 : wr.cell? ⟨b1, o1 + i, none⟩ = some (.string x) := g1 _ _ hxc
      have y1 : wr.cell? ⟨b2, o2 + i, none⟩ = some (.string x) := g2 _ _ hxc
      clear g1 g2 r1 r2 hx hxc
      go_wp2_with fail
      refine Go.RT.wp_region_tree [0, 0, 3, 7, 0, 0, 48, 112, 255] (.p 0 (.p 1 (.p 2 (.s 3 (.p 4 (.p 5 (.p 6 (.s 7 (.p 8 .nil))))))))) (by kernel_rfl) (by kernel_rfl) ?_
      repeat (first | (refine Go.RT.step_p rfl (fun K hK => ?_); go_simp; refine hK _ ?_; clear hK K) | (refine Go.RT.step_s rfl (fun K hK => ?_); go_simp; refine hK _ ?_; clear hK K))
      refine Go.RT.step_nil ?_
      go_wp2_with fail
      go_roundw
      case rel => exact ⟨i + 1, by omega, by go_num, Lib.hid HB.out.drew⟩
      case measure => simp [intOf]; omega
    · have hlb : decide ((i : Int) < (l.length : Int)) = false := decide_eq_false (by omega)
      go_wp2_with fail
      go_ret
      exact ⟨rfl, HB.out⟩

end Go.Proofs.Ytnkmljdkokcdjaa
