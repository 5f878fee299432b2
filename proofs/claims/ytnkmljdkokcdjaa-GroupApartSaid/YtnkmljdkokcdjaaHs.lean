/- The law GroupPlays: whatever a group is told, it goes on as the document's. -/
import Derived.WalkKit
import Derived.WalkSpells
import Derived.Lib.Hide
import Derived.Outline
import Derived.Test.YtnkmljdkokcdjaaChecked
import Derived.Test.YtnkmljdkokcdjaaB0
import Derived.Test.YtnkmljdkokcdjaaB1
import Derived.Test.YtnkmljdkokcdjaaB29
import Derived.Deep.DeepCutAuto
import Derived.Deep.CutBlock
import Derived.Deep.OwnRows
import Derived.IntWalk
set_option maxRecDepth 100000
set_option maxHeartbeats 40000000
set_option linter.unusedVariables false
set_option linter.unusedSimpArgs false
namespace Go.Proofs.Ytnkmljdkokcdjaa
open Go.RowKit Fed
attribute [local go_sem high] Fed.max2_int Fed.min2_int Fed.MA Fed.ZN Fed.ZM Fed.NA
def gst (K : Nat) (l : List Int) : Nat → GS
 | 0 => GS.new K
 | i + 1 => stepS K (gst K l i) (wi (l.getD i 0) 1073741824).toNat
theorem gst_sys {K : Nat} (hK : K ≤ 5) (l : List Int) : ∀ i, GSys K (3 * i) (gst K l i)
 | 0 => GSys.new K
 | i + 1 => (gst_sys hK l i).step hK _
theorem gst_good {K : Nat} (hK : K ≤ 5) (l : List Int) (i : Nat) (hi : i ≤ 1000) : GoodG K (gst K l i) := (gst_sys hK l i).good (by omega)
theorem plays9_law (a0 : Int) (v1 : Value) (l1 : List Int) (a2 : Int) (x0 : (Lit.int .i64 a0).wf = true) (x2 : (Lit.int .i64 a2).wf = true) (w : World) (hr1 : MM.Rd w (fun j => j < w.heap.size) 1 v1 l1.length (intsC l1)) (hw1 : ∀ x, x ∈ l1 → (Lit.int .i64 x).wf = true) :
  Calls Try.prog 18 #[.int .i64 a0, v1, .int .i64 a2] w fun e w' => e = .returned (.bool true) ∧ Below w.heap.size w w' := by
 obtain ⟨A1, c1, rfl, q1, q2⟩ := hr1.slice
 have hm_l1 : l1.length ≤ maxLen := by omega
 unfold maxLen at hm_l1
 clear q1 q2
 have Hhr1 := Hd hr1
 have Hhw1 := Hd hw1
 clear hr1 hw1
 go_enter Try.func18, Try.ntmps18
 go_wp2_with fail
 refine (gknown_any _).mono ?_
 rintro e w1 ⟨rfl, hb1⟩
 have HB1 := Hd hb1
 clear hb1
 go_wp2_with fail
 refine (within9_fn _ a0 5 x0 (by omega) (by omega)).mono ?_
 rintro e w' ⟨rfl, rfl⟩
 have hv := wi_range a0 5 (by omega)
 generalize wi a0 5 = q at hv ⊢
 obtain ⟨q, rfl⟩ : ∃ q' : Nat, q = q' := ⟨q.toNat, by omega⟩
 have hk5 : q < 5 := by omega
 clear hv
 have hws : IntKind.i64.wrap (1 + (q : Int)) = ((q + 1 : Nat) : Int) := by rw [IntWalk.i64_in _ (by omega)]; omega
 go_wp2_with fail
 obtain ⟨K, hK⟩ : ∃ K : Nat, (q : Int) + 1 = K := ⟨q + 1, by omega⟩
 rw [hK]
 have hK1 : 1 ≤ K := by omega
 have hK5 : K ≤ 5 := by omega
 clear hws hk5 hK
 refine (newG w w1 (K : Int) K rfl (by omega) (by omega) HB1.out).mono ?_
 rintro e wa ⟨g, rfl, h2⟩
 have GA := Hd h2
 clear h2
 go_wp2_with fail
 refine (rGNew_any wa K (by omega) (by omega)).mono ?_
 rintro e wb ⟨x, ρ, ok, rfl, hr, hok, hb⟩
 have H0 := Hd (show Both w wb g x (GS.new K) (GS.new K) (fun k => k < w1.heap.size) from Both.new GA.out hr hok hb)
 clear hr hok hb GA
 go_wp2_with fail
 go_loopw [10] (fun t10 wr => ∃ i : Nat, i ≤ l1.length ∧ i ≤ 200 ∧ t10 = .int .i64 i ∧ Hid (Both w wr g x (gst K l1 i) (gst K l1 i) (fun k => k < w1.heap.size))) (fun t10 _ => l1.length - (intOf t10).toNat)
 case atStart => exact ⟨0, by omega, by omega, rfl, H0⟩
 case round =>
  clear H0
  obtain ⟨i, hi, hi2, rfl, H⟩ := hrel
  obtain ⟨b, hb⟩ : ∃ b : Bool, b = (decide (i < l1.length) && decide (i < 200)) := ⟨_, rfl⟩
  have HBB := Hd hb
  clear hb
  go_upto_region 8 with (fail)
  go_cut [31] (fun vb wc => vb = .bool b ∧ wr = wc)
  case first =>
   by_cases h1 : i < l1.length
   ·have h1b : decide ((i : Int) < (l1.length : Int)) = true := decide_eq_true (by omega)
    by_cases h2 : i < 200
    ·have h2b : decide ((i : Int) < 200) = true := decide_eq_true (by omega)
     have hbb : b = true := by rw [HBB.out, decide_eq_true h1, decide_eq_true h2]; rfl
     subst hbb
     go_wp2_with fail
     go_meet
     case rel => exact ⟨by first | rfl | (simp; omega), rfl⟩
    ·have h2b : decide ((i : Int) < 200) = false := decide_eq_false (by omega)
     have hbb : b = false := by rw [HBB.out, decide_eq_false h2]; simp
     subst hbb
     go_wp2_with fail
     go_meet
     case rel => exact ⟨by first | rfl | (simp; omega), rfl⟩
   ·have h1b : decide ((i : Int) < (l1.length : Int)) = false := decide_eq_false (by omega)
    have hbb : b = false := by rw [HBB.out, decide_eq_false h1]; rfl
    subst hbb
    go_wp2_with fail
    go_meet
    case rel => exact ⟨by first | rfl | (simp; omega), rfl⟩
  case rest =>
   obtain ⟨rfl, rfl⟩ := hcut
   cases b
   ·clear HBB
    have SS := Hd (gst_sys hK5 l1 i)
    generalize gst K l1 i = s at H SS
    have GG := Hd (SS.out.good (by omega))
    have GD := Hd ((SS.out.deliver hK5 a2).good (by omega))
    go_wp2_with fail
    have hK1000 : K ≤ 1000 := by omega
    have HH := H.out
    obtain ⟨ρ, ok, r, p, z⟩ := HH
    have P := Hd p
    clear r p z
    refine (nodeG w wr g s _ P.out K GG.out hK1000 a2).mono ?_
    rintro e w6 ⟨hns, _, hb6⟩
    have H6 := Hd (H.out.below hb6)
    have hl := GG.out.len
    clear hb6 P hK1000 H
    rcases hns with ⟨i', hki, hil, σ, rfl, hn⟩ | ⟨hno, rfl⟩
    ·have rr : 0 ≤ a2 ∧ a2 < (K : Int) := by omega
     clear hki hil hn hl
     go_upto_region 15 with (fail)
     refine name_world (F := fun W => Hid (Both w W g x s s (fun k => k < w1.heap.size))) _ (by exact Hd (H6.out.below ((Below.refl _ _).alloc (Nat.le_refl _) _))) ?_
     intro w7 H7
     go_wp2_with fail
     refine (same_any w w7 _ _ _ _ H7.out K (GG.out) (by omega) (by omega)).mono ?_
     rintro e w8 ⟨rfl, hb6⟩
     have H8 := Hd (H7.out.below hb6)
     clear hb6
     go_wp2_with fail
     refine (b_gdeliver H8.out GG.out (by omega) a2).mono ?_
     rintro e w9 ⟨rfl, h9, _⟩
     have H9 := Hd h9
     clear h9
     go_wp2_with fail
     refine (b_rdeliver H9.out GG.out (by omega) a2).mono ?_
     rintro e w10 ⟨rfl, h10, _⟩
     have H10 := Hd h10
     clear h10
     have hbh : (s.has a2 == s.has a2) = true := by simp
     go_wp2_with fail
     refine (b_gup H10.out GD.out (by omega) a2).mono ?_
     rintro e w' ⟨rfl, rfl⟩
     go_wp2_with fail
     refine (b_rup H10.out GD.out (by omega) a2).mono ?_
     rintro e w' ⟨rfl, rfl⟩
     have hbu : ((s.deliver a2).isUp a2 == (s.deliver a2).isUp a2) = true := by simp
     go_wp2_with fail
     refine (b_gcrash H10.out GD.out (by omega) a2).mono ?_
     rintro e w11 ⟨rfl, h11, _⟩
     have H11 := Hd h11
     clear h11
     go_wp2_with fail
     refine (b_rcrash H11.out GD.out (by omega) a2).mono ?_
     rintro e w12 ⟨rfl, h12, _⟩
     have H12 := Hd h12
     clear h12
     have r0b : decide (0 ≤ a2) = true := decide_eq_true (by omega)
     have r1b : decide (a2 < (K : Int)) = true := decide_eq_true (by omega)
     go_wp2_with fail
     go_ret
     exact ⟨by first | rfl | simp, H12.out.bel⟩
    ·have rr : ¬ (0 ≤ a2 ∧ a2 < (K : Int)) := by rw [← hl]; exact hno
     clear hno hl
     go_upto_region 15 with (fail)
     refine name_world (F := fun W => Hid (Both w W g x s s (fun k => k < w1.heap.size))) _ (by exact Hd (H6.out.below ((Below.refl _ _).alloc (Nat.le_refl _) _))) ?_
     intro w7 H7
     go_wp2_with fail
     refine (same_any w w7 _ _ _ _ H7.out K (GG.out) (by omega) (by omega)).mono ?_
     rintro e w8 ⟨rfl, hb6⟩
     have H8 := Hd (H7.out.below hb6)
     clear hb6
     go_wp2_with fail
     refine (b_gdeliver H8.out GG.out (by omega) a2).mono ?_
     rintro e w9 ⟨rfl, h9, _⟩
     have H9 := Hd h9
     clear h9
     go_wp2_with fail
     refine (b_rdeliver H9.out GG.out (by omega) a2).mono ?_
     rintro e w10 ⟨rfl, h10, _⟩
     have H10 := Hd h10
     clear h10
     have hbh : (s.has a2 == s.has a2) = true := by simp
     go_wp2_with fail
     refine (b_gup H10.out GD.out (by omega) a2).mono ?_
     rintro e w' ⟨rfl, rfl⟩
     go_wp2_with fail
     refine (b_rup H10.out GD.out (by omega) a2).mono ?_
     rintro e w' ⟨rfl, rfl⟩
     have hbu : ((s.deliver a2).isUp a2 == (s.deliver a2).isUp a2) = true := by simp
     go_wp2_with fail
     refine (b_gcrash H10.out GD.out (by omega) a2).mono ?_
     rintro e w11 ⟨rfl, h11, _⟩
     have H11 := Hd h11
     clear h11
     go_wp2_with fail
     refine (b_rcrash H11.out GD.out (by omega) a2).mono ?_
     rintro e w12 ⟨rfl, h12, _⟩
     have H12 := Hd h12
     clear h12
     by_cases r0 : 0 ≤ a2
     ·have r0b : decide (0 ≤ a2) = true := decide_eq_true r0
      have r1b : decide (a2 < (K : Int)) = false := decide_eq_false (by omega)
      go_wp2_with fail
      go_ret
      exact ⟨by first | rfl | simp, H12.out.bel⟩
     ·have r0b : decide (0 ≤ a2) = false := decide_eq_false r0
      go_wp2_with fail
      go_ret
      exact ⟨by first | rfl | simp, H12.out.bel⟩
   ·have hb2 : i < l1.length ∧ i < 200 := by
     have h := HBB.out
     have h' : (decide (i < l1.length) && decide (i < 200)) = true := h.symm
     simpa using h'
    clear HBB
    obtain ⟨hl1, hl2⟩ := hb2
    have hrd := Hhr1.out.step (w1 := wr) (fun j hj _ => H.out.bel.block j hj)
    obtain ⟨_, A', c', ea, _, _, hrest⟩ := hrd
    injection ea with ea1 el ea2
    clear el
    subst ea1 ea2
    obtain ⟨be_xx, oe_xx, rfl, _, _, hcell⟩ := hrest (by omega)
    have x0 : wr.cell? ⟨be_xx, oe_xx + i, none⟩ = some (.int .i64 (l1.getD i 0)) := hcell _ _ (intsC_get hl1)
    have HXW := Hd (Hhw1.out (l1.getD i 0) (by rw [List.getD_eq_getElem?_getD, List.getElem?_eq_getElem hl1]; exact List.getElem_mem hl1))
    clear hcell hrest
    obtain ⟨xx, hxx⟩ : ∃ y, y = l1.getD i 0 := ⟨_, rfl⟩
    rw [← hxx] at x0 HXW
    have hvn := wi_range xx 1073741824 (by omega)
    obtain ⟨n, hnn⟩ : ∃ n : Nat, wi xx 1073741824 = n := ⟨_, (Int.toNat_of_nonneg hvn.1).symm⟩
    have nb : n < 1073741824 := by omega
    have NXT := Hd (show stepS K (gst K l1 i) n = gst K l1 (i + 1) from by show _ = stepS K (gst K l1 i) (wi (l1.getD i 0) 1073741824).toNat; rw [← hxx, hnn, Int.toNat_natCast])
    have WN_n := Hd hnn
    clear hxx hvn hnn
    go_wp2_with fail
    refine (within9_fn _ xx 1073741824 HXW.out (by omega) (by omega)).mono ?_
    rintro e w' ⟨rfl, rfl⟩
    rw [WN_n.out]
    clear WN_n HXW
    go_wp2_with fail
    refine (step_any w wr g x _ _ H.out K _ (gst_sys (by omega) l1 i) (by omega) (by omega) (by omega) n nb).mono ?_
    rintro e w5 ⟨rfl, h5, hs5⟩
    rw [NXT.out] at h5
    have H5 := Hd h5
    clear h5 hs5 NXT
    obtain ⟨m9, hm9⟩ : ∃ m, m = i % 9 := ⟨_, rfl⟩
    have f9 : (i : Int) % 9 = (m9 : Int) := by omega
    clear hm9
    by_cases h9 : m9 = 0
    ·subst h9
     go_wp2_with fail
     refine (same_any w w5 _ _ _ _ H5.out K (gst_good hK5 l1 (i + 1) (by omega)) (by omega) (by omega)).mono ?_
     rintro e w6 ⟨rfl, hb6⟩
     have H6 := Hd (H5.out.below hb6)
     clear hb6
     go_wp2_with fail
     go_roundw
     case rel => first | exact ⟨i + 1, by omega, by omega, by go_num, H6⟩ | ((repeat apply Exists.intro); refine ⟨?_, rfl⟩; exact ⟨i + 1, by omega, by omega, by go_num, H6⟩)
     case measure => simp [intOf]; omega
    ·have h9b : ((m9 : Int) == 0) = false := by simp [h9]
     go_wp2_with fail
     go_roundw
     case rel => first | exact ⟨i + 1, by omega, by omega, by go_num, H5⟩ | ((repeat apply Exists.intro); refine ⟨?_, rfl⟩; exact ⟨i + 1, by omega, by omega, by go_num, H5⟩)
     case measure => simp [intOf]; omega
end Go.Proofs.Ytnkmljdkokcdjaa
