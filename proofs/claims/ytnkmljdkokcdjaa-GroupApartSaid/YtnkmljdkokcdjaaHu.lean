/- The law GroupApart: two groups do not touch one another. -/
import Derived.WalkKit
import Derived.WalkSpells
import Derived.Lib.Hide
import Derived.Outline
import Derived.Test.YtnkmljdkokcdjaaChecked
import Derived.Test.YtnkmljdkokcdjaaB0
import Derived.Test.YtnkmljdkokcdjaaB1
import Derived.Test.YtnkmljdkokcdjaaHs
import Derived.Deep.DeepCutAuto
import Derived.Deep.CutBlock
import Derived.Deep.OwnRows
import Derived.IntWalk
set_option maxRecDepth 100000
set_option maxHeartbeats 40000000
set_option linter.unusedVariables false
set_option linter.unusedSimpArgs false
namespace Go.Proofs.Ytnkmljdkokcdjaa
open Go.RowKit Fed
attribute [local go_sem high] Fed.max2_int Fed.min2_int Fed.MA Fed.ZN Fed.ZM Fed.NA
def Four (w0 w : World) (g x o y : Nat) (s t : GS) : Prop := ∃ Z1 Z2, Both w0 w g x s s Z1 ∧ Both w0 w o y t t Z2 ∧ ∀ k, k < w.heap.size → Z1 k ∨ Z2 k
theorem Four.bel {w0 w : World} {g x o y : Nat} {s t : GS} (h : Four w0 w g x o y s t) : Below w0.heap.size w0 w := by
 obtain ⟨Z1, Z2, b1, b2, hc⟩ := h
 exact b1.bel
theorem Four.left {w0 w w' : World} {g x o y : Nat} {s' t : GS} {Z1 Z2 : Nat → Prop} (b1 : Both w0 w' g x s' s' Z1) (hs : StaysB w0 w w' Z1) (b2 : Both w0 w o y t t Z2) (hc : ∀ k, k < w.heap.size → Z1 k ∨ Z2 k) : Four w0 w' g x o y s' t :=
 ⟨Z1, fun k => Z2 k ∨ (w.heap.size ≤ k ∧ k < w'.heap.size), b1, b2.touch (fun k hk hn => hs.1 k ((hc k hk).resolve_right hn)) hs.2 (fun k hk => hk), fun k hk => by
  by_cases h : k < w.heap.size
  ·rcases hc k h with q | q
   ·exact .inl q
   ·exact .inr (.inl q)
  ·exact .inr (.inr ⟨by omega, hk⟩)⟩
theorem Four.right {w0 w w' : World} {g x o y : Nat} {s t' : GS} {Z1 Z2 : Nat → Prop} (b1 : Both w0 w g x s s Z1) (b2 : Both w0 w' o y t' t' Z2) (hs : StaysB w0 w w' Z2) (hc : ∀ k, k < w.heap.size → Z1 k ∨ Z2 k) : Four w0 w' g x o y s t' :=
 ⟨fun k => Z1 k ∨ (w.heap.size ≤ k ∧ k < w'.heap.size), Z2, b1.touch (fun k hk hn => hs.1 k ((hc k hk).resolve_left hn)) hs.2 (fun k hk => hk), b2, fun k hk => by
  by_cases h : k < w.heap.size
  ·rcases hc k h with q | q
   ·exact .inl (.inl q)
   ·exact .inr q
  ·exact .inl (.inr ⟨by omega, hk⟩)⟩
theorem Four.below {w0 w w' : World} {g x o y : Nat} {s t : GS} (h : Four w0 w g x o y s t) (hb : Below w.heap.size w w') : Four w0 w' g x o y s t := by
 obtain ⟨Z1, Z2, b1, b2, hc⟩ := h
 refine ⟨_, Z2, b1.newer hb, b2.below hb, fun k hk => ?_⟩
 by_cases h : k < w.heap.size
 ·rcases hc k h with q | q
  ·exact .inl (.inl q)
  ·exact .inr q
 ·exact .inl (.inr ⟨by omega, hk⟩)
theorem apart_law (v0 : Value) (l0 : List Int) (v1 : Value) (l1 : List Int) (w : World) (hr0 : MM.Rd w (fun j => j < w.heap.size) 1 v0 l0.length (intsC l0)) (hw0 : ∀ x, x ∈ l0 → (Lit.int .i64 x).wf = true) (hr1 : MM.Rd w (fun j => j < w.heap.size) 1 v1 l1.length (intsC l1)) (hw1 : ∀ x, x ∈ l1 → (Lit.int .i64 x).wf = true) :
  Calls Try.prog 21 #[v0, v1] w fun e w' => e = .returned (.bool true) ∧ Below w.heap.size w w' := by
 obtain ⟨A0, c0, rfl, q1, q2⟩ := hr0.slice
 have hm_l0 : l0.length ≤ maxLen := by omega
 unfold maxLen at hm_l0
 clear q1 q2
 have Hhr0 := Hd hr0
 have Hhw0 := Hd hw0
 clear hr0 hw0
 obtain ⟨A1, c1, rfl, q1, q2⟩ := hr1.slice
 have hm_l1 : l1.length ≤ maxLen := by omega
 unfold maxLen at hm_l1
 clear q1 q2
 have Hhr1 := Hd hr1
 have Hhw1 := Hd hw1
 clear hr1 hw1
 go_enter Try.func21, Try.ntmps21
 go_wp2_with fail
 refine (gknown_any _).mono ?_
 rintro e w1 ⟨rfl, hb1⟩
 have HB1 := Hd hb1
 clear hb1
 go_wp2_with fail
 refine (newG w w1 (3 : Int) 3 rfl (by omega) (by omega) HB1.out).mono ?_
 rintro e wa ⟨g, rfl, h2⟩
 have GA := Hd h2
 clear h2
 go_wp2_with fail
 refine (rGNew_any wa 3 (by omega) (by omega)).mono ?_
 rintro e wb ⟨x, ρ, ok, rfl, hr, hok, hb⟩
 have H0 := Hd (show Both w wb g x (gst 3 l0 0) (gst 3 l0 0) (fun k => k < w1.heap.size) from Both.new GA.out hr hok hb)
 clear hr hok hb GA
 go_wp2_with fail
 refine (gNew_any wb 2 (by omega) (by omega)).mono ?_
 rintro e wc ⟨o, μo, oko, rfl, ho, hoo, hbo⟩
 have HO := Hd ho
 have HOO := Hd hoo
 have HBO := Hd hbo
 clear ho hoo hbo
 go_wp2_with fail
 refine (rGNew_any wc 2 (by omega) (by omega)).mono ?_
 rintro e wd ⟨y, ρy, oky, rfl, hr, hok, hb⟩
 have H4 := Hd (show Four w wd g x o y (gst 3 l0 0) (gst 2 l1 (min 0 l1.length)) from by
  have bz := H0.out.bel.size
  have hbd := HBO.out.trans (hb.mono HBO.out.size)
  have GO : GrpAt w wc o (GS.new 2) (fun k => k < wb.heap.size) := ⟨μo, oko, HO.out.lower bz, H0.out.bel.trans (HBO.out.mono bz), fun k hk => ⟨Nat.lt_of_lt_of_le hk HBO.out.size, fun q => by have := (HO.out.ownlt k q).1; omega, fun q => by have := HOO.out k q; omega⟩⟩
  refine ⟨_, _, H0.out.newer hbd, by rw [Nat.zero_min]; exact Both.new GO hr hok hb, fun k hk => ?_⟩
  by_cases h : k < wb.heap.size
  ·exact .inr h
  ·exact .inl (.inr ⟨by omega, hk⟩))
 clear hr hok hb HO HOO HBO H0
 go_wp2_with fail
 go_loopw [9] (fun t9 wr => ∃ i : Nat, i ≤ l0.length ∧ i ≤ 80 ∧ t9 = .int .i64 i ∧ Hid (Four w wr g x o y (gst 3 l0 i) (gst 2 l1 (min i l1.length)))) (fun t9 _ => l0.length - (intOf t9).toNat)
 case atStart => exact ⟨0, by omega, by omega, rfl, H4⟩
 case round =>
  clear H4
  obtain ⟨i, hi, hi2, rfl, H⟩ := hrel
  obtain ⟨b, hb⟩ : ∃ b : Bool, b = (decide (i < l0.length) && decide (i < 80)) := ⟨_, rfl⟩
  have HBB := Hd hb
  clear hb
  go_upto_region 8 with (fail)
  go_cut [29] (fun vb wc => vb = .bool b ∧ wr = wc)
  case first =>
   by_cases h1 : i < l0.length
   ·have h1b : decide ((i : Int) < (l0.length : Int)) = true := decide_eq_true (by omega)
    by_cases h2 : i < 80
    ·have h2b : decide ((i : Int) < 80) = true := decide_eq_true (by omega)
     have hbb : b = true := by rw [HBB.out, decide_eq_true h1, decide_eq_true h2]; rfl
     subst hbb
     go_wp2_with fail
     go_meet
     case rel => exact ⟨by first | rfl | (simp; omega), rfl⟩
    ·have h2b : decide ((i : Int) < 80) = false := decide_eq_false (by omega)
     have hbb : b = false := by rw [HBB.out, decide_eq_false h2]; simp
     subst hbb
     go_wp2_with fail
     go_meet
     case rel => exact ⟨by first | rfl | (simp; omega), rfl⟩
   ·have h1b : decide ((i : Int) < (l0.length : Int)) = false := decide_eq_false (by omega)
    have hbb : b = false := by rw [HBB.out, decide_eq_false h1]; rfl
    subst hbb
    go_wp2_with fail
    go_meet
    case rel => exact ⟨by first | rfl | (simp; omega), rfl⟩
  case rest =>
   obtain ⟨rfl, rfl⟩ := hcut
   cases b
   ·clear HBB
    have HH := H.out
    obtain ⟨Z1, Z2, hb1, hb2, hc⟩ := HH
    have B1 := Hd hb1
    have B2 := Hd hb2
    have HC := Hd hc
    clear hb1 hb2 hc
    go_wp2_with fail
    refine (same_any w wr g x _ _ B1.out 3 (gst_good (by omega) l0 i (by omega)) (by omega) (by omega)).mono ?_
    rintro e w6 ⟨rfl, hb6⟩
    have B6 := Hd (B2.out.below hb6)
    clear hb6 B1 B2 HC
    go_wp2_with fail
    refine (same_any w w6 o y _ _ B6.out 2 (gst_good (by omega) l1 (min i l1.length) (by omega)) (by omega) (by omega)).mono ?_
    rintro e w7 ⟨rfl, hb7⟩
    have B7 := Hd (B6.out.below hb7)
    clear hb7
    go_wp2_with fail
    go_ret
    exact ⟨by first | rfl | simp, B7.out.bel⟩
   ·have hb2 : i < l0.length ∧ i < 80 := by
     have h := HBB.out
     have h' : (decide (i < l0.length) && decide (i < 80)) = true := h.symm
     simpa using h'
    clear HBB
    obtain ⟨hl1, hl2⟩ := hb2
    have hrd := Hhr0.out.step (w1 := wr) (fun j hj _ => H.out.bel.block j hj)
    obtain ⟨_, A', c', ea, _, _, hrest⟩ := hrd
    injection ea with ea1 el ea2
    clear el
    subst ea1 ea2
    obtain ⟨be_xx, oe_xx, rfl, _, _, hcell⟩ := hrest (by omega)
    have x0 : wr.cell? ⟨be_xx, oe_xx + i, none⟩ = some (.int .i64 (l0.getD i 0)) := hcell _ _ (intsC_get hl1)
    have HXW := Hd (Hhw0.out (l0.getD i 0) (by rw [List.getD_eq_getElem?_getD, List.getElem?_eq_getElem hl1]; exact List.getElem_mem hl1))
    clear hcell hrest
    obtain ⟨xx, hxx⟩ : ∃ y, y = l0.getD i 0 := ⟨_, rfl⟩
    rw [← hxx] at x0 HXW
    have hvn := wi_range xx 1073741824 (by omega)
    obtain ⟨n, hnn⟩ : ∃ n : Nat, wi xx 1073741824 = n := ⟨_, (Int.toNat_of_nonneg hvn.1).symm⟩
    have nb : n < 1073741824 := by omega
    have NXT := Hd (show stepS 3 (gst 3 l0 i) n = gst 3 l0 (i + 1) from by show _ = stepS 3 (gst 3 l0 i) (wi (l0.getD i 0) 1073741824).toNat; rw [← hxx, hnn, Int.toNat_natCast])
    have WN_n := Hd hnn
    clear hxx hvn hnn
    go_wp2_with fail
    refine (within9_fn _ xx 1073741824 HXW.out (by omega) (by omega)).mono ?_
    rintro e w' ⟨rfl, rfl⟩
    rw [WN_n.out]
    clear WN_n HXW
    have HH := H.out
    obtain ⟨Z1, Z2, hb1, hb2, hc⟩ := HH
    have B1 := Hd hb1
    have B2 := Hd hb2
    have HC := Hd hc
    clear hb1 hb2 hc
    go_wp2_with fail
    refine (step_any w wr g x _ _ B1.out 3 _ (gst_sys (by omega) l0 i) (by omega) (by omega) (by omega) n nb).mono ?_
    rintro e w5 ⟨rfl, h5, hs5⟩
    rw [NXT.out] at h5
    have H5 := Hd (Four.left h5 hs5 B2.out HC.out)
    clear h5 hs5 B1 B2 HC NXT x0 H
    by_cases h3 : i < l1.length
    ·have h3b : decide ((i : Int) < (l1.length : Int)) = true := decide_eq_true (by omega)
     have em : min i l1.length = i := by omega
     rw [em] at H5
     clear em
     have hrd := Hhr1.out.step (w1 := w5) (fun j hj _ => H5.out.bel.block j hj)
     obtain ⟨_, A', c', ea, _, _, hrest⟩ := hrd
     injection ea with ea1 el ea2
     clear el
     subst ea1 ea2
     obtain ⟨be_yy, oe_yy, rfl, _, _, hcell⟩ := hrest (by omega)
     have y0 : w5.cell? ⟨be_yy, oe_yy + i, none⟩ = some (.int .i64 (l1.getD i 0)) := hcell _ _ (intsC_get h3)
     have HYW := Hd (Hhw1.out (l1.getD i 0) (by rw [List.getD_eq_getElem?_getD, List.getElem?_eq_getElem h3]; exact List.getElem_mem h3))
     clear hcell hrest
     obtain ⟨yy, hyy⟩ : ∃ y, y = l1.getD i 0 := ⟨_, rfl⟩
     rw [← hyy] at y0 HYW
     have hvm := wi_range yy 1073741824 (by omega)
     obtain ⟨m, hnm⟩ : ∃ n : Nat, wi yy 1073741824 = n := ⟨_, (Int.toNat_of_nonneg hvm.1).symm⟩
     have mb : m < 1073741824 := by omega
     have NYT := Hd (show stepS 2 (gst 2 l1 i) m = gst 2 l1 (i + 1) from by show _ = stepS 2 (gst 2 l1 i) (wi (l1.getD i 0) 1073741824).toNat; rw [← hyy, hnm, Int.toNat_natCast])
     have WN_m := Hd hnm
     clear hyy hvm hnm
     go_wp2_with fail
     refine (within9_fn _ yy 1073741824 HYW.out (by omega) (by omega)).mono ?_
     rintro e w' ⟨rfl, rfl⟩
     rw [WN_m.out]
     clear WN_m HYW
     have HH := H5.out
     obtain ⟨Z1, Z2, hb1, hb2, hc⟩ := HH
     have B1 := Hd hb1
     have B2 := Hd hb2
     have HC := Hd hc
     clear hb1 hb2 hc
     go_wp2_with fail
     refine (step_any w w5 o y _ _ B2.out 2 _ (gst_sys (by omega) l1 i) (by omega) (by omega) (by omega) m mb).mono ?_
     rintro e w6 ⟨rfl, h5, hs5⟩
     rw [NYT.out] at h5
     have H6 := Hd (show Four w w6 g x o y (gst 3 l0 (i + 1)) (gst 2 l1 (min (i + 1) l1.length)) from by rw [show min (i + 1) l1.length = i + 1 from by omega]; exact Four.right B1.out h5 hs5 HC.out)
     clear h5 hs5 B1 B2 HC NYT H5
     go_wp2_with fail
     go_roundw
     case rel => first | exact ⟨i + 1, by omega, by omega, by go_num, H6⟩ | ((repeat apply Exists.intro); refine ⟨?_, rfl⟩; exact ⟨i + 1, by omega, by omega, by go_num, H6⟩)
     case measure => simp [intOf]; omega
    ·have h3b : decide ((i : Int) < (l1.length : Int)) = false := decide_eq_false (by omega)
     have H6 := Hd (show Four w w5 g x o y (gst 3 l0 (i + 1)) (gst 2 l1 (min (i + 1) l1.length)) from by
      have h := H5.out
      rw [show min i l1.length = min (i + 1) l1.length from by omega] at h
      exact h)
     clear H5
     go_wp2_with fail
     go_roundw
     case rel => first | exact ⟨i + 1, by omega, by omega, by go_num, H6⟩ | ((repeat apply Exists.intro); refine ⟨?_, rfl⟩; exact ⟨i + 1, by omega, by omega, by go_num, H6⟩)
     case measure => simp [intOf]; omega
end Go.Proofs.Ytnkmljdkokcdjaa
