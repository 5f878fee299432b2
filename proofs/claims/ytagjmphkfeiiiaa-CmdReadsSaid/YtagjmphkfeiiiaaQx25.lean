/- One function's walk, or a law's, by the text that a program of this session prints; what each theorem says stands in it. -/
import Derived.Test.YtagjmphkfeiiiaaQx0
import Derived.Test.YtagjmphkfeiiiaaQx20
import Derived.Test.YtagjmphkfeiiiaaQx22
import Derived.Test.YtagjmphkfeiiiaaQx24
import Derived.Test.YtagjmphkfeiiiaaXs
namespace Go.Proofs.Ytagjmphkfeiiiaa.Q
open Go.RowKit Go.Proofs.YtagjmphkfeiiiaaW.PrintWords Go.Proofs.YtagjmphkfeiiiaaW.PrintLast Go.Proofs.YtagjmphkfeiiiaaW.PrintMore
attribute [local go_sem] min2_int min_two
set_option linter.unusedVariables false
set_option linter.unusedSimpArgs false
def federationref7_Encode.j0 : Nat → Int → Bool → Int → Int → Int → Bool → List (S40) → ByteArray → Option (ByteArray × Bool)
  | 0, _, _, _, _, _, _, _, _ => none
  | k + 1, x1, x25, x750000, x750001, x750002, x750003, x750004, x750005 => if x25 = true then (some ((⟨#[]⟩ : ByteArray), false)) else (if x1 = 1 then ((federationref7_first.f k x750000 x750001 x750002 x750003 x750004 x750005).bind fun t751 => (some (strOfNums t751, true))) else ((federationref7_second.f k x750000 x750001 x750002 x750003 x750004 x750005).bind fun t754 => (some (strOfNums t754, true))))
def federationref7_Encode.f (k : Nat) (a0_0 : Int) (a0_1 : Int) (a0_2 : Int) (a0_3 : Bool) (l0_4 : List (S40)) (a0_5 : ByteArray) (a1 : Int) : Option (ByteArray × Bool) := (federationref7_Right.f k a0_0 a0_1 a0_2 a0_3 l0_4 a0_5).bind fun t750 => (if t750 = true then (if a1 < 1 then (federationref7_Encode.j0 k a1 true a0_0 a0_1 a0_2 a0_3 l0_4 a0_5) else (if a1 > 2 then (federationref7_Encode.j0 k a1 true a0_0 a0_1 a0_2 a0_3 l0_4 a0_5) else (if a1 = 1 then (federationref7_Encode.j0 k a1 (a0_0 == 5) a0_0 a0_1 a0_2 a0_3 l0_4 a0_5) else (federationref7_Encode.j0 k a1 false a0_0 a0_1 a0_2 a0_3 l0_4 a0_5)))) else (federationref7_Encode.j0 k a1 true a0_0 a0_1 a0_2 a0_3 l0_4 a0_5))
theorem federationref7_Encode.mono_l : ∀ k, (∀ y0 y1 y2 y3 y4 y5 y6 y7, LeO (federationref7_Encode.j0 k y0 y1 y2 y3 y4 y5 y6 y7) (federationref7_Encode.j0 (k + 1) y0 y1 y2 y3 y4 y5 y6 y7))
  | 0 => fun _ _ _ _ _ _ _ _ r h => by simp [federationref7_Encode.j0] at h
  | k + 1 => by
    have ih0 := federationref7_Encode.mono_l k
    · intro y0 y1 y2 y3 y4 y5 y6 y7
      unfold federationref7_Encode.j0
      repeat' first
      | (with_reducible exact ih0 _ _ _ _ _ _ _ _)
      | (with_reducible exact federationref7_Right.mono _ _ _ _ _ _ _)
      | (with_reducible exact federationref7_first.mono _ _ _ _ _ _ _)
      | (with_reducible exact federationref7_second.mono _ _ _ _ _ _ _)
      | (with_reducible exact LeO.refl _)
      | (with_reducible exact LeO.none _)
      | (with_reducible refine LeO.ite ?_ ?_)
      | (with_reducible refine LeO.bind ?_ (fun _ => ?_))
theorem federationref7_Encode.mono : ∀ a0 a1 a2 a3 a4 a5 a6 k, LeO (federationref7_Encode.f k a0 a1 a2 a3 a4 a5 a6) (federationref7_Encode.f (k + 1) a0 a1 a2 a3 a4 a5 a6) := by
  intro a0 a1 a2 a3 a4 a5 a6 k
  have ih0 := federationref7_Encode.mono_l k
  unfold federationref7_Encode.f
  repeat' first
      | (with_reducible exact ih0 _ _ _ _ _ _ _ _)
      | (with_reducible exact federationref7_Right.mono _ _ _ _ _ _ _)
      | (with_reducible exact federationref7_first.mono _ _ _ _ _ _ _)
      | (with_reducible exact federationref7_second.mono _ _ _ _ _ _ _)
      | (with_reducible exact LeO.refl _)
      | (with_reducible exact LeO.none _)
      | (with_reducible refine LeO.ite ?_ ?_)
      | (with_reducible refine LeO.bind ?_ (fun _ => ?_))
set_option maxHeartbeats 8000000 in
set_option maxRecDepth 100000 in
theorem federationref7_Encode.calls (k : Nat) (a0_0 : Int) (a0_1 : Int) (a0_2 : Int) (a0_3 : Bool) (A0_4 : Option Addr) (c0_4 : Nat) (l0_4 : List (S40)) (a0_5 : ByteArray) (a1 : Int) (r1 : ByteArray) (r2 : Bool) (w : World) (hr0_4 : Kd.C k40 w A0_4 l0_4.length l0_4) (hc0_4 : l0_4.length ≤ c0_4) (h : federationref7_Encode.f k a0_0 a0_1 a0_2 a0_3 l0_4 a0_5 a1 = some (r1, r2)) :
  Calls Try.prog 17 #[.agg #[.int .i64 a0_0, .int .i64 a0_1, .int .i64 a0_2, .bool a0_3, .slice A0_4 l0_4.length c0_4, .string a0_5], .int .i64 a1] w fun e w' => e = .returned (.tuple #[.string r1, .bool r2]) ∧ Below w.heap.size w w' := by
 have hu26 := Try.underlying26
 have HR0_4 := am hr0_4
 have HC0_4 := am hc0_4
 clear hr0_4 hc0_4
 have HB := am (Below.refl w.heap.size w)
 have H : ((federationref7_Right.f k a0_0 a0_1 a0_2 a0_3 l0_4 a0_5).bind fun t750 => (if t750 = true then (if a1 < 1 then (federationref7_Encode.j0 k a1 true a0_0 a0_1 a0_2 a0_3 l0_4 a0_5) else (if a1 > 2 then (federationref7_Encode.j0 k a1 true a0_0 a0_1 a0_2 a0_3 l0_4 a0_5) else (if a1 = 1 then (federationref7_Encode.j0 k a1 (a0_0 == 5) a0_0 a0_1 a0_2 a0_3 l0_4 a0_5) else (federationref7_Encode.j0 k a1 false a0_0 a0_1 a0_2 a0_3 l0_4 a0_5)))) else (federationref7_Encode.j0 k a1 true a0_0 a0_1 a0_2 a0_3 l0_4 a0_5))) = some (r1, r2) := h
 clear h
 have HC3 := am H
 clear H
 go_enter Try.func17, Try.ntmps17
 go_upto_region 1 with (first | ((with_reducible refine gate_dst (N := 2) rfl ?_); refine bx 2 26 (cs := #[.int .i64 a0_0, .int .i64 a0_1, .int .i64 a0_2, .bool a0_3, .slice A0_4 l0_4.length c0_4, .string a0_5]) ?_; intro gb749 hg w4 hbox hb; have n_ := z4 (below_step bel hb) (hbox) ((by rw [hg]; exact (below_size bel) : w.heap.size ≤ gb749)) ((by rw [hg]; exact (below_size bel) : w.heap.size ≤ gb749)); clear HB; obtain ⟨HB, BK749, GW749, GE749⟩ := n_; clear hb hbox hg))
 (try simp only [Act.put, List.setIfInBounds_toArray, List.set_cons_zero, List.set_cons_succ])
 go_cut [25] (fun v25 wc => ∃ (kq : Nat) (x25_2 : Bool), v25 = .bool x25_2 ∧ Aside0 (federationref7_Encode.j0 kq a1 x25_2 a0_0 a0_1 a0_2 a0_3 l0_4 a0_5 = some (r1, r2)) ∧ Aside0 (kq ≤ k) ∧ Aside0 (wc.heap[gb749]? = some (.cells #[.int .i64 a0_0, .int .i64 a0_1, .int .i64 a0_2, .bool a0_3, (.slice A0_4 l0_4.length c0_4), .string a0_5] 26 (0, 0))) ∧ Aside0 (Below w.heap.size w wc))
 case first =>
  have H := HC3.out
  clear HC3
  replace H := Option.bind_eq_some_iff.mp H
  obtain ⟨t750, A50, H⟩ := H
  replace H : (if t750 = true then (if a1 < 1 then (federationref7_Encode.j0 k a1 true a0_0 a0_1 a0_2 a0_3 l0_4 a0_5) else (if a1 > 2 then (federationref7_Encode.j0 k a1 true a0_0 a0_1 a0_2 a0_3 l0_4 a0_5) else (if a1 = 1 then (federationref7_Encode.j0 k a1 (a0_0 == 5) a0_0 a0_1 a0_2 a0_3 l0_4 a0_5) else (federationref7_Encode.j0 k a1 false a0_0 a0_1 a0_2 a0_3 l0_4 a0_5)))) else (federationref7_Encode.j0 k a1 true a0_0 a0_1 a0_2 a0_3 l0_4 a0_5)) = some (r1, r2) := H
  have A5 := am A50
  clear A50
  by_cases c6 : t750 = true
  ·subst c6
   have H1 : (if a1 < 1 then (federationref7_Encode.j0 k a1 true a0_0 a0_1 a0_2 a0_3 l0_4 a0_5) else (if a1 > 2 then (federationref7_Encode.j0 k a1 true a0_0 a0_1 a0_2 a0_3 l0_4 a0_5) else (if a1 = 1 then (federationref7_Encode.j0 k a1 (a0_0 == 5) a0_0 a0_1 a0_2 a0_3 l0_4 a0_5) else (federationref7_Encode.j0 k a1 false a0_0 a0_1 a0_2 a0_3 l0_4 a0_5)))) = some (r1, r2) := by rw [if_pos rfl] at H; exact H
   clear H
   have H := H1
   clear H1
   by_cases c7 : a1 < 1
   ·rw [if_pos c7] at H
    have c7b0 : decide (a1 < 1) = true := decide_eq_true c7
    clear c7
    (first | rw [c7b0] | (simp only [i64_w, i32_w]; rw [c7b0]) | skip)
    have H' := am H
    clear H
    obtain ⟨hcz8_0, hcz8_1, hcz8_2, hcz8_3, hcz8_4, hcz8_5⟩ := cells6 BK749.out
    obtain ⟨hfz8_0, hfz8_1, hfz8_2, hfz8_3, hfz8_4, hfz8_5⟩ := froz6 BK749.out
    go_wp2_with (first | ((with_reducible refine gate_callee (f := 27) rfl ?_); refine goesL_ (some 7) rfl rfl Try.func27 (by kernel_rfl) rfl #[.agg #[.int .i64 a0_0, .int .i64 a0_1, .int .i64 a0_2, .bool a0_3, .slice A0_4 l0_4.length c0_4, .string a0_5]] rfl ar ?_; (with_reducible refine (federationref7_Right.calls k a0_0 a0_1 a0_2 a0_3 _ _ l0_4 a0_5 true _ ?side1 ?side2 A5.out).mono ?_); (case side1 => repeat (first | exact (Kd.C_below HR0_4.out HB.out) | (with_reducible refine Kd.C_alloc ?_ _) | (with_reducible refine Kd.C_drewN ?_ _) | (with_reducible refine Kd.C_drew ?_))); (case side2 => exact HC0_4.out); rintro e w9 ⟨rfl, hb⟩; refine ⟨_, rfl, ?_⟩; have n_ := z2 (blk_below (bk BK749.out) hb) (below_step bel hb); clear BK749 HB; obtain ⟨BK749, HB⟩ := n_; (try clear hb); (try clear hb2); (try clear hk); (try clear hi)))
    go_meet
    case rel => exact ⟨_, (true), (by first | rfl | (simp; done) | (simp [*]; done)), H', ⟨by first | omega | exact Nat.le_refl _⟩, ⟨bk BK749.out⟩, ⟨bel⟩⟩
   ·rw [if_neg c7] at H
    have c7b0 : decide (a1 < 1) = false := decide_eq_false c7
    clear c7
    (first | rw [c7b0] | (simp only [i64_w, i32_w]; rw [c7b0]) | skip)
    by_cases c10 : a1 > 2
    ·rw [if_pos c10] at H
     have c10b0 : decide (2 < a1) = true := decide_eq_true c10
     clear c10
     have H' := am H
     clear H
     obtain ⟨hcz11_0, hcz11_1, hcz11_2, hcz11_3, hcz11_4, hcz11_5⟩ := cells6 BK749.out
     obtain ⟨hfz11_0, hfz11_1, hfz11_2, hfz11_3, hfz11_4, hfz11_5⟩ := froz6 BK749.out
     go_wp2_with (first | ((with_reducible refine gate_callee (f := 27) rfl ?_); refine goesL_ (some 7) rfl rfl Try.func27 (by kernel_rfl) rfl #[.agg #[.int .i64 a0_0, .int .i64 a0_1, .int .i64 a0_2, .bool a0_3, .slice A0_4 l0_4.length c0_4, .string a0_5]] rfl ar ?_; (with_reducible refine (federationref7_Right.calls k a0_0 a0_1 a0_2 a0_3 _ _ l0_4 a0_5 true _ ?side1 ?side2 A5.out).mono ?_); (case side1 => repeat (first | exact (Kd.C_below HR0_4.out HB.out) | (with_reducible refine Kd.C_alloc ?_ _) | (with_reducible refine Kd.C_drewN ?_ _) | (with_reducible refine Kd.C_drew ?_))); (case side2 => exact HC0_4.out); rintro e w12 ⟨rfl, hb⟩; refine ⟨_, rfl, ?_⟩; have n_ := z2 (blk_below (bk BK749.out) hb) (below_step bel hb); clear BK749 HB; obtain ⟨BK749, HB⟩ := n_; (try clear hb); (try clear hb2); (try clear hk); (try clear hi)))
     go_meet
     case rel => exact ⟨_, (true), (by first | rfl | (simp; done) | (simp [*]; done)), H', ⟨by first | omega | exact Nat.le_refl _⟩, ⟨bk BK749.out⟩, ⟨bel⟩⟩
    ·rw [if_neg c10] at H
     have c10b0 : decide (2 < a1) = false := decide_eq_false c10
     clear c10
     by_cases c13 : a1 = 1
     ·rw [if_pos c13] at H
      have c13b0 : (a1 == 1) = true := beq_iff_eq.mpr c13
      have c13b1 : (a1 != 1) = false := bne_eq_false_iff_eq.mpr c13
      clear c13
      have H' := am H
      clear H
      obtain ⟨hcz14_0, hcz14_1, hcz14_2, hcz14_3, hcz14_4, hcz14_5⟩ := cells6 BK749.out
      obtain ⟨hfz14_0, hfz14_1, hfz14_2, hfz14_3, hfz14_4, hfz14_5⟩ := froz6 BK749.out
      go_wp2_with (first | ((with_reducible refine gate_callee (f := 27) rfl ?_); refine goesL_ (some 7) rfl rfl Try.func27 (by kernel_rfl) rfl #[.agg #[.int .i64 a0_0, .int .i64 a0_1, .int .i64 a0_2, .bool a0_3, .slice A0_4 l0_4.length c0_4, .string a0_5]] rfl ar ?_; (with_reducible refine (federationref7_Right.calls k a0_0 a0_1 a0_2 a0_3 _ _ l0_4 a0_5 true _ ?side1 ?side2 A5.out).mono ?_); (case side1 => repeat (first | exact (Kd.C_below HR0_4.out HB.out) | (with_reducible refine Kd.C_alloc ?_ _) | (with_reducible refine Kd.C_drewN ?_ _) | (with_reducible refine Kd.C_drew ?_))); (case side2 => exact HC0_4.out); rintro e w15 ⟨rfl, hb⟩; refine ⟨_, rfl, ?_⟩; have n_ := z2 (blk_below (bk BK749.out) hb) (below_step bel hb); clear BK749 HB; obtain ⟨BK749, HB⟩ := n_; (try clear hb); (try clear hb2); (try clear hk); (try clear hi); obtain ⟨hcz16_0, hcz16_1, hcz16_2, hcz16_3, hcz16_4, hcz16_5⟩ := cells6 BK749.out; obtain ⟨hfz16_0, hfz16_1, hfz16_2, hfz16_3, hfz16_4, hfz16_5⟩ := froz6 BK749.out))
      go_meet
      case rel => exact ⟨_, ((a0_0 == 5)), (by first | rfl | (simp; done) | (simp [*]; done)), H', ⟨by first | omega | exact Nat.le_refl _⟩, ⟨bk BK749.out⟩, ⟨bel⟩⟩
     ·rw [if_neg c13] at H
      have c13b0 : (a1 == 1) = false := beq_eq_false_iff_ne.mpr c13
      have c13b1 : (a1 != 1) = true := bne_iff_ne.mpr c13
      have H' := am H
      clear H
      obtain ⟨hcz17_0, hcz17_1, hcz17_2, hcz17_3, hcz17_4, hcz17_5⟩ := cells6 BK749.out
      obtain ⟨hfz17_0, hfz17_1, hfz17_2, hfz17_3, hfz17_4, hfz17_5⟩ := froz6 BK749.out
      go_wp2_with (first | ((with_reducible refine gate_callee (f := 27) rfl ?_); refine goesL_ (some 7) rfl rfl Try.func27 (by kernel_rfl) rfl #[.agg #[.int .i64 a0_0, .int .i64 a0_1, .int .i64 a0_2, .bool a0_3, .slice A0_4 l0_4.length c0_4, .string a0_5]] rfl ar ?_; (with_reducible refine (federationref7_Right.calls k a0_0 a0_1 a0_2 a0_3 _ _ l0_4 a0_5 true _ ?side1 ?side2 A5.out).mono ?_); (case side1 => repeat (first | exact (Kd.C_below HR0_4.out HB.out) | (with_reducible refine Kd.C_alloc ?_ _) | (with_reducible refine Kd.C_drewN ?_ _) | (with_reducible refine Kd.C_drew ?_))); (case side2 => exact HC0_4.out); rintro e w18 ⟨rfl, hb⟩; refine ⟨_, rfl, ?_⟩; have n_ := z2 (blk_below (bk BK749.out) hb) (below_step bel hb); clear BK749 HB; obtain ⟨BK749, HB⟩ := n_; (try clear hb); (try clear hb2); (try clear hk); (try clear hi)))
      go_meet
      case rel => exact ⟨_, (false), (by first | rfl | (simp; done) | (simp [*]; done)), H', ⟨by first | omega | exact Nat.le_refl _⟩, ⟨bk BK749.out⟩, ⟨bel⟩⟩
  ·replace c6 := Bool.eq_false_iff.mpr c6
   subst c6
   have H1 : (federationref7_Encode.j0 k a1 true a0_0 a0_1 a0_2 a0_3 l0_4 a0_5) = some (r1, r2) := by rw [if_neg (show ¬ (false = true) by decide)] at H; exact H
   clear H
   have H := H1
   clear H1
   have H' := am H
   clear H
   obtain ⟨hcz19_0, hcz19_1, hcz19_2, hcz19_3, hcz19_4, hcz19_5⟩ := cells6 BK749.out
   obtain ⟨hfz19_0, hfz19_1, hfz19_2, hfz19_3, hfz19_4, hfz19_5⟩ := froz6 BK749.out
   go_wp2_with (first | ((with_reducible refine gate_callee (f := 27) rfl ?_); refine goesL_ (some 7) rfl rfl Try.func27 (by kernel_rfl) rfl #[.agg #[.int .i64 a0_0, .int .i64 a0_1, .int .i64 a0_2, .bool a0_3, .slice A0_4 l0_4.length c0_4, .string a0_5]] rfl ar ?_; (with_reducible refine (federationref7_Right.calls k a0_0 a0_1 a0_2 a0_3 _ _ l0_4 a0_5 false _ ?side1 ?side2 A5.out).mono ?_); (case side1 => repeat (first | exact (Kd.C_below HR0_4.out HB.out) | (with_reducible refine Kd.C_alloc ?_ _) | (with_reducible refine Kd.C_drewN ?_ _) | (with_reducible refine Kd.C_drew ?_))); (case side2 => exact HC0_4.out); rintro e w20 ⟨rfl, hb⟩; refine ⟨_, rfl, ?_⟩; have n_ := z2 (blk_below (bk BK749.out) hb) (below_step bel hb); clear BK749 HB; obtain ⟨BK749, HB⟩ := n_; (try clear hb); (try clear hb2); (try clear hk); (try clear hi)))
   go_meet
   case rel => exact ⟨_, (true), (by first | rfl | (simp; done) | (simp [*]; done)), H', ⟨by first | omega | exact Nat.le_refl _⟩, ⟨bk BK749.out⟩, ⟨bel⟩⟩
 case rest =>
  clear HC3
  try clear c1
  try clear c2
  try clear p2
  try clear c6
  try clear c7
  try clear c7b0
  try clear c10
  try clear c10b0
  try clear c13
  try clear c13b0
  try clear c13b1
  try clear c17
  try clear hcz11_0 hcz11_1 hcz11_2 hcz11_3 hcz11_4 hcz11_5
  try clear hcz14_0 hcz14_1 hcz14_2 hcz14_3 hcz14_4 hcz14_5
  try clear hcz16_0 hcz16_1 hcz16_2 hcz16_3 hcz16_4 hcz16_5
  try clear hcz17_0 hcz17_1 hcz17_2 hcz17_3 hcz17_4 hcz17_5
  try clear hcz19_0 hcz19_1 hcz19_2 hcz19_3 hcz19_4 hcz19_5
  try clear hcz8_0 hcz8_1 hcz8_2 hcz8_3 hcz8_4 hcz8_5
  try clear hfz11_0 hfz11_1 hfz11_2 hfz11_3 hfz11_4 hfz11_5
  try clear hfz14_0 hfz14_1 hfz14_2 hfz14_3 hfz14_4 hfz14_5
  try clear hfz16_0 hfz16_1 hfz16_2 hfz16_3 hfz16_4 hfz16_5
  try clear hfz17_0 hfz17_1 hfz17_2 hfz17_3 hfz17_4 hfz17_5
  try clear hfz19_0 hfz19_1 hfz19_2 hfz19_3 hfz19_4 hfz19_5
  try clear hfz8_0 hfz8_1 hfz8_2 hfz8_3 hfz8_4 hfz8_5
  obtain ⟨kq, x25_2, rfl, HA, HJ2, BK749, HB⟩ := hcut
  cases kq with
  | zero => exact absurd HA.out (by simp [federationref7_Encode.j0])
  | succ kj2 =>
   have H := HA.out
   clear HA
   simp only [federationref7_Encode.j0] at H
   by_cases c21 : x25_2 = true
   ·subst c21
    have H1 : (some ((⟨#[]⟩ : ByteArray), false)) = some (r1, r2) := by rw [if_pos rfl] at H; exact H
    clear H
    have H := H1
    clear H1
    simp only [Option.some.injEq, Prod.mk.injEq] at H
    obtain ⟨rfl, rfl⟩ := H
    go_wp2
    go_ret2
    exact ⟨er, bel⟩
   ·replace c21 := Bool.eq_false_iff.mpr c21
    subst c21
    have H1 : (if a1 = 1 then ((federationref7_first.f kj2 a0_0 a0_1 a0_2 a0_3 l0_4 a0_5).bind fun t751 => (some (strOfNums t751, true))) else ((federationref7_second.f kj2 a0_0 a0_1 a0_2 a0_3 l0_4 a0_5).bind fun t754 => (some (strOfNums t754, true)))) = some (r1, r2) := by rw [if_neg (show ¬ (false = true) by decide)] at H; exact H
    clear H
    have H := H1
    clear H1
    by_cases c22 : a1 = 1
    ·rw [if_pos c22] at H
     have c22b0 : (a1 == 1) = true := beq_iff_eq.mpr c22
     have c22b1 : (a1 != 1) = false := bne_eq_false_iff_eq.mpr c22
     clear c22
     replace H := Option.bind_eq_some_iff.mp H
     obtain ⟨t751, A230, H⟩ := H
     replace H : (some (strOfNums t751, true)) = some (r1, r2) := H
     have A23 := am A230
     clear A230
     simp only [Option.some.injEq, Prod.mk.injEq] at H
     obtain ⟨rfl, rfl⟩ := H
     obtain ⟨hcz24_0, hcz24_1, hcz24_2, hcz24_3, hcz24_4, hcz24_5⟩ := cells6 BK749.out
     obtain ⟨hfz24_0, hfz24_1, hfz24_2, hfz24_3, hfz24_4, hfz24_5⟩ := froz6 BK749.out
     go_wp2_with (first | ((with_reducible refine gate_callee (f := 28) rfl ?_); refine goesL_ (some 29) rfl rfl Try.func28 (by kernel_rfl) rfl #[.agg #[.int .i64 a0_0, .int .i64 a0_1, .int .i64 a0_2, .bool a0_3, .slice A0_4 l0_4.length c0_4, .string a0_5]] rfl ar ?_; (with_reducible refine (federationref7_first.calls kj2 a0_0 a0_1 a0_2 a0_3 _ _ l0_4 a0_5 t751 _ ?side1 ?side2 A23.out).mono ?_); (case side1 => repeat (first | exact (Kd.C_below HR0_4.out HB.out) | (with_reducible refine Kd.C_alloc ?_ _) | (with_reducible refine Kd.C_drewN ?_ _) | (with_reducible refine Kd.C_drew ?_))); (case side2 => exact HC0_4.out); rintro e w25 ⟨v752, rfl, ho0, hb⟩; refine ⟨_, rfl, ?_⟩; have n_ := z3 (Kd.R_lower ho0 (below_size bel)) (blk_below (bk BK749.out) hb) (below_step bel hb); clear BK749 HB; obtain ⟨HO753, BK749, HB⟩ := n_; (try clear hb); (try clear hb2); (try clear hk); (try clear hi); (try clear ho0); have hcv26 := own_string (P := Try.prog) Try.underlying35 Try.underlying5 Try.underlying9 (Kd.own_of_R HO753.out)))
     go_ret2
     exact ⟨er, bel⟩
    ·rw [if_neg c22] at H
     have c22b0 : (a1 == 1) = false := beq_eq_false_iff_ne.mpr c22
     have c22b1 : (a1 != 1) = true := bne_iff_ne.mpr c22
     replace H := Option.bind_eq_some_iff.mp H
     obtain ⟨t754, A270, H⟩ := H
     replace H : (some (strOfNums t754, true)) = some (r1, r2) := H
     have A27 := am A270
     clear A270
     simp only [Option.some.injEq, Prod.mk.injEq] at H
     obtain ⟨rfl, rfl⟩ := H
     obtain ⟨hcz28_0, hcz28_1, hcz28_2, hcz28_3, hcz28_4, hcz28_5⟩ := cells6 BK749.out
     obtain ⟨hfz28_0, hfz28_1, hfz28_2, hfz28_3, hfz28_4, hfz28_5⟩ := froz6 BK749.out
     go_wp2_with (first | ((with_reducible refine gate_callee (f := 29) rfl ?_); refine goesL_ (some 32) rfl rfl Try.func29 (by kernel_rfl) rfl #[.agg #[.int .i64 a0_0, .int .i64 a0_1, .int .i64 a0_2, .bool a0_3, .slice A0_4 l0_4.length c0_4, .string a0_5]] rfl ar ?_; (with_reducible refine (federationref7_second.calls kj2 a0_0 a0_1 a0_2 a0_3 _ _ l0_4 a0_5 t754 _ ?side1 ?side2 A27.out).mono ?_); (case side1 => repeat (first | exact (Kd.C_below HR0_4.out HB.out) | (with_reducible refine Kd.C_alloc ?_ _) | (with_reducible refine Kd.C_drewN ?_ _) | (with_reducible refine Kd.C_drew ?_))); (case side2 => exact HC0_4.out); rintro e w29 ⟨v755, rfl, ho0, hb⟩; refine ⟨_, rfl, ?_⟩; have n_ := z3 (Kd.R_lower ho0 (below_size bel)) (blk_below (bk BK749.out) hb) (below_step bel hb); clear BK749 HB; obtain ⟨HO756, BK749, HB⟩ := n_; (try clear hb); (try clear hb2); (try clear hk); (try clear hi); (try clear ho0); have hcv30 := own_string (P := Try.prog) Try.underlying35 Try.underlying5 Try.underlying9 (Kd.own_of_R HO756.out)))
     go_ret2
     exact ⟨er, bel⟩
end Go.Proofs.Ytagjmphkfeiiiaa.Q
