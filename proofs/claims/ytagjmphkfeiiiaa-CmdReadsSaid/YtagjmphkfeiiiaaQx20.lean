/- One function's walk, or a law's, by the text that a program of this session prints; what each theorem says stands in it. -/
import Derived.Test.YtagjmphkfeiiiaaQx0
import Derived.Test.YtagjmphkfeiiiaaXs
namespace Go.Proofs.Ytagjmphkfeiiiaa.Q
open Go.RowKit Go.Proofs.YtagjmphkfeiiiaaW.PrintWords Go.Proofs.YtagjmphkfeiiiaaW.PrintLast Go.Proofs.YtagjmphkfeiiiaaW.PrintMore
attribute [local go_sem] min2_int min_two
set_option linter.unusedVariables false
set_option linter.unusedSimpArgs false
mutual
def federationref7_Right.j0 : Nat → Bool → Int → Int → Int → Bool → List (S40) → ByteArray → Option (Bool)
  | 0, _, _, _, _, _, _, _ => none
  | k + 1, x35, x651000, x651001, x651002, x651003, x651004, x651005 => if x35 = true then (some false) else (if x651000 = 2 then (federationref7_Right.j1 k true x651000 x651001 x651002 x651003 x651004 x651005) else (federationref7_Right.j1 k (x651000 == 3) x651000 x651001 x651002 x651003 x651004 x651005))
def federationref7_Right.j1 : Nat → Bool → Int → Int → Int → Bool → List (S40) → ByteArray → Option (Bool)
  | 0, _, _, _, _, _, _, _ => none
  | k + 1, x3, x651000, x651001, x651002, x651003, x651004, x651005 => if x3 = true then (if x651000 = 5 then (federationref7_Right.j2 k false x651000 x651001 x651002 x651003 x651004 x651005) else (federationref7_Right.j2 k (x651005.toList != ([] : List UInt8)) x651000 x651001 x651002 x651003 x651004 x651005)) else (if x651003 = true then (federationref7_Right.j2 k true x651000 x651001 x651002 x651003 x651004 x651005) else (if (x651004.length : Int) > 0 then (federationref7_Right.j2 k true x651000 x651001 x651002 x651003 x651004 x651005) else (if x651000 = 5 then (federationref7_Right.j2 k false x651000 x651001 x651002 x651003 x651004 x651005) else (federationref7_Right.j2 k (x651005.toList != ([] : List UInt8)) x651000 x651001 x651002 x651003 x651004 x651005))))
def federationref7_Right.j2 : Nat → Bool → Int → Int → Int → Bool → List (S40) → ByteArray → Option (Bool)
  | 0, _, _, _, _, _, _, _ => none
  | k + 1, x65, x651000, x651001, x651002, x651003, x651004, x651005 => if x65 = true then (some false) else (federationref7_Right.l0 k 0 x651000 x651001 x651002 x651003 x651004 x651005)
def federationref7_Right.l0 : Nat → Int → Int → Int → Int → Bool → List (S40) → ByteArray → Option (Bool)
  | 0, _, _, _, _, _, _, _ => none
  | k + 1, x4, x651000, x651001, x651002, x651003, x651004, x651005 => if x4 < (x651004.length : Int) then (if 0 ≤ x4 then (if (((rd_T40 x651004 x4).f0).size : Int) < 1 then (some false) else (if (((rd_T40 x651004 x4).f0).size : Int) > 300 then (some false) else (if (((rd_T40 x651004 x4).f1).size : Int) > 4000 then (some false) else (if (rd_T40 x651004 x4).f2 = true then (if ((rd_T40 x651004 x4).f1).toList = ([] : List UInt8) then (federationref7_Right.l0 k (wrap64 (x4 + 1)) x651000 x651001 x651002 x651003 x651004 x651005) else (some false)) else (federationref7_Right.l0 k (wrap64 (x4 + 1)) x651000 x651001 x651002 x651003 x651004 x651005))))) else (none)) else (some true)
end
def federationref7_Right.f (k : Nat) (a0_0 : Int) (a0_1 : Int) (a0_2 : Int) (a0_3 : Bool) (l0_4 : List (S40)) (a0_5 : ByteArray) : Option (Bool) := if a0_0 < 0 then (federationref7_Right.j0 k true a0_0 a0_1 a0_2 a0_3 l0_4 a0_5) else (if a0_0 > 5 then (federationref7_Right.j0 k true a0_0 a0_1 a0_2 a0_3 l0_4 a0_5) else (if a0_1 < 0 then (federationref7_Right.j0 k true a0_0 a0_1 a0_2 a0_3 l0_4 a0_5) else (if a0_2 < 0 then (federationref7_Right.j0 k true a0_0 a0_1 a0_2 a0_3 l0_4 a0_5) else (if (l0_4.length : Int) > 1000 then (federationref7_Right.j0 k true a0_0 a0_1 a0_2 a0_3 l0_4 a0_5) else (federationref7_Right.j0 k (decide ((a0_5.size : Int) > 40)) a0_0 a0_1 a0_2 a0_3 l0_4 a0_5)))))
theorem federationref7_Right.mono_l : ∀ k, (∀ y0 y1 y2 y3 y4 y5 y6, LeO (federationref7_Right.j0 k y0 y1 y2 y3 y4 y5 y6) (federationref7_Right.j0 (k + 1) y0 y1 y2 y3 y4 y5 y6)) ∧ (∀ y0 y1 y2 y3 y4 y5 y6, LeO (federationref7_Right.j1 k y0 y1 y2 y3 y4 y5 y6) (federationref7_Right.j1 (k + 1) y0 y1 y2 y3 y4 y5 y6)) ∧ (∀ y0 y1 y2 y3 y4 y5 y6, LeO (federationref7_Right.j2 k y0 y1 y2 y3 y4 y5 y6) (federationref7_Right.j2 (k + 1) y0 y1 y2 y3 y4 y5 y6)) ∧ (∀ y0 y1 y2 y3 y4 y5 y6, LeO (federationref7_Right.l0 k y0 y1 y2 y3 y4 y5 y6) (federationref7_Right.l0 (k + 1) y0 y1 y2 y3 y4 y5 y6))
  | 0 => ⟨fun _ _ _ _ _ _ _ r h => by simp [federationref7_Right.j0] at h, fun _ _ _ _ _ _ _ r h => by simp [federationref7_Right.j1] at h, fun _ _ _ _ _ _ _ r h => by simp [federationref7_Right.j2] at h, fun _ _ _ _ _ _ _ r h => by simp [federationref7_Right.l0] at h⟩
  | k + 1 => by
    obtain ⟨ih0, ih1, ih2, ih3⟩ := federationref7_Right.mono_l k
    refine ⟨?_, ?_, ?_, ?_⟩
    · intro y0 y1 y2 y3 y4 y5 y6
      unfold federationref7_Right.j0
      repeat' first
      | (with_reducible exact ih0 _ _ _ _ _ _ _)
      | (with_reducible exact ih1 _ _ _ _ _ _ _)
      | (with_reducible exact ih2 _ _ _ _ _ _ _)
      | (with_reducible exact ih3 _ _ _ _ _ _ _)
      | (with_reducible exact LeO.refl _)
      | (with_reducible exact LeO.none _)
      | (with_reducible refine LeO.ite ?_ ?_)
      | (with_reducible refine LeO.bind ?_ (fun _ => ?_))
    · intro y0 y1 y2 y3 y4 y5 y6
      unfold federationref7_Right.j1
      repeat' first
      | (with_reducible exact ih0 _ _ _ _ _ _ _)
      | (with_reducible exact ih1 _ _ _ _ _ _ _)
      | (with_reducible exact ih2 _ _ _ _ _ _ _)
      | (with_reducible exact ih3 _ _ _ _ _ _ _)
      | (with_reducible exact LeO.refl _)
      | (with_reducible exact LeO.none _)
      | (with_reducible refine LeO.ite ?_ ?_)
      | (with_reducible refine LeO.bind ?_ (fun _ => ?_))
    · intro y0 y1 y2 y3 y4 y5 y6
      unfold federationref7_Right.j2
      repeat' first
      | (with_reducible exact ih0 _ _ _ _ _ _ _)
      | (with_reducible exact ih1 _ _ _ _ _ _ _)
      | (with_reducible exact ih2 _ _ _ _ _ _ _)
      | (with_reducible exact ih3 _ _ _ _ _ _ _)
      | (with_reducible exact LeO.refl _)
      | (with_reducible exact LeO.none _)
      | (with_reducible refine LeO.ite ?_ ?_)
      | (with_reducible refine LeO.bind ?_ (fun _ => ?_))
    · intro y0 y1 y2 y3 y4 y5 y6
      unfold federationref7_Right.l0
      repeat' first
      | (with_reducible exact ih0 _ _ _ _ _ _ _)
      | (with_reducible exact ih1 _ _ _ _ _ _ _)
      | (with_reducible exact ih2 _ _ _ _ _ _ _)
      | (with_reducible exact ih3 _ _ _ _ _ _ _)
      | (with_reducible exact LeO.refl _)
      | (with_reducible exact LeO.none _)
      | (with_reducible refine LeO.ite ?_ ?_)
      | (with_reducible refine LeO.bind ?_ (fun _ => ?_))
theorem federationref7_Right.mono : ∀ a0 a1 a2 a3 a4 a5 k, LeO (federationref7_Right.f k a0 a1 a2 a3 a4 a5) (federationref7_Right.f (k + 1) a0 a1 a2 a3 a4 a5) := by
  intro a0 a1 a2 a3 a4 a5 k
  obtain ⟨ih0, ih1, ih2, ih3⟩ := federationref7_Right.mono_l k
  unfold federationref7_Right.f
  repeat' first
      | (with_reducible exact ih0 _ _ _ _ _ _ _)
      | (with_reducible exact ih1 _ _ _ _ _ _ _)
      | (with_reducible exact ih2 _ _ _ _ _ _ _)
      | (with_reducible exact ih3 _ _ _ _ _ _ _)
      | (with_reducible exact LeO.refl _)
      | (with_reducible exact LeO.none _)
      | (with_reducible refine LeO.ite ?_ ?_)
      | (with_reducible refine LeO.bind ?_ (fun _ => ?_))
set_option maxHeartbeats 8000000 in
set_option maxRecDepth 100000 in
theorem federationref7_Right.calls (k : Nat) (a0_0 : Int) (a0_1 : Int) (a0_2 : Int) (a0_3 : Bool) (A0_4 : Option Addr) (c0_4 : Nat) (l0_4 : List (S40)) (a0_5 : ByteArray) (r : Bool) (w : World) (hr0_4 : Kd.C k40 w A0_4 l0_4.length l0_4) (hc0_4 : l0_4.length ≤ c0_4) (h : federationref7_Right.f k a0_0 a0_1 a0_2 a0_3 l0_4 a0_5 = some r) :
  Calls Try.prog 27 #[.agg #[.int .i64 a0_0, .int .i64 a0_1, .int .i64 a0_2, .bool a0_3, .slice A0_4 l0_4.length c0_4, .string a0_5]] w fun e w' => e = .returned (.bool r) ∧ Below w.heap.size w w' := by
 have hu26 := Try.underlying26
 have hu40 := Try.underlying40
 have HR0_4 := am hr0_4
 have HC0_4 := am hc0_4
 clear hr0_4 hc0_4
 have HB := am (Below.refl w.heap.size w)
 have H : (if a0_0 < 0 then (federationref7_Right.j0 k true a0_0 a0_1 a0_2 a0_3 l0_4 a0_5) else (if a0_0 > 5 then (federationref7_Right.j0 k true a0_0 a0_1 a0_2 a0_3 l0_4 a0_5) else (if a0_1 < 0 then (federationref7_Right.j0 k true a0_0 a0_1 a0_2 a0_3 l0_4 a0_5) else (if a0_2 < 0 then (federationref7_Right.j0 k true a0_0 a0_1 a0_2 a0_3 l0_4 a0_5) else (if (l0_4.length : Int) > 1000 then (federationref7_Right.j0 k true a0_0 a0_1 a0_2 a0_3 l0_4 a0_5) else (federationref7_Right.j0 k (decide ((a0_5.size : Int) > 40)) a0_0 a0_1 a0_2 a0_3 l0_4 a0_5)))))) = some r := h
 clear h
 have HC2 := am H
 clear H
 go_enter Try.func27, Try.ntmps27
 go_upto_region 1 with (first | ((with_reducible refine gate_dst (N := 1) rfl ?_); refine bx 1 26 (cs := #[.int .i64 a0_0, .int .i64 a0_1, .int .i64 a0_2, .bool a0_3, .slice A0_4 l0_4.length c0_4, .string a0_5]) ?_; intro gb650 hg w3 hbox hb; have n_ := z4 (below_step bel hb) (hbox) ((by rw [hg]; exact (below_size bel) : w.heap.size ≤ gb650)) ((by rw [hg]; exact (below_size bel) : w.heap.size ≤ gb650)); clear HB; obtain ⟨HB, BK650, GW650, GE650⟩ := n_; clear hb hbox hg))
 (try simp only [Act.put, List.setIfInBounds_toArray, List.set_cons_zero, List.set_cons_succ])
 go_cut [35] (fun v35 wc => ∃ (kq : Nat) (x35_1 : Bool), v35 = .bool x35_1 ∧ Aside0 (federationref7_Right.j0 kq x35_1 a0_0 a0_1 a0_2 a0_3 l0_4 a0_5 = some r) ∧ Aside0 (kq ≤ k) ∧ Aside0 (wc.heap[gb650]? = some (.cells #[.int .i64 a0_0, .int .i64 a0_1, .int .i64 a0_2, .bool a0_3, (.slice A0_4 l0_4.length c0_4), .string a0_5] 26 (0, 0))) ∧ Aside0 (Below w.heap.size w wc))
 case first =>
  have H := HC2.out
  clear HC2
  by_cases c4 : a0_0 < 0
  ·rw [if_pos c4] at H
   have c4b0 : decide (a0_0 < 0) = true := decide_eq_true c4
   clear c4
   (first | rw [c4b0] | (simp only [i64_w, i32_w]; rw [c4b0]) | skip)
   have H' := am H
   clear H
   obtain ⟨hcz5_0, hcz5_1, hcz5_2, hcz5_3, hcz5_4, hcz5_5⟩ := cells6 BK650.out
   obtain ⟨hfz5_0, hfz5_1, hfz5_2, hfz5_3, hfz5_4, hfz5_5⟩ := froz6 BK650.out
   go_wp2
   go_meet
   case rel => exact ⟨_, (true), (by first | rfl | (simp; done) | (simp [*]; done)), H', ⟨by first | omega | exact Nat.le_refl _⟩, ⟨bk BK650.out⟩, ⟨bel⟩⟩
  ·rw [if_neg c4] at H
   have c4b0 : decide (a0_0 < 0) = false := decide_eq_false c4
   clear c4
   (first | rw [c4b0] | (simp only [i64_w, i32_w]; rw [c4b0]) | skip)
   by_cases c6 : a0_0 > 5
   ·rw [if_pos c6] at H
    have c6b0 : decide (5 < a0_0) = true := decide_eq_true c6
    clear c6
    have H' := am H
    clear H
    obtain ⟨hcz7_0, hcz7_1, hcz7_2, hcz7_3, hcz7_4, hcz7_5⟩ := cells6 BK650.out
    obtain ⟨hfz7_0, hfz7_1, hfz7_2, hfz7_3, hfz7_4, hfz7_5⟩ := froz6 BK650.out
    go_wp2
    go_meet
    case rel => exact ⟨_, (true), (by first | rfl | (simp; done) | (simp [*]; done)), H', ⟨by first | omega | exact Nat.le_refl _⟩, ⟨bk BK650.out⟩, ⟨bel⟩⟩
   ·rw [if_neg c6] at H
    have c6b0 : decide (5 < a0_0) = false := decide_eq_false c6
    clear c6
    by_cases c8 : a0_1 < 0
    ·rw [if_pos c8] at H
     have c8b0 : decide (a0_1 < 0) = true := decide_eq_true c8
     clear c8
     have H' := am H
     clear H
     obtain ⟨hcz9_0, hcz9_1, hcz9_2, hcz9_3, hcz9_4, hcz9_5⟩ := cells6 BK650.out
     obtain ⟨hfz9_0, hfz9_1, hfz9_2, hfz9_3, hfz9_4, hfz9_5⟩ := froz6 BK650.out
     go_wp2
     go_meet
     case rel => exact ⟨_, (true), (by first | rfl | (simp; done) | (simp [*]; done)), H', ⟨by first | omega | exact Nat.le_refl _⟩, ⟨bk BK650.out⟩, ⟨bel⟩⟩
    ·rw [if_neg c8] at H
     have c8b0 : decide (a0_1 < 0) = false := decide_eq_false c8
     clear c8
     by_cases c10 : a0_2 < 0
     ·rw [if_pos c10] at H
      have c10b0 : decide (a0_2 < 0) = true := decide_eq_true c10
      clear c10
      have H' := am H
      clear H
      obtain ⟨hcz11_0, hcz11_1, hcz11_2, hcz11_3, hcz11_4, hcz11_5⟩ := cells6 BK650.out
      obtain ⟨hfz11_0, hfz11_1, hfz11_2, hfz11_3, hfz11_4, hfz11_5⟩ := froz6 BK650.out
      go_wp2
      go_meet
      case rel => exact ⟨_, (true), (by first | rfl | (simp; done) | (simp [*]; done)), H', ⟨by first | omega | exact Nat.le_refl _⟩, ⟨bk BK650.out⟩, ⟨bel⟩⟩
     ·rw [if_neg c10] at H
      have c10b0 : decide (a0_2 < 0) = false := decide_eq_false c10
      clear c10
      by_cases c12 : (l0_4.length : Int) > 1000
      ·rw [if_pos c12] at H
       have c12b0 : decide (1000 < (l0_4.length : Int)) = true := decide_eq_true c12
       have c12b1 : decide (1000 < l0_4.length) = true := decide_eq_true (by omega)
       clear c12
       have H' := am H
       clear H
       obtain ⟨hcz13_0, hcz13_1, hcz13_2, hcz13_3, hcz13_4, hcz13_5⟩ := cells6 BK650.out
       obtain ⟨hfz13_0, hfz13_1, hfz13_2, hfz13_3, hfz13_4, hfz13_5⟩ := froz6 BK650.out
       go_wp2
       go_meet
       case rel => exact ⟨_, (true), (by first | rfl | (simp; done) | (simp [*]; done)), H', ⟨by first | omega | exact Nat.le_refl _⟩, ⟨bk BK650.out⟩, ⟨bel⟩⟩
      ·rw [if_neg c12] at H
       have c12b0 : decide (1000 < (l0_4.length : Int)) = false := decide_eq_false c12
       have c12b1 : decide (1000 < l0_4.length) = false := decide_eq_false (by omega)
       clear c12
       have H' := am H
       clear H
       obtain ⟨hcz14_0, hcz14_1, hcz14_2, hcz14_3, hcz14_4, hcz14_5⟩ := cells6 BK650.out
       obtain ⟨hfz14_0, hfz14_1, hfz14_2, hfz14_3, hfz14_4, hfz14_5⟩ := froz6 BK650.out
       go_wp2
       go_meet
       case rel => exact ⟨_, (decide ((a0_5.size : Int) > 40)), (by first | rfl | (simp; done) | (simp [*]; done)), H', ⟨by first | omega | exact Nat.le_refl _⟩, ⟨bk BK650.out⟩, ⟨bel⟩⟩
 case rest =>
  clear HC2
  try clear c1
  try clear c2
  try clear p2
  try clear c4
  try clear c4b0
  try clear c6
  try clear c6b0
  try clear c8
  try clear c8b0
  try clear c10
  try clear c10b0
  try clear c12
  try clear c12b0
  try clear c12b1
  try clear hcz11_0 hcz11_1 hcz11_2 hcz11_3 hcz11_4 hcz11_5
  try clear hcz13_0 hcz13_1 hcz13_2 hcz13_3 hcz13_4 hcz13_5
  try clear hcz14_0 hcz14_1 hcz14_2 hcz14_3 hcz14_4 hcz14_5
  try clear hcz5_0 hcz5_1 hcz5_2 hcz5_3 hcz5_4 hcz5_5
  try clear hcz7_0 hcz7_1 hcz7_2 hcz7_3 hcz7_4 hcz7_5
  try clear hcz9_0 hcz9_1 hcz9_2 hcz9_3 hcz9_4 hcz9_5
  try clear hfz11_0 hfz11_1 hfz11_2 hfz11_3 hfz11_4 hfz11_5
  try clear hfz13_0 hfz13_1 hfz13_2 hfz13_3 hfz13_4 hfz13_5
  try clear hfz14_0 hfz14_1 hfz14_2 hfz14_3 hfz14_4 hfz14_5
  try clear hfz5_0 hfz5_1 hfz5_2 hfz5_3 hfz5_4 hfz5_5
  try clear hfz7_0 hfz7_1 hfz7_2 hfz7_3 hfz7_4 hfz7_5
  try clear hfz9_0 hfz9_1 hfz9_2 hfz9_3 hfz9_4 hfz9_5
  obtain ⟨kq, x35_1, rfl, HA, HJ1, BK650, HB⟩ := hcut
  cases kq with
  | zero => exact absurd HA.out (by simp [federationref7_Right.j0])
  | succ kj1 =>
   have H := HA.out
   clear HA
   simp only [federationref7_Right.j0] at H
   by_cases c15 : x35_1 = true
   ·subst c15
    have H1 : (some false) = some r := by rw [if_pos rfl] at H; exact H
    clear H
    have H := H1
    clear H1
    obtain rfl := Option.some.inj H
    go_wp2
    go_ret
    exact ⟨er, bel⟩
   ·replace c15 := Bool.eq_false_iff.mpr c15
    subst c15
    have H1 : (if a0_0 = 2 then (federationref7_Right.j1 kj1 true a0_0 a0_1 a0_2 a0_3 l0_4 a0_5) else (federationref7_Right.j1 kj1 (a0_0 == 3) a0_0 a0_1 a0_2 a0_3 l0_4 a0_5)) = some r := by rw [if_neg (show ¬ (false = true) by decide)] at H; exact H
    clear H
    have H := H1
    clear H1
    have HC16 := am H
    clear H
    go_upto_region 3 with (fail)
    go_cut [3] (fun v3 wc => ∃ (kq : Nat) (x3_15 : Bool), v3 = .bool x3_15 ∧ Aside0 (federationref7_Right.j1 kq x3_15 a0_0 a0_1 a0_2 a0_3 l0_4 a0_5 = some r) ∧ Aside0 (kq ≤ kj1) ∧ Aside0 (wc.heap[gb650]? = some (.cells #[.int .i64 a0_0, .int .i64 a0_1, .int .i64 a0_2, .bool a0_3, (.slice A0_4 l0_4.length c0_4), .string a0_5] 26 (0, 0))) ∧ Aside0 (Below w.heap.size w wc))
    case first =>
     have H := HC16.out
     clear HC16
     by_cases c17 : a0_0 = 2
     ·rw [if_pos c17] at H
      have c17b0 : (a0_0 == 2) = true := beq_iff_eq.mpr c17
      have c17b1 : (a0_0 != 2) = false := bne_eq_false_iff_eq.mpr c17
      clear c17
      (first | rw [c17b0] | (simp only [i64_w, i32_w]; rw [c17b0]) | skip)
      have H' := am H
      clear H
      obtain ⟨hcz18_0, hcz18_1, hcz18_2, hcz18_3, hcz18_4, hcz18_5⟩ := cells6 BK650.out
      obtain ⟨hfz18_0, hfz18_1, hfz18_2, hfz18_3, hfz18_4, hfz18_5⟩ := froz6 BK650.out
      go_wp2
      go_meet
      case rel => exact ⟨_, (true), (by first | rfl | (simp; done) | (simp [*]; done)), H', ⟨by have := HJ1.out; first | omega | exact Nat.le_refl _⟩, ⟨bk BK650.out⟩, ⟨bel⟩⟩
     ·rw [if_neg c17] at H
      have c17b0 : (a0_0 == 2) = false := beq_eq_false_iff_ne.mpr c17
      have c17b1 : (a0_0 != 2) = true := bne_iff_ne.mpr c17
      (first | rw [c17b0] | (simp only [i64_w, i32_w]; rw [c17b0]) | skip)
      have H' := am H
      clear H
      obtain ⟨hcz19_0, hcz19_1, hcz19_2, hcz19_3, hcz19_4, hcz19_5⟩ := cells6 BK650.out
      obtain ⟨hfz19_0, hfz19_1, hfz19_2, hfz19_3, hfz19_4, hfz19_5⟩ := froz6 BK650.out
      go_wp2
      go_meet
      case rel => exact ⟨_, ((a0_0 == 3)), (by first | rfl | (simp; done) | (simp [*]; done)), H', ⟨by have := HJ1.out; first | omega | exact Nat.le_refl _⟩, ⟨bk BK650.out⟩, ⟨bel⟩⟩
    case rest =>
     clear HC16
     try clear c1
     try clear c2
     try clear p2
     try clear c4
     try clear c4b0
     try clear c6
     try clear c6b0
     try clear c8
     try clear c8b0
     try clear c10
     try clear c10b0
     try clear c12
     try clear c12b0
     try clear c12b1
     try clear c15
     try clear c17
     try clear c17b0
     try clear c17b1
     try clear hcz11_0 hcz11_1 hcz11_2 hcz11_3 hcz11_4 hcz11_5
     try clear hcz13_0 hcz13_1 hcz13_2 hcz13_3 hcz13_4 hcz13_5
     try clear hcz14_0 hcz14_1 hcz14_2 hcz14_3 hcz14_4 hcz14_5
     try clear hcz18_0 hcz18_1 hcz18_2 hcz18_3 hcz18_4 hcz18_5
     try clear hcz19_0 hcz19_1 hcz19_2 hcz19_3 hcz19_4 hcz19_5
     try clear hcz5_0 hcz5_1 hcz5_2 hcz5_3 hcz5_4 hcz5_5
     try clear hcz7_0 hcz7_1 hcz7_2 hcz7_3 hcz7_4 hcz7_5
     try clear hcz9_0 hcz9_1 hcz9_2 hcz9_3 hcz9_4 hcz9_5
     try clear hfz11_0 hfz11_1 hfz11_2 hfz11_3 hfz11_4 hfz11_5
     try clear hfz13_0 hfz13_1 hfz13_2 hfz13_3 hfz13_4 hfz13_5
     try clear hfz14_0 hfz14_1 hfz14_2 hfz14_3 hfz14_4 hfz14_5
     try clear hfz18_0 hfz18_1 hfz18_2 hfz18_3 hfz18_4 hfz18_5
     try clear hfz19_0 hfz19_1 hfz19_2 hfz19_3 hfz19_4 hfz19_5
     try clear hfz5_0 hfz5_1 hfz5_2 hfz5_3 hfz5_4 hfz5_5
     try clear hfz7_0 hfz7_1 hfz7_2 hfz7_3 hfz7_4 hfz7_5
     try clear hfz9_0 hfz9_1 hfz9_2 hfz9_3 hfz9_4 hfz9_5
     try clear p2
     obtain ⟨kq, x3_15, rfl, HA, HJ15, BK650, HB⟩ := hcut
     cases kq with
     | zero => exact absurd HA.out (by simp [federationref7_Right.j1])
     | succ kj15 =>
      have H := HA.out
      clear HA
      simp only [federationref7_Right.j1] at H
      have HC20 := am H
      clear H
      go_upto_region 4 with (fail)
      go_cut [65] (fun v65 wc => ∃ (kq : Nat) (x65_19 : Bool), v65 = .bool x65_19 ∧ Aside0 (federationref7_Right.j2 kq x65_19 a0_0 a0_1 a0_2 a0_3 l0_4 a0_5 = some r) ∧ Aside0 (kq ≤ kj15) ∧ Aside0 (wc.heap[gb650]? = some (.cells #[.int .i64 a0_0, .int .i64 a0_1, .int .i64 a0_2, .bool a0_3, (.slice A0_4 l0_4.length c0_4), .string a0_5] 26 (0, 0))) ∧ Aside0 (Below w.heap.size w wc))
      case first =>
       have H := HC20.out
       clear HC20
       by_cases c21 : x3_15 = true
       ·subst c21
        have H1 : (if a0_0 = 5 then (federationref7_Right.j2 kj15 false a0_0 a0_1 a0_2 a0_3 l0_4 a0_5) else (federationref7_Right.j2 kj15 (a0_5.toList != ([] : List UInt8)) a0_0 a0_1 a0_2 a0_3 l0_4 a0_5)) = some r := by rw [if_pos rfl] at H; exact H
        clear H
        have H := H1
        clear H1
        by_cases c22 : a0_0 = 5
        ·rw [if_pos c22] at H
         have c22b0 : (a0_0 == 5) = true := beq_iff_eq.mpr c22
         have c22b1 : (a0_0 != 5) = false := bne_eq_false_iff_eq.mpr c22
         clear c22
         (first | rw [c22b0] | (simp only [i64_w, i32_w]; rw [c22b0]) | skip)
         have H' := am H
         clear H
         obtain ⟨hcz23_0, hcz23_1, hcz23_2, hcz23_3, hcz23_4, hcz23_5⟩ := cells6 BK650.out
         obtain ⟨hfz23_0, hfz23_1, hfz23_2, hfz23_3, hfz23_4, hfz23_5⟩ := froz6 BK650.out
         go_wp2
         go_meet
         case rel => exact ⟨_, (false), (by first | rfl | (simp; done) | (simp [*]; done)), H', ⟨by have := HJ1.out; have := HJ15.out; first | omega | exact Nat.le_refl _⟩, ⟨bk BK650.out⟩, ⟨bel⟩⟩
        ·rw [if_neg c22] at H
         have c22b0 : (a0_0 == 5) = false := beq_eq_false_iff_ne.mpr c22
         have c22b1 : (a0_0 != 5) = true := bne_iff_ne.mpr c22
         (first | rw [c22b0] | (simp only [i64_w, i32_w]; rw [c22b0]) | skip)
         have H' := am H
         clear H
         obtain ⟨hcz24_0, hcz24_1, hcz24_2, hcz24_3, hcz24_4, hcz24_5⟩ := cells6 BK650.out
         obtain ⟨hfz24_0, hfz24_1, hfz24_2, hfz24_3, hfz24_4, hfz24_5⟩ := froz6 BK650.out
         go_wp2
         go_meet
         case rel => exact ⟨_, ((a0_5.toList != ([] : List UInt8))), (by first | rfl | (simp; done) | (simp [*]; done) | (simp; cases a0_5.toList <;> rfl)), H', ⟨by have := HJ1.out; have := HJ15.out; first | omega | exact Nat.le_refl _⟩, ⟨bk BK650.out⟩, ⟨bel⟩⟩
       ·replace c21 := Bool.eq_false_iff.mpr c21
        subst c21
        have H1 : (if a0_3 = true then (federationref7_Right.j2 kj15 true a0_0 a0_1 a0_2 a0_3 l0_4 a0_5) else (if (l0_4.length : Int) > 0 then (federationref7_Right.j2 kj15 true a0_0 a0_1 a0_2 a0_3 l0_4 a0_5) else (if a0_0 = 5 then (federationref7_Right.j2 kj15 false a0_0 a0_1 a0_2 a0_3 l0_4 a0_5) else (federationref7_Right.j2 kj15 (a0_5.toList != ([] : List UInt8)) a0_0 a0_1 a0_2 a0_3 l0_4 a0_5)))) = some r := by rw [if_neg (show ¬ (false = true) by decide)] at H; exact H
        clear H
        have H := H1
        clear H1
        by_cases c25 : a0_3 = true
        ·subst c25
         have H1 : (federationref7_Right.j2 kj15 true a0_0 a0_1 a0_2 true l0_4 a0_5) = some r := by rw [if_pos rfl] at H; exact H
         clear H
         have H := H1
         clear H1
         have H' := am H
         clear H
         obtain ⟨hcz26_0, hcz26_1, hcz26_2, hcz26_3, hcz26_4, hcz26_5⟩ := cells6 BK650.out
         obtain ⟨hfz26_0, hfz26_1, hfz26_2, hfz26_3, hfz26_4, hfz26_5⟩ := froz6 BK650.out
         go_wp2
         go_meet
         case rel => exact ⟨_, (true), (by first | rfl | (simp; done) | (simp [*]; done)), H', ⟨by have := HJ1.out; have := HJ15.out; first | omega | exact Nat.le_refl _⟩, ⟨bk BK650.out⟩, ⟨bel⟩⟩
        ·replace c25 := Bool.eq_false_iff.mpr c25
         subst c25
         have H1 : (if (l0_4.length : Int) > 0 then (federationref7_Right.j2 kj15 true a0_0 a0_1 a0_2 false l0_4 a0_5) else (if a0_0 = 5 then (federationref7_Right.j2 kj15 false a0_0 a0_1 a0_2 false l0_4 a0_5) else (federationref7_Right.j2 kj15 (a0_5.toList != ([] : List UInt8)) a0_0 a0_1 a0_2 false l0_4 a0_5))) = some r := by rw [if_neg (show ¬ (false = true) by decide)] at H; exact H
         clear H
         have H := H1
         clear H1
         by_cases c27 : (l0_4.length : Int) > 0
         ·rw [if_pos c27] at H
          have c27b0 : decide (0 < (l0_4.length : Int)) = true := decide_eq_true c27
          have c27b1 : decide (0 < l0_4.length) = true := decide_eq_true (by omega)
          clear c27
          have H' := am H
          clear H
          obtain ⟨hcz28_0, hcz28_1, hcz28_2, hcz28_3, hcz28_4, hcz28_5⟩ := cells6 BK650.out
          obtain ⟨hfz28_0, hfz28_1, hfz28_2, hfz28_3, hfz28_4, hfz28_5⟩ := froz6 BK650.out
          go_wp2
          go_meet
          case rel => exact ⟨_, (true), (by first | rfl | (simp; done) | (simp [*]; done)), H', ⟨by have := HJ1.out; have := HJ15.out; first | omega | exact Nat.le_refl _⟩, ⟨bk BK650.out⟩, ⟨bel⟩⟩
         ·rw [if_neg c27] at H
          have c27b0 : decide (0 < (l0_4.length : Int)) = false := decide_eq_false c27
          have c27b1 : decide (0 < l0_4.length) = false := decide_eq_false (by omega)
          clear c27
          by_cases c29 : a0_0 = 5
          ·rw [if_pos c29] at H
           have c29b0 : (a0_0 == 5) = true := beq_iff_eq.mpr c29
           have c29b1 : (a0_0 != 5) = false := bne_eq_false_iff_eq.mpr c29
           clear c29
           have H' := am H
           clear H
           obtain ⟨hcz30_0, hcz30_1, hcz30_2, hcz30_3, hcz30_4, hcz30_5⟩ := cells6 BK650.out
           obtain ⟨hfz30_0, hfz30_1, hfz30_2, hfz30_3, hfz30_4, hfz30_5⟩ := froz6 BK650.out
           go_wp2
           go_meet
           case rel => exact ⟨_, (false), (by first | rfl | (simp; done) | (simp [*]; done)), H', ⟨by have := HJ1.out; have := HJ15.out; first | omega | exact Nat.le_refl _⟩, ⟨bk BK650.out⟩, ⟨bel⟩⟩
          ·rw [if_neg c29] at H
           have c29b0 : (a0_0 == 5) = false := beq_eq_false_iff_ne.mpr c29
           have c29b1 : (a0_0 != 5) = true := bne_iff_ne.mpr c29
           have H' := am H
           clear H
           obtain ⟨hcz31_0, hcz31_1, hcz31_2, hcz31_3, hcz31_4, hcz31_5⟩ := cells6 BK650.out
           obtain ⟨hfz31_0, hfz31_1, hfz31_2, hfz31_3, hfz31_4, hfz31_5⟩ := froz6 BK650.out
           go_wp2
           go_meet
           case rel => exact ⟨_, ((a0_5.toList != ([] : List UInt8))), (by first | rfl | (simp; done) | (simp [*]; done) | (simp; cases a0_5.toList <;> rfl)), H', ⟨by have := HJ1.out; have := HJ15.out; first | omega | exact Nat.le_refl _⟩, ⟨bk BK650.out⟩, ⟨bel⟩⟩
      case rest =>
       clear HC20
       try clear c1
       try clear c2
       try clear p2
       try clear c4
       try clear c4b0
       try clear c6
       try clear c6b0
       try clear c8
       try clear c8b0
       try clear c10
       try clear c10b0
       try clear c12
       try clear c12b0
       try clear c12b1
       try clear c15
       try clear c17
       try clear c17b0
       try clear c17b1
       try clear c21
       try clear c22
       try clear c22b0
       try clear c22b1
       try clear c25
       try clear c27
       try clear c27b0
       try clear c27b1
       try clear c29
       try clear c29b0
       try clear c29b1
       try clear hcz11_0 hcz11_1 hcz11_2 hcz11_3 hcz11_4 hcz11_5
       try clear hcz13_0 hcz13_1 hcz13_2 hcz13_3 hcz13_4 hcz13_5
       try clear hcz14_0 hcz14_1 hcz14_2 hcz14_3 hcz14_4 hcz14_5
       try clear hcz18_0 hcz18_1 hcz18_2 hcz18_3 hcz18_4 hcz18_5
       try clear hcz19_0 hcz19_1 hcz19_2 hcz19_3 hcz19_4 hcz19_5
       try clear hcz23_0 hcz23_1 hcz23_2 hcz23_3 hcz23_4 hcz23_5
       try clear hcz24_0 hcz24_1 hcz24_2 hcz24_3 hcz24_4 hcz24_5
       try clear hcz26_0 hcz26_1 hcz26_2 hcz26_3 hcz26_4 hcz26_5
       try clear hcz28_0 hcz28_1 hcz28_2 hcz28_3 hcz28_4 hcz28_5
       try clear hcz30_0 hcz30_1 hcz30_2 hcz30_3 hcz30_4 hcz30_5
       try clear hcz31_0 hcz31_1 hcz31_2 hcz31_3 hcz31_4 hcz31_5
       try clear hcz5_0 hcz5_1 hcz5_2 hcz5_3 hcz5_4 hcz5_5
       try clear hcz7_0 hcz7_1 hcz7_2 hcz7_3 hcz7_4 hcz7_5
       try clear hcz9_0 hcz9_1 hcz9_2 hcz9_3 hcz9_4 hcz9_5
       try clear hfz11_0 hfz11_1 hfz11_2 hfz11_3 hfz11_4 hfz11_5
       try clear hfz13_0 hfz13_1 hfz13_2 hfz13_3 hfz13_4 hfz13_5
       try clear hfz14_0 hfz14_1 hfz14_2 hfz14_3 hfz14_4 hfz14_5
       try clear hfz18_0 hfz18_1 hfz18_2 hfz18_3 hfz18_4 hfz18_5
       try clear hfz19_0 hfz19_1 hfz19_2 hfz19_3 hfz19_4 hfz19_5
       try clear hfz23_0 hfz23_1 hfz23_2 hfz23_3 hfz23_4 hfz23_5
       try clear hfz24_0 hfz24_1 hfz24_2 hfz24_3 hfz24_4 hfz24_5
       try clear hfz26_0 hfz26_1 hfz26_2 hfz26_3 hfz26_4 hfz26_5
       try clear hfz28_0 hfz28_1 hfz28_2 hfz28_3 hfz28_4 hfz28_5
       try clear hfz30_0 hfz30_1 hfz30_2 hfz30_3 hfz30_4 hfz30_5
       try clear hfz31_0 hfz31_1 hfz31_2 hfz31_3 hfz31_4 hfz31_5
       try clear hfz5_0 hfz5_1 hfz5_2 hfz5_3 hfz5_4 hfz5_5
       try clear hfz7_0 hfz7_1 hfz7_2 hfz7_3 hfz7_4 hfz7_5
       try clear hfz9_0 hfz9_1 hfz9_2 hfz9_3 hfz9_4 hfz9_5
       try clear p2
       obtain ⟨kq, x65_19, rfl, HA, HJ19, BK650, HB⟩ := hcut
       cases kq with
       | zero => exact absurd HA.out (by simp [federationref7_Right.j2])
       | succ kj19 =>
        have H := HA.out
        clear HA
        simp only [federationref7_Right.j2] at H
        by_cases c32 : x65_19 = true
        ·subst c32
         have H1 : (some false) = some r := by rw [if_pos rfl] at H; exact H
         clear H
         have H := H1
         clear H1
         obtain rfl := Option.some.inj H
         go_wp2
         go_ret
         exact ⟨er, bel⟩
        ·replace c32 := Bool.eq_false_iff.mpr c32
         subst c32
         have H1 : (federationref7_Right.l0 kj19 0 a0_0 a0_1 a0_2 a0_3 l0_4 a0_5) = some r := by rw [if_neg (show ¬ (false = true) by decide)] at H; exact H
         clear H
         have H := H1
         clear H1
         have H' := am H
         clear H
         go_wp2
         go_loopg [4] kj19 (fun kq v4 w' => ∃ (x4_4 : Int), v4 = .int .i64 x4_4 ∧ Aside0 (federationref7_Right.l0 kq x4_4 a0_0 a0_1 a0_2 a0_3 l0_4 a0_5 = some r) ∧ Aside0 (kq ≤ kj19) ∧ Aside0 (w'.heap[gb650]? = some (.cells #[.int .i64 a0_0, .int .i64 a0_1, .int .i64 a0_2, .bool a0_3, (.slice A0_4 l0_4.length c0_4), .string a0_5] 26 (0, 0))) ∧ Aside0 (Below w.heap.size w w'))
         case atStart => exact ⟨(0), (by first | rfl | (simp; done) | (simp [*]; done)), H', ⟨Nat.le_refl _⟩, ⟨bk BK650.out⟩, ⟨bel⟩⟩
         case round =>
          clear H'
          try clear c1
          try clear c2
          try clear p2
          try clear c3
          try clear c4
          try clear c4b0
          try clear c6
          try clear c6b0
          try clear c8
          try clear c8b0
          try clear c10
          try clear c10b0
          try clear c12
          try clear c12b0
          try clear c12b1
          try clear c15
          try clear c17
          try clear c17b0
          try clear c17b1
          try clear c21
          try clear c22
          try clear c22b0
          try clear c22b1
          try clear c25
          try clear c27
          try clear c27b0
          try clear c27b1
          try clear c29
          try clear c29b0
          try clear c29b1
          try clear c32
          try clear hcz11_0 hcz11_1 hcz11_2 hcz11_3 hcz11_4 hcz11_5
          try clear hcz13_0 hcz13_1 hcz13_2 hcz13_3 hcz13_4 hcz13_5
          try clear hcz14_0 hcz14_1 hcz14_2 hcz14_3 hcz14_4 hcz14_5
          try clear hcz18_0 hcz18_1 hcz18_2 hcz18_3 hcz18_4 hcz18_5
          try clear hcz19_0 hcz19_1 hcz19_2 hcz19_3 hcz19_4 hcz19_5
          try clear hcz23_0 hcz23_1 hcz23_2 hcz23_3 hcz23_4 hcz23_5
          try clear hcz24_0 hcz24_1 hcz24_2 hcz24_3 hcz24_4 hcz24_5
          try clear hcz26_0 hcz26_1 hcz26_2 hcz26_3 hcz26_4 hcz26_5
          try clear hcz28_0 hcz28_1 hcz28_2 hcz28_3 hcz28_4 hcz28_5
          try clear hcz30_0 hcz30_1 hcz30_2 hcz30_3 hcz30_4 hcz30_5
          try clear hcz31_0 hcz31_1 hcz31_2 hcz31_3 hcz31_4 hcz31_5
          try clear hcz5_0 hcz5_1 hcz5_2 hcz5_3 hcz5_4 hcz5_5
          try clear hcz7_0 hcz7_1 hcz7_2 hcz7_3 hcz7_4 hcz7_5
          try clear hcz9_0 hcz9_1 hcz9_2 hcz9_3 hcz9_4 hcz9_5
          try clear hfz11_0 hfz11_1 hfz11_2 hfz11_3 hfz11_4 hfz11_5
          try clear hfz13_0 hfz13_1 hfz13_2 hfz13_3 hfz13_4 hfz13_5
          try clear hfz14_0 hfz14_1 hfz14_2 hfz14_3 hfz14_4 hfz14_5
          try clear hfz18_0 hfz18_1 hfz18_2 hfz18_3 hfz18_4 hfz18_5
          try clear hfz19_0 hfz19_1 hfz19_2 hfz19_3 hfz19_4 hfz19_5
          try clear hfz23_0 hfz23_1 hfz23_2 hfz23_3 hfz23_4 hfz23_5
          try clear hfz24_0 hfz24_1 hfz24_2 hfz24_3 hfz24_4 hfz24_5
          try clear hfz26_0 hfz26_1 hfz26_2 hfz26_3 hfz26_4 hfz26_5
          try clear hfz28_0 hfz28_1 hfz28_2 hfz28_3 hfz28_4 hfz28_5
          try clear hfz30_0 hfz30_1 hfz30_2 hfz30_3 hfz30_4 hfz30_5
          try clear hfz31_0 hfz31_1 hfz31_2 hfz31_3 hfz31_4 hfz31_5
          try clear hfz5_0 hfz5_1 hfz5_2 hfz5_3 hfz5_4 hfz5_5
          try clear hfz7_0 hfz7_1 hfz7_2 hfz7_3 hfz7_4 hfz7_5
          try clear hfz9_0 hfz9_1 hfz9_2 hfz9_3 hfz9_4 hfz9_5
          try clear p2
          obtain ⟨x4_4, rfl, HA, HK4, BK650, HB⟩ := hrel
          cases gk with
          | zero => exact absurd HA.out (by simp [federationref7_Right.l0])
          | succ k4 =>
           have H := HA.out
           clear HA
           simp only [federationref7_Right.l0] at H
           by_cases c33 : x4_4 < (l0_4.length : Int)
           ·rw [if_pos c33] at H
            have c33b0 : decide (x4_4 < (l0_4.length : Int)) = true := decide_eq_true c33
            clear c33
            by_cases c34 : 0 ≤ x4_4
            ·rw [if_pos c34] at H
             have c34b0 : decide (0 ≤ x4_4) = true := decide_eq_true c34
             clear c34
             by_cases c35 : (((rd_T40 l0_4 x4_4).f0).size : Int) < 1
             ·rw [if_pos c35] at H
              have c35b0 : decide ((((rd_T40 l0_4 x4_4).f0).size : Int) < 1) = true := decide_eq_true c35
              have c35b1 : decide (((rd_T40 l0_4 x4_4).f0).size < 1) = true := decide_eq_true (by omega)
              clear c35
              obtain rfl := Option.some.inj H
              obtain ⟨hcz36_0, hcz36_1, hcz36_2, hcz36_3, hcz36_4, hcz36_5⟩ := cells6 BK650.out
              obtain ⟨hfz36_0, hfz36_1, hfz36_2, hfz36_3, hfz36_4, hfz36_5⟩ := froz6 BK650.out
              have p651 : 0 ≤ (x4_4 : Int) := of_decide_eq_true (by first | (with_reducible assumption) | assumption)
              have q651 : x4_4 < (l0_4.length : Int) := of_decide_eq_true (by first | (with_reducible assumption) | assumption)
              obtain ⟨ad651, e651, hx651_0, hx651_1, hx651_2⟩ := at_T40 HR0_4.out x4_4 p651 q651
              cases e651
              replace hx651_0 := (HB.out.cell (World.block_lt_of_cell? w _ hx651_0)).trans hx651_0
              replace hx651_1 := (HB.out.cell (World.block_lt_of_cell? w _ hx651_1)).trans hx651_1
              replace hx651_2 := (HB.out.cell (World.block_lt_of_cell? w _ hx651_2)).trans hx651_2
              replace p651 := eq_true p651
              replace q651 := eq_true q651
              go_wp2_with (first | ((with_reducible refine gate_dst (N := 5) rfl ?_); refine bx 5 40 (cs := #[.string (⟨#[]⟩ : ByteArray), .string (⟨#[]⟩ : ByteArray), .bool false]) ?_; intro gb652 hg w37 hbox hb; have n_ := z7 (blk_below (bk BK650.out) hb) (below_step bel hb) (hbox) ((by rw [hg]; exact (below_size bel) : w.heap.size ≤ gb652)) ((by rw [hg]; exact (below_size bel) : w.heap.size ≤ gb652)) ((by rw [hg]; exact Nat.ne_of_lt (blk_lt (bk BK650.out)) : gb650 ≠ gb652)) ((by rw [hg]; exact Nat.ne_of_gt (blk_lt (bk BK650.out)) : gb652 ≠ gb650)); clear BK650 HB; obtain ⟨BK650, HB, BK652, GW652, GE652, NB650_652, NB652_650⟩ := n_; clear hb hbox hg; have hnb38 := NB652_650.out; have hnc38 := NB650_652.out; obtain ⟨hcz39_0, hcz39_1, hcz39_2⟩ := cells3 BK652.out; obtain ⟨hfz39_0, hfz39_1, hfz39_2⟩ := froz3 BK652.out))
              go_ret
              exact ⟨er, bel⟩
             ·rw [if_neg c35] at H
              have c35b0 : decide ((((rd_T40 l0_4 x4_4).f0).size : Int) < 1) = false := decide_eq_false c35
              have c35b1 : decide (((rd_T40 l0_4 x4_4).f0).size < 1) = false := decide_eq_false (by omega)
              clear c35
              by_cases c40 : (((rd_T40 l0_4 x4_4).f0).size : Int) > 300
              ·rw [if_pos c40] at H
               have c40b0 : decide (300 < (((rd_T40 l0_4 x4_4).f0).size : Int)) = true := decide_eq_true c40
               have c40b1 : decide (300 < ((rd_T40 l0_4 x4_4).f0).size) = true := decide_eq_true (by omega)
               clear c40
               obtain rfl := Option.some.inj H
               obtain ⟨hcz41_0, hcz41_1, hcz41_2, hcz41_3, hcz41_4, hcz41_5⟩ := cells6 BK650.out
               obtain ⟨hfz41_0, hfz41_1, hfz41_2, hfz41_3, hfz41_4, hfz41_5⟩ := froz6 BK650.out
               have p651 : 0 ≤ (x4_4 : Int) := of_decide_eq_true (by first | (with_reducible assumption) | assumption)
               have q651 : x4_4 < (l0_4.length : Int) := of_decide_eq_true (by first | (with_reducible assumption) | assumption)
               obtain ⟨ad651, e651, hx651_0, hx651_1, hx651_2⟩ := at_T40 HR0_4.out x4_4 p651 q651
               cases e651
               replace hx651_0 := (HB.out.cell (World.block_lt_of_cell? w _ hx651_0)).trans hx651_0
               replace hx651_1 := (HB.out.cell (World.block_lt_of_cell? w _ hx651_1)).trans hx651_1
               replace hx651_2 := (HB.out.cell (World.block_lt_of_cell? w _ hx651_2)).trans hx651_2
               replace p651 := eq_true p651
               replace q651 := eq_true q651
               go_wp2_with (first | ((with_reducible refine gate_dst (N := 5) rfl ?_); refine bx 5 40 (cs := #[.string (⟨#[]⟩ : ByteArray), .string (⟨#[]⟩ : ByteArray), .bool false]) ?_; intro gb652 hg w42 hbox hb; have n_ := z7 (blk_below (bk BK650.out) hb) (below_step bel hb) (hbox) ((by rw [hg]; exact (below_size bel) : w.heap.size ≤ gb652)) ((by rw [hg]; exact (below_size bel) : w.heap.size ≤ gb652)) ((by rw [hg]; exact Nat.ne_of_lt (blk_lt (bk BK650.out)) : gb650 ≠ gb652)) ((by rw [hg]; exact Nat.ne_of_gt (blk_lt (bk BK650.out)) : gb652 ≠ gb650)); clear BK650 HB; obtain ⟨BK650, HB, BK652, GW652, GE652, NB650_652, NB652_650⟩ := n_; clear hb hbox hg; have hnb43 := NB652_650.out; have hnc43 := NB650_652.out; obtain ⟨hcz44_0, hcz44_1, hcz44_2⟩ := cells3 BK652.out; obtain ⟨hfz44_0, hfz44_1, hfz44_2⟩ := froz3 BK652.out))
               go_ret
               exact ⟨er, bel⟩
              ·rw [if_neg c40] at H
               have c40b0 : decide (300 < (((rd_T40 l0_4 x4_4).f0).size : Int)) = false := decide_eq_false c40
               have c40b1 : decide (300 < ((rd_T40 l0_4 x4_4).f0).size) = false := decide_eq_false (by omega)
               clear c40
               by_cases c45 : (((rd_T40 l0_4 x4_4).f1).size : Int) > 4000
               ·rw [if_pos c45] at H
                have c45b0 : decide (4000 < (((rd_T40 l0_4 x4_4).f1).size : Int)) = true := decide_eq_true c45
                have c45b1 : decide (4000 < ((rd_T40 l0_4 x4_4).f1).size) = true := decide_eq_true (by omega)
                clear c45
                obtain rfl := Option.some.inj H
                obtain ⟨hcz46_0, hcz46_1, hcz46_2, hcz46_3, hcz46_4, hcz46_5⟩ := cells6 BK650.out
                obtain ⟨hfz46_0, hfz46_1, hfz46_2, hfz46_3, hfz46_4, hfz46_5⟩ := froz6 BK650.out
                have p651 : 0 ≤ (x4_4 : Int) := of_decide_eq_true (by first | (with_reducible assumption) | assumption)
                have q651 : x4_4 < (l0_4.length : Int) := of_decide_eq_true (by first | (with_reducible assumption) | assumption)
                obtain ⟨ad651, e651, hx651_0, hx651_1, hx651_2⟩ := at_T40 HR0_4.out x4_4 p651 q651
                cases e651
                replace hx651_0 := (HB.out.cell (World.block_lt_of_cell? w _ hx651_0)).trans hx651_0
                replace hx651_1 := (HB.out.cell (World.block_lt_of_cell? w _ hx651_1)).trans hx651_1
                replace hx651_2 := (HB.out.cell (World.block_lt_of_cell? w _ hx651_2)).trans hx651_2
                replace p651 := eq_true p651
                replace q651 := eq_true q651
                go_wp2_with (first | ((with_reducible refine gate_dst (N := 5) rfl ?_); refine bx 5 40 (cs := #[.string (⟨#[]⟩ : ByteArray), .string (⟨#[]⟩ : ByteArray), .bool false]) ?_; intro gb652 hg w47 hbox hb; have n_ := z7 (blk_below (bk BK650.out) hb) (below_step bel hb) (hbox) ((by rw [hg]; exact (below_size bel) : w.heap.size ≤ gb652)) ((by rw [hg]; exact (below_size bel) : w.heap.size ≤ gb652)) ((by rw [hg]; exact Nat.ne_of_lt (blk_lt (bk BK650.out)) : gb650 ≠ gb652)) ((by rw [hg]; exact Nat.ne_of_gt (blk_lt (bk BK650.out)) : gb652 ≠ gb650)); clear BK650 HB; obtain ⟨BK650, HB, BK652, GW652, GE652, NB650_652, NB652_650⟩ := n_; clear hb hbox hg; have hnb48 := NB652_650.out; have hnc48 := NB650_652.out; obtain ⟨hcz49_0, hcz49_1, hcz49_2⟩ := cells3 BK652.out; obtain ⟨hfz49_0, hfz49_1, hfz49_2⟩ := froz3 BK652.out))
                go_ret
                exact ⟨er, bel⟩
               ·rw [if_neg c45] at H
                have c45b0 : decide (4000 < (((rd_T40 l0_4 x4_4).f1).size : Int)) = false := decide_eq_false c45
                have c45b1 : decide (4000 < ((rd_T40 l0_4 x4_4).f1).size) = false := decide_eq_false (by omega)
                clear c45
                obtain ⟨bq50, hbq50⟩ : ∃ b_ : Bool, b_ = ((rd_T40 l0_4 x4_4).f2) := ⟨_, rfl⟩
                replace H : (if bq50 = true then (if ((rd_T40 l0_4 x4_4).f1).toList = ([] : List UInt8) then (federationref7_Right.l0 k4 (wrap64 (x4_4 + 1)) a0_0 a0_1 a0_2 a0_3 l0_4 a0_5) else (some false)) else (federationref7_Right.l0 k4 (wrap64 (x4_4 + 1)) a0_0 a0_1 a0_2 a0_3 l0_4 a0_5)) = some r := by rw [← hbq50] at H; exact H
                have Nbq50 := am hbq50
                clear hbq50
                by_cases c51 : bq50 = true
                ·subst c51
                 have H1 : (if ((rd_T40 l0_4 x4_4).f1).toList = ([] : List UInt8) then (federationref7_Right.l0 k4 (wrap64 (x4_4 + 1)) a0_0 a0_1 a0_2 a0_3 l0_4 a0_5) else (some false)) = some r := by rw [if_pos rfl] at H; exact H
                 clear H
                 have H := H1
                 clear H1
                 by_cases c52 : ((rd_T40 l0_4 x4_4).f1).toList = ([] : List UInt8)
                 ·rw [if_pos c52] at H
                  have c52b0 : (((rd_T40 l0_4 x4_4).f1).toList == ([] : List UInt8)) = true := beq_iff_eq.mpr c52
                  have c52b1 : (((rd_T40 l0_4 x4_4).f1).toList != ([] : List UInt8)) = false := bne_eq_false_iff_eq.mpr c52
                  clear c52
                  have H' := am H
                  clear H
                  obtain ⟨hcz53_0, hcz53_1, hcz53_2, hcz53_3, hcz53_4, hcz53_5⟩ := cells6 BK650.out
                  obtain ⟨hfz53_0, hfz53_1, hfz53_2, hfz53_3, hfz53_4, hfz53_5⟩ := froz6 BK650.out
                  have p651 : 0 ≤ (x4_4 : Int) := of_decide_eq_true (by first | (with_reducible assumption) | assumption)
                  have q651 : x4_4 < (l0_4.length : Int) := of_decide_eq_true (by first | (with_reducible assumption) | assumption)
                  obtain ⟨ad651, e651, hx651_0, hx651_1, hx651_2⟩ := at_T40 HR0_4.out x4_4 p651 q651
                  (try rw [← Nbq50.out] at hx651_2)
                  cases e651
                  replace hx651_0 := (HB.out.cell (World.block_lt_of_cell? w _ hx651_0)).trans hx651_0
                  replace hx651_1 := (HB.out.cell (World.block_lt_of_cell? w _ hx651_1)).trans hx651_1
                  replace hx651_2 := (HB.out.cell (World.block_lt_of_cell? w _ hx651_2)).trans hx651_2
                  replace p651 := eq_true p651
                  replace q651 := eq_true q651
                  go_wp2_with (first | ((with_reducible refine gate_dst (N := 5) rfl ?_); refine bx 5 40 (cs := #[.string (⟨#[]⟩ : ByteArray), .string (⟨#[]⟩ : ByteArray), .bool false]) ?_; intro gb652 hg w54 hbox hb; have n_ := z7 (blk_below (bk BK650.out) hb) (below_step bel hb) (hbox) ((by rw [hg]; exact (below_size bel) : w.heap.size ≤ gb652)) ((by rw [hg]; exact (below_size bel) : w.heap.size ≤ gb652)) ((by rw [hg]; exact Nat.ne_of_lt (blk_lt (bk BK650.out)) : gb650 ≠ gb652)) ((by rw [hg]; exact Nat.ne_of_gt (blk_lt (bk BK650.out)) : gb652 ≠ gb650)); clear BK650 HB; obtain ⟨BK650, HB, BK652, GW652, GE652, NB650_652, NB652_650⟩ := n_; clear hb hbox hg; have hnb55 := NB652_650.out; have hnc55 := NB650_652.out; obtain ⟨hcz56_0, hcz56_1, hcz56_2⟩ := cells3 BK652.out; obtain ⟨hfz56_0, hfz56_1, hfz56_2⟩ := froz3 BK652.out))
                  go_roundg k4
                  case measure => have := HJ1.out; have := HJ15.out; have := HJ19.out; have := HK4.out; omega
                  case rel => exact ⟨(wrap64 (x4_4 + 1)), (by first | rfl | (simp; done) | (simp [*]; done)), H', ⟨by have := HJ1.out; have := HJ15.out; have := HJ19.out; have := HK4.out; omega⟩, ⟨bk BK650.out⟩, ⟨bel⟩⟩
                 ·rw [if_neg c52] at H
                  have c52b0 : (((rd_T40 l0_4 x4_4).f1).toList == ([] : List UInt8)) = false := beq_eq_false_iff_ne.mpr c52
                  have c52b1 : (((rd_T40 l0_4 x4_4).f1).toList != ([] : List UInt8)) = true := bne_iff_ne.mpr c52
                  obtain rfl := Option.some.inj H
                  obtain ⟨hcz57_0, hcz57_1, hcz57_2, hcz57_3, hcz57_4, hcz57_5⟩ := cells6 BK650.out
                  obtain ⟨hfz57_0, hfz57_1, hfz57_2, hfz57_3, hfz57_4, hfz57_5⟩ := froz6 BK650.out
                  have p651 : 0 ≤ (x4_4 : Int) := of_decide_eq_true (by first | (with_reducible assumption) | assumption)
                  have q651 : x4_4 < (l0_4.length : Int) := of_decide_eq_true (by first | (with_reducible assumption) | assumption)
                  obtain ⟨ad651, e651, hx651_0, hx651_1, hx651_2⟩ := at_T40 HR0_4.out x4_4 p651 q651
                  (try rw [← Nbq50.out] at hx651_2)
                  cases e651
                  replace hx651_0 := (HB.out.cell (World.block_lt_of_cell? w _ hx651_0)).trans hx651_0
                  replace hx651_1 := (HB.out.cell (World.block_lt_of_cell? w _ hx651_1)).trans hx651_1
                  replace hx651_2 := (HB.out.cell (World.block_lt_of_cell? w _ hx651_2)).trans hx651_2
                  replace p651 := eq_true p651
                  replace q651 := eq_true q651
                  go_wp2_with (first | ((with_reducible refine gate_dst (N := 5) rfl ?_); refine bx 5 40 (cs := #[.string (⟨#[]⟩ : ByteArray), .string (⟨#[]⟩ : ByteArray), .bool false]) ?_; intro gb652 hg w58 hbox hb; have n_ := z7 (blk_below (bk BK650.out) hb) (below_step bel hb) (hbox) ((by rw [hg]; exact (below_size bel) : w.heap.size ≤ gb652)) ((by rw [hg]; exact (below_size bel) : w.heap.size ≤ gb652)) ((by rw [hg]; exact Nat.ne_of_lt (blk_lt (bk BK650.out)) : gb650 ≠ gb652)) ((by rw [hg]; exact Nat.ne_of_gt (blk_lt (bk BK650.out)) : gb652 ≠ gb650)); clear BK650 HB; obtain ⟨BK650, HB, BK652, GW652, GE652, NB650_652, NB652_650⟩ := n_; clear hb hbox hg; have hnb59 := NB652_650.out; have hnc59 := NB650_652.out; obtain ⟨hcz60_0, hcz60_1, hcz60_2⟩ := cells3 BK652.out; obtain ⟨hfz60_0, hfz60_1, hfz60_2⟩ := froz3 BK652.out))
                  go_ret
                  exact ⟨er, bel⟩
                ·replace c51 := Bool.eq_false_iff.mpr c51
                 subst c51
                 have H1 : (federationref7_Right.l0 k4 (wrap64 (x4_4 + 1)) a0_0 a0_1 a0_2 a0_3 l0_4 a0_5) = some r := by rw [if_neg (show ¬ (false = true) by decide)] at H; exact H
                 clear H
                 have H := H1
                 clear H1
                 have H' := am H
                 clear H
                 obtain ⟨hcz61_0, hcz61_1, hcz61_2, hcz61_3, hcz61_4, hcz61_5⟩ := cells6 BK650.out
                 obtain ⟨hfz61_0, hfz61_1, hfz61_2, hfz61_3, hfz61_4, hfz61_5⟩ := froz6 BK650.out
                 have p651 : 0 ≤ (x4_4 : Int) := of_decide_eq_true (by first | (with_reducible assumption) | assumption)
                 have q651 : x4_4 < (l0_4.length : Int) := of_decide_eq_true (by first | (with_reducible assumption) | assumption)
                 obtain ⟨ad651, e651, hx651_0, hx651_1, hx651_2⟩ := at_T40 HR0_4.out x4_4 p651 q651
                 (try rw [← Nbq50.out] at hx651_2)
                 cases e651
                 replace hx651_0 := (HB.out.cell (World.block_lt_of_cell? w _ hx651_0)).trans hx651_0
                 replace hx651_1 := (HB.out.cell (World.block_lt_of_cell? w _ hx651_1)).trans hx651_1
                 replace hx651_2 := (HB.out.cell (World.block_lt_of_cell? w _ hx651_2)).trans hx651_2
                 replace p651 := eq_true p651
                 replace q651 := eq_true q651
                 go_wp2_with (first | ((with_reducible refine gate_dst (N := 5) rfl ?_); refine bx 5 40 (cs := #[.string (⟨#[]⟩ : ByteArray), .string (⟨#[]⟩ : ByteArray), .bool false]) ?_; intro gb652 hg w62 hbox hb; have n_ := z7 (blk_below (bk BK650.out) hb) (below_step bel hb) (hbox) ((by rw [hg]; exact (below_size bel) : w.heap.size ≤ gb652)) ((by rw [hg]; exact (below_size bel) : w.heap.size ≤ gb652)) ((by rw [hg]; exact Nat.ne_of_lt (blk_lt (bk BK650.out)) : gb650 ≠ gb652)) ((by rw [hg]; exact Nat.ne_of_gt (blk_lt (bk BK650.out)) : gb652 ≠ gb650)); clear BK650 HB; obtain ⟨BK650, HB, BK652, GW652, GE652, NB650_652, NB652_650⟩ := n_; clear hb hbox hg; have hnb63 := NB652_650.out; have hnc63 := NB650_652.out; obtain ⟨hcz64_0, hcz64_1, hcz64_2⟩ := cells3 BK652.out; obtain ⟨hfz64_0, hfz64_1, hfz64_2⟩ := froz3 BK652.out))
                 go_roundg k4
                 case measure => have := HJ1.out; have := HJ15.out; have := HJ19.out; have := HK4.out; omega
                 case rel => exact ⟨(wrap64 (x4_4 + 1)), (by first | rfl | (simp; done) | (simp [*]; done)), H', ⟨by have := HJ1.out; have := HJ15.out; have := HJ19.out; have := HK4.out; omega⟩, ⟨bk BK650.out⟩, ⟨bel⟩⟩
            ·rw [if_neg c34] at H
             exact absurd H (by simp)
           ·rw [if_neg c33] at H
            have c33b0 : decide (x4_4 < (l0_4.length : Int)) = false := decide_eq_false c33
            clear c33
            obtain rfl := Option.some.inj H
            obtain ⟨hcz65_0, hcz65_1, hcz65_2, hcz65_3, hcz65_4, hcz65_5⟩ := cells6 BK650.out
            obtain ⟨hfz65_0, hfz65_1, hfz65_2, hfz65_3, hfz65_4, hfz65_5⟩ := froz6 BK650.out
            go_wp2
            go_ret
            exact ⟨er, bel⟩
end Go.Proofs.Ytagjmphkfeiiiaa.Q
