/- One function's walk, or a law's, by the text that a program of this session prints; what each theorem says stands in it. -/
import Derived.Test.YtagjmphkfeiiiaaQx0
import Derived.Test.YtagjmphkfeiiiaaXs
namespace Go.Proofs.Ytagjmphkfeiiiaa.Q
open Go.RowKit Go.Proofs.YtagjmphkfeiiiaaW.PrintWords Go.Proofs.YtagjmphkfeiiiaaW.PrintLast Go.Proofs.YtagjmphkfeiiiaaW.PrintMore
attribute [local go_sem] min2_int min_two
set_option linter.unusedVariables false
set_option linter.unusedSimpArgs false
def cmd_rightWrite.f (a0_0 : ByteArray) (a0_1 : ByteArray) (a0_2 : Bool) : Option (Bool) := if (a0_0.size : Int) ≥ 1 then (if (a0_0.size : Int) ≤ 300 then (if (a0_1.size : Int) ≤ 4000 then (if a0_2 = true then (some (a0_1.toList == ([] : List UInt8))) else (some true)) else (some false)) else (some false)) else (some false)
set_option maxHeartbeats 8000000 in
set_option maxRecDepth 100000 in
theorem cmd_rightWrite.calls (a0_0 : ByteArray) (a0_1 : ByteArray) (a0_2 : Bool) (r : Bool) (w : World) (h : cmd_rightWrite.f a0_0 a0_1 a0_2 = some r) :
  Calls Try.prog 35 #[.agg #[.string a0_0, .string a0_1, .bool a0_2]] w fun e w' => e = .returned (.bool r) ∧ Below w.heap.size w w' := by
 have hu40 := Try.underlying40
 have HB := am (Below.refl w.heap.size w)
 have H : (if (a0_0.size : Int) ≥ 1 then (if (a0_0.size : Int) ≤ 300 then (if (a0_1.size : Int) ≤ 4000 then (if a0_2 = true then (some (a0_1.toList == ([] : List UInt8))) else (some true)) else (some false)) else (some false)) else (some false)) = some r := h
 clear h
 by_cases c2 : (a0_0.size : Int) ≥ 1
 ·rw [if_pos c2] at H
  have c2b0 : decide (1 ≤ (a0_0.size : Int)) = true := decide_eq_true c2
  have c2b1 : decide (1 ≤ a0_0.size) = true := decide_eq_true (by omega)
  clear c2
  by_cases c3 : (a0_0.size : Int) ≤ 300
  ·rw [if_pos c3] at H
   have c3b0 : decide ((a0_0.size : Int) ≤ 300) = true := decide_eq_true c3
   have c3b1 : decide (a0_0.size ≤ 300) = true := decide_eq_true (by omega)
   clear c3
   by_cases c4 : (a0_1.size : Int) ≤ 4000
   ·rw [if_pos c4] at H
    have c4b0 : decide ((a0_1.size : Int) ≤ 4000) = true := decide_eq_true c4
    have c4b1 : decide (a0_1.size ≤ 4000) = true := decide_eq_true (by omega)
    clear c4
    by_cases c5 : a0_2 = true
    ·subst c5
     have H1 : (some (a0_1.toList == ([] : List UInt8))) = some r := by rw [if_pos rfl] at H; exact H
     clear H
     have H := H1
     clear H1
     obtain rfl := Option.some.inj H
     go_enter Try.func35, Try.ntmps35
     go_wp2_with (first | ((with_reducible refine gate_dst (N := 1) rfl ?_); refine bx 1 40 (cs := #[.string a0_0, .string a0_1, .bool true]) ?_; intro gb101 hg w6 hbox hb; have n_ := z4 (below_step bel hb) (hbox) ((by rw [hg]; exact (below_size bel) : w.heap.size ≤ gb101)) ((by rw [hg]; exact (below_size bel) : w.heap.size ≤ gb101)); clear HB; obtain ⟨HB, BK101, GW101, GE101⟩ := n_; clear hb hbox hg; obtain ⟨hcz7_0, hcz7_1, hcz7_2⟩ := cells3 BK101.out; obtain ⟨hfz7_0, hfz7_1, hfz7_2⟩ := froz3 BK101.out))
     go_ret
     exact ⟨er, bel⟩
    ·replace c5 := Bool.eq_false_iff.mpr c5
     subst c5
     have H1 : (some true) = some r := by rw [if_neg (show ¬ (false = true) by decide)] at H; exact H
     clear H
     have H := H1
     clear H1
     obtain rfl := Option.some.inj H
     go_enter Try.func35, Try.ntmps35
     go_wp2_with (first | ((with_reducible refine gate_dst (N := 1) rfl ?_); refine bx 1 40 (cs := #[.string a0_0, .string a0_1, .bool false]) ?_; intro gb101 hg w8 hbox hb; have n_ := z4 (below_step bel hb) (hbox) ((by rw [hg]; exact (below_size bel) : w.heap.size ≤ gb101)) ((by rw [hg]; exact (below_size bel) : w.heap.size ≤ gb101)); clear HB; obtain ⟨HB, BK101, GW101, GE101⟩ := n_; clear hb hbox hg; obtain ⟨hcz9_0, hcz9_1, hcz9_2⟩ := cells3 BK101.out; obtain ⟨hfz9_0, hfz9_1, hfz9_2⟩ := froz3 BK101.out))
     go_ret
     exact ⟨er, bel⟩
   ·rw [if_neg c4] at H
    have c4b0 : decide ((a0_1.size : Int) ≤ 4000) = false := decide_eq_false c4
    have c4b1 : decide (a0_1.size ≤ 4000) = false := decide_eq_false (by omega)
    clear c4
    obtain rfl := Option.some.inj H
    go_enter Try.func35, Try.ntmps35
    go_wp2_with (first | ((with_reducible refine gate_dst (N := 1) rfl ?_); refine bx 1 40 (cs := #[.string a0_0, .string a0_1, .bool a0_2]) ?_; intro gb101 hg w10 hbox hb; have n_ := z4 (below_step bel hb) (hbox) ((by rw [hg]; exact (below_size bel) : w.heap.size ≤ gb101)) ((by rw [hg]; exact (below_size bel) : w.heap.size ≤ gb101)); clear HB; obtain ⟨HB, BK101, GW101, GE101⟩ := n_; clear hb hbox hg; obtain ⟨hcz11_0, hcz11_1, hcz11_2⟩ := cells3 BK101.out; obtain ⟨hfz11_0, hfz11_1, hfz11_2⟩ := froz3 BK101.out))
    go_ret
    exact ⟨er, bel⟩
  ·rw [if_neg c3] at H
   have c3b0 : decide ((a0_0.size : Int) ≤ 300) = false := decide_eq_false c3
   have c3b1 : decide (a0_0.size ≤ 300) = false := decide_eq_false (by omega)
   clear c3
   obtain rfl := Option.some.inj H
   go_enter Try.func35, Try.ntmps35
   go_wp2_with (first | ((with_reducible refine gate_dst (N := 1) rfl ?_); refine bx 1 40 (cs := #[.string a0_0, .string a0_1, .bool a0_2]) ?_; intro gb101 hg w12 hbox hb; have n_ := z4 (below_step bel hb) (hbox) ((by rw [hg]; exact (below_size bel) : w.heap.size ≤ gb101)) ((by rw [hg]; exact (below_size bel) : w.heap.size ≤ gb101)); clear HB; obtain ⟨HB, BK101, GW101, GE101⟩ := n_; clear hb hbox hg; obtain ⟨hcz13_0, hcz13_1, hcz13_2⟩ := cells3 BK101.out; obtain ⟨hfz13_0, hfz13_1, hfz13_2⟩ := froz3 BK101.out))
   go_ret
   exact ⟨er, bel⟩
 ·rw [if_neg c2] at H
  have c2b0 : decide (1 ≤ (a0_0.size : Int)) = false := decide_eq_false c2
  have c2b1 : decide (1 ≤ a0_0.size) = false := decide_eq_false (by omega)
  clear c2
  obtain rfl := Option.some.inj H
  go_enter Try.func35, Try.ntmps35
  go_wp2_with (first | ((with_reducible refine gate_dst (N := 1) rfl ?_); refine bx 1 40 (cs := #[.string a0_0, .string a0_1, .bool a0_2]) ?_; intro gb101 hg w14 hbox hb; have n_ := z4 (below_step bel hb) (hbox) ((by rw [hg]; exact (below_size bel) : w.heap.size ≤ gb101)) ((by rw [hg]; exact (below_size bel) : w.heap.size ≤ gb101)); clear HB; obtain ⟨HB, BK101, GW101, GE101⟩ := n_; clear hb hbox hg; obtain ⟨hcz15_0, hcz15_1, hcz15_2⟩ := cells3 BK101.out; obtain ⟨hfz15_0, hfz15_1, hfz15_2⟩ := froz3 BK101.out))
  go_ret
  exact ⟨er, bel⟩
mutual
def cmd_right.j0 : Nat → Bool → Int → Int → Int → Bool → List (S40) → ByteArray → Option (Bool)
  | 0, _, _, _, _, _, _, _ => none
  | k + 1, x35, x103000, x103001, x103002, x103003, x103004, x103005 => if x35 = true then (some false) else (cmd_right.l0 k x103004 (x103004.length : Int) 0 x103000 x103001 x103002 x103003 x103004 x103005)
def cmd_right.l0 : Nat → List (S40) → Int → Int → Int → Int → Int → Bool → List (S40) → ByteArray → Option (Bool)
  | 0, _, _, _, _, _, _, _, _, _ => none
  | k + 1, x37, x38, x39, x103000, x103001, x103002, x103003, x103004, x103005 => if x39 < x38 then (if 0 ≤ x39 then (if x39 < (x37.length : Int) then ((cmd_rightWrite.f ((rd_T40 x37 x39).f0) ((rd_T40 x37 x39).f1) ((rd_T40 x37 x39).f2)).bind fun t105 => (if t105 = true then (cmd_right.l0 k x37 x38 (wrap64 (x39 + 1)) x103000 x103001 x103002 x103003 x103004 x103005) else (some false))) else (none)) else (none)) else (if x103000 = 2 then (if x103000 = 5 then (some true) else (some (x103005.toList == ([] : List UInt8)))) else (if x103000 = 3 then (if x103000 = 5 then (some true) else (some (x103005.toList == ([] : List UInt8)))) else (if x103003 = true then (some false) else (if (x103004.length : Int) = 0 then (if x103000 = 5 then (some true) else (some (x103005.toList == ([] : List UInt8)))) else (some false)))))
end
def cmd_right.f (k : Nat) (a0_0 : Int) (a0_1 : Int) (a0_2 : Int) (a0_3 : Bool) (l0_4 : List (S40)) (a0_5 : ByteArray) : Option (Bool) := if a0_0 < 0 then (cmd_right.j0 k true a0_0 a0_1 a0_2 a0_3 l0_4 a0_5) else (if a0_0 > 5 then (cmd_right.j0 k true a0_0 a0_1 a0_2 a0_3 l0_4 a0_5) else (if a0_1 < 0 then (cmd_right.j0 k true a0_0 a0_1 a0_2 a0_3 l0_4 a0_5) else (if a0_2 < 0 then (cmd_right.j0 k true a0_0 a0_1 a0_2 a0_3 l0_4 a0_5) else (if (l0_4.length : Int) > 1000 then (cmd_right.j0 k true a0_0 a0_1 a0_2 a0_3 l0_4 a0_5) else (cmd_right.j0 k (decide ((a0_5.size : Int) > 40)) a0_0 a0_1 a0_2 a0_3 l0_4 a0_5)))))
theorem cmd_right.mono_l : ∀ k, (∀ y0 y1 y2 y3 y4 y5 y6, LeO (cmd_right.j0 k y0 y1 y2 y3 y4 y5 y6) (cmd_right.j0 (k + 1) y0 y1 y2 y3 y4 y5 y6)) ∧ (∀ y0 y1 y2 y3 y4 y5 y6 y7 y8, LeO (cmd_right.l0 k y0 y1 y2 y3 y4 y5 y6 y7 y8) (cmd_right.l0 (k + 1) y0 y1 y2 y3 y4 y5 y6 y7 y8))
  | 0 => ⟨fun _ _ _ _ _ _ _ r h => by simp [cmd_right.j0] at h, fun _ _ _ _ _ _ _ _ _ r h => by simp [cmd_right.l0] at h⟩
  | k + 1 => by
    obtain ⟨ih0, ih1⟩ := cmd_right.mono_l k
    refine ⟨?_, ?_⟩
    · intro y0 y1 y2 y3 y4 y5 y6
      unfold cmd_right.j0
      repeat' first
      | (with_reducible exact ih0 _ _ _ _ _ _ _)
      | (with_reducible exact ih1 _ _ _ _ _ _ _ _ _)
      | (with_reducible exact LeO.refl _)
      | (with_reducible exact LeO.none _)
      | (with_reducible refine LeO.ite ?_ ?_)
      | (with_reducible refine LeO.bind ?_ (fun _ => ?_))
    · intro y0 y1 y2 y3 y4 y5 y6 y7 y8
      unfold cmd_right.l0
      repeat' first
      | (with_reducible exact ih0 _ _ _ _ _ _ _)
      | (with_reducible exact ih1 _ _ _ _ _ _ _ _ _)
      | (with_reducible exact LeO.refl _)
      | (with_reducible exact LeO.none _)
      | (with_reducible refine LeO.ite ?_ ?_)
      | (with_reducible refine LeO.bind ?_ (fun _ => ?_))
theorem cmd_right.mono : ∀ a0 a1 a2 a3 a4 a5 k, LeO (cmd_right.f k a0 a1 a2 a3 a4 a5) (cmd_right.f (k + 1) a0 a1 a2 a3 a4 a5) := by
  intro a0 a1 a2 a3 a4 a5 k
  obtain ⟨ih0, ih1⟩ := cmd_right.mono_l k
  unfold cmd_right.f
  repeat' first
      | (with_reducible exact ih0 _ _ _ _ _ _ _)
      | (with_reducible exact ih1 _ _ _ _ _ _ _ _ _)
      | (with_reducible exact LeO.refl _)
      | (with_reducible exact LeO.none _)
      | (with_reducible refine LeO.ite ?_ ?_)
      | (with_reducible refine LeO.bind ?_ (fun _ => ?_))
set_option maxHeartbeats 8000000 in
set_option maxRecDepth 100000 in
theorem cmd_right.calls (k : Nat) (a0_0 : Int) (a0_1 : Int) (a0_2 : Int) (a0_3 : Bool) (A0_4 : Option Addr) (c0_4 : Nat) (l0_4 : List (S40)) (a0_5 : ByteArray) (r : Bool) (w : World) (hr0_4 : Kd.C k40 w A0_4 l0_4.length l0_4) (hc0_4 : l0_4.length ≤ c0_4) (h : cmd_right.f k a0_0 a0_1 a0_2 a0_3 l0_4 a0_5 = some r) :
  Calls Try.prog 24 #[.agg #[.int .i64 a0_0, .int .i64 a0_1, .int .i64 a0_2, .bool a0_3, .slice A0_4 l0_4.length c0_4, .string a0_5]] w fun e w' => e = .returned (.bool r) ∧ Below w.heap.size w w' := by
 have hu26 := Try.underlying26
 have hu40 := Try.underlying40
 have HR0_4 := am hr0_4
 have HC0_4 := am hc0_4
 clear hr0_4 hc0_4
 have HB := am (Below.refl w.heap.size w)
 have H : (if a0_0 < 0 then (cmd_right.j0 k true a0_0 a0_1 a0_2 a0_3 l0_4 a0_5) else (if a0_0 > 5 then (cmd_right.j0 k true a0_0 a0_1 a0_2 a0_3 l0_4 a0_5) else (if a0_1 < 0 then (cmd_right.j0 k true a0_0 a0_1 a0_2 a0_3 l0_4 a0_5) else (if a0_2 < 0 then (cmd_right.j0 k true a0_0 a0_1 a0_2 a0_3 l0_4 a0_5) else (if (l0_4.length : Int) > 1000 then (cmd_right.j0 k true a0_0 a0_1 a0_2 a0_3 l0_4 a0_5) else (cmd_right.j0 k (decide ((a0_5.size : Int) > 40)) a0_0 a0_1 a0_2 a0_3 l0_4 a0_5)))))) = some r := h
 clear h
 have HC2 := am H
 clear H
 go_enter Try.func24, Try.ntmps24
 go_upto_region 1 with (first | ((with_reducible refine gate_dst (N := 1) rfl ?_); refine bx 1 26 (cs := #[.int .i64 a0_0, .int .i64 a0_1, .int .i64 a0_2, .bool a0_3, .slice A0_4 l0_4.length c0_4, .string a0_5]) ?_; intro gb102 hg w3 hbox hb; have n_ := z4 (below_step bel hb) (hbox) ((by rw [hg]; exact (below_size bel) : w.heap.size ≤ gb102)) ((by rw [hg]; exact (below_size bel) : w.heap.size ≤ gb102)); clear HB; obtain ⟨HB, BK102, GW102, GE102⟩ := n_; clear hb hbox hg))
 (try simp only [Act.put, List.setIfInBounds_toArray, List.set_cons_zero, List.set_cons_succ])
 go_cut [35] (fun v35 wc => ∃ (kq : Nat) (x35_1 : Bool), v35 = .bool x35_1 ∧ Aside0 (cmd_right.j0 kq x35_1 a0_0 a0_1 a0_2 a0_3 l0_4 a0_5 = some r) ∧ Aside0 (kq ≤ k) ∧ Aside0 (wc.heap[gb102]? = some (.cells #[.int .i64 a0_0, .int .i64 a0_1, .int .i64 a0_2, .bool a0_3, (.slice A0_4 l0_4.length c0_4), .string a0_5] 26 (0, 0))) ∧ Aside0 (Below w.heap.size w wc))
 case first =>
  have H := HC2.out
  clear HC2
  by_cases c4 : a0_0 < 0
  ·rw [if_pos c4] at H
   have c4b0 : decide (a0_0 < 0) = true := decide_eq_true c4
   clear c4
   (first | rw [c4b0] | (simp only [i64_w, i32_w]; rw [c4b0]) | skip)
   have H' := am H
   clear H
   obtain ⟨hcz5_0, hcz5_1, hcz5_2, hcz5_3, hcz5_4, hcz5_5⟩ := cells6 BK102.out
   obtain ⟨hfz5_0, hfz5_1, hfz5_2, hfz5_3, hfz5_4, hfz5_5⟩ := froz6 BK102.out
   go_wp2
   go_meet
   case rel => exact ⟨_, (true), (by first | rfl | (simp; done) | (simp [*]; done)), H', ⟨by first | omega | exact Nat.le_refl _⟩, ⟨bk BK102.out⟩, ⟨bel⟩⟩
  ·rw [if_neg c4] at H
   have c4b0 : decide (a0_0 < 0) = false := decide_eq_false c4
   clear c4
   (first | rw [c4b0] | (simp only [i64_w, i32_w]; rw [c4b0]) | skip)
   by_cases c6 : a0_0 > 5
   ·rw [if_pos c6] at H
    have c6b0 : decide (5 < a0_0) = true := decide_eq_true c6
    clear c6
    have H' := am H
    clear H
    obtain ⟨hcz7_0, hcz7_1, hcz7_2, hcz7_3, hcz7_4, hcz7_5⟩ := cells6 BK102.out
    obtain ⟨hfz7_0, hfz7_1, hfz7_2, hfz7_3, hfz7_4, hfz7_5⟩ := froz6 BK102.out
    go_wp2
    go_meet
    case rel => exact ⟨_, (true), (by first | rfl | (simp; done) | (simp [*]; done)), H', ⟨by first | omega | exact Nat.le_refl _⟩, ⟨bk BK102.out⟩, ⟨bel⟩⟩
   ·rw [if_neg c6] at H
    have c6b0 : decide (5 < a0_0) = false := decide_eq_false c6
    clear c6
    by_cases c8 : a0_1 < 0
    ·rw [if_pos c8] at H
     have c8b0 : decide (a0_1 < 0) = true := decide_eq_true c8
     clear c8
     have H' := am H
     clear H
     obtain ⟨hcz9_0, hcz9_1, hcz9_2, hcz9_3, hcz9_4, hcz9_5⟩ := cells6 BK102.out
     obtain ⟨hfz9_0, hfz9_1, hfz9_2, hfz9_3, hfz9_4, hfz9_5⟩ := froz6 BK102.out
     go_wp2
     go_meet
     case rel => exact ⟨_, (true), (by first | rfl | (simp; done) | (simp [*]; done)), H', ⟨by first | omega | exact Nat.le_refl _⟩, ⟨bk BK102.out⟩, ⟨bel⟩⟩
    ·rw [if_neg c8] at H
     have c8b0 : decide (a0_1 < 0) = false := decide_eq_false c8
     clear c8
     by_cases c10 : a0_2 < 0
     ·rw [if_pos c10] at H
      have c10b0 : decide (a0_2 < 0) = true := decide_eq_true c10
      clear c10
      have H' := am H
      clear H
      obtain ⟨hcz11_0, hcz11_1, hcz11_2, hcz11_3, hcz11_4, hcz11_5⟩ := cells6 BK102.out
      obtain ⟨hfz11_0, hfz11_1, hfz11_2, hfz11_3, hfz11_4, hfz11_5⟩ := froz6 BK102.out
      go_wp2
      go_meet
      case rel => exact ⟨_, (true), (by first | rfl | (simp; done) | (simp [*]; done)), H', ⟨by first | omega | exact Nat.le_refl _⟩, ⟨bk BK102.out⟩, ⟨bel⟩⟩
     ·rw [if_neg c10] at H
      have c10b0 : decide (a0_2 < 0) = false := decide_eq_false c10
      clear c10
      by_cases c12 : (l0_4.length : Int) > 1000
      ·rw [if_pos c12] at H
       have c12b0 : decide (1000 < (l0_4.length : Int)) = true := decide_eq_true c12
       have c12b1 : decide (1000 < l0_4.length) = true := decide_eq_true (by omega)
       clear c12
       have H' := am H
       clear H
       obtain ⟨hcz13_0, hcz13_1, hcz13_2, hcz13_3, hcz13_4, hcz13_5⟩ := cells6 BK102.out
       obtain ⟨hfz13_0, hfz13_1, hfz13_2, hfz13_3, hfz13_4, hfz13_5⟩ := froz6 BK102.out
       go_wp2
       go_meet
       case rel => exact ⟨_, (true), (by first | rfl | (simp; done) | (simp [*]; done)), H', ⟨by first | omega | exact Nat.le_refl _⟩, ⟨bk BK102.out⟩, ⟨bel⟩⟩
      ·rw [if_neg c12] at H
       have c12b0 : decide (1000 < (l0_4.length : Int)) = false := decide_eq_false c12
       have c12b1 : decide (1000 < l0_4.length) = false := decide_eq_false (by omega)
       clear c12
       have H' := am H
       clear H
       obtain ⟨hcz14_0, hcz14_1, hcz14_2, hcz14_3, hcz14_4, hcz14_5⟩ := cells6 BK102.out
       obtain ⟨hfz14_0, hfz14_1, hfz14_2, hfz14_3, hfz14_4, hfz14_5⟩ := froz6 BK102.out
       go_wp2
       go_meet
       case rel => exact ⟨_, (decide ((a0_5.size : Int) > 40)), (by first | rfl | (simp; done) | (simp [*]; done)), H', ⟨by first | omega | exact Nat.le_refl _⟩, ⟨bk BK102.out⟩, ⟨bel⟩⟩
 case rest =>
  clear HC2
  try clear c1
  try clear c2
  try clear p2
  try clear c4
  try clear c4b0
  try clear c6
  try clear c6b0
  try clear c8
  try clear c8b0
  try clear c10
  try clear c10b0
  try clear c12
  try clear c12b0
  try clear c12b1
  try clear hcz11_0 hcz11_1 hcz11_2 hcz11_3 hcz11_4 hcz11_5
  try clear hcz13_0 hcz13_1 hcz13_2 hcz13_3 hcz13_4 hcz13_5
  try clear hcz14_0 hcz14_1 hcz14_2 hcz14_3 hcz14_4 hcz14_5
  try clear hcz5_0 hcz5_1 hcz5_2 hcz5_3 hcz5_4 hcz5_5
  try clear hcz7_0 hcz7_1 hcz7_2 hcz7_3 hcz7_4 hcz7_5
  try clear hcz9_0 hcz9_1 hcz9_2 hcz9_3 hcz9_4 hcz9_5
  try clear hfz11_0 hfz11_1 hfz11_2 hfz11_3 hfz11_4 hfz11_5
  try clear hfz13_0 hfz13_1 hfz13_2 hfz13_3 hfz13_4 hfz13_5
  try clear hfz14_0 hfz14_1 hfz14_2 hfz14_3 hfz14_4 hfz14_5
  try clear hfz5_0 hfz5_1 hfz5_2 hfz5_3 hfz5_4 hfz5_5
  try clear hfz7_0 hfz7_1 hfz7_2 hfz7_3 hfz7_4 hfz7_5
  try clear hfz9_0 hfz9_1 hfz9_2 hfz9_3 hfz9_4 hfz9_5
  obtain ⟨kq, x35_1, rfl, HA, HJ1, BK102, HB⟩ := hcut
  cases kq with
  | zero => exact absurd HA.out (by simp [cmd_right.j0])
  | succ kj1 =>
   have H := HA.out
   clear HA
   simp only [cmd_right.j0] at H
   by_cases c15 : x35_1 = true
   ·subst c15
    have H1 : (some false) = some r := by rw [if_pos rfl] at H; exact H
    clear H
    have H := H1
    clear H1
    obtain rfl := Option.some.inj H
    go_wp2
    go_ret
    exact ⟨er, bel⟩
   ·replace c15 := Bool.eq_false_iff.mpr c15
    subst c15
    have H1 : (cmd_right.l0 kj1 l0_4 (l0_4.length : Int) 0 a0_0 a0_1 a0_2 a0_3 l0_4 a0_5) = some r := by rw [if_neg (show ¬ (false = true) by decide)] at H; exact H
    clear H
    have H := H1
    clear H1
    have H' := am H
    clear H
    obtain ⟨hcz16_0, hcz16_1, hcz16_2, hcz16_3, hcz16_4, hcz16_5⟩ := cells6 BK102.out
    obtain ⟨hfz16_0, hfz16_1, hfz16_2, hfz16_3, hfz16_4, hfz16_5⟩ := froz6 BK102.out
    go_wp2
    go_loopg [39] kj1 (fun kq v39 w' => ∃ (x39_2 : Int), v39 = .int .i64 x39_2 ∧ Aside0 (cmd_right.l0 kq l0_4 (l0_4.length : Int) x39_2 a0_0 a0_1 a0_2 a0_3 l0_4 a0_5 = some r) ∧ Aside0 (kq ≤ kj1) ∧ Aside0 (w'.heap[gb102]? = some (.cells #[.int .i64 a0_0, .int .i64 a0_1, .int .i64 a0_2, .bool a0_3, (.slice A0_4 l0_4.length c0_4), .string a0_5] 26 (0, 0))) ∧ Aside0 (Below w.heap.size w w'))
    case atStart => exact ⟨(0), (by first | rfl | (simp; done) | (simp [*]; done)), H', ⟨Nat.le_refl _⟩, ⟨bk BK102.out⟩, ⟨bel⟩⟩
    case round =>
     clear H'
     try clear c1
     try clear c2
     try clear p2
     try clear c4
     try clear c4b0
     try clear c6
     try clear c6b0
     try clear c8
     try clear c8b0
     try clear c10
     try clear c10b0
     try clear c12
     try clear c12b0
     try clear c12b1
     try clear c15
     try clear hcz11_0 hcz11_1 hcz11_2 hcz11_3 hcz11_4 hcz11_5
     try clear hcz13_0 hcz13_1 hcz13_2 hcz13_3 hcz13_4 hcz13_5
     try clear hcz14_0 hcz14_1 hcz14_2 hcz14_3 hcz14_4 hcz14_5
     try clear hcz16_0 hcz16_1 hcz16_2 hcz16_3 hcz16_4 hcz16_5
     try clear hcz5_0 hcz5_1 hcz5_2 hcz5_3 hcz5_4 hcz5_5
     try clear hcz7_0 hcz7_1 hcz7_2 hcz7_3 hcz7_4 hcz7_5
     try clear hcz9_0 hcz9_1 hcz9_2 hcz9_3 hcz9_4 hcz9_5
     try clear hfz11_0 hfz11_1 hfz11_2 hfz11_3 hfz11_4 hfz11_5
     try clear hfz13_0 hfz13_1 hfz13_2 hfz13_3 hfz13_4 hfz13_5
     try clear hfz14_0 hfz14_1 hfz14_2 hfz14_3 hfz14_4 hfz14_5
     try clear hfz16_0 hfz16_1 hfz16_2 hfz16_3 hfz16_4 hfz16_5
     try clear hfz5_0 hfz5_1 hfz5_2 hfz5_3 hfz5_4 hfz5_5
     try clear hfz7_0 hfz7_1 hfz7_2 hfz7_3 hfz7_4 hfz7_5
     try clear hfz9_0 hfz9_1 hfz9_2 hfz9_3 hfz9_4 hfz9_5
     try clear p2
     obtain ⟨x39_2, rfl, HA, HK2, BK102, HB⟩ := hrel
     cases gk with
     | zero => exact absurd HA.out (by simp [cmd_right.l0])
     | succ k2 =>
      have H := HA.out
      clear HA
      simp only [cmd_right.l0] at H
      by_cases c17 : x39_2 < (l0_4.length : Int)
      ·rw [if_pos c17] at H
       have c17b0 : decide (x39_2 < (l0_4.length : Int)) = true := decide_eq_true c17
       clear c17
       by_cases c18 : 0 ≤ x39_2
       ·rw [if_pos c18] at H
        have c18b0 : decide (0 ≤ x39_2) = true := decide_eq_true c18
        clear c18
        by_cases c19 : x39_2 < (l0_4.length : Int)
        ·rw [if_pos c19] at H
         have c19b0 : decide (x39_2 < (l0_4.length : Int)) = true := decide_eq_true c19
         clear c19
         replace H := Option.bind_eq_some_iff.mp H
         obtain ⟨t105, A200, H⟩ := H
         replace H : (if t105 = true then (cmd_right.l0 k2 l0_4 (l0_4.length : Int) (wrap64 (x39_2 + 1)) a0_0 a0_1 a0_2 a0_3 l0_4 a0_5) else (some false)) = some r := H
         have A20 := am A200
         clear A200
         by_cases c21 : t105 = true
         ·subst c21
          have H1 : (cmd_right.l0 k2 l0_4 (l0_4.length : Int) (wrap64 (x39_2 + 1)) a0_0 a0_1 a0_2 a0_3 l0_4 a0_5) = some r := by rw [if_pos rfl] at H; exact H
          clear H
          have H := H1
          clear H1
          have H' := am H
          clear H
          have p103 : 0 ≤ (x39_2 : Int) := of_decide_eq_true (by first | (with_reducible assumption) | assumption)
          have q103 : x39_2 < (l0_4.length : Int) := of_decide_eq_true (by first | (with_reducible assumption) | assumption)
          obtain ⟨ad103, e103, hx103_0, hx103_1, hx103_2⟩ := at_T40 HR0_4.out x39_2 p103 q103
          cases e103
          replace hx103_0 := (HB.out.cell (World.block_lt_of_cell? w _ hx103_0)).trans hx103_0
          replace hx103_1 := (HB.out.cell (World.block_lt_of_cell? w _ hx103_1)).trans hx103_1
          replace hx103_2 := (HB.out.cell (World.block_lt_of_cell? w _ hx103_2)).trans hx103_2
          replace p103 := eq_true p103
          replace q103 := eq_true q103
          go_wp2_with (first | ((with_reducible refine gate_dst (N := 4) rfl ?_); refine bx 4 40 (cs := #[.string (⟨#[]⟩ : ByteArray), .string (⟨#[]⟩ : ByteArray), .bool false]) ?_; intro gb104 hg w22 hbox hb; have n_ := z7 (blk_below (bk BK102.out) hb) (below_step bel hb) (hbox) ((by rw [hg]; exact (below_size bel) : w.heap.size ≤ gb104)) ((by rw [hg]; exact (below_size bel) : w.heap.size ≤ gb104)) ((by rw [hg]; exact Nat.ne_of_lt (blk_lt (bk BK102.out)) : gb102 ≠ gb104)) ((by rw [hg]; exact Nat.ne_of_gt (blk_lt (bk BK102.out)) : gb104 ≠ gb102)); clear BK102 HB; obtain ⟨BK102, HB, BK104, GW104, GE104, NB102_104, NB104_102⟩ := n_; clear hb hbox hg; have hnb23 := NB104_102.out; have hnc23 := NB102_104.out; obtain ⟨hcz24_0, hcz24_1, hcz24_2⟩ := cells3 BK104.out; obtain ⟨hfz24_0, hfz24_1, hfz24_2⟩ := froz3 BK104.out) | ((with_reducible refine gate_callee (f := 35) rfl ?_); refine goesL_ (some 44) rfl rfl Try.func35 (by kernel_rfl) rfl #[.agg #[.string ((rd_T40 l0_4 x39_2).f0), .string ((rd_T40 l0_4 x39_2).f1), .bool ((rd_T40 l0_4 x39_2).f2)]] rfl ar ?_; (with_reducible refine (cmd_rightWrite.calls ((rd_T40 l0_4 x39_2).f0) ((rd_T40 l0_4 x39_2).f1) ((rd_T40 l0_4 x39_2).f2) true _ A20.out).mono ?_); rintro e w25 ⟨rfl, hb⟩; refine ⟨_, rfl, ?_⟩; have n_ := z3 (blk_below (bk BK102.out) hb) (blk_below (g := gb104) (o := .cells #[.string ((rd_T40 l0_4 x39_2).f0), .string ((rd_T40 l0_4 x39_2).f1), .bool ((rd_T40 l0_4 x39_2).f2)] 40 (0, 0)) (bp BK104.out) hb) (below_step bel hb); clear BK102 BK104 HB; obtain ⟨BK102, BK104, HB⟩ := n_; (try clear hb); (try clear hb2); (try clear hk); (try clear hi)))
          go_roundg k2
          case measure => have := HJ1.out; have := HK2.out; omega
          case rel => exact ⟨(wrap64 (x39_2 + 1)), (by first | rfl | (simp; done) | (simp [*]; done)), H', ⟨by have := HJ1.out; have := HK2.out; omega⟩, ⟨bk BK102.out⟩, ⟨bel⟩⟩
         ·replace c21 := Bool.eq_false_iff.mpr c21
          subst c21
          have H1 : (some false) = some r := by rw [if_neg (show ¬ (false = true) by decide)] at H; exact H
          clear H
          have H := H1
          clear H1
          obtain rfl := Option.some.inj H
          have p103 : 0 ≤ (x39_2 : Int) := of_decide_eq_true (by first | (with_reducible assumption) | assumption)
          have q103 : x39_2 < (l0_4.length : Int) := of_decide_eq_true (by first | (with_reducible assumption) | assumption)
          obtain ⟨ad103, e103, hx103_0, hx103_1, hx103_2⟩ := at_T40 HR0_4.out x39_2 p103 q103
          cases e103
          replace hx103_0 := (HB.out.cell (World.block_lt_of_cell? w _ hx103_0)).trans hx103_0
          replace hx103_1 := (HB.out.cell (World.block_lt_of_cell? w _ hx103_1)).trans hx103_1
          replace hx103_2 := (HB.out.cell (World.block_lt_of_cell? w _ hx103_2)).trans hx103_2
          replace p103 := eq_true p103
          replace q103 := eq_true q103
          go_wp2_with (first | ((with_reducible refine gate_dst (N := 4) rfl ?_); refine bx 4 40 (cs := #[.string (⟨#[]⟩ : ByteArray), .string (⟨#[]⟩ : ByteArray), .bool false]) ?_; intro gb104 hg w26 hbox hb; have n_ := z7 (blk_below (bk BK102.out) hb) (below_step bel hb) (hbox) ((by rw [hg]; exact (below_size bel) : w.heap.size ≤ gb104)) ((by rw [hg]; exact (below_size bel) : w.heap.size ≤ gb104)) ((by rw [hg]; exact Nat.ne_of_lt (blk_lt (bk BK102.out)) : gb102 ≠ gb104)) ((by rw [hg]; exact Nat.ne_of_gt (blk_lt (bk BK102.out)) : gb104 ≠ gb102)); clear BK102 HB; obtain ⟨BK102, HB, BK104, GW104, GE104, NB102_104, NB104_102⟩ := n_; clear hb hbox hg; have hnb27 := NB104_102.out; have hnc27 := NB102_104.out; obtain ⟨hcz28_0, hcz28_1, hcz28_2⟩ := cells3 BK104.out; obtain ⟨hfz28_0, hfz28_1, hfz28_2⟩ := froz3 BK104.out) | ((with_reducible refine gate_callee (f := 35) rfl ?_); refine goesL_ (some 44) rfl rfl Try.func35 (by kernel_rfl) rfl #[.agg #[.string ((rd_T40 l0_4 x39_2).f0), .string ((rd_T40 l0_4 x39_2).f1), .bool ((rd_T40 l0_4 x39_2).f2)]] rfl ar ?_; (with_reducible refine (cmd_rightWrite.calls ((rd_T40 l0_4 x39_2).f0) ((rd_T40 l0_4 x39_2).f1) ((rd_T40 l0_4 x39_2).f2) false _ A20.out).mono ?_); rintro e w29 ⟨rfl, hb⟩; refine ⟨_, rfl, ?_⟩; have n_ := z3 (blk_below (bk BK102.out) hb) (blk_below (g := gb104) (o := .cells #[.string ((rd_T40 l0_4 x39_2).f0), .string ((rd_T40 l0_4 x39_2).f1), .bool ((rd_T40 l0_4 x39_2).f2)] 40 (0, 0)) (bp BK104.out) hb) (below_step bel hb); clear BK102 BK104 HB; obtain ⟨BK102, BK104, HB⟩ := n_; (try clear hb); (try clear hb2); (try clear hk); (try clear hi)))
          go_ret
          exact ⟨er, bel⟩
        ·rw [if_neg c19] at H
         exact absurd H (by simp)
       ·rw [if_neg c18] at H
        exact absurd H (by simp)
      ·rw [if_neg c17] at H
       have c17b0 : decide (x39_2 < (l0_4.length : Int)) = false := decide_eq_false c17
       clear c17
       by_cases c30 : a0_0 = 2
       ·rw [if_pos c30] at H
        have c30b0 : (a0_0 == 2) = true := beq_iff_eq.mpr c30
        have c30b1 : (a0_0 != 2) = false := bne_eq_false_iff_eq.mpr c30
        clear c30
        by_cases c31 : a0_0 = 5
        ·rw [if_pos c31] at H
         have c31b0 : (a0_0 == 5) = true := beq_iff_eq.mpr c31
         have c31b1 : (a0_0 != 5) = false := bne_eq_false_iff_eq.mpr c31
         clear c31
         obtain rfl := Option.some.inj H
         obtain ⟨hcz32_0, hcz32_1, hcz32_2, hcz32_3, hcz32_4, hcz32_5⟩ := cells6 BK102.out
         obtain ⟨hfz32_0, hfz32_1, hfz32_2, hfz32_3, hfz32_4, hfz32_5⟩ := froz6 BK102.out
         go_wp2
         go_ret
         exact ⟨er, bel⟩
        ·rw [if_neg c31] at H
         have c31b0 : (a0_0 == 5) = false := beq_eq_false_iff_ne.mpr c31
         have c31b1 : (a0_0 != 5) = true := bne_iff_ne.mpr c31
         obtain rfl := Option.some.inj H
         obtain ⟨hcz33_0, hcz33_1, hcz33_2, hcz33_3, hcz33_4, hcz33_5⟩ := cells6 BK102.out
         obtain ⟨hfz33_0, hfz33_1, hfz33_2, hfz33_3, hfz33_4, hfz33_5⟩ := froz6 BK102.out
         go_wp2
         go_ret
         exact ⟨er, bel⟩
       ·rw [if_neg c30] at H
        have c30b0 : (a0_0 == 2) = false := beq_eq_false_iff_ne.mpr c30
        have c30b1 : (a0_0 != 2) = true := bne_iff_ne.mpr c30
        by_cases c34 : a0_0 = 3
        ·rw [if_pos c34] at H
         have c34b0 : (a0_0 == 3) = true := beq_iff_eq.mpr c34
         have c34b1 : (a0_0 != 3) = false := bne_eq_false_iff_eq.mpr c34
         clear c34
         by_cases c35 : a0_0 = 5
         ·rw [if_pos c35] at H
          have c35b0 : (a0_0 == 5) = true := beq_iff_eq.mpr c35
          have c35b1 : (a0_0 != 5) = false := bne_eq_false_iff_eq.mpr c35
          clear c35
          obtain rfl := Option.some.inj H
          obtain ⟨hcz36_0, hcz36_1, hcz36_2, hcz36_3, hcz36_4, hcz36_5⟩ := cells6 BK102.out
          obtain ⟨hfz36_0, hfz36_1, hfz36_2, hfz36_3, hfz36_4, hfz36_5⟩ := froz6 BK102.out
          go_wp2
          go_ret
          exact ⟨er, bel⟩
         ·rw [if_neg c35] at H
          have c35b0 : (a0_0 == 5) = false := beq_eq_false_iff_ne.mpr c35
          have c35b1 : (a0_0 != 5) = true := bne_iff_ne.mpr c35
          obtain rfl := Option.some.inj H
          obtain ⟨hcz37_0, hcz37_1, hcz37_2, hcz37_3, hcz37_4, hcz37_5⟩ := cells6 BK102.out
          obtain ⟨hfz37_0, hfz37_1, hfz37_2, hfz37_3, hfz37_4, hfz37_5⟩ := froz6 BK102.out
          go_wp2
          go_ret
          exact ⟨er, bel⟩
        ·rw [if_neg c34] at H
         have c34b0 : (a0_0 == 3) = false := beq_eq_false_iff_ne.mpr c34
         have c34b1 : (a0_0 != 3) = true := bne_iff_ne.mpr c34
         by_cases c38 : a0_3 = true
         ·subst c38
          have H1 : (some false) = some r := by rw [if_pos rfl] at H; exact H
          clear H
          have H := H1
          clear H1
          obtain rfl := Option.some.inj H
          obtain ⟨hcz39_0, hcz39_1, hcz39_2, hcz39_3, hcz39_4, hcz39_5⟩ := cells6 BK102.out
          obtain ⟨hfz39_0, hfz39_1, hfz39_2, hfz39_3, hfz39_4, hfz39_5⟩ := froz6 BK102.out
          go_wp2
          go_ret
          exact ⟨er, bel⟩
         ·replace c38 := Bool.eq_false_iff.mpr c38
          subst c38
          have H1 : (if (l0_4.length : Int) = 0 then (if a0_0 = 5 then (some true) else (some (a0_5.toList == ([] : List UInt8)))) else (some false)) = some r := by rw [if_neg (show ¬ (false = true) by decide)] at H; exact H
          clear H
          have H := H1
          clear H1
          by_cases c40 : (l0_4.length : Int) = 0
          ·rw [if_pos c40] at H
           have c40b0 : ((l0_4.length : Int) == 0) = true := beq_iff_eq.mpr c40
           have c40b1 : ((l0_4.length : Int) != 0) = false := bne_eq_false_iff_eq.mpr c40
           clear c40
           by_cases c41 : a0_0 = 5
           ·rw [if_pos c41] at H
            have c41b0 : (a0_0 == 5) = true := beq_iff_eq.mpr c41
            have c41b1 : (a0_0 != 5) = false := bne_eq_false_iff_eq.mpr c41
            clear c41
            obtain rfl := Option.some.inj H
            obtain ⟨hcz42_0, hcz42_1, hcz42_2, hcz42_3, hcz42_4, hcz42_5⟩ := cells6 BK102.out
            obtain ⟨hfz42_0, hfz42_1, hfz42_2, hfz42_3, hfz42_4, hfz42_5⟩ := froz6 BK102.out
            go_wp2
            go_ret
            exact ⟨er, bel⟩
           ·rw [if_neg c41] at H
            have c41b0 : (a0_0 == 5) = false := beq_eq_false_iff_ne.mpr c41
            have c41b1 : (a0_0 != 5) = true := bne_iff_ne.mpr c41
            obtain rfl := Option.some.inj H
            obtain ⟨hcz43_0, hcz43_1, hcz43_2, hcz43_3, hcz43_4, hcz43_5⟩ := cells6 BK102.out
            obtain ⟨hfz43_0, hfz43_1, hfz43_2, hfz43_3, hfz43_4, hfz43_5⟩ := froz6 BK102.out
            go_wp2
            go_ret
            exact ⟨er, bel⟩
          ·rw [if_neg c40] at H
           have c40b0 : ((l0_4.length : Int) == 0) = false := beq_eq_false_iff_ne.mpr c40
           have c40b1 : ((l0_4.length : Int) != 0) = true := bne_iff_ne.mpr c40
           have c40b2 : ¬ (l0_4 = []) := fun h_ => c40 (by rw [h_]; rfl)
           obtain rfl := Option.some.inj H
           obtain ⟨hcz44_0, hcz44_1, hcz44_2, hcz44_3, hcz44_4, hcz44_5⟩ := cells6 BK102.out
           obtain ⟨hfz44_0, hfz44_1, hfz44_2, hfz44_3, hfz44_4, hfz44_5⟩ := froz6 BK102.out
           go_wp2
           go_ret
           exact ⟨er, bel⟩
def cmd_fixed.l0 : Nat → List Int → Int → Int → Option (List Int)
  | 0, _, _, _ => none
  | k + 1, x0, x1, x7 => if x7 ≥ 0 then (if 0 ≤ x7 then (if x0.length < 140737488355328 then (cmd_fixed.l0 k (x0 ++ [(shr .i64 x1 x7) % 256]) x1 (wrap64 (x7 - 8))) else (none)) else (none)) else (some x0)
def cmd_fixed.f (k : Nat) (l0 : List Int) (a1 : Int) (a2 : Int) : Option (List Int) := cmd_fixed.l0 k l0 a1 (wrap64 (8 * (wrap64 (a2 - 1))))
theorem cmd_fixed.mono_l : ∀ k, (∀ y0 y1 y2, LeO (cmd_fixed.l0 k y0 y1 y2) (cmd_fixed.l0 (k + 1) y0 y1 y2))
  | 0 => fun _ _ _ r h => by simp [cmd_fixed.l0] at h
  | k + 1 => by
    have ih0 := cmd_fixed.mono_l k
    · intro y0 y1 y2
      unfold cmd_fixed.l0
      repeat' first
      | (with_reducible exact ih0 _ _ _)
      | (with_reducible exact LeO.refl _)
      | (with_reducible exact LeO.none _)
      | (with_reducible refine LeO.ite ?_ ?_)
      | (with_reducible refine LeO.bind ?_ (fun _ => ?_))
theorem cmd_fixed.mono : ∀ a0 a1 a2 k, LeO (cmd_fixed.f k a0 a1 a2) (cmd_fixed.f (k + 1) a0 a1 a2) := by
  intro a0 a1 a2 k
  have ih0 := cmd_fixed.mono_l k
  unfold cmd_fixed.f
  repeat' first
      | (with_reducible exact ih0 _ _ _)
      | (with_reducible exact LeO.refl _)
      | (with_reducible exact LeO.none _)
      | (with_reducible refine LeO.ite ?_ ?_)
      | (with_reducible refine LeO.bind ?_ (fun _ => ?_))
set_option maxHeartbeats 8000000 in
set_option maxRecDepth 100000 in
theorem cmd_fixed.calls (k : Nat) (P0_ : Nat → Prop) (u9000_ : Value) (l0 : List Int) (a1 : Int) (a2 : Int) (r : List Int) (w0 w : World) (hB : Below w0.heap.size w0 w) (ho0 : Kd.R (Kd.int .u8) 5 w w0.heap.size P0_ u9000_ l0) (h : cmd_fixed.f k l0 a1 a2 = some r) :
  Calls Try.prog 58 #[u9000_, .int .i64 a1, .int .i64 a2] w fun e w' => ∃ v0_ : Value, e = .returned (v0_) ∧ Kd.R (Kd.int .u8) 5 w' w0.heap.size (fun k_ => (P0_ k_ ∨ w.heap.size ≤ k_)) v0_ r ∧ Below w0.heap.size w0 w' ∧ Kept w w' (fun k_ => P0_ k_) := by
 have HO0 := am (show Kd.R (Kd.int .u8) 5 w w0.heap.size (fun k_ => (P0_ k_ ∨ w.heap.size ≤ k_)) u9000_ l0 from Kd.R_mono ho0 (fun k_ hk => (.inl hk)))
 have HK := am (Kept.refl w (fun k_ => P0_ k_))
 have HW0 := am hB.size
 have HB := am hB
 clear hB
 have H : (cmd_fixed.l0 k l0 a1 (wrap64 (8 * (wrap64 (a2 - 1))))) = some r := h
 clear h
 have H' := am H
 clear H
 go_enter Try.func58, Try.ntmps58
 go_wp2
 go_loopg [0, 7] k (fun kq v0 v7 w' => ∃ (x0_1 : List Int) (x7_1 : Int), v7 = .int .i64 x7_1 ∧ Aside0 (cmd_fixed.l0 kq x0_1 a1 x7_1 = some r) ∧ Aside0 (kq ≤ k) ∧ Aside0 (Kd.R (Kd.int .u8) 5 w' w0.heap.size (fun k_ => (P0_ k_ ∨ w.heap.size ≤ k_)) v0 x0_1) ∧ Aside0 (Kept w w' (fun k_ => P0_ k_)) ∧ Aside0 (Below w0.heap.size w0 w'))
 case atStart => exact ⟨(l0), (wrap64 (8 * (wrap64 (a2 - 1)))), (by first | rfl | (simp; done) | (simp [*]; done)), H', ⟨Nat.le_refl _⟩, ⟨kr HO0.out⟩, ⟨kq⟩, ⟨bel⟩⟩
 case round =>
  clear H'
  try clear p2
  obtain ⟨x0_1, x7_1, rfl, HA, HK1, HO_0, HK, HB⟩ := hrel
  cases gk with
  | zero => exact absurd HA.out (by simp [cmd_fixed.l0])
  | succ k1 =>
   have H := HA.out
   clear HA
   simp only [cmd_fixed.l0] at H
   by_cases c4 : x7_1 ≥ 0
   ·rw [if_pos c4] at H
    have c4b0 : decide (0 ≤ x7_1) = true := decide_eq_true c4
    clear c4
    by_cases c5 : 0 ≤ x7_1
    ·rw [if_pos c5] at H
     have c5b0 := eq_true c5
     have c5b1 : decide (0 ≤ x7_1) = true := decide_eq_true c5
     clear c5
     obtain ⟨ji6, hji6⟩ : ∃ j_ : Int, (shr .i64 a1 x7_1) = j_ := ⟨_, rfl⟩
     replace H : (if x0_1.length < 140737488355328 then (cmd_fixed.l0 k1 (x0_1 ++ [(ji6) % 256]) a1 (wrap64 (x7_1 - 8))) else (none)) = some r := by first | (rw [hji6] at H; exact H) | (simp only [hji6] at H ⊢; exact H)
     have hji6_ : (a1 / 2 ^ min x7_1.toNat 64) = ji6 := hji6
     have hji6z : x7_1 ≤ 64 → (a1 / 2 ^ x7_1.toNat) = ji6 := shr_small hji6
     by_cases c7 : x0_1.length < 140737488355328
     ·rw [if_pos c7] at H
      have LMc7 := am c7
      clear c7
      obtain ⟨y106, hy106⟩ : ∃ y_ : List Int, y_ = (x0_1 ++ [(ji6) % 256]) := ⟨_, rfl⟩
      replace H : (cmd_fixed.l0 k1 y106 a1 (wrap64 (x7_1 - 8))) = some r := by first | (rw [hy106]; with_reducible exact H) | (have H2_ := (Option.bind_some _ _).symm.trans H; rw [hy106]; with_reducible exact H2_) | (have H2_ := (Option.bind_some _ _).symm.trans H; with_reducible exact H2_) | with_reducible exact H | (rw [hy106]; exact H) | exact H
      have Ny106 := am hy106
      clear hy106
      have H' := am H
      clear H
      go_wp2_with (first | ((with_reducible refine gate_builtin (b := .append) (xs := #[.tmp 15, .tmp 20]) rfl ?_); at_builtin; refine Kd.R_append (Kd.int .u8) (w0 := w0) w0.heap.size rfl (.tmp 15) (.tmp 20) 35 5 (.int .u8 0) 1 rfl Try.underlying35 info5 rfl (by decide) (by omega) u0 x0_1 ((ji6) % 256) [.int .u8 ((ji6) % 256)] (fun k_ => (P0_ k_ ∨ w.heap.size ≤ k_)) (fun _ => False) rfl rfl ?aP (fun _ hk => hk.elim) ?aF ?aO ?aB ?aS ?aL ?_; (case aP => exact rfl); (case aB => exact bel); (case aF => exact (fun k_ hk => (.inr (Nat.le_trans (by first | exact HK.out.1 | exact (show Kept w _ (fun k_ => P0_ k_) from kq).1) hk)))); (case aO => exact (kr HO_0.out)); (case aS => exact (below_size bel)); (case aL => have := LMc7.out; omega); intro v107 w8 ho hb hg hat; rw [← Ny106.out] at ho; have n_ := z3 (hb) (Kept.of_grown (S := (fun k_ => P0_ k_)) hg kq (fun k_ e_ => (HO_0.out.1 k_ e_))) (ho); clear HB HK HO_0; obtain ⟨HB, HK, HO108⟩ := n_; clear ho hb hg hat))
      go_roundg k1
      case measure => have := HK1.out; omega
      case rel => exact ⟨(y106), (wrap64 (x7_1 - 8)), (by first | rfl | (simp; done) | (simp [*]; done)), H', ⟨by have := HK1.out; omega⟩, ⟨kr HO108.out⟩, ⟨kq⟩, ⟨bel⟩⟩
     ·rw [if_neg c7] at H
      exact absurd H (by simp)
    ·rw [if_neg c5] at H
     exact absurd H (by simp)
   ·rw [if_neg c4] at H
    have c4b0 : decide (0 ≤ x7_1) = false := decide_eq_false c4
    clear c4
    obtain rfl := Option.some.inj H
    go_wp2
    go_ret
    exact ⟨_, er, kr HO_0.out, bel, kq⟩
def cmd_eight.f (k : Nat) (l0 : List Int) (a1 : Int) : Option (List Int) := (cmd_fixed.f k l0 a1 8).bind fun t109 => (some t109)
theorem cmd_eight.mono : ∀ a0 a1 k, LeO (cmd_eight.f k a0 a1) (cmd_eight.f (k + 1) a0 a1) := by
  intro a0 a1 k
  unfold cmd_eight.f
  repeat' first
      | (with_reducible exact cmd_fixed.mono _ _ _ _)
      | (with_reducible exact LeO.refl _)
      | (with_reducible exact LeO.none _)
      | (with_reducible refine LeO.ite ?_ ?_)
      | (with_reducible refine LeO.bind ?_ (fun _ => ?_))
set_option maxHeartbeats 8000000 in
set_option maxRecDepth 100000 in
theorem cmd_eight.calls (k : Nat) (P0_ : Nat → Prop) (u9000_ : Value) (l0 : List Int) (a1 : Int) (r : List Int) (w0 w : World) (hB : Below w0.heap.size w0 w) (ho0 : Kd.R (Kd.int .u8) 5 w w0.heap.size P0_ u9000_ l0) (h : cmd_eight.f k l0 a1 = some r) :
  Calls Try.prog 36 #[u9000_, .int .i64 a1] w fun e w' => ∃ v0_ : Value, e = .returned (v0_) ∧ Kd.R (Kd.int .u8) 5 w' w0.heap.size (fun k_ => (P0_ k_ ∨ w.heap.size ≤ k_)) v0_ r ∧ Below w0.heap.size w0 w' ∧ Kept w w' (fun k_ => P0_ k_) := by
 have HO0 := am (show Kd.R (Kd.int .u8) 5 w w0.heap.size (fun k_ => (P0_ k_ ∨ w.heap.size ≤ k_)) u9000_ l0 from Kd.R_mono ho0 (fun k_ hk => (.inl hk)))
 have HK := am (Kept.refl w (fun k_ => P0_ k_))
 have HW0 := am hB.size
 have HB := am hB
 clear hB
 have H : ((cmd_fixed.f k l0 a1 8).bind fun t109 => (some t109)) = some r := h
 clear h
 replace H := Option.bind_eq_some_iff.mp H
 obtain ⟨t109, A30, H⟩ := H
 replace H : (some t109) = some r := H
 have A3 := am A30
 clear A30
 obtain rfl := Option.some.inj H
 obtain ⟨Ao4, co4, eo4⟩ := Kd.R_slice HO0.out
 subst eo4
 go_enter Try.func36, Try.ntmps36
 go_wp2_with (first | ((with_reducible refine gate_callee (f := 58) rfl ?_); refine goesL_ (some 7) rfl rfl Try.func58 (by kernel_rfl) rfl #[.slice Ao4 l0.length co4, .int .i64 a1, .int .i64 8] rfl ar ?_; (with_reducible refine (cmd_fixed.calls k (fun k_ => some k_ = (.slice Ao4 l0.length co4 : Value).ownBlock) (.slice Ao4 l0.length co4) l0 a1 8 t109 w0 _ ?side1 ?side2 A3.out).mono ?_); (case side1 => exact bel); (case side2 => exact Kd.R_tight rfl HO0.out); rintro e w5 ⟨v110, rfl, ho0, hb, hkp⟩; refine ⟨_, rfl, ?_⟩; have n_ := z3 (Kd.R_mono (ok' := fun k_ => (P0_ k_ ∨ w.heap.size ≤ k_)) ho0 (fun k_ hk_ => Or.elim hk_ (fun hs_ => (HO0.out.1 k_ (hs_).symm)) (fun hn_ => (.inr (Nat.le_trans (by first | exact HK.out.1 | exact (show Kept w _ (fun k_ => P0_ k_) from kq).1) hn_))))) (Kept.then_ (S := (fun k_ => P0_ k_)) kq hkp (fun k_ hs_ => (fun e_ => (HO0.out.1 k_ e_.symm)) hs_)) (hb); clear HK HB HO0; obtain ⟨HO111, HK, HB⟩ := n_; (try clear hb); (try clear hkp); (try clear ho0)))
 go_ret
 exact ⟨_, er, kr HO111.out, bel, kq⟩
def cmd_two.f (k : Nat) (l0 : List Int) (a1 : Int) : Option (List Int) := (cmd_fixed.f k l0 a1 2).bind fun t112 => (some t112)
theorem cmd_two.mono : ∀ a0 a1 k, LeO (cmd_two.f k a0 a1) (cmd_two.f (k + 1) a0 a1) := by
  intro a0 a1 k
  unfold cmd_two.f
  repeat' first
      | (with_reducible exact cmd_fixed.mono _ _ _ _)
      | (with_reducible exact LeO.refl _)
      | (with_reducible exact LeO.none _)
      | (with_reducible refine LeO.ite ?_ ?_)
      | (with_reducible refine LeO.bind ?_ (fun _ => ?_))
set_option maxHeartbeats 8000000 in
set_option maxRecDepth 100000 in
theorem cmd_two.calls (k : Nat) (P0_ : Nat → Prop) (u9000_ : Value) (l0 : List Int) (a1 : Int) (r : List Int) (w0 w : World) (hB : Below w0.heap.size w0 w) (ho0 : Kd.R (Kd.int .u8) 5 w w0.heap.size P0_ u9000_ l0) (h : cmd_two.f k l0 a1 = some r) :
  Calls Try.prog 37 #[u9000_, .int .i64 a1] w fun e w' => ∃ v0_ : Value, e = .returned (v0_) ∧ Kd.R (Kd.int .u8) 5 w' w0.heap.size (fun k_ => (P0_ k_ ∨ w.heap.size ≤ k_)) v0_ r ∧ Below w0.heap.size w0 w' ∧ Kept w w' (fun k_ => P0_ k_) := by
 have HO0 := am (show Kd.R (Kd.int .u8) 5 w w0.heap.size (fun k_ => (P0_ k_ ∨ w.heap.size ≤ k_)) u9000_ l0 from Kd.R_mono ho0 (fun k_ hk => (.inl hk)))
 have HK := am (Kept.refl w (fun k_ => P0_ k_))
 have HW0 := am hB.size
 have HB := am hB
 clear hB
 have H : ((cmd_fixed.f k l0 a1 2).bind fun t112 => (some t112)) = some r := h
 clear h
 replace H := Option.bind_eq_some_iff.mp H
 obtain ⟨t112, A30, H⟩ := H
 replace H : (some t112) = some r := H
 have A3 := am A30
 clear A30
 obtain rfl := Option.some.inj H
 obtain ⟨Ao4, co4, eo4⟩ := Kd.R_slice HO0.out
 subst eo4
 go_enter Try.func37, Try.ntmps37
 go_wp2_with (first | ((with_reducible refine gate_callee (f := 58) rfl ?_); refine goesL_ (some 7) rfl rfl Try.func58 (by kernel_rfl) rfl #[.slice Ao4 l0.length co4, .int .i64 a1, .int .i64 2] rfl ar ?_; (with_reducible refine (cmd_fixed.calls k (fun k_ => some k_ = (.slice Ao4 l0.length co4 : Value).ownBlock) (.slice Ao4 l0.length co4) l0 a1 2 t112 w0 _ ?side1 ?side2 A3.out).mono ?_); (case side1 => exact bel); (case side2 => exact Kd.R_tight rfl HO0.out); rintro e w5 ⟨v113, rfl, ho0, hb, hkp⟩; refine ⟨_, rfl, ?_⟩; have n_ := z3 (Kd.R_mono (ok' := fun k_ => (P0_ k_ ∨ w.heap.size ≤ k_)) ho0 (fun k_ hk_ => Or.elim hk_ (fun hs_ => (HO0.out.1 k_ (hs_).symm)) (fun hn_ => (.inr (Nat.le_trans (by first | exact HK.out.1 | exact (show Kept w _ (fun k_ => P0_ k_) from kq).1) hn_))))) (Kept.then_ (S := (fun k_ => P0_ k_)) kq hkp (fun k_ hs_ => (fun e_ => (HO0.out.1 k_ e_.symm)) hs_)) (hb); clear HK HB HO0; obtain ⟨HO114, HK, HB⟩ := n_; (try clear hb); (try clear hkp); (try clear ho0)))
 go_ret
 exact ⟨_, er, kr HO114.out, bel, kq⟩
def cmd_flag.f (l0 : List Int) (a1 : Bool) : Option (List Int) := if a1 = true then (if l0.length < 140737488355328 then (some (l0 ++ [1])) else (none)) else (if l0.length < 140737488355328 then (some (l0 ++ [0])) else (none))
set_option maxHeartbeats 8000000 in
set_option maxRecDepth 100000 in
theorem cmd_flag.calls (P0_ : Nat → Prop) (u9000_ : Value) (l0 : List Int) (a1 : Bool) (r : List Int) (w0 w : World) (hB : Below w0.heap.size w0 w) (ho0 : Kd.R (Kd.int .u8) 5 w w0.heap.size P0_ u9000_ l0) (h : cmd_flag.f l0 a1 = some r) :
  Calls Try.prog 26 #[u9000_, .bool a1] w fun e w' => ∃ v0_ : Value, e = .returned (v0_) ∧ Kd.R (Kd.int .u8) 5 w' w0.heap.size (fun k_ => (P0_ k_ ∨ w.heap.size ≤ k_)) v0_ r ∧ Below w0.heap.size w0 w' ∧ Kept w w' (fun k_ => P0_ k_) := by
 have HO0 := am (show Kd.R (Kd.int .u8) 5 w w0.heap.size (fun k_ => (P0_ k_ ∨ w.heap.size ≤ k_)) u9000_ l0 from Kd.R_mono ho0 (fun k_ hk => (.inl hk)))
 have HK := am (Kept.refl w (fun k_ => P0_ k_))
 have HW0 := am hB.size
 have HB := am hB
 clear hB
 have H : (if a1 = true then (if l0.length < 140737488355328 then (some (l0 ++ [1])) else (none)) else (if l0.length < 140737488355328 then (some (l0 ++ [0])) else (none))) = some r := h
 clear h
 by_cases c3 : a1 = true
 ·subst c3
  have H1 : (if l0.length < 140737488355328 then (some (l0 ++ [1])) else (none)) = some r := by rw [if_pos rfl] at H; exact H
  clear H
  have H := H1
  clear H1
  by_cases c4 : l0.length < 140737488355328
  ·rw [if_pos c4] at H
   have LMc4 := am c4
   clear c4
   obtain ⟨y115, hy115⟩ : ∃ y_ : List Int, y_ = (l0 ++ [1]) := ⟨_, rfl⟩
   replace H : (some y115) = some r := by first | (rw [hy115]; with_reducible exact H) | (have H2_ := (Option.bind_some _ _).symm.trans H; rw [hy115]; with_reducible exact H2_) | (have H2_ := (Option.bind_some _ _).symm.trans H; with_reducible exact H2_) | with_reducible exact H | (rw [hy115]; exact H) | exact H
   have Ny115 := am hy115
   clear hy115
   obtain rfl := Option.some.inj H
   go_enter Try.func26, Try.ntmps26
   go_wp2_with (first | ((with_reducible refine gate_builtin (b := .append) (xs := #[.tmp 6, .tmp 7]) rfl ?_); at_builtin; refine Kd.R_append (Kd.int .u8) (w0 := w0) w0.heap.size rfl (.tmp 6) (.tmp 7) 35 5 (.int .u8 0) 1 rfl Try.underlying35 info5 rfl (by decide) (by omega) u9000_ l0 1 [.int .u8 1] (fun k_ => (P0_ k_ ∨ w.heap.size ≤ k_)) (fun _ => False) rfl rfl ?aP (fun _ hk => hk.elim) ?aF ?aO ?aB ?aS ?aL ?_; (case aP => exact rfl); (case aB => exact bel); (case aF => exact (fun k_ hk => (.inr (Nat.le_trans (by first | exact HK.out.1 | exact (show Kept w _ (fun k_ => P0_ k_) from kq).1) hk)))); (case aO => exact (kr HO0.out)); (case aS => exact (below_size bel)); (case aL => have := LMc4.out; omega); intro v116 w5 ho hb hg hat; rw [← Ny115.out] at ho; have n_ := z3 (hb) (Kept.of_grown (S := (fun k_ => P0_ k_)) hg kq (fun k_ e_ => (HO0.out.1 k_ e_))) (ho); clear HB HK HO0; obtain ⟨HB, HK, HO117⟩ := n_; clear ho hb hg hat))
   go_ret
   exact ⟨_, er, kr HO117.out, bel, kq⟩
  ·rw [if_neg c4] at H
   exact absurd H (by simp)
 ·replace c3 := Bool.eq_false_iff.mpr c3
  subst c3
  have H1 : (if l0.length < 140737488355328 then (some (l0 ++ [0])) else (none)) = some r := by rw [if_neg (show ¬ (false = true) by decide)] at H; exact H
  clear H
  have H := H1
  clear H1
  by_cases c6 : l0.length < 140737488355328
  ·rw [if_pos c6] at H
   have LMc6 := am c6
   clear c6
   obtain ⟨y118, hy118⟩ : ∃ y_ : List Int, y_ = (l0 ++ [0]) := ⟨_, rfl⟩
   replace H : (some y118) = some r := by first | (rw [hy118]; with_reducible exact H) | (have H2_ := (Option.bind_some _ _).symm.trans H; rw [hy118]; with_reducible exact H2_) | (have H2_ := (Option.bind_some _ _).symm.trans H; with_reducible exact H2_) | with_reducible exact H | (rw [hy118]; exact H) | exact H
   have Ny118 := am hy118
   clear hy118
   obtain rfl := Option.some.inj H
   go_enter Try.func26, Try.ntmps26
   go_wp2_with (first | ((with_reducible refine gate_builtin (b := .append) (xs := #[.tmp 9, .tmp 10]) rfl ?_); at_builtin; refine Kd.R_append (Kd.int .u8) (w0 := w0) w0.heap.size rfl (.tmp 9) (.tmp 10) 35 5 (.int .u8 0) 1 rfl Try.underlying35 info5 rfl (by decide) (by omega) u9000_ l0 0 [.int .u8 0] (fun k_ => (P0_ k_ ∨ w.heap.size ≤ k_)) (fun _ => False) rfl rfl ?aP (fun _ hk => hk.elim) ?aF ?aO ?aB ?aS ?aL ?_; (case aP => exact rfl); (case aB => exact bel); (case aF => exact (fun k_ hk => (.inr (Nat.le_trans (by first | exact HK.out.1 | exact (show Kept w _ (fun k_ => P0_ k_) from kq).1) hk)))); (case aO => exact (kr HO0.out)); (case aS => exact (below_size bel)); (case aL => have := LMc6.out; omega); intro v119 w7 ho hb hg hat; rw [← Ny118.out] at ho; have n_ := z3 (hb) (Kept.of_grown (S := (fun k_ => P0_ k_)) hg kq (fun k_ e_ => (HO0.out.1 k_ e_))) (ho); clear HB HK HO0; obtain ⟨HB, HK, HO120⟩ := n_; clear ho hb hg hat))
   go_ret
   exact ⟨_, er, kr HO120.out, bel, kq⟩
  ·rw [if_neg c6] at H
   exact absurd H (by simp)
end Go.Proofs.Ytagjmphkfeiiiaa.Q
