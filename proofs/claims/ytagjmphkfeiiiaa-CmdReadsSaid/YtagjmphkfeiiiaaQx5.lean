/- One function's walk, or a law's, by the text that a program of this session prints; what each theorem says stands in it. -/
import Derived.Test.YtagjmphkfeiiiaaQx0
import Derived.Test.YtagjmphkfeiiiaaQx2
import Derived.Test.YtagjmphkfeiiiaaQx3
import Derived.Test.YtagjmphkfeiiiaaQx4
import Derived.Test.YtagjmphkfeiiiaaXs
namespace Go.Proofs.Ytagjmphkfeiiiaa.Q
open Go.RowKit Go.Proofs.YtagjmphkfeiiiaaW.PrintWords Go.Proofs.YtagjmphkfeiiiaaW.PrintLast Go.Proofs.YtagjmphkfeiiiaaW.PrintMore
attribute [local go_sem] min2_int min_two
set_option linter.unusedVariables false
set_option linter.unusedSimpArgs false
mutual
def cmd_Encode1.j0 : Nat → Bool → Int → Int → Int → Bool → List (S40) → ByteArray → Option (ByteArray × Bool)
  | 0, _, _, _, _, _, _, _ => none
  | k + 1, x29, x167000, x167001, x167002, x167003, x167004, x167005 => if x29 = true then (some ((⟨#[]⟩ : ByteArray), false)) else ((cmd_eight.f k (([49, (x167000) % 256] : List Int)) x167001).bind fun t172 => ((cmd_eight.f k t172 x167002).bind fun t175 => ((cmd_flag.f t175 x167003).bind fun t178 => ((cmd_two.f k t178 (x167004.length : Int)).bind fun t181 => (cmd_Encode1.l0 k t181 x167004 (x167004.length : Int) 0 x167000 x167001 x167002 x167003 x167004 x167005)))))
def cmd_Encode1.l0 : Nat → List Int → List (S40) → Int → Int → Int → Int → Int → Bool → List (S40) → ByteArray → Option (ByteArray × Bool)
  | 0, _, _, _, _, _, _, _, _, _, _ => none
  | k + 1, x7, x61, x62, x63, x167000, x167001, x167002, x167003, x167004, x167005 => if x63 < x62 then (if 0 ≤ x63 then (if x63 < (x61.length : Int) then ((cmd_older.f k x7 ((rd_T40 x61 x63).f0) ((rd_T40 x61 x63).f1) ((rd_T40 x61 x63).f2)).bind fun t186 => (cmd_Encode1.l0 k t186 x61 x62 (wrap64 (x63 + 1)) x167000 x167001 x167002 x167003 x167004 x167005)) else (none)) else (none)) else ((cmd_none.f x7 x167005).bind fun t189 => (some (strOfNums t189, true)))
end
def cmd_Encode1.f (k : Nat) (a0_0 : Int) (a0_1 : Int) (a0_2 : Int) (a0_3 : Bool) (l0_4 : List (S40)) (a0_5 : ByteArray) (a1 : Int) : Option (ByteArray × Bool) := (cmd_right.f k a0_0 a0_1 a0_2 a0_3 l0_4 a0_5).bind fun t167 => (if t167 = true then (cmd_Encode1.j0 k (a0_0 == 5) a0_0 a0_1 a0_2 a0_3 l0_4 a0_5) else (cmd_Encode1.j0 k true a0_0 a0_1 a0_2 a0_3 l0_4 a0_5))
theorem cmd_Encode1.mono_l : ∀ k, (∀ y0 y1 y2 y3 y4 y5 y6, LeO (cmd_Encode1.j0 k y0 y1 y2 y3 y4 y5 y6) (cmd_Encode1.j0 (k + 1) y0 y1 y2 y3 y4 y5 y6)) ∧ (∀ y0 y1 y2 y3 y4 y5 y6 y7 y8 y9, LeO (cmd_Encode1.l0 k y0 y1 y2 y3 y4 y5 y6 y7 y8 y9) (cmd_Encode1.l0 (k + 1) y0 y1 y2 y3 y4 y5 y6 y7 y8 y9))
  | 0 => ⟨fun _ _ _ _ _ _ _ r h => by simp [cmd_Encode1.j0] at h, fun _ _ _ _ _ _ _ _ _ _ r h => by simp [cmd_Encode1.l0] at h⟩
  | k + 1 => by
    obtain ⟨ih0, ih1⟩ := cmd_Encode1.mono_l k
    refine ⟨?_, ?_⟩
    · intro y0 y1 y2 y3 y4 y5 y6
      unfold cmd_Encode1.j0
      repeat' first
      | (with_reducible exact ih0 _ _ _ _ _ _ _)
      | (with_reducible exact ih1 _ _ _ _ _ _ _ _ _ _)
      | (with_reducible exact cmd_eight.mono _ _ _)
      | (with_reducible exact cmd_older.mono _ _ _ _ _)
      | (with_reducible exact cmd_right.mono _ _ _ _ _ _ _)
      | (with_reducible exact cmd_two.mono _ _ _)
      | (with_reducible exact LeO.refl _)
      | (with_reducible exact LeO.none _)
      | (with_reducible refine LeO.ite ?_ ?_)
      | (with_reducible refine LeO.bind ?_ (fun _ => ?_))
    · intro y0 y1 y2 y3 y4 y5 y6 y7 y8 y9
      unfold cmd_Encode1.l0
      repeat' first
      | (with_reducible exact ih0 _ _ _ _ _ _ _)
      | (with_reducible exact ih1 _ _ _ _ _ _ _ _ _ _)
      | (with_reducible exact cmd_eight.mono _ _ _)
      | (with_reducible exact cmd_older.mono _ _ _ _ _)
      | (with_reducible exact cmd_right.mono _ _ _ _ _ _ _)
      | (with_reducible exact cmd_two.mono _ _ _)
      | (with_reducible exact LeO.refl _)
      | (with_reducible exact LeO.none _)
      | (with_reducible refine LeO.ite ?_ ?_)
      | (with_reducible refine LeO.bind ?_ (fun _ => ?_))
theorem cmd_Encode1.mono : ∀ a0 a1 a2 a3 a4 a5 a6 k, LeO (cmd_Encode1.f k a0 a1 a2 a3 a4 a5 a6) (cmd_Encode1.f (k + 1) a0 a1 a2 a3 a4 a5 a6) := by
  intro a0 a1 a2 a3 a4 a5 a6 k
  obtain ⟨ih0, ih1⟩ := cmd_Encode1.mono_l k
  unfold cmd_Encode1.f
  repeat' first
      | (with_reducible exact ih0 _ _ _ _ _ _ _)
      | (with_reducible exact ih1 _ _ _ _ _ _ _ _ _ _)
      | (with_reducible exact cmd_eight.mono _ _ _)
      | (with_reducible exact cmd_older.mono _ _ _ _ _)
      | (with_reducible exact cmd_right.mono _ _ _ _ _ _ _)
      | (with_reducible exact cmd_two.mono _ _ _)
      | (with_reducible exact LeO.refl _)
      | (with_reducible exact LeO.none _)
      | (with_reducible refine LeO.ite ?_ ?_)
      | (with_reducible refine LeO.bind ?_ (fun _ => ?_))
theorem cmd_written1 (w : World) : Calls Try.prog 25 #[.int .i64 1] w fun e w' => e = .returned (.agg #[.func (.func 36) #[] #[], .func (.func 37) #[] #[], .func (.func 38) #[] #[], .func (.func 39) #[] #[]]) ∧ Below w.heap.size w w' := by
  have hu53 := Try.underlying53
  go_enter Try.func25, Try.ntmps25
  go_wp2
  exact bodyPost_ret (v := .agg #[.func (.func 36) #[] #[], .func (.func 37) #[] #[], .func (.func 38) #[] #[], .func (.func 39) #[] #[]]) (by simp [results, Try.results25, go_sem]) rfl ⟨rfl, (Below.refl _ _).alloc (Nat.le_refl _) _⟩
def cmd_Encode1.T5 : Bool × List (List Nat × List Nat) := (true, [([], []), ([0], [0]), ([], []), ([2], [2]), ([], []), ([], []), ([5], [5]), ([3, 4, 6], [3, 4, 6]), ([], []), ([8], [8]), ([1, 7, 9, 7], [1, 7, 9]), ([10, 10, 0, 1, 2, 3, 4, 5, 6, 7, 8, 9, 10], [4, 10])])
def cmd_Encode1.B5 : List Nat := [0, 1, 0, 4, 0, 0, 32, 124, 0, 256, 1023, 2047]
theorem cmd_Encode1.tab5 : rtab .any (opsOf Try.f16 5) = cmd_Encode1.T5 := by kernel_rfl
theorem cmd_Encode1.bits5 : waitsOk cmd_Encode1.T5.2 cmd_Encode1.B5 = true := by kernel_rfl
def cmd_Encode1.T6 : Bool × List (List Nat × List Nat) := (true, [([], []), ([0], [0]), ([], []), ([], []), ([3], [3]), ([2, 4], [2, 4]), ([], []), ([6], [6]), ([7], [7]), ([1, 5, 8, 5], [1, 5, 8]), ([9, 9, 0, 1, 2, 3, 4, 5, 6, 7, 8, 9], [2, 9])])
def cmd_Encode1.B6 : List Nat := [0, 1, 0, 0, 8, 28, 0, 64, 192, 511, 1023]
theorem cmd_Encode1.tab6 : rtab .any (opsOf Try.f16 6) = cmd_Encode1.T6 := by kernel_rfl
theorem cmd_Encode1.bits6 : waitsOk cmd_Encode1.T6.2 cmd_Encode1.B6 = true := by kernel_rfl
set_option maxHeartbeats 8000000 in
set_option maxRecDepth 100000 in
theorem cmd_Encode1.calls (k : Nat) (a0_0 : Int) (a0_1 : Int) (a0_2 : Int) (a0_3 : Bool) (A0_4 : Option Addr) (c0_4 : Nat) (l0_4 : List (S40)) (a0_5 : ByteArray) (a1 : Int) (r1 : ByteArray) (r2 : Bool) (w : World) (hr0_4 : Kd.C k40 w A0_4 l0_4.length l0_4) (hc0_4 : l0_4.length ≤ c0_4) (h : cmd_Encode1.f k a0_0 a0_1 a0_2 a0_3 l0_4 a0_5 a1 = some (r1, r2)) :
  Calls Try.prog 16 #[.agg #[.int .i64 a0_0, .int .i64 a0_1, .int .i64 a0_2, .bool a0_3, .slice A0_4 l0_4.length c0_4, .string a0_5], .int .i64 1] w fun e w' => e = .returned (.tuple #[.string r1, .bool r2]) ∧ Below w.heap.size w w' := by
 have hu26 := Try.underlying26
 have hu53 := Try.underlying53
 have hu40 := Try.underlying40
 have HR0_4 := am hr0_4
 have HC0_4 := am hc0_4
 clear hr0_4 hc0_4
 have HB := am (Below.refl w.heap.size w)
 have H : ((cmd_right.f k a0_0 a0_1 a0_2 a0_3 l0_4 a0_5).bind fun t167 => (if t167 = true then (cmd_Encode1.j0 k (a0_0 == 5) a0_0 a0_1 a0_2 a0_3 l0_4 a0_5) else (cmd_Encode1.j0 k true a0_0 a0_1 a0_2 a0_3 l0_4 a0_5))) = some (r1, r2) := h
 clear h
 have HC3 := am H
 clear H
 go_enter Try.func16, Try.ntmps16
 go_upto_region 1 with (first | ((with_reducible refine gate_dst (N := 2) rfl ?_); refine bx 2 26 (cs := #[.int .i64 a0_0, .int .i64 a0_1, .int .i64 a0_2, .bool a0_3, .slice A0_4 l0_4.length c0_4, .string a0_5]) ?_; intro gb166 hg w4 hbox hb; have n_ := z4 (below_step bel hb) (hbox) ((by rw [hg]; exact (below_size bel) : w.heap.size ≤ gb166)) ((by rw [hg]; exact (below_size bel) : w.heap.size ≤ gb166)); clear HB; obtain ⟨HB, BK166, GW166, GE166⟩ := n_; clear hb hbox hg))
 (try simp only [Act.put, List.setIfInBounds_toArray, List.set_cons_zero, List.set_cons_succ])
 go_cut [29] (fun v29 wc => ∃ (kq : Nat) (x29_2 : Bool), v29 = .bool x29_2 ∧ Aside0 (cmd_Encode1.j0 kq x29_2 a0_0 a0_1 a0_2 a0_3 l0_4 a0_5 = some (r1, r2)) ∧ Aside0 (kq ≤ k) ∧ Aside0 (wc.heap[gb166]? = some (.cells #[.int .i64 a0_0, .int .i64 a0_1, .int .i64 a0_2, .bool a0_3, (.slice A0_4 l0_4.length c0_4), .string a0_5] 26 (0, 0))) ∧ Aside0 (Below w.heap.size w wc))
 case first =>
  have H := HC3.out
  clear HC3
  replace H := Option.bind_eq_some_iff.mp H
  obtain ⟨t167, A50, H⟩ := H
  replace H : (if t167 = true then (cmd_Encode1.j0 k (a0_0 == 5) a0_0 a0_1 a0_2 a0_3 l0_4 a0_5) else (cmd_Encode1.j0 k true a0_0 a0_1 a0_2 a0_3 l0_4 a0_5)) = some (r1, r2) := H
  have A5 := am A50
  clear A50
  by_cases c6 : t167 = true
  ·subst c6
   have H1 : (cmd_Encode1.j0 k (a0_0 == 5) a0_0 a0_1 a0_2 a0_3 l0_4 a0_5) = some (r1, r2) := by rw [if_pos rfl] at H; exact H
   clear H
   have H := H1
   clear H1
   have H' := am H
   clear H
   obtain ⟨hcz7_0, hcz7_1, hcz7_2, hcz7_3, hcz7_4, hcz7_5⟩ := cells6 BK166.out
   obtain ⟨hfz7_0, hfz7_1, hfz7_2, hfz7_3, hfz7_4, hfz7_5⟩ := froz6 BK166.out
   go_wp2_with (first | ((with_reducible refine gate_callee (f := 24) rfl ?_); refine goesL_ (some 11) rfl rfl Try.func24 (by kernel_rfl) rfl #[.agg #[.int .i64 a0_0, .int .i64 a0_1, .int .i64 a0_2, .bool a0_3, .slice A0_4 l0_4.length c0_4, .string a0_5]] rfl ar ?_; (with_reducible refine (cmd_right.calls k a0_0 a0_1 a0_2 a0_3 _ _ l0_4 a0_5 true _ ?side1 ?side2 A5.out).mono ?_); (case side1 => repeat (first | exact (Kd.C_below HR0_4.out HB.out) | (with_reducible refine Kd.C_alloc ?_ _) | (with_reducible refine Kd.C_drewN ?_ _) | (with_reducible refine Kd.C_drew ?_))); (case side2 => exact HC0_4.out); rintro e w8 ⟨rfl, hb⟩; refine ⟨_, rfl, ?_⟩; have n_ := z2 (blk_below (bk BK166.out) hb) (below_step bel hb); clear BK166 HB; obtain ⟨BK166, HB⟩ := n_; (try clear hb); (try clear hb2); (try clear hk); (try clear hi); obtain ⟨hcz9_0, hcz9_1, hcz9_2, hcz9_3, hcz9_4, hcz9_5⟩ := cells6 BK166.out; obtain ⟨hfz9_0, hfz9_1, hfz9_2, hfz9_3, hfz9_4, hfz9_5⟩ := froz6 BK166.out))
   go_meet
   case rel => exact ⟨_, ((a0_0 == 5)), (by first | rfl | (simp; done) | (simp [*]; done)), H', ⟨by first | omega | exact Nat.le_refl _⟩, ⟨bk BK166.out⟩, ⟨bel⟩⟩
  ·replace c6 := Bool.eq_false_iff.mpr c6
   subst c6
   have H1 : (cmd_Encode1.j0 k true a0_0 a0_1 a0_2 a0_3 l0_4 a0_5) = some (r1, r2) := by rw [if_neg (show ¬ (false = true) by decide)] at H; exact H
   clear H
   have H := H1
   clear H1
   have H' := am H
   clear H
   obtain ⟨hcz10_0, hcz10_1, hcz10_2, hcz10_3, hcz10_4, hcz10_5⟩ := cells6 BK166.out
   obtain ⟨hfz10_0, hfz10_1, hfz10_2, hfz10_3, hfz10_4, hfz10_5⟩ := froz6 BK166.out
   go_wp2_with (first | ((with_reducible refine gate_callee (f := 24) rfl ?_); refine goesL_ (some 11) rfl rfl Try.func24 (by kernel_rfl) rfl #[.agg #[.int .i64 a0_0, .int .i64 a0_1, .int .i64 a0_2, .bool a0_3, .slice A0_4 l0_4.length c0_4, .string a0_5]] rfl ar ?_; (with_reducible refine (cmd_right.calls k a0_0 a0_1 a0_2 a0_3 _ _ l0_4 a0_5 false _ ?side1 ?side2 A5.out).mono ?_); (case side1 => repeat (first | exact (Kd.C_below HR0_4.out HB.out) | (with_reducible refine Kd.C_alloc ?_ _) | (with_reducible refine Kd.C_drewN ?_ _) | (with_reducible refine Kd.C_drew ?_))); (case side2 => exact HC0_4.out); rintro e w11 ⟨rfl, hb⟩; refine ⟨_, rfl, ?_⟩; have n_ := z2 (blk_below (bk BK166.out) hb) (below_step bel hb); clear BK166 HB; obtain ⟨BK166, HB⟩ := n_; (try clear hb); (try clear hb2); (try clear hk); (try clear hi)))
   go_meet
   case rel => exact ⟨_, (true), (by first | rfl | (simp; done) | (simp [*]; done)), H', ⟨by first | omega | exact Nat.le_refl _⟩, ⟨bk BK166.out⟩, ⟨bel⟩⟩
 case rest =>
  clear HC3
  try clear c1
  try clear c2
  try clear p2
  try clear c6
  try clear hcz10_0 hcz10_1 hcz10_2 hcz10_3 hcz10_4 hcz10_5
  try clear hcz7_0 hcz7_1 hcz7_2 hcz7_3 hcz7_4 hcz7_5
  try clear hcz9_0 hcz9_1 hcz9_2 hcz9_3 hcz9_4 hcz9_5
  try clear hfz10_0 hfz10_1 hfz10_2 hfz10_3 hfz10_4 hfz10_5
  try clear hfz7_0 hfz7_1 hfz7_2 hfz7_3 hfz7_4 hfz7_5
  try clear hfz9_0 hfz9_1 hfz9_2 hfz9_3 hfz9_4 hfz9_5
  obtain ⟨kq, x29_2, rfl, HA, HJ2, BK166, HB⟩ := hcut
  cases kq with
  | zero => exact absurd HA.out (by simp [cmd_Encode1.j0])
  | succ kj2 =>
   have H := HA.out
   clear HA
   simp only [cmd_Encode1.j0] at H
   by_cases c12 : x29_2 = true
   ·subst c12
    have H1 : (some ((⟨#[]⟩ : ByteArray), false)) = some (r1, r2) := by rw [if_pos rfl] at H; exact H
    clear H
    have H := H1
    clear H1
    simp only [Option.some.injEq, Prod.mk.injEq] at H
    obtain ⟨rfl, rfl⟩ := H
    go_wp2
    go_ret2
    exact ⟨er, bel⟩
   ·replace c12 := Bool.eq_false_iff.mpr c12
    subst c12
    have H1 : ((cmd_eight.f kj2 (([49, (a0_0) % 256] : List Int)) a0_1).bind fun t172 => ((cmd_eight.f kj2 t172 a0_2).bind fun t175 => ((cmd_flag.f t175 a0_3).bind fun t178 => ((cmd_two.f kj2 t178 (l0_4.length : Int)).bind fun t181 => (cmd_Encode1.l0 kj2 t181 l0_4 (l0_4.length : Int) 0 a0_0 a0_1 a0_2 a0_3 l0_4 a0_5))))) = some (r1, r2) := by rw [if_neg (show ¬ (false = true) by decide)] at H; exact H
    clear H
    have H := H1
    clear H1
    obtain ⟨y169, hy169⟩ : ∃ y_ : List Int, y_ = (([49, (a0_0) % 256] : List Int)) := ⟨_, rfl⟩
    replace H : ((cmd_eight.f kj2 y169 a0_1).bind fun t172 => ((cmd_eight.f kj2 t172 a0_2).bind fun t175 => ((cmd_flag.f t175 a0_3).bind fun t178 => ((cmd_two.f kj2 t178 (l0_4.length : Int)).bind fun t181 => (cmd_Encode1.l0 kj2 t181 l0_4 (l0_4.length : Int) 0 a0_0 a0_1 a0_2 a0_3 l0_4 a0_5))))) = some (r1, r2) := by first | (rw [hy169]; with_reducible exact H) | (have H2_ := (Option.bind_some _ _).symm.trans H; rw [hy169]; with_reducible exact H2_) | (have H2_ := (Option.bind_some _ _).symm.trans H; with_reducible exact H2_) | with_reducible exact H | (rw [hy169]; exact H) | exact H
    have Ny169 := am hy169
    clear hy169
    replace H := Option.bind_eq_some_iff.mp H
    obtain ⟨t172, A130, H⟩ := H
    replace H : ((cmd_eight.f kj2 t172 a0_2).bind fun t175 => ((cmd_flag.f t175 a0_3).bind fun t178 => ((cmd_two.f kj2 t178 (l0_4.length : Int)).bind fun t181 => (cmd_Encode1.l0 kj2 t181 l0_4 (l0_4.length : Int) 0 a0_0 a0_1 a0_2 a0_3 l0_4 a0_5)))) = some (r1, r2) := H
    have A13 := am A130
    clear A130
    replace H := Option.bind_eq_some_iff.mp H
    obtain ⟨t175, A140, H⟩ := H
    replace H : ((cmd_flag.f t175 a0_3).bind fun t178 => ((cmd_two.f kj2 t178 (l0_4.length : Int)).bind fun t181 => (cmd_Encode1.l0 kj2 t181 l0_4 (l0_4.length : Int) 0 a0_0 a0_1 a0_2 a0_3 l0_4 a0_5))) = some (r1, r2) := H
    have A14 := am A140
    clear A140
    replace H := Option.bind_eq_some_iff.mp H
    obtain ⟨t178, A150, H⟩ := H
    replace H : ((cmd_two.f kj2 t178 (l0_4.length : Int)).bind fun t181 => (cmd_Encode1.l0 kj2 t181 l0_4 (l0_4.length : Int) 0 a0_0 a0_1 a0_2 a0_3 l0_4 a0_5)) = some (r1, r2) := H
    have A15 := am A150
    clear A150
    replace H := Option.bind_eq_some_iff.mp H
    obtain ⟨t181, A160, H⟩ := H
    replace H : (cmd_Encode1.l0 kj2 t181 l0_4 (l0_4.length : Int) 0 a0_0 a0_1 a0_2 a0_3 l0_4 a0_5) = some (r1, r2) := H
    have A16 := am A160
    clear A160
    have H' := am H
    clear H
    try go_wp2_with (first | ((with_reducible refine gate_callee (f := 25) rfl ?_); refine goesL_ (some 31) rfl rfl Try.func25 (by kernel_rfl) rfl #[.int .i64 1] rfl ar ?_; refine (cmd_written1 _).mono ?_; rintro e wA ⟨rfl, hbA⟩; refine ⟨_, rfl, ?_⟩; have n_ := z2 (blk_below (bk BK166.out) hbA) (below_step bel hbA); clear BK166 HB hbA; obtain ⟨BK166, HB⟩ := n_) | ((with_reducible refine gate_dst (N := 6) rfl ?_); refine bx 6 53 (cs := #[.nilFunc, .nilFunc, .nilFunc, .nilFunc]) ?_; intro gb168 hg w17 hbox hb; have n_ := z7 (blk_below (bk BK166.out) hb) (below_step bel hb) (hbox) ((by rw [hg]; exact (below_size bel) : w.heap.size ≤ gb168)) ((by rw [hg]; exact (below_size bel) : w.heap.size ≤ gb168)) ((by rw [hg]; exact Nat.ne_of_lt (blk_lt (bk BK166.out)) : gb166 ≠ gb168)) ((by rw [hg]; exact Nat.ne_of_gt (blk_lt (bk BK166.out)) : gb168 ≠ gb166)); clear BK166 HB; obtain ⟨BK166, HB, BK168, GW168, GE168, NB166_168, NB168_166⟩ := n_; clear hb hbox hg; have hnb18 := NB168_166.out; have hnc18 := NB166_168.out; obtain ⟨hcz19_0, hcz19_1, hcz19_2, hcz19_3⟩ := cells4 BK168.out; obtain ⟨hfz19_0, hfz19_1, hfz19_2, hfz19_3⟩ := froz4 BK168.out; obtain ⟨hcz20_0, hcz20_1, hcz20_2, hcz20_3, hcz20_4, hcz20_5⟩ := cells6 BK166.out; obtain ⟨hfz20_0, hfz20_1, hfz20_2, hfz20_3, hfz20_4, hfz20_5⟩ := froz6 BK166.out) | ((with_reducible refine gate_dst (N := 38) rfl ?_); refine Kd.R_lit (Kd.int .u8) _ 5 ?hg (N := 38) ?hd (xs := ([49, (a0_0) % 256] : List Int)) (inner := [.int .u8 49, .int .u8 ((a0_0) % 256)]) (ok := fun _ => True) (okp := fun _ => True) ?hr ?hp (fun _ hk => hk) trivial (Below.refl _ _) (Nat.le_refl _) (by simp) ?_; (case hd => rfl); (case hg => rfl); (case hr => first | (go_simp; done) | (go_simp; rfl)); (case hp => exact (Reps.one (show Kd.M (Kd.int .u8) _ _ _ 49 [.int .u8 49] from rfl) (Reps.one (show Kd.M (Kd.int .u8) _ _ _ ((a0_0) % 256) [.int .u8 ((a0_0) % 256)] from rfl) (Reps.none _ _)))); intro v170 w21 ho22 hb hg_ hnew_; clear hg_ hnew_; (first | rw [← Ny169.out] at ho22 | (simp only [Int.reduceToNat] at ho22; rw [← Ny169.out] at ho22)); have n_ := z4 (Kd.R_lower ho22 (below_size bel)) (blk_below (bk BK166.out) hb) (blk_below (g := gb168) (o := .cells #[.func (.func 36) #[] #[], .func (.func 37) #[] #[], .func (.func 38) #[] #[], .func (.func 39) #[] #[]] 53 (0, 0)) (bp BK168.out) hb) (below_step bel hb); clear BK166 BK168 HB; obtain ⟨HO171, BK166, BK168, HB⟩ := n_; clear hb ho22))
    have n_ := z4 (Kd.R_drew HO171.out) (blk_drew BK166.out) (blk_drew BK168.out) (below_drew1 HB.out)
    clear HO171 BK166 BK168 HB
    obtain ⟨HO171, BK166, BK168, HB⟩ := n_
    obtain ⟨Ao24, co24, eo24⟩ := Kd.R_slice HO171.out
    (first | subst eo24 | (injection eo24 with f1_ f2_ f3_; have f4_ := f1_.symm; have f5_ := f3_.symm; clear f1_ f2_ f3_; subst f4_; subst f5_))
    refine start_ (n := 12) (S := fun w' => w'.cell? ⟨gb168, 0, none⟩ = some (.func (.func 36) #[] #[]) ∧ w'.cell? ⟨gb168, 1, none⟩ = some (.func (.func 37) #[] #[]) ∧ w'.cell? ⟨gb168, 2, none⟩ = some (.func (.func 38) #[] #[]) ∧ w'.cell? ⟨gb168, 3, none⟩ = some (.func (.func 39) #[] #[]) ∧ w'.cell? ⟨gb166, 0, none⟩ = some (.int .i64 a0_0) ∧ w'.cell? ⟨gb166, 1, none⟩ = some (.int .i64 a0_1) ∧ w'.cell? ⟨gb166, 2, none⟩ = some (.int .i64 a0_2) ∧ w'.cell? ⟨gb166, 3, none⟩ = some (.bool a0_3) ∧ w'.cell? ⟨gb166, 4, none⟩ = some (.slice A0_4 l0_4.length c0_4) ∧ w'.cell? ⟨gb166, 5, none⟩ = some (.string a0_5)) (ds := []) #[false, false, false, false, false, false, false, false, false, false, false, false] (by kernel_rfl) rfl rfl ⟨(blk_cell BK168.out 0).trans rfl, (blk_cell BK168.out 1).trans rfl, (blk_cell BK168.out 2).trans rfl, (blk_cell BK168.out 3).trans rfl, (blk_cell BK166.out 0).trans rfl, (blk_cell BK166.out 1).trans rfl, (blk_cell BK166.out 2).trans rfl, (blk_cell BK166.out 3).trans rfl, (blk_cell BK166.out 4).trans rfl, (blk_cell BK166.out 5).trans rfl⟩ (fun hHeld => ?_); refine with_tabW cmd_Encode1.tab5 cmd_Encode1.bits5 (fun HT_ HW_ => ?_)
    generalize w21.drew = w23 at HO171 BK166 BK168 HB hHeld ⊢
    refine pu 0 (some 39) #[true, false, false, false, false, false, false, false, false, false, false, false] ?_
    refine pu 2 (some 41) #[true, false, true, false, false, false, false, false, false, false, false, false] ?_
    refine pu 4 (some 43) #[true, false, true, false, true, false, false, false, false, false, false, false] ?_
    refine pu 5 (some 44) #[true, false, true, false, true, true, false, false, false, false, false, false] ?_
    refine pu 8 (some 47) #[true, false, true, false, true, true, false, false, true, false, false, false] ?_
    refine ta 1 (some 40) #[true, true, true, false, true, true, false, false, true, false, false, false] ?_
    refine ta 3 (some 42) #[true, true, true, true, true, true, false, false, true, false, false, false] ?_
    refine ta 6 (some 45) #[true, true, true, true, true, true, true, false, true, false, false, false] ?_
    refine ta 9 (some 48) #[true, true, true, true, true, true, true, false, true, true, false, false] ?_
    refine on 7 (some 46) #[true, true, true, true, true, true, true, true, true, true, false, false] (fun K hK => ?_)
    refine goesV_ Try.func36 (by kernel_rfl) rfl #[.slice Ao24 y169.length co24, .int .i64 a0_1] (by rfl) rfl rfl rfl ar ?_
    with_reducible refine (cmd_eight.calls kj2 (fun k_ => some k_ = (.slice Ao24 y169.length co24 : Value).ownBlock) (.slice Ao24 y169.length co24) y169 a0_1 t172 w _ ?side1 ?side2 A13.out).mono ?_
    (case side1 => exact bel)
    (case side2 => exact Kd.R_tight rfl HO171.out)
    rintro e w25 ⟨v173, rfl, ho0, hb, hkp⟩
    refine ⟨_, rfl, ?_⟩
    have n_ := z4 (blk_kept (bk BK166.out) hkp (fun hs_ => (fun e_ => (Kd.R_ne HO171.out BK166.out (by decide)) e_) hs_)) (blk_kept (bk BK168.out) hkp (fun hs_ => (fun e_ => (Kd.R_ne HO171.out BK168.out (by decide)) e_) hs_)) (Kd.R_mono (ok' := fun k_ => True) ho0 (fun k_ hk_ => trivial)) (hb)
    clear BK166 BK168 HB HO171
    obtain ⟨BK166, BK168, HO174, HB⟩ := n_
    (try clear hb)
    (try clear hkp)
    (try clear ho0)
    obtain ⟨Ao26, co26, eo26⟩ := Kd.R_slice HO174.out
    (first | subst eo26 | (injection eo26 with f1_ f2_ f3_; have f4_ := f1_.symm; have f5_ := f3_.symm; clear f1_ f2_ f3_; subst f4_; subst f5_))
    refine hK.out _ _ ⟨(blk_cell BK168.out 0).trans rfl, (blk_cell BK168.out 1).trans rfl, (blk_cell BK168.out 2).trans rfl, (blk_cell BK168.out 3).trans rfl, (blk_cell BK166.out 0).trans rfl, (blk_cell BK166.out 1).trans rfl, (blk_cell BK166.out 2).trans rfl, (blk_cell BK166.out 3).trans rfl, (blk_cell BK166.out 4).trans rfl, (blk_cell BK166.out 5).trans rfl⟩ (fun hHeld => ?_)
    clear hK K
    refine no 46 ?_
    refine on 10 (some 49) #[true, true, true, true, true, true, true, true, true, true, true, false] (fun K hK => ?_)
    refine goesV_ Try.func36 (by kernel_rfl) rfl #[.slice Ao26 t172.length co26, .int .i64 a0_2] (by rfl) rfl rfl rfl ar ?_
    with_reducible refine (cmd_eight.calls kj2 (fun k_ => some k_ = (.slice Ao26 t172.length co26 : Value).ownBlock) (.slice Ao26 t172.length co26) t172 a0_2 t175 w _ ?side1 ?side2 A14.out).mono ?_
    (case side1 => exact bel)
    (case side2 => exact Kd.R_tight rfl HO174.out)
    rintro e w27 ⟨v176, rfl, ho0, hb, hkp⟩
    refine ⟨_, rfl, ?_⟩
    have n_ := z4 (blk_kept (bk BK166.out) hkp (fun hs_ => (fun e_ => (Kd.R_ne HO174.out BK166.out (by decide)) e_) hs_)) (blk_kept (bk BK168.out) hkp (fun hs_ => (fun e_ => (Kd.R_ne HO174.out BK168.out (by decide)) e_) hs_)) (Kd.R_mono (ok' := fun k_ => True) ho0 (fun k_ hk_ => trivial)) (hb)
    clear BK166 BK168 HB HO174
    obtain ⟨BK166, BK168, HO177, HB⟩ := n_
    (try clear hb)
    (try clear hkp)
    (try clear ho0)
    refine hK.out _ _ ⟨(blk_cell BK168.out 0).trans rfl, (blk_cell BK168.out 1).trans rfl, (blk_cell BK168.out 2).trans rfl, (blk_cell BK168.out 3).trans rfl, (blk_cell BK166.out 0).trans rfl, (blk_cell BK166.out 1).trans rfl, (blk_cell BK166.out 2).trans rfl, (blk_cell BK166.out 3).trans rfl, (blk_cell BK166.out 4).trans rfl, (blk_cell BK166.out 5).trans rfl⟩ (fun hHeld => ?_)
    clear hK K
    refine no 49 ?_
    refine pu 11 (some 7) #[true, true, true, true, true, true, true, true, true, true, true, true] ?_
    refine done_ (done_of HT_.out (by kernel_rfl)) ?_
    try go_wp2
    have n_ := z4 (Kd.R_drew HO177.out) (blk_drew BK166.out) (blk_drew BK168.out) (below_drew1 HB.out)
    clear HO177 BK166 BK168 HB
    obtain ⟨HO177, BK166, BK168, HB⟩ := n_
    obtain ⟨Ao29, co29, eo29⟩ := Kd.R_slice HO177.out
    (first | subst eo29 | (injection eo29 with f1_ f2_ f3_; have f4_ := f1_.symm; have f5_ := f3_.symm; clear f1_ f2_ f3_; subst f4_; subst f5_))
    refine start_ (n := 11) (S := fun w' => w'.cell? ⟨gb168, 0, none⟩ = some (.func (.func 36) #[] #[]) ∧ w'.cell? ⟨gb168, 1, none⟩ = some (.func (.func 37) #[] #[]) ∧ w'.cell? ⟨gb168, 2, none⟩ = some (.func (.func 38) #[] #[]) ∧ w'.cell? ⟨gb168, 3, none⟩ = some (.func (.func 39) #[] #[]) ∧ w'.cell? ⟨gb166, 0, none⟩ = some (.int .i64 a0_0) ∧ w'.cell? ⟨gb166, 1, none⟩ = some (.int .i64 a0_1) ∧ w'.cell? ⟨gb166, 2, none⟩ = some (.int .i64 a0_2) ∧ w'.cell? ⟨gb166, 3, none⟩ = some (.bool a0_3) ∧ w'.cell? ⟨gb166, 4, none⟩ = some (.slice A0_4 l0_4.length c0_4) ∧ w'.cell? ⟨gb166, 5, none⟩ = some (.string a0_5)) (ds := []) #[false, false, false, false, false, false, false, false, false, false, false] (by kernel_rfl) rfl rfl ⟨(blk_cell BK168.out 0).trans rfl, (blk_cell BK168.out 1).trans rfl, (blk_cell BK168.out 2).trans rfl, (blk_cell BK168.out 3).trans rfl, (blk_cell BK166.out 0).trans rfl, (blk_cell BK166.out 1).trans rfl, (blk_cell BK166.out 2).trans rfl, (blk_cell BK166.out 3).trans rfl, (blk_cell BK166.out 4).trans rfl, (blk_cell BK166.out 5).trans rfl⟩ (fun hHeld => ?_); refine with_tabW cmd_Encode1.tab6 cmd_Encode1.bits6 (fun HT_ HW_ => ?_)
    generalize w27.drew = w28 at HO177 BK166 BK168 HB hHeld ⊢
    refine pu 0 (some 50) #[true, false, false, false, false, false, false, false, false, false, false] ?_
    refine pu 2 (some 52) #[true, false, true, false, false, false, false, false, false, false, false] ?_
    refine pu 3 (some 53) #[true, false, true, true, false, false, false, false, false, false, false] ?_
    refine pu 6 (some 56) #[true, false, true, true, false, false, true, false, false, false, false] ?_
    refine ta 1 (some 51) #[true, true, true, true, false, false, true, false, false, false, false] ?_
    refine ta 4 (some 54) #[true, true, true, true, true, false, true, false, false, false, false] ?_
    refine ta 7 (some 57) #[true, true, true, true, true, false, true, true, false, false, false] ?_
    refine pu 8 (some 58) #[true, true, true, true, true, false, true, true, true, false, false] ?_
    refine on 5 (some 55) #[true, true, true, true, true, true, true, true, true, false, false] (fun K hK => ?_)
    refine goes_ Try.func26 (by kernel_rfl) rfl #[.slice Ao29 t175.length co29, .bool a0_3] (by rfl) rfl rfl ar ?_
    with_reducible refine (cmd_flag.calls (fun k_ => some k_ = (.slice Ao29 t175.length co29 : Value).ownBlock) (.slice Ao29 t175.length co29) t175 a0_3 t178 w _ ?side1 ?side2 A15.out).mono ?_
    (case side1 => exact bel)
    (case side2 => exact Kd.R_tight rfl HO177.out)
    rintro e w30 ⟨v179, rfl, ho0, hb, hkp⟩
    refine ⟨_, rfl, ?_⟩
    have n_ := z4 (blk_kept (bk BK166.out) hkp (fun hs_ => (fun e_ => (Kd.R_ne HO177.out BK166.out (by decide)) e_) hs_)) (blk_kept (bk BK168.out) hkp (fun hs_ => (fun e_ => (Kd.R_ne HO177.out BK168.out (by decide)) e_) hs_)) (Kd.R_mono (ok' := fun k_ => True) ho0 (fun k_ hk_ => trivial)) (hb)
    clear BK166 BK168 HB HO177
    obtain ⟨BK166, BK168, HO180, HB⟩ := n_
    (try clear hb)
    (try clear hkp)
    (try clear ho0)
    obtain ⟨Ao31, co31, eo31⟩ := Kd.R_slice HO180.out
    (first | subst eo31 | (injection eo31 with f1_ f2_ f3_; have f4_ := f1_.symm; have f5_ := f3_.symm; clear f1_ f2_ f3_; subst f4_; subst f5_))
    refine hK.out _ _ ⟨(blk_cell BK168.out 0).trans rfl, (blk_cell BK168.out 1).trans rfl, (blk_cell BK168.out 2).trans rfl, (blk_cell BK168.out 3).trans rfl, (blk_cell BK166.out 0).trans rfl, (blk_cell BK166.out 1).trans rfl, (blk_cell BK166.out 2).trans rfl, (blk_cell BK166.out 3).trans rfl, (blk_cell BK166.out 4).trans rfl, (blk_cell BK166.out 5).trans rfl⟩ (fun hHeld => ?_)
    clear hK K
    refine no 55 ?_
    refine on 9 (some 59) #[true, true, true, true, true, true, true, true, true, true, false] (fun K hK => ?_)
    refine goesV_ Try.func37 (by kernel_rfl) rfl #[.slice Ao31 t178.length co31, .int .i64 (l0_4.length : Int)] (by rfl) rfl rfl rfl ar ?_
    with_reducible refine (cmd_two.calls kj2 (fun k_ => some k_ = (.slice Ao31 t178.length co31 : Value).ownBlock) (.slice Ao31 t178.length co31) t178 (l0_4.length : Int) t181 w _ ?side1 ?side2 A16.out).mono ?_
    (case side1 => exact bel)
    (case side2 => exact Kd.R_tight rfl HO180.out)
    rintro e w32 ⟨v182, rfl, ho0, hb, hkp⟩
    refine ⟨_, rfl, ?_⟩
    have n_ := z4 (blk_kept (bk BK166.out) hkp (fun hs_ => (fun e_ => (Kd.R_ne HO180.out BK166.out (by decide)) e_) hs_)) (blk_kept (bk BK168.out) hkp (fun hs_ => (fun e_ => (Kd.R_ne HO180.out BK168.out (by decide)) e_) hs_)) (Kd.R_mono (ok' := fun k_ => True) ho0 (fun k_ hk_ => trivial)) (hb)
    clear BK166 BK168 HB HO180
    obtain ⟨BK166, BK168, HO183, HB⟩ := n_
    (try clear hb)
    (try clear hkp)
    (try clear ho0)
    refine hK.out _ _ ⟨(blk_cell BK168.out 0).trans rfl, (blk_cell BK168.out 1).trans rfl, (blk_cell BK168.out 2).trans rfl, (blk_cell BK168.out 3).trans rfl, (blk_cell BK166.out 0).trans rfl, (blk_cell BK166.out 1).trans rfl, (blk_cell BK166.out 2).trans rfl, (blk_cell BK166.out 3).trans rfl, (blk_cell BK166.out 4).trans rfl, (blk_cell BK166.out 5).trans rfl⟩ (fun hHeld => ?_)
    clear hK K
    refine no 59 ?_
    refine pu 10 (some 7) #[true, true, true, true, true, true, true, true, true, true, true] ?_
    refine done_ (done_of HT_.out (by kernel_rfl)) ?_
    obtain ⟨hcz33_0, hcz33_1, hcz33_2, hcz33_3, hcz33_4, hcz33_5⟩ := cells6 BK166.out
    obtain ⟨hfz33_0, hfz33_1, hfz33_2, hfz33_3, hfz33_4, hfz33_5⟩ := froz6 BK166.out
    try go_wp2
    go_loopg [7, 63] kj2 (fun kq v7 v63 w' => ∃ (x7_2 : List Int) (x63_2 : Int), v63 = .int .i64 x63_2 ∧ Aside0 (cmd_Encode1.l0 kq x7_2 l0_4 (l0_4.length : Int) x63_2 a0_0 a0_1 a0_2 a0_3 l0_4 a0_5 = some (r1, r2)) ∧ Aside0 (kq ≤ kj2) ∧ Aside0 (Kd.R (Kd.int .u8) 5 w' w.heap.size (fun _ => True) v7 x7_2) ∧ Aside0 (w'.heap[gb166]? = some (.cells #[.int .i64 a0_0, .int .i64 a0_1, .int .i64 a0_2, .bool a0_3, (.slice A0_4 l0_4.length c0_4), .string a0_5] 26 (0, 0))) ∧ Aside0 (w'.heap[gb168]? = some (.cells #[.func (.func 36) #[] #[], .func (.func 37) #[] #[], .func (.func 38) #[] #[], .func (.func 39) #[] #[]] 53 (0, 0))) ∧ Aside0 (Below w.heap.size w w'))
    case atStart => exact ⟨(t181), (0), (by first | rfl | (simp; done) | (simp [*]; done)), H', ⟨Nat.le_refl _⟩, ⟨kr HO183.out⟩, ⟨bk BK166.out⟩, ⟨bk BK168.out⟩, ⟨bel⟩⟩
    case round =>
     clear H'
     try clear c1
     try clear c2
     try clear p2
     try clear c3
     try clear c6
     try clear c12
     try clear c16
     try clear c18
     try clear c24
     try clear c26
     try clear hcz10_0 hcz10_1 hcz10_2 hcz10_3 hcz10_4 hcz10_5
     try clear hcz19_0 hcz19_1 hcz19_2 hcz19_3
     try clear hcz20_0 hcz20_1 hcz20_2 hcz20_3 hcz20_4 hcz20_5
     try clear hcz33_0 hcz33_1 hcz33_2 hcz33_3 hcz33_4 hcz33_5
     try clear hcz7_0 hcz7_1 hcz7_2 hcz7_3 hcz7_4 hcz7_5
     try clear hcz9_0 hcz9_1 hcz9_2 hcz9_3 hcz9_4 hcz9_5
     try clear hfz10_0 hfz10_1 hfz10_2 hfz10_3 hfz10_4 hfz10_5
     try clear hfz19_0 hfz19_1 hfz19_2 hfz19_3
     try clear hfz20_0 hfz20_1 hfz20_2 hfz20_3 hfz20_4 hfz20_5
     try clear hfz33_0 hfz33_1 hfz33_2 hfz33_3 hfz33_4 hfz33_5
     try clear hfz7_0 hfz7_1 hfz7_2 hfz7_3 hfz7_4 hfz7_5
     try clear hfz9_0 hfz9_1 hfz9_2 hfz9_3 hfz9_4 hfz9_5
     try clear p2
     obtain ⟨x7_2, x63_2, rfl, HA, HK2, HO_7, BK166, BK168, HB⟩ := hrel
     cases gk with
     | zero => exact absurd HA.out (by simp [cmd_Encode1.l0])
     | succ k2 =>
      have H := HA.out
      clear HA
      simp only [cmd_Encode1.l0] at H
      by_cases c34 : x63_2 < (l0_4.length : Int)
      ·rw [if_pos c34] at H
       have c34b0 : decide (x63_2 < (l0_4.length : Int)) = true := decide_eq_true c34
       clear c34
       by_cases c35 : 0 ≤ x63_2
       ·rw [if_pos c35] at H
        have c35b0 : decide (0 ≤ x63_2) = true := decide_eq_true c35
        clear c35
        by_cases c36 : x63_2 < (l0_4.length : Int)
        ·rw [if_pos c36] at H
         have c36b0 : decide (x63_2 < (l0_4.length : Int)) = true := decide_eq_true c36
         clear c36
         replace H := Option.bind_eq_some_iff.mp H
         obtain ⟨t186, A370, H⟩ := H
         replace H : (cmd_Encode1.l0 k2 t186 l0_4 (l0_4.length : Int) (wrap64 (x63_2 + 1)) a0_0 a0_1 a0_2 a0_3 l0_4 a0_5) = some (r1, r2) := H
         have A37 := am A370
         clear A370
         have H' := am H
         clear H
         have p184 : 0 ≤ (x63_2 : Int) := of_decide_eq_true (by first | (with_reducible assumption) | assumption)
         have q184 : x63_2 < (l0_4.length : Int) := of_decide_eq_true (by first | (with_reducible assumption) | assumption)
         obtain ⟨ad184, e184, hx184_0, hx184_1, hx184_2⟩ := at_T40 HR0_4.out x63_2 p184 q184
         cases e184
         replace hx184_0 := (HB.out.cell (World.block_lt_of_cell? w _ hx184_0)).trans hx184_0
         replace hx184_1 := (HB.out.cell (World.block_lt_of_cell? w _ hx184_1)).trans hx184_1
         replace hx184_2 := (HB.out.cell (World.block_lt_of_cell? w _ hx184_2)).trans hx184_2
         replace p184 := eq_true p184
         replace q184 := eq_true q184
         go_wp2_with (first | ((with_reducible refine gate_dst (N := 9) rfl ?_); refine bx 9 40 (cs := #[.string (⟨#[]⟩ : ByteArray), .string (⟨#[]⟩ : ByteArray), .bool false]) ?_; intro gb185 hg w38 hbox hb; have n_ := z11 (Kd.R_below (kr HO_7.out) hb) (blk_below (bk BK166.out) hb) (blk_below (bk BK168.out) hb) (below_step bel hb) (hbox) ((by rw [hg]; exact (below_size bel) : w.heap.size ≤ gb185)) ((by rw [hg]; exact (below_size bel) : w.heap.size ≤ gb185)) ((by rw [hg]; exact Nat.ne_of_lt (blk_lt (bk BK166.out)) : gb166 ≠ gb185)) ((by rw [hg]; exact Nat.ne_of_gt (blk_lt (bk BK166.out)) : gb185 ≠ gb166)) ((by rw [hg]; exact Nat.ne_of_lt (blk_lt (bk BK168.out)) : gb168 ≠ gb185)) ((by rw [hg]; exact Nat.ne_of_gt (blk_lt (bk BK168.out)) : gb185 ≠ gb168)); clear HO_7 BK166 BK168 HB; obtain ⟨HO_7, BK166, BK168, HB, BK185, GW185, GE185, NB166_185, NB185_166, NB168_185, NB185_168⟩ := n_; clear hb hbox hg; have hnb39 := NB185_166.out; have hnc39 := NB166_185.out; have hnb40 := NB185_168.out; have hnc40 := NB168_185.out; obtain ⟨hcz41_0, hcz41_1, hcz41_2⟩ := cells3 BK185.out; obtain ⟨hfz41_0, hfz41_1, hfz41_2⟩ := froz3 BK185.out) | ((with_reducible refine gate_store (t := 40) (p := 9) rfl ?_); refine store_event (t := 40) (p := 9) (v := ?vo_w42) (w1 := (((w38.setCell ⟨gb185, 0, none⟩ (.string ((rd_T40 l0_4 x63_2).f0))).setCell ⟨gb185, 1, none⟩ (.string ((rd_T40 l0_4 x63_2).f1))).setCell ⟨gb185, 2, none⟩ (.bool ((rd_T40 l0_4 x63_2).f2)))) ?hg ?ho ?hn ?hr ?_; (case ho => rfl); (case hg => rfl); (case hn => rfl); (case hr => first | (go_simp; done) | (go_simp; rfl)); intro w42 hw; have n0_ : Aside0 (Kd.R (Kd.int .u8) 5 w42 w.heap.size (fun _ => True) u7 x7_2) := ⟨(by rw [hw]; exact (by (with_reducible repeat (first | apply Kd.R_alloc | apply Kd.R_drewN | apply Kd.R_drew)); exact Kd.R_mono (Kd.R_far (p := ⟨gb185, 2, none⟩) (Kd.R_far (p := ⟨gb185, 1, none⟩) (Kd.R_far (p := ⟨gb185, 0, none⟩) (Kd.R_types HO_7.out BK185.out (by decide)) (fun _ hk => hk.2) (.string ((rd_T40 l0_4 x63_2).f0))) (fun _ hk => hk.2) (.string ((rd_T40 l0_4 x63_2).f1))) (fun _ hk => hk.2) (.bool ((rd_T40 l0_4 x63_2).f2))) (fun _ hk => trivial)))⟩; have n1_ : Aside0 (w42.heap[gb166]? = some (.cells #[.int .i64 a0_0, .int .i64 a0_1, .int .i64 a0_2, .bool a0_3, .slice (some ad184) l0_4.length c0_4, .string a0_5] 26 (0, 0))) := ⟨(by rw [hw]; exact (bk BK166.out))⟩; have n2_ : Aside0 (w42.heap[gb168]? = some (.cells #[.func (.func 36) #[] #[], .func (.func 37) #[] #[], .func (.func 38) #[] #[], .func (.func 39) #[] #[]] 53 (0, 0))) := ⟨(by rw [hw]; exact (bk BK168.out))⟩; have n3_ : Aside0 (w42.heap[gb185]? = some (.cells #[.string ((rd_T40 l0_4 x63_2).f0), .string ((rd_T40 l0_4 x63_2).f1), .bool ((rd_T40 l0_4 x63_2).f2)] 40 (0, 0))) := ⟨(by rw [hw]; exact (bp BK185.out))⟩; have n4_ : Aside0 (Below w.heap.size w w42) := ⟨(by rw [hw]; exact bel)⟩; clear hw HO_7 BK166 BK168 BK185 HB; have HO_7 := n0_; have BK166 := n1_; have BK168 := n2_; have BK185 := n3_; have HB := n4_; clear n0_ n1_ n2_ n3_ n4_; have hnb43 := NB168_166.out; have hnc43 := NB166_168.out; obtain ⟨hcz44_0, hcz44_1, hcz44_2, hcz44_3⟩ := cells4 BK168.out; obtain ⟨hfz44_0, hfz44_1, hfz44_2, hfz44_3⟩ := froz4 BK168.out; obtain ⟨hcz45_0, hcz45_1, hcz45_2⟩ := cells3 BK185.out; obtain ⟨hfz45_0, hfz45_1, hfz45_2⟩ := froz3 BK185.out; obtain ⟨Ao46, co46, eo46⟩ := Kd.R_slice HO_7.out; subst eo46) | ((with_reducible refine gate_dst (N := 71) rfl ?_); refine goesLV_ (some 71) rfl rfl Try.func38 (by kernel_rfl) rfl #[.slice Ao46 x7_2.length co46, .agg #[.string ((rd_T40 l0_4 x63_2).f0), .string ((rd_T40 l0_4 x63_2).f1), .bool ((rd_T40 l0_4 x63_2).f2)]] rfl rfl ar ?_; (with_reducible refine (cmd_older.calls k2 (fun k_ => some k_ = (.slice Ao46 x7_2.length co46 : Value).ownBlock) (.slice Ao46 x7_2.length co46) x7_2 ((rd_T40 l0_4 x63_2).f0) ((rd_T40 l0_4 x63_2).f1) ((rd_T40 l0_4 x63_2).f2) t186 w _ ?side1 ?side2 A37.out).mono ?_); (case side1 => exact bel); (case side2 => exact Kd.R_tight rfl HO_7.out); rintro e w47 ⟨v187, rfl, ho0, hb, hkp⟩; refine ⟨_, rfl, ?_⟩; have n_ := z5 (blk_kept (bk BK166.out) hkp (fun hs_ => (fun e_ => (Kd.R_ne HO_7.out BK166.out (by decide)) e_) hs_)) (blk_kept (bk BK168.out) hkp (fun hs_ => (fun e_ => (Kd.R_ne HO_7.out BK168.out (by decide)) e_) hs_)) (blk_kept (bk BK185.out) hkp (fun hs_ => (fun e_ => (Kd.R_ne HO_7.out BK185.out (by decide)) e_) hs_)) (Kd.R_mono (ok' := fun k_ => True) ho0 (fun k_ hk_ => trivial)) (hb); clear BK166 BK168 BK185 HB HO_7; obtain ⟨BK166, BK168, BK185, HO188, HB⟩ := n_; (try clear hb); (try clear hkp); (try clear ho0)))
         go_roundg k2
         case measure => have := HJ2.out; have := HK2.out; omega
         case rel => exact ⟨(t186), (wrap64 (x63_2 + 1)), (by first | rfl | (simp; done) | (simp [*]; done)), H', ⟨by have := HJ2.out; have := HK2.out; omega⟩, ⟨kr HO188.out⟩, ⟨bk BK166.out⟩, ⟨bk BK168.out⟩, ⟨bel⟩⟩
        ·rw [if_neg c36] at H
         exact absurd H (by simp)
       ·rw [if_neg c35] at H
        exact absurd H (by simp)
      ·rw [if_neg c34] at H
       have c34b0 : decide (x63_2 < (l0_4.length : Int)) = false := decide_eq_false c34
       clear c34
       replace H := Option.bind_eq_some_iff.mp H
       obtain ⟨t189, A480, H⟩ := H
       replace H : (some (strOfNums t189, true)) = some (r1, r2) := H
       have A48 := am A480
       clear A480
       simp only [Option.some.injEq, Prod.mk.injEq] at H
       obtain ⟨rfl, rfl⟩ := H
       have hnb49 := NB168_166.out
       have hnc49 := NB166_168.out
       obtain ⟨hcz50_0, hcz50_1, hcz50_2, hcz50_3⟩ := cells4 BK168.out
       obtain ⟨hfz50_0, hfz50_1, hfz50_2, hfz50_3⟩ := froz4 BK168.out
       obtain ⟨hcz51_0, hcz51_1, hcz51_2, hcz51_3, hcz51_4, hcz51_5⟩ := cells6 BK166.out
       obtain ⟨hfz51_0, hfz51_1, hfz51_2, hfz51_3, hfz51_4, hfz51_5⟩ := froz6 BK166.out
       obtain ⟨Ao52, co52, eo52⟩ := Kd.R_slice HO_7.out
       subst eo52
       go_wp2_with (first | ((with_reducible refine gate_dst (N := 78) rfl ?_); refine goesLV_ (some 78) rfl rfl Try.func39 (by kernel_rfl) rfl #[.slice Ao52 x7_2.length co52, .string a0_5] rfl rfl ar ?_; (with_reducible refine (cmd_none.calls (fun k_ => some k_ = (.slice Ao52 x7_2.length co52 : Value).ownBlock) (.slice Ao52 x7_2.length co52) x7_2 a0_5 t189 w _ ?side1 ?side2 A48.out).mono ?_); (case side1 => exact bel); (case side2 => exact Kd.R_tight rfl HO_7.out); rintro e w53 ⟨v190, rfl, ho0, hb, hkp⟩; refine ⟨_, rfl, ?_⟩; have n_ := z4 (blk_kept (bk BK166.out) hkp (fun hs_ => (fun e_ => (Kd.R_ne HO_7.out BK166.out (by decide)) e_) hs_)) (blk_kept (bk BK168.out) hkp (fun hs_ => (fun e_ => (Kd.R_ne HO_7.out BK168.out (by decide)) e_) hs_)) (Kd.R_mono (ok' := fun k_ => True) ho0 (fun k_ hk_ => trivial)) (hb); clear BK166 BK168 HB HO_7; obtain ⟨BK166, BK168, HO191, HB⟩ := n_; (try clear hb); (try clear hkp); (try clear ho0); have hcv54 := own_string (P := Try.prog) Try.underlying35 Try.underlying5 Try.underlying9 (Kd.own_of_R HO191.out)))
       go_ret2
       exact ⟨er, bel⟩
def cmd_Encode2.l0 : Nat → List Int → List (S40) → Int → Int → Int → Int → Int → Bool → List (S40) → ByteArray → Option (ByteArray × Bool)
 | 0, _, _, _, _, _, _, _, _, _, _ => none
 | k + 1, x7, x61, x62, x63, x193000, x193001, x193002, x193003, x193004, x193005 => if x63 < x62 then (if 0 ≤ x63 then (if x63 < (x61.length : Int) then ((cmd_newer.f k x7 ((rd_T40 x61 x63).f0) ((rd_T40 x61 x63).f1) ((rd_T40 x61 x63).f2)).bind fun t212 => (cmd_Encode2.l0 k t212 x61 x62 (wrap64 (x63 + 1)) x193000 x193001 x193002 x193003 x193004 x193005)) else (none)) else (none)) else ((cmd_said.f k x7 x193005).bind fun t215 => (some (strOfNums t215, true)))
def cmd_Encode2.f (k : Nat) (a0_0 : Int) (a0_1 : Int) (a0_2 : Int) (a0_3 : Bool) (l0_4 : List (S40)) (a0_5 : ByteArray) (a1 : Int) : Option (ByteArray × Bool) := (cmd_right.f k a0_0 a0_1 a0_2 a0_3 l0_4 a0_5).bind fun t193 => (if t193 = true then ((cmd_short.f k (([50, (a0_0) % 256] : List Int)) a0_1).bind fun t198 => ((cmd_short.f k t198 a0_2).bind fun t201 => ((cmd_flag.f t201 a0_3).bind fun t204 => ((cmd_short.f k t204 (l0_4.length : Int)).bind fun t207 => (cmd_Encode2.l0 k t207 l0_4 (l0_4.length : Int) 0 a0_0 a0_1 a0_2 a0_3 l0_4 a0_5))))) else (some ((⟨#[]⟩ : ByteArray), false)))
theorem cmd_Encode2.mono_l : ∀ k, (∀ y0 y1 y2 y3 y4 y5 y6 y7 y8 y9, LeO (cmd_Encode2.l0 k y0 y1 y2 y3 y4 y5 y6 y7 y8 y9) (cmd_Encode2.l0 (k + 1) y0 y1 y2 y3 y4 y5 y6 y7 y8 y9))
 | 0 => fun _ _ _ _ _ _ _ _ _ _ r h => by simp [cmd_Encode2.l0] at h
 | k + 1 => by
  have ih0 := cmd_Encode2.mono_l k
  ·intro y0 y1 y2 y3 y4 y5 y6 y7 y8 y9
   unfold cmd_Encode2.l0
   repeat' first
   | (with_reducible exact ih0 _ _ _ _ _ _ _ _ _ _)
   | (with_reducible exact cmd_newer.mono _ _ _ _ _)
   | (with_reducible exact cmd_right.mono _ _ _ _ _ _ _)
   | (with_reducible exact cmd_said.mono _ _ _)
   | (with_reducible exact cmd_short.mono _ _ _)
   | (with_reducible exact LeO.refl _)
   | (with_reducible exact LeO.none _)
   | (with_reducible refine LeO.ite ?_ ?_)
   | (with_reducible refine LeO.bind ?_ (fun _ => ?_))
theorem cmd_Encode2.mono : ∀ a0 a1 a2 a3 a4 a5 a6 k, LeO (cmd_Encode2.f k a0 a1 a2 a3 a4 a5 a6) (cmd_Encode2.f (k + 1) a0 a1 a2 a3 a4 a5 a6) := by
 intro a0 a1 a2 a3 a4 a5 a6 k
 have ih0 := cmd_Encode2.mono_l k
 unfold cmd_Encode2.f
 repeat' first
   | (with_reducible exact ih0 _ _ _ _ _ _ _ _ _ _)
   | (with_reducible exact cmd_newer.mono _ _ _ _ _)
   | (with_reducible exact cmd_right.mono _ _ _ _ _ _ _)
   | (with_reducible exact cmd_said.mono _ _ _)
   | (with_reducible exact cmd_short.mono _ _ _)
   | (with_reducible exact LeO.refl _)
   | (with_reducible exact LeO.none _)
   | (with_reducible refine LeO.ite ?_ ?_)
   | (with_reducible refine LeO.bind ?_ (fun _ => ?_))
theorem cmd_written2 (w : World) : Calls Try.prog 25 #[.int .i64 2] w fun e w' => e = .returned (.agg #[.func (.func 40) #[] #[], .func (.func 40) #[] #[], .func (.func 41) #[] #[], .func (.func 42) #[] #[]]) ∧ Below w.heap.size w w' := by
 have hu53 := Try.underlying53
 go_enter Try.func25, Try.ntmps25
 go_wp2
 exact bodyPost_ret (v := .agg #[.func (.func 40) #[] #[], .func (.func 40) #[] #[], .func (.func 41) #[] #[], .func (.func 42) #[] #[]]) (by simp [results, Try.results25, go_sem]) rfl ⟨rfl, (Below.refl _ _).alloc (Nat.le_refl _) _⟩
def cmd_Encode2.T5 : Bool × List (List Nat × List Nat) := (true, [([], []), ([0], [0]), ([], []), ([2], [2]), ([], []), ([], []), ([5], [5]), ([3, 4, 6], [3, 4, 6]), ([], []), ([8], [8]), ([1, 7, 9, 7], [1, 7, 9]), ([10, 10, 0, 1, 2, 3, 4, 5, 6, 7, 8, 9, 10], [4, 10])])
def cmd_Encode2.B5 : List Nat := [0, 1, 0, 4, 0, 0, 32, 124, 0, 256, 1023, 2047]
theorem cmd_Encode2.tab5 : rtab .any (opsOf Try.f16 5) = cmd_Encode2.T5 := by kernel_rfl
theorem cmd_Encode2.bits5 : waitsOk cmd_Encode2.T5.2 cmd_Encode2.B5 = true := by kernel_rfl
def cmd_Encode2.T6 : Bool × List (List Nat × List Nat) := (true, [([], []), ([0], [0]), ([], []), ([], []), ([3], [3]), ([2, 4], [2, 4]), ([], []), ([6], [6]), ([7], [7]), ([1, 5, 8, 5], [1, 5, 8]), ([9, 9, 0, 1, 2, 3, 4, 5, 6, 7, 8, 9], [2, 9])])
def cmd_Encode2.B6 : List Nat := [0, 1, 0, 0, 8, 28, 0, 64, 192, 511, 1023]
theorem cmd_Encode2.tab6 : rtab .any (opsOf Try.f16 6) = cmd_Encode2.T6 := by kernel_rfl
theorem cmd_Encode2.bits6 : waitsOk cmd_Encode2.T6.2 cmd_Encode2.B6 = true := by kernel_rfl
set_option maxHeartbeats 8000000 in
set_option maxRecDepth 100000 in
theorem cmd_Encode2.calls (k : Nat) (a0_0 : Int) (a0_1 : Int) (a0_2 : Int) (a0_3 : Bool) (A0_4 : Option Addr) (c0_4 : Nat) (l0_4 : List (S40)) (a0_5 : ByteArray) (a1 : Int) (r1 : ByteArray) (r2 : Bool) (w : World) (hr0_4 : Kd.C k40 w A0_4 l0_4.length l0_4) (hc0_4 : l0_4.length ≤ c0_4) (h : cmd_Encode2.f k a0_0 a0_1 a0_2 a0_3 l0_4 a0_5 a1 = some (r1, r2)) :
  Calls Try.prog 16 #[.agg #[.int .i64 a0_0, .int .i64 a0_1, .int .i64 a0_2, .bool a0_3, .slice A0_4 l0_4.length c0_4, .string a0_5], .int .i64 2] w fun e w' => e = .returned (.tuple #[.string r1, .bool r2]) ∧ Below w.heap.size w w' := by
 have hu26 := Try.underlying26
 have hu53 := Try.underlying53
 have hu40 := Try.underlying40
 have HR0_4 := am hr0_4
 have HC0_4 := am hc0_4
 clear hr0_4 hc0_4
 have HB := am (Below.refl w.heap.size w)
 have H : ((cmd_right.f k a0_0 a0_1 a0_2 a0_3 l0_4 a0_5).bind fun t193 => (if t193 = true then ((cmd_short.f k (([50, (a0_0) % 256] : List Int)) a0_1).bind fun t198 => ((cmd_short.f k t198 a0_2).bind fun t201 => ((cmd_flag.f t201 a0_3).bind fun t204 => ((cmd_short.f k t204 (l0_4.length : Int)).bind fun t207 => (cmd_Encode2.l0 k t207 l0_4 (l0_4.length : Int) 0 a0_0 a0_1 a0_2 a0_3 l0_4 a0_5))))) else (some ((⟨#[]⟩ : ByteArray), false)))) = some (r1, r2) := h
 clear h
 replace H := Option.bind_eq_some_iff.mp H
 obtain ⟨t193, A30, H⟩ := H
 replace H : (if t193 = true then ((cmd_short.f k (([50, (a0_0) % 256] : List Int)) a0_1).bind fun t198 => ((cmd_short.f k t198 a0_2).bind fun t201 => ((cmd_flag.f t201 a0_3).bind fun t204 => ((cmd_short.f k t204 (l0_4.length : Int)).bind fun t207 => (cmd_Encode2.l0 k t207 l0_4 (l0_4.length : Int) 0 a0_0 a0_1 a0_2 a0_3 l0_4 a0_5))))) else (some ((⟨#[]⟩ : ByteArray), false))) = some (r1, r2) := H
 have A3 := am A30
 clear A30
 by_cases c4 : t193 = true
 ·subst c4
  have H1 : ((cmd_short.f k (([50, (a0_0) % 256] : List Int)) a0_1).bind fun t198 => ((cmd_short.f k t198 a0_2).bind fun t201 => ((cmd_flag.f t201 a0_3).bind fun t204 => ((cmd_short.f k t204 (l0_4.length : Int)).bind fun t207 => (cmd_Encode2.l0 k t207 l0_4 (l0_4.length : Int) 0 a0_0 a0_1 a0_2 a0_3 l0_4 a0_5))))) = some (r1, r2) := by rw [if_pos rfl] at H; exact H
  clear H
  have H := H1
  clear H1
  obtain ⟨y195, hy195⟩ : ∃ y_ : List Int, y_ = (([50, (a0_0) % 256] : List Int)) := ⟨_, rfl⟩
  replace H : ((cmd_short.f k y195 a0_1).bind fun t198 => ((cmd_short.f k t198 a0_2).bind fun t201 => ((cmd_flag.f t201 a0_3).bind fun t204 => ((cmd_short.f k t204 (l0_4.length : Int)).bind fun t207 => (cmd_Encode2.l0 k t207 l0_4 (l0_4.length : Int) 0 a0_0 a0_1 a0_2 a0_3 l0_4 a0_5))))) = some (r1, r2) := by first | (rw [hy195]; with_reducible exact H) | (have H2_ := (Option.bind_some _ _).symm.trans H; rw [hy195]; with_reducible exact H2_) | (have H2_ := (Option.bind_some _ _).symm.trans H; with_reducible exact H2_) | with_reducible exact H | (rw [hy195]; exact H) | exact H
  have Ny195 := am hy195
  clear hy195
  replace H := Option.bind_eq_some_iff.mp H
  obtain ⟨t198, A50, H⟩ := H
  replace H : ((cmd_short.f k t198 a0_2).bind fun t201 => ((cmd_flag.f t201 a0_3).bind fun t204 => ((cmd_short.f k t204 (l0_4.length : Int)).bind fun t207 => (cmd_Encode2.l0 k t207 l0_4 (l0_4.length : Int) 0 a0_0 a0_1 a0_2 a0_3 l0_4 a0_5)))) = some (r1, r2) := H
  have A5 := am A50
  clear A50
  replace H := Option.bind_eq_some_iff.mp H
  obtain ⟨t201, A60, H⟩ := H
  replace H : ((cmd_flag.f t201 a0_3).bind fun t204 => ((cmd_short.f k t204 (l0_4.length : Int)).bind fun t207 => (cmd_Encode2.l0 k t207 l0_4 (l0_4.length : Int) 0 a0_0 a0_1 a0_2 a0_3 l0_4 a0_5))) = some (r1, r2) := H
  have A6 := am A60
  clear A60
  replace H := Option.bind_eq_some_iff.mp H
  obtain ⟨t204, A70, H⟩ := H
  replace H : ((cmd_short.f k t204 (l0_4.length : Int)).bind fun t207 => (cmd_Encode2.l0 k t207 l0_4 (l0_4.length : Int) 0 a0_0 a0_1 a0_2 a0_3 l0_4 a0_5)) = some (r1, r2) := H
  have A7 := am A70
  clear A70
  replace H := Option.bind_eq_some_iff.mp H
  obtain ⟨t207, A80, H⟩ := H
  replace H : (cmd_Encode2.l0 k t207 l0_4 (l0_4.length : Int) 0 a0_0 a0_1 a0_2 a0_3 l0_4 a0_5) = some (r1, r2) := H
  have A8 := am A80
  clear A80
  have H' := am H
  clear H
  go_enter Try.func16, Try.ntmps16
  try go_wp2_with (first | ((with_reducible refine gate_dst (N := 2) rfl ?_); refine bx 2 26 (cs := #[.int .i64 a0_0, .int .i64 a0_1, .int .i64 a0_2, .bool a0_3, .slice A0_4 l0_4.length c0_4, .string a0_5]) ?_; intro gb192 hg w9 hbox hb; have n_ := z4 (below_step bel hb) (hbox) ((by rw [hg]; exact (below_size bel) : w.heap.size ≤ gb192)) ((by rw [hg]; exact (below_size bel) : w.heap.size ≤ gb192)); clear HB; obtain ⟨HB, BK192, GW192, GE192⟩ := n_; clear hb hbox hg; obtain ⟨hcz10_0, hcz10_1, hcz10_2, hcz10_3, hcz10_4, hcz10_5⟩ := cells6 BK192.out; obtain ⟨hfz10_0, hfz10_1, hfz10_2, hfz10_3, hfz10_4, hfz10_5⟩ := froz6 BK192.out) | ((with_reducible refine gate_callee (f := 24) rfl ?_); refine goesL_ (some 11) rfl rfl Try.func24 (by kernel_rfl) rfl #[.agg #[.int .i64 a0_0, .int .i64 a0_1, .int .i64 a0_2, .bool a0_3, .slice A0_4 l0_4.length c0_4, .string a0_5]] rfl ar ?_; (with_reducible refine (cmd_right.calls k a0_0 a0_1 a0_2 a0_3 _ _ l0_4 a0_5 true _ ?side1 ?side2 A3.out).mono ?_); (case side1 => repeat (first | exact (Kd.C_below HR0_4.out HB.out) | (with_reducible refine Kd.C_alloc ?_ _) | (with_reducible refine Kd.C_drewN ?_ _) | (with_reducible refine Kd.C_drew ?_))); (case side2 => exact HC0_4.out); rintro e w11 ⟨rfl, hb⟩; refine ⟨_, rfl, ?_⟩; have n_ := z2 (blk_below (bk BK192.out) hb) (below_step bel hb); clear BK192 HB; obtain ⟨BK192, HB⟩ := n_; (try clear hb); (try clear hb2); (try clear hk); (try clear hi)) | ((with_reducible refine gate_callee (f := 25) rfl ?_); refine goesL_ (some 31) rfl rfl Try.func25 (by kernel_rfl) rfl #[.int .i64 2] rfl ar ?_; refine (cmd_written2 _).mono ?_; rintro e wA ⟨rfl, hbA⟩; refine ⟨_, rfl, ?_⟩; have n_ := z2 (blk_below (bk BK192.out) hbA) (below_step bel hbA); clear BK192 HB hbA; obtain ⟨BK192, HB⟩ := n_) | ((with_reducible refine gate_dst (N := 6) rfl ?_); refine bx 6 53 (cs := #[.nilFunc, .nilFunc, .nilFunc, .nilFunc]) ?_; intro gb194 hg w12 hbox hb; have n_ := z7 (blk_below (bk BK192.out) hb) (below_step bel hb) (hbox) ((by rw [hg]; exact (below_size bel) : w.heap.size ≤ gb194)) ((by rw [hg]; exact (below_size bel) : w.heap.size ≤ gb194)) ((by rw [hg]; exact Nat.ne_of_lt (blk_lt (bk BK192.out)) : gb192 ≠ gb194)) ((by rw [hg]; exact Nat.ne_of_gt (blk_lt (bk BK192.out)) : gb194 ≠ gb192)); clear BK192 HB; obtain ⟨BK192, HB, BK194, GW194, GE194, NB192_194, NB194_192⟩ := n_; clear hb hbox hg; have hnb13 := NB194_192.out; have hnc13 := NB192_194.out; obtain ⟨hcz14_0, hcz14_1, hcz14_2, hcz14_3⟩ := cells4 BK194.out; obtain ⟨hfz14_0, hfz14_1, hfz14_2, hfz14_3⟩ := froz4 BK194.out; obtain ⟨hcz15_0, hcz15_1, hcz15_2, hcz15_3, hcz15_4, hcz15_5⟩ := cells6 BK192.out; obtain ⟨hfz15_0, hfz15_1, hfz15_2, hfz15_3, hfz15_4, hfz15_5⟩ := froz6 BK192.out) | ((with_reducible refine gate_dst (N := 38) rfl ?_); refine Kd.R_lit (Kd.int .u8) _ 5 ?hg (N := 38) ?hd (xs := ([50, (a0_0) % 256] : List Int)) (inner := [.int .u8 50, .int .u8 ((a0_0) % 256)]) (ok := fun _ => True) (okp := fun _ => True) ?hr ?hp (fun _ hk => hk) trivial (Below.refl _ _) (Nat.le_refl _) (by simp) ?_; (case hd => rfl); (case hg => rfl); (case hr => first | (go_simp; done) | (go_simp; rfl)); (case hp => exact (Reps.one (show Kd.M (Kd.int .u8) _ _ _ 50 [.int .u8 50] from rfl) (Reps.one (show Kd.M (Kd.int .u8) _ _ _ ((a0_0) % 256) [.int .u8 ((a0_0) % 256)] from rfl) (Reps.none _ _)))); intro v196 w16 ho17 hb hg_ hnew_; clear hg_ hnew_; (first | rw [← Ny195.out] at ho17 | (simp only [Int.reduceToNat] at ho17; rw [← Ny195.out] at ho17)); have n_ := z4 (Kd.R_lower ho17 (below_size bel)) (blk_below (bk BK192.out) hb) (blk_below (g := gb194) (o := .cells #[.func (.func 40) #[] #[], .func (.func 40) #[] #[], .func (.func 41) #[] #[], .func (.func 42) #[] #[]] 53 (0, 0)) (bp BK194.out) hb) (below_step bel hb); clear BK192 BK194 HB; obtain ⟨HO197, BK192, BK194, HB⟩ := n_; clear hb ho17))
  have n_ := z4 (Kd.R_drew HO197.out) (blk_drew BK192.out) (blk_drew BK194.out) (below_drew1 HB.out)
  clear HO197 BK192 BK194 HB
  obtain ⟨HO197, BK192, BK194, HB⟩ := n_
  obtain ⟨Ao19, co19, eo19⟩ := Kd.R_slice HO197.out
  (first | subst eo19 | (injection eo19 with f1_ f2_ f3_; have f4_ := f1_.symm; have f5_ := f3_.symm; clear f1_ f2_ f3_; subst f4_; subst f5_))
  refine start_ (n := 12) (S := fun w' => w'.cell? ⟨gb194, 0, none⟩ = some (.func (.func 40) #[] #[]) ∧ w'.cell? ⟨gb194, 1, none⟩ = some (.func (.func 40) #[] #[]) ∧ w'.cell? ⟨gb194, 2, none⟩ = some (.func (.func 41) #[] #[]) ∧ w'.cell? ⟨gb194, 3, none⟩ = some (.func (.func 42) #[] #[]) ∧ w'.cell? ⟨gb192, 0, none⟩ = some (.int .i64 a0_0) ∧ w'.cell? ⟨gb192, 1, none⟩ = some (.int .i64 a0_1) ∧ w'.cell? ⟨gb192, 2, none⟩ = some (.int .i64 a0_2) ∧ w'.cell? ⟨gb192, 3, none⟩ = some (.bool a0_3) ∧ w'.cell? ⟨gb192, 4, none⟩ = some (.slice A0_4 l0_4.length c0_4) ∧ w'.cell? ⟨gb192, 5, none⟩ = some (.string a0_5)) (ds := []) #[false, false, false, false, false, false, false, false, false, false, false, false] (by kernel_rfl) rfl rfl ⟨(blk_cell BK194.out 0).trans rfl, (blk_cell BK194.out 1).trans rfl, (blk_cell BK194.out 2).trans rfl, (blk_cell BK194.out 3).trans rfl, (blk_cell BK192.out 0).trans rfl, (blk_cell BK192.out 1).trans rfl, (blk_cell BK192.out 2).trans rfl, (blk_cell BK192.out 3).trans rfl, (blk_cell BK192.out 4).trans rfl, (blk_cell BK192.out 5).trans rfl⟩ (fun hHeld => ?_); refine with_tabW cmd_Encode2.tab5 cmd_Encode2.bits5 (fun HT_ HW_ => ?_)
  generalize w16.drew = w18 at HO197 BK192 BK194 HB hHeld ⊢
  refine pu 0 (some 39) #[true, false, false, false, false, false, false, false, false, false, false, false] ?_
  refine pu 2 (some 41) #[true, false, true, false, false, false, false, false, false, false, false, false] ?_
  refine pu 4 (some 43) #[true, false, true, false, true, false, false, false, false, false, false, false] ?_
  refine pu 5 (some 44) #[true, false, true, false, true, true, false, false, false, false, false, false] ?_
  refine pu 8 (some 47) #[true, false, true, false, true, true, false, false, true, false, false, false] ?_
  refine ta 1 (some 40) #[true, true, true, false, true, true, false, false, true, false, false, false] ?_
  refine ta 3 (some 42) #[true, true, true, true, true, true, false, false, true, false, false, false] ?_
  refine ta 6 (some 45) #[true, true, true, true, true, true, true, false, true, false, false, false] ?_
  refine ta 9 (some 48) #[true, true, true, true, true, true, true, false, true, true, false, false] ?_
  refine on 7 (some 46) #[true, true, true, true, true, true, true, true, true, true, false, false] (fun K hK => ?_)
  refine goesV_ Try.func40 (by kernel_rfl) rfl #[.slice Ao19 y195.length co19, .int .i64 a0_1] (by rfl) rfl rfl rfl ar ?_
  with_reducible refine (cmd_short.calls k (fun k_ => some k_ = (.slice Ao19 y195.length co19 : Value).ownBlock) (.slice Ao19 y195.length co19) y195 a0_1 t198 w _ ?side1 ?side2 A5.out).mono ?_
  (case side1 => exact bel)
  (case side2 => exact Kd.R_tight rfl HO197.out)
  rintro e w20 ⟨v199, rfl, ho0, hb, hkp⟩
  refine ⟨_, rfl, ?_⟩
  have n_ := z4 (blk_kept (bk BK192.out) hkp (fun hs_ => (fun e_ => (Kd.R_ne HO197.out BK192.out (by decide)) e_) hs_)) (blk_kept (bk BK194.out) hkp (fun hs_ => (fun e_ => (Kd.R_ne HO197.out BK194.out (by decide)) e_) hs_)) (Kd.R_mono (ok' := fun k_ => True) ho0 (fun k_ hk_ => trivial)) (hb)
  clear BK192 BK194 HB HO197
  obtain ⟨BK192, BK194, HO200, HB⟩ := n_
  (try clear hb)
  (try clear hkp)
  (try clear ho0)
  obtain ⟨Ao21, co21, eo21⟩ := Kd.R_slice HO200.out
  (first | subst eo21 | (injection eo21 with f1_ f2_ f3_; have f4_ := f1_.symm; have f5_ := f3_.symm; clear f1_ f2_ f3_; subst f4_; subst f5_))
  refine hK.out _ _ ⟨(blk_cell BK194.out 0).trans rfl, (blk_cell BK194.out 1).trans rfl, (blk_cell BK194.out 2).trans rfl, (blk_cell BK194.out 3).trans rfl, (blk_cell BK192.out 0).trans rfl, (blk_cell BK192.out 1).trans rfl, (blk_cell BK192.out 2).trans rfl, (blk_cell BK192.out 3).trans rfl, (blk_cell BK192.out 4).trans rfl, (blk_cell BK192.out 5).trans rfl⟩ (fun hHeld => ?_)
  clear hK K
  refine no 46 ?_
  refine on 10 (some 49) #[true, true, true, true, true, true, true, true, true, true, true, false] (fun K hK => ?_)
  refine goesV_ Try.func40 (by kernel_rfl) rfl #[.slice Ao21 t198.length co21, .int .i64 a0_2] (by rfl) rfl rfl rfl ar ?_
  with_reducible refine (cmd_short.calls k (fun k_ => some k_ = (.slice Ao21 t198.length co21 : Value).ownBlock) (.slice Ao21 t198.length co21) t198 a0_2 t201 w _ ?side1 ?side2 A6.out).mono ?_
  (case side1 => exact bel)
  (case side2 => exact Kd.R_tight rfl HO200.out)
  rintro e w22 ⟨v202, rfl, ho0, hb, hkp⟩
  refine ⟨_, rfl, ?_⟩
  have n_ := z4 (blk_kept (bk BK192.out) hkp (fun hs_ => (fun e_ => (Kd.R_ne HO200.out BK192.out (by decide)) e_) hs_)) (blk_kept (bk BK194.out) hkp (fun hs_ => (fun e_ => (Kd.R_ne HO200.out BK194.out (by decide)) e_) hs_)) (Kd.R_mono (ok' := fun k_ => True) ho0 (fun k_ hk_ => trivial)) (hb)
  clear BK192 BK194 HB HO200
  obtain ⟨BK192, BK194, HO203, HB⟩ := n_
  (try clear hb)
  (try clear hkp)
  (try clear ho0)
  refine hK.out _ _ ⟨(blk_cell BK194.out 0).trans rfl, (blk_cell BK194.out 1).trans rfl, (blk_cell BK194.out 2).trans rfl, (blk_cell BK194.out 3).trans rfl, (blk_cell BK192.out 0).trans rfl, (blk_cell BK192.out 1).trans rfl, (blk_cell BK192.out 2).trans rfl, (blk_cell BK192.out 3).trans rfl, (blk_cell BK192.out 4).trans rfl, (blk_cell BK192.out 5).trans rfl⟩ (fun hHeld => ?_)
  clear hK K
  refine no 49 ?_
  refine pu 11 (some 7) #[true, true, true, true, true, true, true, true, true, true, true, true] ?_
  refine done_ (done_of HT_.out (by kernel_rfl)) ?_
  try go_wp2
  have n_ := z4 (Kd.R_drew HO203.out) (blk_drew BK192.out) (blk_drew BK194.out) (below_drew1 HB.out)
  clear HO203 BK192 BK194 HB
  obtain ⟨HO203, BK192, BK194, HB⟩ := n_
  obtain ⟨Ao24, co24, eo24⟩ := Kd.R_slice HO203.out
  (first | subst eo24 | (injection eo24 with f1_ f2_ f3_; have f4_ := f1_.symm; have f5_ := f3_.symm; clear f1_ f2_ f3_; subst f4_; subst f5_))
  refine start_ (n := 11) (S := fun w' => w'.cell? ⟨gb194, 0, none⟩ = some (.func (.func 40) #[] #[]) ∧ w'.cell? ⟨gb194, 1, none⟩ = some (.func (.func 40) #[] #[]) ∧ w'.cell? ⟨gb194, 2, none⟩ = some (.func (.func 41) #[] #[]) ∧ w'.cell? ⟨gb194, 3, none⟩ = some (.func (.func 42) #[] #[]) ∧ w'.cell? ⟨gb192, 0, none⟩ = some (.int .i64 a0_0) ∧ w'.cell? ⟨gb192, 1, none⟩ = some (.int .i64 a0_1) ∧ w'.cell? ⟨gb192, 2, none⟩ = some (.int .i64 a0_2) ∧ w'.cell? ⟨gb192, 3, none⟩ = some (.bool a0_3) ∧ w'.cell? ⟨gb192, 4, none⟩ = some (.slice A0_4 l0_4.length c0_4) ∧ w'.cell? ⟨gb192, 5, none⟩ = some (.string a0_5)) (ds := []) #[false, false, false, false, false, false, false, false, false, false, false] (by kernel_rfl) rfl rfl ⟨(blk_cell BK194.out 0).trans rfl, (blk_cell BK194.out 1).trans rfl, (blk_cell BK194.out 2).trans rfl, (blk_cell BK194.out 3).trans rfl, (blk_cell BK192.out 0).trans rfl, (blk_cell BK192.out 1).trans rfl, (blk_cell BK192.out 2).trans rfl, (blk_cell BK192.out 3).trans rfl, (blk_cell BK192.out 4).trans rfl, (blk_cell BK192.out 5).trans rfl⟩ (fun hHeld => ?_); refine with_tabW cmd_Encode2.tab6 cmd_Encode2.bits6 (fun HT_ HW_ => ?_)
  generalize w22.drew = w23 at HO203 BK192 BK194 HB hHeld ⊢
  refine pu 0 (some 50) #[true, false, false, false, false, false, false, false, false, false, false] ?_
  refine pu 2 (some 52) #[true, false, true, false, false, false, false, false, false, false, false] ?_
  refine pu 3 (some 53) #[true, false, true, true, false, false, false, false, false, false, false] ?_
  refine pu 6 (some 56) #[true, false, true, true, false, false, true, false, false, false, false] ?_
  refine ta 1 (some 51) #[true, true, true, true, false, false, true, false, false, false, false] ?_
  refine ta 4 (some 54) #[true, true, true, true, true, false, true, false, false, false, false] ?_
  refine ta 7 (some 57) #[true, true, true, true, true, false, true, true, false, false, false] ?_
  refine pu 8 (some 58) #[true, true, true, true, true, false, true, true, true, false, false] ?_
  refine on 5 (some 55) #[true, true, true, true, true, true, true, true, true, false, false] (fun K hK => ?_)
  refine goes_ Try.func26 (by kernel_rfl) rfl #[.slice Ao24 t201.length co24, .bool a0_3] (by rfl) rfl rfl ar ?_
  with_reducible refine (cmd_flag.calls (fun k_ => some k_ = (.slice Ao24 t201.length co24 : Value).ownBlock) (.slice Ao24 t201.length co24) t201 a0_3 t204 w _ ?side1 ?side2 A7.out).mono ?_
  (case side1 => exact bel)
  (case side2 => exact Kd.R_tight rfl HO203.out)
  rintro e w25 ⟨v205, rfl, ho0, hb, hkp⟩
  refine ⟨_, rfl, ?_⟩
  have n_ := z4 (blk_kept (bk BK192.out) hkp (fun hs_ => (fun e_ => (Kd.R_ne HO203.out BK192.out (by decide)) e_) hs_)) (blk_kept (bk BK194.out) hkp (fun hs_ => (fun e_ => (Kd.R_ne HO203.out BK194.out (by decide)) e_) hs_)) (Kd.R_mono (ok' := fun k_ => True) ho0 (fun k_ hk_ => trivial)) (hb)
  clear BK192 BK194 HB HO203
  obtain ⟨BK192, BK194, HO206, HB⟩ := n_
  (try clear hb)
  (try clear hkp)
  (try clear ho0)
  obtain ⟨Ao26, co26, eo26⟩ := Kd.R_slice HO206.out
  (first | subst eo26 | (injection eo26 with f1_ f2_ f3_; have f4_ := f1_.symm; have f5_ := f3_.symm; clear f1_ f2_ f3_; subst f4_; subst f5_))
  refine hK.out _ _ ⟨(blk_cell BK194.out 0).trans rfl, (blk_cell BK194.out 1).trans rfl, (blk_cell BK194.out 2).trans rfl, (blk_cell BK194.out 3).trans rfl, (blk_cell BK192.out 0).trans rfl, (blk_cell BK192.out 1).trans rfl, (blk_cell BK192.out 2).trans rfl, (blk_cell BK192.out 3).trans rfl, (blk_cell BK192.out 4).trans rfl, (blk_cell BK192.out 5).trans rfl⟩ (fun hHeld => ?_)
  clear hK K
  refine no 55 ?_
  refine on 9 (some 59) #[true, true, true, true, true, true, true, true, true, true, false] (fun K hK => ?_)
  refine goesV_ Try.func40 (by kernel_rfl) rfl #[.slice Ao26 t204.length co26, .int .i64 (l0_4.length : Int)] (by rfl) rfl rfl rfl ar ?_
  with_reducible refine (cmd_short.calls k (fun k_ => some k_ = (.slice Ao26 t204.length co26 : Value).ownBlock) (.slice Ao26 t204.length co26) t204 (l0_4.length : Int) t207 w _ ?side1 ?side2 A8.out).mono ?_
  (case side1 => exact bel)
  (case side2 => exact Kd.R_tight rfl HO206.out)
  rintro e w27 ⟨v208, rfl, ho0, hb, hkp⟩
  refine ⟨_, rfl, ?_⟩
  have n_ := z4 (blk_kept (bk BK192.out) hkp (fun hs_ => (fun e_ => (Kd.R_ne HO206.out BK192.out (by decide)) e_) hs_)) (blk_kept (bk BK194.out) hkp (fun hs_ => (fun e_ => (Kd.R_ne HO206.out BK194.out (by decide)) e_) hs_)) (Kd.R_mono (ok' := fun k_ => True) ho0 (fun k_ hk_ => trivial)) (hb)
  clear BK192 BK194 HB HO206
  obtain ⟨BK192, BK194, HO209, HB⟩ := n_
  (try clear hb)
  (try clear hkp)
  (try clear ho0)
  refine hK.out _ _ ⟨(blk_cell BK194.out 0).trans rfl, (blk_cell BK194.out 1).trans rfl, (blk_cell BK194.out 2).trans rfl, (blk_cell BK194.out 3).trans rfl, (blk_cell BK192.out 0).trans rfl, (blk_cell BK192.out 1).trans rfl, (blk_cell BK192.out 2).trans rfl, (blk_cell BK192.out 3).trans rfl, (blk_cell BK192.out 4).trans rfl, (blk_cell BK192.out 5).trans rfl⟩ (fun hHeld => ?_)
  clear hK K
  refine no 59 ?_
  refine pu 10 (some 7) #[true, true, true, true, true, true, true, true, true, true, true] ?_
  refine done_ (done_of HT_.out (by kernel_rfl)) ?_
  obtain ⟨hcz28_0, hcz28_1, hcz28_2, hcz28_3, hcz28_4, hcz28_5⟩ := cells6 BK192.out
  obtain ⟨hfz28_0, hfz28_1, hfz28_2, hfz28_3, hfz28_4, hfz28_5⟩ := froz6 BK192.out
  try go_wp2
  go_loopg [7, 63] k (fun kq v7 v63 w' => ∃ (x7_1 : List Int) (x63_1 : Int), v63 = .int .i64 x63_1 ∧ Aside0 (cmd_Encode2.l0 kq x7_1 l0_4 (l0_4.length : Int) x63_1 a0_0 a0_1 a0_2 a0_3 l0_4 a0_5 = some (r1, r2)) ∧ Aside0 (kq ≤ k) ∧ Aside0 (Kd.R (Kd.int .u8) 5 w' w.heap.size (fun _ => True) v7 x7_1) ∧ Aside0 (w'.heap[gb192]? = some (.cells #[.int .i64 a0_0, .int .i64 a0_1, .int .i64 a0_2, .bool a0_3, (.slice A0_4 l0_4.length c0_4), .string a0_5] 26 (0, 0))) ∧ Aside0 (w'.heap[gb194]? = some (.cells #[.func (.func 40) #[] #[], .func (.func 40) #[] #[], .func (.func 41) #[] #[], .func (.func 42) #[] #[]] 53 (0, 0))) ∧ Aside0 (Below w.heap.size w w'))
  case atStart => exact ⟨(t207), (0), (by first | rfl | (simp; done) | (simp [*]; done)), H', ⟨Nat.le_refl _⟩, ⟨kr HO209.out⟩, ⟨bk BK192.out⟩, ⟨bk BK194.out⟩, ⟨bel⟩⟩
  case round =>
   clear H'
   try clear c1
   try clear c2
   try clear p2
   try clear c4
   try clear c13
   try clear c16
   try clear c24
   try clear c26
   try clear hcz10_0 hcz10_1 hcz10_2 hcz10_3 hcz10_4 hcz10_5
   try clear hcz14_0 hcz14_1 hcz14_2 hcz14_3
   try clear hcz15_0 hcz15_1 hcz15_2 hcz15_3 hcz15_4 hcz15_5
   try clear hcz28_0 hcz28_1 hcz28_2 hcz28_3 hcz28_4 hcz28_5
   try clear hfz10_0 hfz10_1 hfz10_2 hfz10_3 hfz10_4 hfz10_5
   try clear hfz14_0 hfz14_1 hfz14_2 hfz14_3
   try clear hfz15_0 hfz15_1 hfz15_2 hfz15_3 hfz15_4 hfz15_5
   try clear hfz28_0 hfz28_1 hfz28_2 hfz28_3 hfz28_4 hfz28_5
   obtain ⟨x7_1, x63_1, rfl, HA, HK1, HO_7, BK192, BK194, HB⟩ := hrel
   cases gk with
   | zero => exact absurd HA.out (by simp [cmd_Encode2.l0])
   | succ k1 =>
    have H := HA.out
    clear HA
    simp only [cmd_Encode2.l0] at H
    by_cases c29 : x63_1 < (l0_4.length : Int)
    ·rw [if_pos c29] at H
     have c29b0 : decide (x63_1 < (l0_4.length : Int)) = true := decide_eq_true c29
     clear c29
     by_cases c30 : 0 ≤ x63_1
     ·rw [if_pos c30] at H
      have c30b0 : decide (0 ≤ x63_1) = true := decide_eq_true c30
      clear c30
      by_cases c31 : x63_1 < (l0_4.length : Int)
      ·rw [if_pos c31] at H
       have c31b0 : decide (x63_1 < (l0_4.length : Int)) = true := decide_eq_true c31
       clear c31
       replace H := Option.bind_eq_some_iff.mp H
       obtain ⟨t212, A320, H⟩ := H
       replace H : (cmd_Encode2.l0 k1 t212 l0_4 (l0_4.length : Int) (wrap64 (x63_1 + 1)) a0_0 a0_1 a0_2 a0_3 l0_4 a0_5) = some (r1, r2) := H
       have A32 := am A320
       clear A320
       have H' := am H
       clear H
       have p210 : 0 ≤ (x63_1 : Int) := of_decide_eq_true (by first | (with_reducible assumption) | assumption)
       have q210 : x63_1 < (l0_4.length : Int) := of_decide_eq_true (by first | (with_reducible assumption) | assumption)
       obtain ⟨ad210, e210, hx210_0, hx210_1, hx210_2⟩ := at_T40 HR0_4.out x63_1 p210 q210
       cases e210
       replace hx210_0 := (HB.out.cell (World.block_lt_of_cell? w _ hx210_0)).trans hx210_0
       replace hx210_1 := (HB.out.cell (World.block_lt_of_cell? w _ hx210_1)).trans hx210_1
       replace hx210_2 := (HB.out.cell (World.block_lt_of_cell? w _ hx210_2)).trans hx210_2
       replace p210 := eq_true p210
       replace q210 := eq_true q210
       go_wp2_with (first | ((with_reducible refine gate_dst (N := 9) rfl ?_); refine bx 9 40 (cs := #[.string (⟨#[]⟩ : ByteArray), .string (⟨#[]⟩ : ByteArray), .bool false]) ?_; intro gb211 hg w33 hbox hb; have n_ := z11 (Kd.R_below (kr HO_7.out) hb) (blk_below (bk BK192.out) hb) (blk_below (bk BK194.out) hb) (below_step bel hb) (hbox) ((by rw [hg]; exact (below_size bel) : w.heap.size ≤ gb211)) ((by rw [hg]; exact (below_size bel) : w.heap.size ≤ gb211)) ((by rw [hg]; exact Nat.ne_of_lt (blk_lt (bk BK192.out)) : gb192 ≠ gb211)) ((by rw [hg]; exact Nat.ne_of_gt (blk_lt (bk BK192.out)) : gb211 ≠ gb192)) ((by rw [hg]; exact Nat.ne_of_lt (blk_lt (bk BK194.out)) : gb194 ≠ gb211)) ((by rw [hg]; exact Nat.ne_of_gt (blk_lt (bk BK194.out)) : gb211 ≠ gb194)); clear HO_7 BK192 BK194 HB; obtain ⟨HO_7, BK192, BK194, HB, BK211, GW211, GE211, NB192_211, NB211_192, NB194_211, NB211_194⟩ := n_; clear hb hbox hg; have hnb34 := NB211_192.out; have hnc34 := NB192_211.out; have hnb35 := NB211_194.out; have hnc35 := NB194_211.out; obtain ⟨hcz36_0, hcz36_1, hcz36_2⟩ := cells3 BK211.out; obtain ⟨hfz36_0, hfz36_1, hfz36_2⟩ := froz3 BK211.out) | ((with_reducible refine gate_store (t := 40) (p := 9) rfl ?_); refine store_event (t := 40) (p := 9) (v := ?vo_w37) (w1 := (((w33.setCell ⟨gb211, 0, none⟩ (.string ((rd_T40 l0_4 x63_1).f0))).setCell ⟨gb211, 1, none⟩ (.string ((rd_T40 l0_4 x63_1).f1))).setCell ⟨gb211, 2, none⟩ (.bool ((rd_T40 l0_4 x63_1).f2)))) ?hg ?ho ?hn ?hr ?_; (case ho => rfl); (case hg => rfl); (case hn => rfl); (case hr => first | (go_simp; done) | (go_simp; rfl)); intro w37 hw; have n0_ : Aside0 (Kd.R (Kd.int .u8) 5 w37 w.heap.size (fun _ => True) u7 x7_1) := ⟨(by rw [hw]; exact (by (with_reducible repeat (first | apply Kd.R_alloc | apply Kd.R_drewN | apply Kd.R_drew)); exact Kd.R_mono (Kd.R_far (p := ⟨gb211, 2, none⟩) (Kd.R_far (p := ⟨gb211, 1, none⟩) (Kd.R_far (p := ⟨gb211, 0, none⟩) (Kd.R_types HO_7.out BK211.out (by decide)) (fun _ hk => hk.2) (.string ((rd_T40 l0_4 x63_1).f0))) (fun _ hk => hk.2) (.string ((rd_T40 l0_4 x63_1).f1))) (fun _ hk => hk.2) (.bool ((rd_T40 l0_4 x63_1).f2))) (fun _ hk => trivial)))⟩; have n1_ : Aside0 (w37.heap[gb192]? = some (.cells #[.int .i64 a0_0, .int .i64 a0_1, .int .i64 a0_2, .bool a0_3, .slice (some ad210) l0_4.length c0_4, .string a0_5] 26 (0, 0))) := ⟨(by rw [hw]; exact (bk BK192.out))⟩; have n2_ : Aside0 (w37.heap[gb194]? = some (.cells #[.func (.func 40) #[] #[], .func (.func 40) #[] #[], .func (.func 41) #[] #[], .func (.func 42) #[] #[]] 53 (0, 0))) := ⟨(by rw [hw]; exact (bk BK194.out))⟩; have n3_ : Aside0 (w37.heap[gb211]? = some (.cells #[.string ((rd_T40 l0_4 x63_1).f0), .string ((rd_T40 l0_4 x63_1).f1), .bool ((rd_T40 l0_4 x63_1).f2)] 40 (0, 0))) := ⟨(by rw [hw]; exact (bp BK211.out))⟩; have n4_ : Aside0 (Below w.heap.size w w37) := ⟨(by rw [hw]; exact bel)⟩; clear hw HO_7 BK192 BK194 BK211 HB; have HO_7 := n0_; have BK192 := n1_; have BK194 := n2_; have BK211 := n3_; have HB := n4_; clear n0_ n1_ n2_ n3_ n4_; have hnb38 := NB194_192.out; have hnc38 := NB192_194.out; obtain ⟨hcz39_0, hcz39_1, hcz39_2, hcz39_3⟩ := cells4 BK194.out; obtain ⟨hfz39_0, hfz39_1, hfz39_2, hfz39_3⟩ := froz4 BK194.out; obtain ⟨hcz40_0, hcz40_1, hcz40_2⟩ := cells3 BK211.out; obtain ⟨hfz40_0, hfz40_1, hfz40_2⟩ := froz3 BK211.out; obtain ⟨Ao41, co41, eo41⟩ := Kd.R_slice HO_7.out; subst eo41) | ((with_reducible refine gate_dst (N := 71) rfl ?_); refine goesLV_ (some 71) rfl rfl Try.func41 (by kernel_rfl) rfl #[.slice Ao41 x7_1.length co41, .agg #[.string ((rd_T40 l0_4 x63_1).f0), .string ((rd_T40 l0_4 x63_1).f1), .bool ((rd_T40 l0_4 x63_1).f2)]] rfl rfl ar ?_; (with_reducible refine (cmd_newer.calls k1 (fun k_ => some k_ = (.slice Ao41 x7_1.length co41 : Value).ownBlock) (.slice Ao41 x7_1.length co41) x7_1 ((rd_T40 l0_4 x63_1).f0) ((rd_T40 l0_4 x63_1).f1) ((rd_T40 l0_4 x63_1).f2) t212 w _ ?side1 ?side2 A32.out).mono ?_); (case side1 => exact bel); (case side2 => exact Kd.R_tight rfl HO_7.out); rintro e w42 ⟨v213, rfl, ho0, hb, hkp⟩; refine ⟨_, rfl, ?_⟩; have n_ := z5 (blk_kept (bk BK192.out) hkp (fun hs_ => (fun e_ => (Kd.R_ne HO_7.out BK192.out (by decide)) e_) hs_)) (blk_kept (bk BK194.out) hkp (fun hs_ => (fun e_ => (Kd.R_ne HO_7.out BK194.out (by decide)) e_) hs_)) (blk_kept (bk BK211.out) hkp (fun hs_ => (fun e_ => (Kd.R_ne HO_7.out BK211.out (by decide)) e_) hs_)) (Kd.R_mono (ok' := fun k_ => True) ho0 (fun k_ hk_ => trivial)) (hb); clear BK192 BK194 BK211 HB HO_7; obtain ⟨BK192, BK194, BK211, HO214, HB⟩ := n_; (try clear hb); (try clear hkp); (try clear ho0)))
       go_roundg k1
       case measure => have := HK1.out; omega
       case rel => exact ⟨(t212), (wrap64 (x63_1 + 1)), (by first | rfl | (simp; done) | (simp [*]; done)), H', ⟨by have := HK1.out; omega⟩, ⟨kr HO214.out⟩, ⟨bk BK192.out⟩, ⟨bk BK194.out⟩, ⟨bel⟩⟩
      ·rw [if_neg c31] at H
       exact absurd H (by simp)
     ·rw [if_neg c30] at H
      exact absurd H (by simp)
    ·rw [if_neg c29] at H
     have c29b0 : decide (x63_1 < (l0_4.length : Int)) = false := decide_eq_false c29
     clear c29
     replace H := Option.bind_eq_some_iff.mp H
     obtain ⟨t215, A430, H⟩ := H
     replace H : (some (strOfNums t215, true)) = some (r1, r2) := H
     have A43 := am A430
     clear A430
     simp only [Option.some.injEq, Prod.mk.injEq] at H
     obtain ⟨rfl, rfl⟩ := H
     have hnb44 := NB194_192.out
     have hnc44 := NB192_194.out
     obtain ⟨hcz45_0, hcz45_1, hcz45_2, hcz45_3⟩ := cells4 BK194.out
     obtain ⟨hfz45_0, hfz45_1, hfz45_2, hfz45_3⟩ := froz4 BK194.out
     obtain ⟨hcz46_0, hcz46_1, hcz46_2, hcz46_3, hcz46_4, hcz46_5⟩ := cells6 BK192.out
     obtain ⟨hfz46_0, hfz46_1, hfz46_2, hfz46_3, hfz46_4, hfz46_5⟩ := froz6 BK192.out
     obtain ⟨Ao47, co47, eo47⟩ := Kd.R_slice HO_7.out
     subst eo47
     go_wp2_with (first | ((with_reducible refine gate_dst (N := 78) rfl ?_); refine goesLV_ (some 78) rfl rfl Try.func42 (by kernel_rfl) rfl #[.slice Ao47 x7_1.length co47, .string a0_5] rfl rfl ar ?_; (with_reducible refine (cmd_said.calls k1 (fun k_ => some k_ = (.slice Ao47 x7_1.length co47 : Value).ownBlock) (.slice Ao47 x7_1.length co47) x7_1 a0_5 t215 w _ ?side1 ?side2 A43.out).mono ?_); (case side1 => exact bel); (case side2 => exact Kd.R_tight rfl HO_7.out); rintro e w48 ⟨v216, rfl, ho0, hb, hkp⟩; refine ⟨_, rfl, ?_⟩; have n_ := z4 (blk_kept (bk BK192.out) hkp (fun hs_ => (fun e_ => (Kd.R_ne HO_7.out BK192.out (by decide)) e_) hs_)) (blk_kept (bk BK194.out) hkp (fun hs_ => (fun e_ => (Kd.R_ne HO_7.out BK194.out (by decide)) e_) hs_)) (Kd.R_mono (ok' := fun k_ => True) ho0 (fun k_ hk_ => trivial)) (hb); clear BK192 BK194 HB HO_7; obtain ⟨BK192, BK194, HO217, HB⟩ := n_; (try clear hb); (try clear hkp); (try clear ho0); have hcv49 := own_string (P := Try.prog) Try.underlying35 Try.underlying5 Try.underlying9 (Kd.own_of_R HO217.out)))
     go_ret2
     exact ⟨er, bel⟩
 ·replace c4 := Bool.eq_false_iff.mpr c4
  subst c4
  have H1 : (some ((⟨#[]⟩ : ByteArray), false)) = some (r1, r2) := by rw [if_neg (show ¬ (false = true) by decide)] at H; exact H
  clear H
  have H := H1
  clear H1
  simp only [Option.some.injEq, Prod.mk.injEq] at H
  obtain ⟨rfl, rfl⟩ := H
  go_enter Try.func16, Try.ntmps16
  go_wp2_with (first | ((with_reducible refine gate_dst (N := 2) rfl ?_); refine bx 2 26 (cs := #[.int .i64 a0_0, .int .i64 a0_1, .int .i64 a0_2, .bool a0_3, .slice A0_4 l0_4.length c0_4, .string a0_5]) ?_; intro gb192 hg w50 hbox hb; have n_ := z4 (below_step bel hb) (hbox) ((by rw [hg]; exact (below_size bel) : w.heap.size ≤ gb192)) ((by rw [hg]; exact (below_size bel) : w.heap.size ≤ gb192)); clear HB; obtain ⟨HB, BK192, GW192, GE192⟩ := n_; clear hb hbox hg; obtain ⟨hcz51_0, hcz51_1, hcz51_2, hcz51_3, hcz51_4, hcz51_5⟩ := cells6 BK192.out; obtain ⟨hfz51_0, hfz51_1, hfz51_2, hfz51_3, hfz51_4, hfz51_5⟩ := froz6 BK192.out) | ((with_reducible refine gate_callee (f := 24) rfl ?_); refine goesL_ (some 11) rfl rfl Try.func24 (by kernel_rfl) rfl #[.agg #[.int .i64 a0_0, .int .i64 a0_1, .int .i64 a0_2, .bool a0_3, .slice A0_4 l0_4.length c0_4, .string a0_5]] rfl ar ?_; (with_reducible refine (cmd_right.calls k a0_0 a0_1 a0_2 a0_3 _ _ l0_4 a0_5 false _ ?side1 ?side2 A3.out).mono ?_); (case side1 => repeat (first | exact (Kd.C_below HR0_4.out HB.out) | (with_reducible refine Kd.C_alloc ?_ _) | (with_reducible refine Kd.C_drewN ?_ _) | (with_reducible refine Kd.C_drew ?_))); (case side2 => exact HC0_4.out); rintro e w52 ⟨rfl, hb⟩; refine ⟨_, rfl, ?_⟩; have n_ := z2 (blk_below (bk BK192.out) hb) (below_step bel hb); clear BK192 HB; obtain ⟨BK192, HB⟩ := n_; (try clear hb); (try clear hb2); (try clear hk); (try clear hi)))
  go_ret2
  exact ⟨er, bel⟩
def cmd_Encode3.f (k : Nat) (a0_0 : Int) (a0_1 : Int) (a0_2 : Int) (a0_3 : Bool) (l0_4 : List (S40)) (a0_5 : ByteArray) (a1 : Int) : Option (ByteArray × Bool) := (cmd_right.f k a0_0 a0_1 a0_2 a0_3 l0_4 a0_5).bind fun t219 => (some ((⟨#[]⟩ : ByteArray), false))
theorem cmd_Encode3.mono : ∀ a0 a1 a2 a3 a4 a5 a6 k, LeO (cmd_Encode3.f k a0 a1 a2 a3 a4 a5 a6) (cmd_Encode3.f (k + 1) a0 a1 a2 a3 a4 a5 a6) := by
 intro a0 a1 a2 a3 a4 a5 a6 k
 unfold cmd_Encode3.f
 repeat' first
   | (with_reducible exact cmd_right.mono _ _ _ _ _ _ _)
   | (with_reducible exact LeO.refl _)
   | (with_reducible exact LeO.none _)
   | (with_reducible refine LeO.ite ?_ ?_)
   | (with_reducible refine LeO.bind ?_ (fun _ => ?_))
set_option maxHeartbeats 8000000 in
set_option maxRecDepth 100000 in
theorem cmd_Encode3.calls (k : Nat) (a0_0 : Int) (a0_1 : Int) (a0_2 : Int) (a0_3 : Bool) (A0_4 : Option Addr) (c0_4 : Nat) (l0_4 : List (S40)) (a0_5 : ByteArray) (a1 : Int) (r1 : ByteArray) (r2 : Bool) (w : World) (hr0_4 : Kd.C k40 w A0_4 l0_4.length l0_4) (hc0_4 : l0_4.length ≤ c0_4) (hn1 : (a1 == 1) = false) (hn1' : (a1 != 1) = true) (hn2 : (a1 != 2) = true) (h : cmd_Encode3.f k a0_0 a0_1 a0_2 a0_3 l0_4 a0_5 a1 = some (r1, r2)) :
  Calls Try.prog 16 #[.agg #[.int .i64 a0_0, .int .i64 a0_1, .int .i64 a0_2, .bool a0_3, .slice A0_4 l0_4.length c0_4, .string a0_5], .int .i64 a1] w fun e w' => e = .returned (.tuple #[.string r1, .bool r2]) ∧ Below w.heap.size w w' := by
 have hu26 := Try.underlying26
 have hu53 := Try.underlying53
 have hu40 := Try.underlying40
 have HR0_4 := am hr0_4
 have HC0_4 := am hc0_4
 clear hr0_4 hc0_4
 have HB := am (Below.refl w.heap.size w)
 have H : ((cmd_right.f k a0_0 a0_1 a0_2 a0_3 l0_4 a0_5).bind fun t219 => (some ((⟨#[]⟩ : ByteArray), false))) = some (r1, r2) := h
 clear h
 replace H := Option.bind_eq_some_iff.mp H
 obtain ⟨t219, A30, H⟩ := H
 replace H : (some ((⟨#[]⟩ : ByteArray), false)) = some (r1, r2) := H
 have A3 := am A30
 clear A30
 simp only [Option.some.injEq, Prod.mk.injEq] at H
 obtain ⟨rfl, rfl⟩ := H
 go_enter Try.func16, Try.ntmps16
 go_wp2_with (first | ((with_reducible refine gate_dst (N := 2) rfl ?_); refine bx 2 26 (cs := #[.int .i64 a0_0, .int .i64 a0_1, .int .i64 a0_2, .bool a0_3, .slice A0_4 l0_4.length c0_4, .string a0_5]) ?_; intro gb218 hg w4 hbox hb; have n_ := z4 (below_step bel hb) (hbox) ((by rw [hg]; exact (below_size bel) : w.heap.size ≤ gb218)) ((by rw [hg]; exact (below_size bel) : w.heap.size ≤ gb218)); clear HB; obtain ⟨HB, BK218, GW218, GE218⟩ := n_; clear hb hbox hg; obtain ⟨hcz5_0, hcz5_1, hcz5_2, hcz5_3, hcz5_4, hcz5_5⟩ := cells6 BK218.out; obtain ⟨hfz5_0, hfz5_1, hfz5_2, hfz5_3, hfz5_4, hfz5_5⟩ := froz6 BK218.out) | ((with_reducible refine gate_callee (f := 24) rfl ?_); refine goesL_ (some 11) rfl rfl Try.func24 (by kernel_rfl) rfl #[.agg #[.int .i64 a0_0, .int .i64 a0_1, .int .i64 a0_2, .bool a0_3, .slice A0_4 l0_4.length c0_4, .string a0_5]] rfl ar ?_; (with_reducible refine (cmd_right.calls k a0_0 a0_1 a0_2 a0_3 _ _ l0_4 a0_5 t219 _ ?side1 ?side2 A3.out).mono ?_); (case side1 => repeat (first | exact (Kd.C_below HR0_4.out HB.out) | (with_reducible refine Kd.C_alloc ?_ _) | (with_reducible refine Kd.C_drewN ?_ _) | (with_reducible refine Kd.C_drew ?_))); (case side2 => exact HC0_4.out); rintro e w6 ⟨rfl, hb⟩; refine ⟨_, rfl, ?_⟩; have n_ := z2 (blk_below (bk BK218.out) hb) (below_step bel hb); clear BK218 HB; obtain ⟨BK218, HB⟩ := n_; (try clear hb); (try clear hb2); (try clear hk); (try clear hi)))
 all_goals
  go_ret2
  exact ⟨er, bel⟩
def cmd_Encode.f (k : Nat) (a0_0 : Int) (a0_1 : Int) (a0_2 : Int) (a0_3 : Bool) (l0_4 : List (S40)) (a0_5 : ByteArray) (a1 : Int) : Option (ByteArray × Bool) := if a1 = 1 then cmd_Encode1.f k a0_0 a0_1 a0_2 a0_3 l0_4 a0_5 a1 else (if a1 = 2 then cmd_Encode2.f k a0_0 a0_1 a0_2 a0_3 l0_4 a0_5 a1 else cmd_Encode3.f k a0_0 a0_1 a0_2 a0_3 l0_4 a0_5 a1)
theorem cmd_Encode.mono : ∀ a0 a1 a2 a3 a4 a5 a6 k, LeO (cmd_Encode.f k a0 a1 a2 a3 a4 a5 a6) (cmd_Encode.f (k + 1) a0 a1 a2 a3 a4 a5 a6) := by
 intro a0 a1 a2 a3 a4 a5 a6 k
 unfold cmd_Encode.f
 exact LeO.ite (cmd_Encode1.mono _ _ _ _ _ _ _ _) (LeO.ite (cmd_Encode2.mono _ _ _ _ _ _ _ _) (cmd_Encode3.mono _ _ _ _ _ _ _ _))
theorem cmd_Encode.calls (k : Nat) (a0_0 : Int) (a0_1 : Int) (a0_2 : Int) (a0_3 : Bool) (A0_4 : Option Addr) (c0_4 : Nat) (l0_4 : List (S40)) (a0_5 : ByteArray) (a1 : Int) (r1 : ByteArray) (r2 : Bool) (w : World) (hr0_4 : Kd.C k40 w A0_4 l0_4.length l0_4) (hc0_4 : l0_4.length ≤ c0_4) (h : cmd_Encode.f k a0_0 a0_1 a0_2 a0_3 l0_4 a0_5 a1 = some (r1, r2)) :
  Calls Try.prog 16 #[.agg #[.int .i64 a0_0, .int .i64 a0_1, .int .i64 a0_2, .bool a0_3, .slice A0_4 l0_4.length c0_4, .string a0_5], .int .i64 a1] w fun e w' => e = .returned (.tuple #[.string r1, .bool r2]) ∧ Below w.heap.size w w' := by
 unfold cmd_Encode.f at h
 by_cases h1 : a1 = 1
 ·rw [if_pos h1] at h
  subst h1
  exact cmd_Encode1.calls k a0_0 a0_1 a0_2 a0_3 A0_4 c0_4 l0_4 a0_5 1 r1 r2 w hr0_4 hc0_4 h
 ·rw [if_neg h1] at h
  by_cases h2 : a1 = 2
  ·rw [if_pos h2] at h
   subst h2
   exact cmd_Encode2.calls k a0_0 a0_1 a0_2 a0_3 A0_4 c0_4 l0_4 a0_5 2 r1 r2 w hr0_4 hc0_4 h
  ·rw [if_neg h2] at h
   exact cmd_Encode3.calls k a0_0 a0_1 a0_2 a0_3 A0_4 c0_4 l0_4 a0_5 a1 r1 r2 w hr0_4 hc0_4 (by simpa using h1) (by simpa using h1) (by simpa using h2) h
end Go.Proofs.Ytagjmphkfeiiiaa.Q
