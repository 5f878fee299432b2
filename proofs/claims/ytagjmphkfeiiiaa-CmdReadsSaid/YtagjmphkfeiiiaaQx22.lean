/- One function's walk, or a law's, by the text that a program of this session prints; what each theorem says stands in it. -/
import Derived.Test.YtagjmphkfeiiiaaQx0
import Derived.Test.YtagjmphkfeiiiaaQx21
import Derived.Test.YtagjmphkfeiiiaaXb
import Derived.Test.YtagjmphkfeiiiaaXs
namespace Go.Proofs.Ytagjmphkfeiiiaa.Q
open Go.RowKit Go.Proofs.YtagjmphkfeiiiaaW.PrintWords Go.Proofs.YtagjmphkfeiiiaaW.PrintLast Go.Proofs.YtagjmphkfeiiiaaW.PrintMore
attribute [local go_sem] min2_int min_two
set_option linter.unusedVariables false
set_option linter.unusedSimpArgs false
def federationref7_first.l0 : Nat → List Int → Int → Int → Int → Int → Bool → List (S40) → ByteArray → Option (List Int)
  | 0, _, _, _, _, _, _, _, _ => none
  | k + 1, x3, x4, x657000, x657001, x657002, x657003, x657004, x657005 => if x4 < (x657004.length : Int) then (if 0 ≤ x4 then ((federationref7_fixed.f k x3 (((rd_T40 x657004 x4).f0).size : Int) 2).bind fun t675 => ((own_bytes.f ((rd_T40 x657004 x4).f0)).bind fun t678 => (if t675.length + t678.size < 140737488355328 then ((federationref7_fixed.f k (t675 ++ bytesOf t678) (((rd_T40 x657004 x4).f1).size : Int) 2).bind fun t682 => ((own_bytes.f ((rd_T40 x657004 x4).f1)).bind fun t685 => (if t682.length + t685.size < 140737488355328 then ((some (t682 ++ bytesOf t685 : List Int)).bind fun y686 => ((federationref7_bit.f ((rd_T40 x657004 x4).f2)).bind fun t689 => (if y686.length < 140737488355328 then (federationref7_first.l0 k (y686 ++ [t689]) (wrap64 (x4 + 1)) x657000 x657001 x657002 x657003 x657004 x657005) else (none)))) else (none)))) else (none)))) else (none)) else (some x3)
def federationref7_first.f (k : Nat) (a0_0 : Int) (a0_1 : Int) (a0_2 : Int) (a0_3 : Bool) (l0_4 : List (S40)) (a0_5 : ByteArray) : Option (List Int) := (federationref7_fixed.f k (([49, (a0_0) % 256] : List Int)) a0_1 8).bind fun t660 => ((federationref7_fixed.f k t660 a0_2 8).bind fun t663 => ((federationref7_bit.f a0_3).bind fun t666 => (if t663.length < 140737488355328 then ((federationref7_fixed.f k (t663 ++ [t666]) (l0_4.length : Int) 2).bind fun t670 => (federationref7_first.l0 k t670 0 a0_0 a0_1 a0_2 a0_3 l0_4 a0_5)) else (none))))
theorem federationref7_first.mono_l : ∀ k, (∀ y0 y1 y2 y3 y4 y5 y6 y7, LeO (federationref7_first.l0 k y0 y1 y2 y3 y4 y5 y6 y7) (federationref7_first.l0 (k + 1) y0 y1 y2 y3 y4 y5 y6 y7))
  | 0 => fun _ _ _ _ _ _ _ _ r h => by simp [federationref7_first.l0] at h
  | k + 1 => by
    have ih0 := federationref7_first.mono_l k
    · intro y0 y1 y2 y3 y4 y5 y6 y7
      unfold federationref7_first.l0
      repeat' first
      | (with_reducible exact ih0 _ _ _ _ _ _ _ _)
      | (with_reducible exact federationref7_fixed.mono _ _ _ _)
      | (with_reducible exact LeO.refl _)
      | (with_reducible exact LeO.none _)
      | (with_reducible refine LeO.ite ?_ ?_)
      | (with_reducible refine LeO.bind ?_ (fun _ => ?_))
theorem federationref7_first.mono : ∀ a0 a1 a2 a3 a4 a5 k, LeO (federationref7_first.f k a0 a1 a2 a3 a4 a5) (federationref7_first.f (k + 1) a0 a1 a2 a3 a4 a5) := by
  intro a0 a1 a2 a3 a4 a5 k
  have ih0 := federationref7_first.mono_l k
  unfold federationref7_first.f
  repeat' first
      | (with_reducible exact ih0 _ _ _ _ _ _ _ _)
      | (with_reducible exact federationref7_fixed.mono _ _ _ _)
      | (with_reducible exact LeO.refl _)
      | (with_reducible exact LeO.none _)
      | (with_reducible refine LeO.ite ?_ ?_)
      | (with_reducible refine LeO.bind ?_ (fun _ => ?_))
def federationref7_first.T1 : Bool × List (List Nat × List Nat) := (true, [([], []), ([0], [0]), ([1], [1]), ([2], [2]), ([], []), ([4], [4]), ([3, 5], [3, 5]), ([], []), ([7], [7]), ([6, 8, 6], [6, 8]), ([9, 9, 0, 1, 2, 3, 4, 5, 6, 7, 8, 9], [9])])
def federationref7_first.B1 : List Nat := [0, 1, 3, 7, 0, 16, 63, 0, 128, 511, 1023]
theorem federationref7_first.tab1 : rtab .any (opsOf Try.f28 1) = federationref7_first.T1 := by kernel_rfl
theorem federationref7_first.bits1 : waitsOk federationref7_first.T1.2 federationref7_first.B1 = true := by kernel_rfl
def federationref7_first.T2 : Bool × List (List Nat × List Nat) := (true, [([], []), ([], []), ([1], [1]), ([2], [2]), ([3], [3]), ([0, 4, 3], [0, 4]), ([], []), ([6], [6]), ([7], [7]), ([5, 8, 5], [5, 8]), ([9, 9, 0, 1, 2, 3, 4, 5, 6, 7, 8, 9], [0, 9])])
def federationref7_first.B2 : List Nat := [0, 0, 2, 6, 14, 31, 0, 64, 192, 511, 1023]
theorem federationref7_first.tab2 : rtab .any (opsOf Try.f28 2) = federationref7_first.T2 := by kernel_rfl
theorem federationref7_first.bits2 : waitsOk federationref7_first.T2.2 federationref7_first.B2 = true := by kernel_rfl
def federationref7_first.T7 : Bool × List (List Nat × List Nat) := (true, [([], []), ([], []), ([1], [1]), ([2], [2]), ([0, 3], [0, 3]), ([], []), ([5], [5]), ([6], [6]), ([4, 7, 4], [4, 7]), ([8, 8, 0, 1, 2, 3, 4, 5, 6, 7, 8], [0, 8])])
def federationref7_first.B7 : List Nat := [0, 0, 2, 6, 15, 0, 32, 96, 255, 511]
theorem federationref7_first.tab7 : rtab .any (opsOf Try.f28 7) = federationref7_first.T7 := by kernel_rfl
theorem federationref7_first.bits7 : waitsOk federationref7_first.T7.2 federationref7_first.B7 = true := by kernel_rfl
def federationref7_first.T8 : Bool × List (List Nat × List Nat) := (true, [([], []), ([], []), ([1], [1]), ([2], [2]), ([0, 3], [0, 3]), ([], []), ([5], [5]), ([6], [6]), ([4, 7, 4], [4, 7]), ([8, 8, 0, 1, 2, 3, 4, 5, 6, 7, 8], [0, 8])])
def federationref7_first.B8 : List Nat := [0, 0, 2, 6, 15, 0, 32, 96, 255, 511]
theorem federationref7_first.tab8 : rtab .any (opsOf Try.f28 8) = federationref7_first.T8 := by kernel_rfl
theorem federationref7_first.bits8 : waitsOk federationref7_first.T8.2 federationref7_first.B8 = true := by kernel_rfl
set_option maxHeartbeats 8000000 in
set_option maxRecDepth 100000 in
theorem federationref7_first.calls (k : Nat) (a0_0 : Int) (a0_1 : Int) (a0_2 : Int) (a0_3 : Bool) (A0_4 : Option Addr) (c0_4 : Nat) (l0_4 : List (S40)) (a0_5 : ByteArray) (r : List Int) (w : World) (hr0_4 : Kd.C k40 w A0_4 l0_4.length l0_4) (hc0_4 : l0_4.length ≤ c0_4) (h : federationref7_first.f k a0_0 a0_1 a0_2 a0_3 l0_4 a0_5 = some r) :
  Calls Try.prog 28 #[.agg #[.int .i64 a0_0, .int .i64 a0_1, .int .i64 a0_2, .bool a0_3, .slice A0_4 l0_4.length c0_4, .string a0_5]] w fun e w' => ∃ v0_ : Value, e = .returned (v0_) ∧ Kd.R (Kd.int .u8) 5 w' w.heap.size (fun _ => True) v0_ r ∧ Below w.heap.size w w' := by
 have hu26 := Try.underlying26
 have hu40 := Try.underlying40
 have HR0_4 := am hr0_4
 have HC0_4 := am hc0_4
 clear hr0_4 hc0_4
 have HB := am (Below.refl w.heap.size w)
 have H : ((federationref7_fixed.f k (([49, (a0_0) % 256] : List Int)) a0_1 8).bind fun t660 => ((federationref7_fixed.f k t660 a0_2 8).bind fun t663 => ((federationref7_bit.f a0_3).bind fun t666 => (if t663.length < 140737488355328 then ((federationref7_fixed.f k (t663 ++ [t666]) (l0_4.length : Int) 2).bind fun t670 => (federationref7_first.l0 k t670 0 a0_0 a0_1 a0_2 a0_3 l0_4 a0_5)) else (none))))) = some r := h
 clear h
 obtain ⟨y657, hy657⟩ : ∃ y_ : List Int, y_ = (([49, (a0_0) % 256] : List Int)) := ⟨_, rfl⟩
 replace H : ((federationref7_fixed.f k y657 a0_1 8).bind fun t660 => ((federationref7_fixed.f k t660 a0_2 8).bind fun t663 => ((federationref7_bit.f a0_3).bind fun t666 => (if t663.length < 140737488355328 then ((federationref7_fixed.f k (t663 ++ [t666]) (l0_4.length : Int) 2).bind fun t670 => (federationref7_first.l0 k t670 0 a0_0 a0_1 a0_2 a0_3 l0_4 a0_5)) else (none))))) = some r := by first | (rw [hy657]; with_reducible exact H) | (have H2_ := (Option.bind_some _ _).symm.trans H; rw [hy657]; with_reducible exact H2_) | (have H2_ := (Option.bind_some _ _).symm.trans H; with_reducible exact H2_) | with_reducible exact H | (rw [hy657]; exact H) | exact H
 have Ny657 := am hy657
 clear hy657
 replace H := Option.bind_eq_some_iff.mp H
 obtain ⟨t660, A20, H⟩ := H
 replace H : ((federationref7_fixed.f k t660 a0_2 8).bind fun t663 => ((federationref7_bit.f a0_3).bind fun t666 => (if t663.length < 140737488355328 then ((federationref7_fixed.f k (t663 ++ [t666]) (l0_4.length : Int) 2).bind fun t670 => (federationref7_first.l0 k t670 0 a0_0 a0_1 a0_2 a0_3 l0_4 a0_5)) else (none)))) = some r := H
 have A2 := am A20
 clear A20
 replace H := Option.bind_eq_some_iff.mp H
 obtain ⟨t663, A30, H⟩ := H
 replace H : ((federationref7_bit.f a0_3).bind fun t666 => (if t663.length < 140737488355328 then ((federationref7_fixed.f k (t663 ++ [t666]) (l0_4.length : Int) 2).bind fun t670 => (federationref7_first.l0 k t670 0 a0_0 a0_1 a0_2 a0_3 l0_4 a0_5)) else (none))) = some r := H
 have A3 := am A30
 clear A30
 replace H := Option.bind_eq_some_iff.mp H
 obtain ⟨t666, A40, H⟩ := H
 replace H : (if t663.length < 140737488355328 then ((federationref7_fixed.f k (t663 ++ [t666]) (l0_4.length : Int) 2).bind fun t670 => (federationref7_first.l0 k t670 0 a0_0 a0_1 a0_2 a0_3 l0_4 a0_5)) else (none)) = some r := H
 have A4 := am A40
 clear A40
 by_cases c5 : t663.length < 140737488355328
 ·rw [if_pos c5] at H
  have LMc5 := am c5
  clear c5
  obtain ⟨y667, hy667⟩ : ∃ y_ : List Int, y_ = (t663 ++ [t666]) := ⟨_, rfl⟩
  replace H : ((federationref7_fixed.f k y667 (l0_4.length : Int) 2).bind fun t670 => (federationref7_first.l0 k t670 0 a0_0 a0_1 a0_2 a0_3 l0_4 a0_5)) = some r := by first | (rw [hy667]; with_reducible exact H) | (have H2_ := (Option.bind_some _ _).symm.trans H; rw [hy667]; with_reducible exact H2_) | (have H2_ := (Option.bind_some _ _).symm.trans H; with_reducible exact H2_) | with_reducible exact H | (rw [hy667]; exact H) | exact H
  have Ny667 := am hy667
  clear hy667
  replace H := Option.bind_eq_some_iff.mp H
  obtain ⟨t670, A60, H⟩ := H
  replace H : (federationref7_first.l0 k t670 0 a0_0 a0_1 a0_2 a0_3 l0_4 a0_5) = some r := H
  have A6 := am A60
  clear A60
  have H' := am H
  clear H
  go_enter Try.func28, Try.ntmps28
  try go_wp2_with (first | ((with_reducible refine gate_dst (N := 1) rfl ?_); refine bx 1 26 (cs := #[.int .i64 a0_0, .int .i64 a0_1, .int .i64 a0_2, .bool a0_3, .slice A0_4 l0_4.length c0_4, .string a0_5]) ?_; intro gb656 hg w7 hbox hb; have n_ := z4 (below_step bel hb) (hbox) ((by rw [hg]; exact (below_size bel) : w.heap.size ≤ gb656)) ((by rw [hg]; exact (below_size bel) : w.heap.size ≤ gb656)); clear HB; obtain ⟨HB, BK656, GW656, GE656⟩ := n_; clear hb hbox hg))
  have n_ := z2 (blk_drew BK656.out) (below_drew1 HB.out)
  clear BK656 HB
  obtain ⟨BK656, HB⟩ := n_
  refine start_ (n := 11) (S := fun w' => w'.cell? ⟨gb656, 0, none⟩ = some (.int .i64 a0_0) ∧ w'.cell? ⟨gb656, 1, none⟩ = some (.int .i64 a0_1) ∧ w'.cell? ⟨gb656, 2, none⟩ = some (.int .i64 a0_2) ∧ w'.cell? ⟨gb656, 3, none⟩ = some (.bool a0_3) ∧ w'.cell? ⟨gb656, 4, none⟩ = some (.slice A0_4 l0_4.length c0_4) ∧ w'.cell? ⟨gb656, 5, none⟩ = some (.string a0_5)) (ds := []) (bv 11 0) (by kernel_rfl) rfl rfl ⟨(blk_cell BK656.out 0).trans rfl, (blk_cell BK656.out 1).trans rfl, (blk_cell BK656.out 2).trans rfl, (blk_cell BK656.out 3).trans rfl, (blk_cell BK656.out 4).trans rfl, (blk_cell BK656.out 5).trans rfl⟩ (fun hHeld => ?_); refine with_tabW federationref7_first.tab1 federationref7_first.bits1 (fun HT_ HW_ => ?_)
  generalize w7.drew = w8 at BK656 HB hHeld ⊢
  refine pu 0 (some 6) (bv 11 1) ?_
  refine pu 4 (some 10) (bv 11 17) ?_
  refine pu 7 (some 13) (bv 11 145) ?_
  refine ta 1 (some 7) (bv 11 147) ?_
  refine pu 2 (some 8) (bv 11 151) ?_
  refine ta 5 (some 11) (bv 11 183) ?_
  refine ta 8 (some 14) (bv 11 439) ?_
  refine on 3 (some 9) (bv 11 447) (fun K hK => ?_)
  refine Kd.R_lit_step (Kd.int .u8) _ 5 ?hg (N := 9) ?hd (xs := ([49, (a0_0) % 256] : List Int)) (inner := [.int .u8 49, .int .u8 ((a0_0) % 256)]) (ok := fun _ => True) (okp := fun _ => True) ?hr ?hp (fun _ hk => hk) trivial (Below.refl _ _) (Nat.le_refl _) (by simp) ?_; (case hd => rfl); (case hg => rfl); (case hr => first | (go_simp; done) | (go_simp; rfl)); (case hp => exact (Reps.one (show Kd.M (Kd.int .u8) _ _ _ 49 [.int .u8 49] from rfl) (Reps.one (show Kd.M (Kd.int .u8) _ _ _ ((a0_0) % 256) [.int .u8 ((a0_0) % 256)] from rfl) (Reps.none _ _))))
  intro v658 w9 ho10 hb hg_ hnew_
  (try (have hB_ := HasB.below (by (with_reducible repeat (first | apply HasB.drewN | apply HasB.drew)); exact HBB.out) hb; clear HBB; have HBB := am hB_; clear hB_))
  clear hg_ hnew_
  (first | rw [← Ny657.out] at ho10 | (simp only [Int.reduceToNat] at ho10; rw [← Ny657.out] at ho10))
  have n_ := z3 (Kd.R_lower ho10 (below_size bel)) (blk_below (bk BK656.out) hb) (below_step bel hb)
  clear BK656 HB
  obtain ⟨HO659, BK656, HB⟩ := n_
  clear hb ho10
  obtain ⟨Ao11, co11, eo11⟩ := Kd.R_slice HO659.out
  (first | subst eo11 | (injection eo11 with f1_ f2_ f3_; have f4_ := f1_.symm; have f5_ := f3_.symm; clear f1_ f2_ f3_; subst f4_; subst f5_))
  refine hK.out _ _ ⟨(blk_cell BK656.out 0).trans rfl, (blk_cell BK656.out 1).trans rfl, (blk_cell BK656.out 2).trans rfl, (blk_cell BK656.out 3).trans rfl, (blk_cell BK656.out 4).trans rfl, (blk_cell BK656.out 5).trans rfl⟩ (fun hHeld => ?_)
  clear hK K
  refine no 9 ?_
  refine on 6 (some 12) (bv 11 511) (fun K hK => ?_)
  refine goes_ Try.func43 (by kernel_rfl) rfl #[.slice Ao11 y657.length co11, .int .i64 a0_1, .int .i64 8] (by rfl) rfl rfl ar ?_
  with_reducible refine (federationref7_fixed.calls k (fun k_ => some k_ = (.slice Ao11 y657.length co11 : Value).ownBlock) (.slice Ao11 y657.length co11) y657 a0_1 8 t660 w _ ?side1 ?side2 A2.out).mono ?_
  (case side1 => exact bel)
  (case side2 => exact Kd.R_tight rfl HO659.out)
  rintro e w12 ⟨v661, rfl, ho0, hb, hkp⟩
  refine ⟨_, rfl, ?_⟩
  (try (have hB_ := HasB.kept (by (with_reducible repeat (first | apply HasB.drewN | apply HasB.drew)); exact HBB.out) hkp; clear HBB; have HBB := am hB_; clear hB_))
  have n_ := z3 (blk_kept (bk BK656.out) hkp (fun hs_ => (fun e_ => (Kd.R_ne HO659.out BK656.out (by decide)) e_) hs_)) (Kd.R_mono (ok' := fun k_ => True) ho0 (fun k_ hk_ => trivial)) (hb)
  clear BK656 HB HO659
  obtain ⟨BK656, HO662, HB⟩ := n_
  (try clear hb)
  (try clear hkp)
  (try clear ho0)
  obtain ⟨Ao13, co13, eo13⟩ := Kd.R_slice HO662.out
  (first | subst eo13 | (injection eo13 with f1_ f2_ f3_; have f4_ := f1_.symm; have f5_ := f3_.symm; clear f1_ f2_ f3_; subst f4_; subst f5_))
  refine hK.out _ _ ⟨(blk_cell BK656.out 0).trans rfl, (blk_cell BK656.out 1).trans rfl, (blk_cell BK656.out 2).trans rfl, (blk_cell BK656.out 3).trans rfl, (blk_cell BK656.out 4).trans rfl, (blk_cell BK656.out 5).trans rfl⟩ (fun hHeld => ?_)
  clear hK K
  refine no 12 ?_
  refine on 9 (some 15) (bv 11 1023) (fun K hK => ?_)
  refine goes_ Try.func43 (by kernel_rfl) rfl #[.slice Ao13 t660.length co13, .int .i64 a0_2, .int .i64 8] (by rfl) rfl rfl ar ?_
  with_reducible refine (federationref7_fixed.calls k (fun k_ => some k_ = (.slice Ao13 t660.length co13 : Value).ownBlock) (.slice Ao13 t660.length co13) t660 a0_2 8 t663 w _ ?side1 ?side2 A3.out).mono ?_
  (case side1 => exact bel)
  (case side2 => exact Kd.R_tight rfl HO662.out)
  rintro e w14 ⟨v664, rfl, ho0, hb, hkp⟩
  refine ⟨_, rfl, ?_⟩
  (try (have hB_ := HasB.kept (by (with_reducible repeat (first | apply HasB.drewN | apply HasB.drew)); exact HBB.out) hkp; clear HBB; have HBB := am hB_; clear hB_))
  have n_ := z3 (blk_kept (bk BK656.out) hkp (fun hs_ => (fun e_ => (Kd.R_ne HO662.out BK656.out (by decide)) e_) hs_)) (Kd.R_mono (ok' := fun k_ => True) ho0 (fun k_ hk_ => trivial)) (hb)
  clear BK656 HB HO662
  obtain ⟨BK656, HO665, HB⟩ := n_
  (try clear hb)
  (try clear hkp)
  (try clear ho0)
  refine hK.out _ _ ⟨(blk_cell BK656.out 0).trans rfl, (blk_cell BK656.out 1).trans rfl, (blk_cell BK656.out 2).trans rfl, (blk_cell BK656.out 3).trans rfl, (blk_cell BK656.out 4).trans rfl, (blk_cell BK656.out 5).trans rfl⟩ (fun hHeld => ?_)
  clear hK K
  refine no 15 ?_
  refine pu 10 (some 3) (bv 11 2047) ?_
  refine done_ (done_of HT_.out (by kernel_rfl)) ?_
  try go_wp2
  have n_ := z3 (Kd.R_drew HO665.out) (blk_drew BK656.out) (below_drew1 HB.out)
  clear HO665 BK656 HB
  obtain ⟨HO665, BK656, HB⟩ := n_
  refine start_ (n := 11) (S := fun w' => w'.cell? ⟨gb656, 0, none⟩ = some (.int .i64 a0_0) ∧ w'.cell? ⟨gb656, 1, none⟩ = some (.int .i64 a0_1) ∧ w'.cell? ⟨gb656, 2, none⟩ = some (.int .i64 a0_2) ∧ w'.cell? ⟨gb656, 3, none⟩ = some (.bool a0_3) ∧ w'.cell? ⟨gb656, 4, none⟩ = some (.slice A0_4 l0_4.length c0_4) ∧ w'.cell? ⟨gb656, 5, none⟩ = some (.string a0_5)) (ds := []) (bv 11 0) (by kernel_rfl) rfl rfl ⟨(blk_cell BK656.out 0).trans rfl, (blk_cell BK656.out 1).trans rfl, (blk_cell BK656.out 2).trans rfl, (blk_cell BK656.out 3).trans rfl, (blk_cell BK656.out 4).trans rfl, (blk_cell BK656.out 5).trans rfl⟩ (fun hHeld => ?_); refine with_tabW federationref7_first.tab2 federationref7_first.bits2 (fun HT_ HW_ => ?_)
  generalize w14.drew = w15 at HO665 BK656 HB hHeld ⊢
  refine pu 0 (some 16) (bv 11 1) ?_
  refine pu 1 (some 17) (bv 11 3) ?_
  refine pu 6 (some 22) (bv 11 67) ?_
  refine ta 2 (some 18) (bv 11 71) ?_
  refine ta 7 (some 23) (bv 11 199) ?_
  refine pu 8 (some 24) (bv 11 455) ?_
  refine on 3 (some 19) (bv 11 463) (fun K hK => ?_)
  refine goes_ Try.func44 (by kernel_rfl) rfl #[.bool a0_3] (by rfl) rfl rfl ar ?_
  with_reducible refine (federationref7_bit.calls a0_3 t666 _ A4.out).mono ?_
  rintro e w' ⟨rfl, ⟨nd, rfl⟩⟩
  refine ⟨_, rfl, ?_⟩
  refine hK.out _ _ ⟨(blk_cell BK656.out 0).trans rfl, (blk_cell BK656.out 1).trans rfl, (blk_cell BK656.out 2).trans rfl, (blk_cell BK656.out 3).trans rfl, (blk_cell BK656.out 4).trans rfl, (blk_cell BK656.out 5).trans rfl⟩ (fun hHeld => ?_)
  clear hK K
  refine no 19 ?_
  refine on 4 (some 20) (bv 11 479) (fun K hK => ?_)
  refine value_ (w1 := ?_) (v := ?_) (by rfl) rfl ?_ ?_
  rotate_left 2
  ·go_simp
   constructor
   ·rfl
   ·rfl
  refine hK.out _ _ ⟨(blk_cell (blk_alloc BK656.out _) 0).trans rfl, (blk_cell (blk_alloc BK656.out _) 1).trans rfl, (blk_cell (blk_alloc BK656.out _) 2).trans rfl, (blk_cell (blk_alloc BK656.out _) 3).trans rfl, (blk_cell (blk_alloc BK656.out _) 4).trans rfl, (blk_cell (blk_alloc BK656.out _) 5).trans rfl⟩ (fun hHeld => ?_)
  clear hK K
  refine no 20 ?_
  refine on 5 (some 21) (bv 11 511) (fun K hK => ?_)
  refine Kd.R_append_step (Kd.int .u8) (w0 := w) w.heap.size (by rfl) (.tmp 16) (.tmp 20) 35 5 (.int .u8 0) 1 rfl Try.underlying35 info5 rfl (by decide) (by omega) v664 t663 t666 [.int .u8 t666] (fun _ => True) (fun _ => False) rfl rfl ?aP (fun _ hk => hk.elim) ?aF ?aO ?aB ?aS ?aL ?_
  (case aP => exact rfl)
  (case aB => exact bel)
  (case aF => exact (fun _ _ => trivial))
  (case aO => exact (kr HO665.out))
  (case aS => exact (below_size bel))
  (case aL => have := LMc5.out; omega)
  intro v668 w16 ho hb hg hat
  (try (have hB_ := HasB.grown (by (with_reducible repeat (first | apply HasB.drewN | apply HasB.drew)); exact HBB.out) hg hat; clear HBB; have HBB := am hB_; clear hB_))
  rw [← Ny667.out] at ho
  have n_ := z3 (blk_grown (bk BK656.out) hg (Kd.R_ne HO665.out BK656.out (by decide))) (hb) (ho)
  clear BK656 HB HO665
  obtain ⟨BK656, HB, HO669⟩ := n_
  clear ho hb hg hat
  obtain ⟨Ao17, co17, eo17⟩ := Kd.R_slice HO669.out
  (first | subst eo17 | (injection eo17 with f1_ f2_ f3_; have f4_ := f1_.symm; have f5_ := f3_.symm; clear f1_ f2_ f3_; subst f4_; subst f5_))
  refine hK.out _ _ ⟨(blk_cell BK656.out 0).trans rfl, (blk_cell BK656.out 1).trans rfl, (blk_cell BK656.out 2).trans rfl, (blk_cell BK656.out 3).trans rfl, (blk_cell BK656.out 4).trans rfl, (blk_cell BK656.out 5).trans rfl⟩ (fun hHeld => ?_)
  clear hK K
  refine no 21 ?_
  refine on 9 (some 25) (bv 11 1023) (fun K hK => ?_)
  refine goes_ Try.func43 (by kernel_rfl) rfl #[.slice Ao17 y667.length co17, .int .i64 (l0_4.length : Int), .int .i64 2] (by rfl) rfl rfl ar ?_
  with_reducible refine (federationref7_fixed.calls k (fun k_ => some k_ = (.slice Ao17 y667.length co17 : Value).ownBlock) (.slice Ao17 y667.length co17) y667 (l0_4.length : Int) 2 t670 w _ ?side1 ?side2 A6.out).mono ?_
  (case side1 => exact bel)
  (case side2 => exact Kd.R_tight rfl HO669.out)
  rintro e w18 ⟨v671, rfl, ho0, hb, hkp⟩
  refine ⟨_, rfl, ?_⟩
  (try (have hB_ := HasB.kept (by (with_reducible repeat (first | apply HasB.drewN | apply HasB.drew)); exact HBB.out) hkp; clear HBB; have HBB := am hB_; clear hB_))
  have n_ := z3 (blk_kept (bk BK656.out) hkp (fun hs_ => (fun e_ => (Kd.R_ne HO669.out BK656.out (by decide)) e_) hs_)) (Kd.R_mono (ok' := fun k_ => True) ho0 (fun k_ hk_ => trivial)) (hb)
  clear BK656 HB HO669
  obtain ⟨BK656, HO672, HB⟩ := n_
  (try clear hb)
  (try clear hkp)
  (try clear ho0)
  refine hK.out _ _ ⟨(blk_cell BK656.out 0).trans rfl, (blk_cell BK656.out 1).trans rfl, (blk_cell BK656.out 2).trans rfl, (blk_cell BK656.out 3).trans rfl, (blk_cell BK656.out 4).trans rfl, (blk_cell BK656.out 5).trans rfl⟩ (fun hHeld => ?_)
  clear hK K
  refine no 25 ?_
  refine pu 10 (some 3) (bv 11 2047) ?_
  refine done_ (done_of HT_.out (by kernel_rfl)) ?_
  try go_wp2
  go_loopg [3, 4] k (fun kq v3 v4 w' => ∃ (x3_1 : List Int) (x4_1 : Int), v4 = .int .i64 x4_1 ∧ Aside0 (federationref7_first.l0 kq x3_1 x4_1 a0_0 a0_1 a0_2 a0_3 l0_4 a0_5 = some r) ∧ Aside0 (kq ≤ k) ∧ Aside0 (Kd.R (Kd.int .u8) 5 w' w.heap.size (fun _ => True) v3 x3_1) ∧ Aside0 (w'.heap[gb656]? = some (.cells #[.int .i64 a0_0, .int .i64 a0_1, .int .i64 a0_2, .bool a0_3, (.slice A0_4 l0_4.length c0_4), .string a0_5] 26 (0, 0))) ∧ Aside0 (Below w.heap.size w w'))
  case atStart => exact ⟨(t670), (0), (by first | rfl | (simp; done) | (simp [*]; done)), H', ⟨Nat.le_refl _⟩, ⟨kr HO672.out⟩, ⟨bk BK656.out⟩, ⟨bel⟩⟩
  case round =>
   clear H'
   try clear c2
   try clear p2
   try clear c4
   try clear c5
   obtain ⟨x3_1, x4_1, rfl, HA, HK1, HO_3, BK656, HB⟩ := hrel
   cases gk with
   | zero => exact absurd HA.out (by simp [federationref7_first.l0])
   | succ k1 =>
    have H := HA.out
    clear HA
    simp only [federationref7_first.l0] at H
    by_cases c19 : x4_1 < (l0_4.length : Int)
    ·rw [if_pos c19] at H
     have c19b0 : decide (x4_1 < (l0_4.length : Int)) = true := decide_eq_true c19
     clear c19
     by_cases c20 : 0 ≤ x4_1
     ·rw [if_pos c20] at H
      have c20b0 : decide (0 ≤ x4_1) = true := decide_eq_true c20
      clear c20
      replace H := Option.bind_eq_some_iff.mp H
      obtain ⟨t675, A210, H⟩ := H
      replace H : ((own_bytes.f ((rd_T40 l0_4 x4_1).f0)).bind fun t678 => (if t675.length + t678.size < 140737488355328 then ((federationref7_fixed.f k1 (t675 ++ bytesOf t678) (((rd_T40 l0_4 x4_1).f1).size : Int) 2).bind fun t682 => ((own_bytes.f ((rd_T40 l0_4 x4_1).f1)).bind fun t685 => (if t682.length + t685.size < 140737488355328 then ((some (t682 ++ bytesOf t685 : List Int)).bind fun y686 => ((federationref7_bit.f ((rd_T40 l0_4 x4_1).f2)).bind fun t689 => (if y686.length < 140737488355328 then (federationref7_first.l0 k1 (y686 ++ [t689]) (wrap64 (x4_1 + 1)) a0_0 a0_1 a0_2 a0_3 l0_4 a0_5) else (none)))) else (none)))) else (none))) = some r := H
      have A21 := am A210
      clear A210
      replace H := Option.bind_eq_some_iff.mp H
      obtain ⟨t678, A220, H⟩ := H
      replace H : (if t675.length + t678.size < 140737488355328 then ((federationref7_fixed.f k1 (t675 ++ bytesOf t678) (((rd_T40 l0_4 x4_1).f1).size : Int) 2).bind fun t682 => ((own_bytes.f ((rd_T40 l0_4 x4_1).f1)).bind fun t685 => (if t682.length + t685.size < 140737488355328 then ((some (t682 ++ bytesOf t685 : List Int)).bind fun y686 => ((federationref7_bit.f ((rd_T40 l0_4 x4_1).f2)).bind fun t689 => (if y686.length < 140737488355328 then (federationref7_first.l0 k1 (y686 ++ [t689]) (wrap64 (x4_1 + 1)) a0_0 a0_1 a0_2 a0_3 l0_4 a0_5) else (none)))) else (none)))) else (none)) = some r := H
      have A22 := am A220
      clear A220
      by_cases c23 : t675.length + t678.size < 140737488355328
      ·rw [if_pos c23] at H
       have LMc23 := am c23
       clear c23
       obtain ⟨y679, hy679⟩ : ∃ y_ : List Int, y_ = (t675 ++ bytesOf t678) := ⟨_, rfl⟩
       replace H : ((federationref7_fixed.f k1 y679 (((rd_T40 l0_4 x4_1).f1).size : Int) 2).bind fun t682 => ((own_bytes.f ((rd_T40 l0_4 x4_1).f1)).bind fun t685 => (if t682.length + t685.size < 140737488355328 then ((some (t682 ++ bytesOf t685 : List Int)).bind fun y686 => ((federationref7_bit.f ((rd_T40 l0_4 x4_1).f2)).bind fun t689 => (if y686.length < 140737488355328 then (federationref7_first.l0 k1 (y686 ++ [t689]) (wrap64 (x4_1 + 1)) a0_0 a0_1 a0_2 a0_3 l0_4 a0_5) else (none)))) else (none)))) = some r := by first | (rw [hy679]; with_reducible exact H) | (have H2_ := (Option.bind_some _ _).symm.trans H; rw [hy679]; with_reducible exact H2_) | (have H2_ := (Option.bind_some _ _).symm.trans H; with_reducible exact H2_) | with_reducible exact H | (rw [hy679]; exact H) | exact H
       have Ny679 := am hy679
       clear hy679
       replace H := Option.bind_eq_some_iff.mp H
       obtain ⟨t682, A240, H⟩ := H
       replace H : ((own_bytes.f ((rd_T40 l0_4 x4_1).f1)).bind fun t685 => (if t682.length + t685.size < 140737488355328 then ((some (t682 ++ bytesOf t685 : List Int)).bind fun y686 => ((federationref7_bit.f ((rd_T40 l0_4 x4_1).f2)).bind fun t689 => (if y686.length < 140737488355328 then (federationref7_first.l0 k1 (y686 ++ [t689]) (wrap64 (x4_1 + 1)) a0_0 a0_1 a0_2 a0_3 l0_4 a0_5) else (none)))) else (none))) = some r := H
       have A24 := am A240
       clear A240
       replace H := Option.bind_eq_some_iff.mp H
       obtain ⟨t685, A250, H⟩ := H
       replace H : (if t682.length + t685.size < 140737488355328 then ((some (t682 ++ bytesOf t685 : List Int)).bind fun y686 => ((federationref7_bit.f ((rd_T40 l0_4 x4_1).f2)).bind fun t689 => (if y686.length < 140737488355328 then (federationref7_first.l0 k1 (y686 ++ [t689]) (wrap64 (x4_1 + 1)) a0_0 a0_1 a0_2 a0_3 l0_4 a0_5) else (none)))) else (none)) = some r := H
       have A25 := am A250
       clear A250
       by_cases c26 : t682.length + t685.size < 140737488355328
       ·rw [if_pos c26] at H
        have LMc26 := am c26
        clear c26
        obtain ⟨y686, hy686⟩ : ∃ y_ : List Int, y_ = (t682 ++ bytesOf t685) := ⟨_, rfl⟩
        replace H : ((federationref7_bit.f ((rd_T40 l0_4 x4_1).f2)).bind fun t689 => (if y686.length < 140737488355328 then (federationref7_first.l0 k1 (y686 ++ [t689]) (wrap64 (x4_1 + 1)) a0_0 a0_1 a0_2 a0_3 l0_4 a0_5) else (none))) = some r := by first | (rw [hy686]; with_reducible exact H) | (have H2_ := (Option.bind_some _ _).symm.trans H; rw [hy686]; with_reducible exact H2_) | (have H2_ := (Option.bind_some _ _).symm.trans H; with_reducible exact H2_) | with_reducible exact H | (rw [hy686]; exact H) | exact H
        have Ny686 := am hy686
        clear hy686
        replace H := Option.bind_eq_some_iff.mp H
        obtain ⟨t689, A270, H⟩ := H
        replace H : (if y686.length < 140737488355328 then (federationref7_first.l0 k1 (y686 ++ [t689]) (wrap64 (x4_1 + 1)) a0_0 a0_1 a0_2 a0_3 l0_4 a0_5) else (none)) = some r := H
        have A27 := am A270
        clear A270
        by_cases c28 : y686.length < 140737488355328
        ·rw [if_pos c28] at H
         have LMc28 := am c28
         clear c28
         obtain ⟨y690, hy690⟩ : ∃ y_ : List Int, y_ = (y686 ++ [t689]) := ⟨_, rfl⟩
         replace H : (federationref7_first.l0 k1 y690 (wrap64 (x4_1 + 1)) a0_0 a0_1 a0_2 a0_3 l0_4 a0_5) = some r := by first | (rw [hy690]; with_reducible exact H) | (have H2_ := (Option.bind_some _ _).symm.trans H; rw [hy690]; with_reducible exact H2_) | (have H2_ := (Option.bind_some _ _).symm.trans H; with_reducible exact H2_) | with_reducible exact H | (rw [hy690]; exact H) | exact H
         have Ny690 := am hy690
         clear hy690
         have H' := am H
         clear H
         obtain ⟨hcz29_0, hcz29_1, hcz29_2, hcz29_3, hcz29_4, hcz29_5⟩ := cells6 BK656.out
         obtain ⟨hfz29_0, hfz29_1, hfz29_2, hfz29_3, hfz29_4, hfz29_5⟩ := froz6 BK656.out
         have p673 : 0 ≤ (x4_1 : Int) := of_decide_eq_true (by first | (with_reducible assumption) | assumption)
         have q673 : x4_1 < (l0_4.length : Int) := of_decide_eq_true (by first | (with_reducible assumption) | assumption)
         obtain ⟨ad673, e673, hx673_0, hx673_1, hx673_2⟩ := at_T40 HR0_4.out x4_1 p673 q673
         cases e673
         replace hx673_0 := (HB.out.cell (World.block_lt_of_cell? w _ hx673_0)).trans hx673_0
         replace hx673_1 := (HB.out.cell (World.block_lt_of_cell? w _ hx673_1)).trans hx673_1
         replace hx673_2 := (HB.out.cell (World.block_lt_of_cell? w _ hx673_2)).trans hx673_2
         replace p673 := eq_true p673
         replace q673 := eq_true q673
         try go_wp2_with (first | ((with_reducible refine gate_dst (N := 5) rfl ?_); refine bx 5 40 (cs := #[.string (⟨#[]⟩ : ByteArray), .string (⟨#[]⟩ : ByteArray), .bool false]) ?_; intro gb674 hg w30 hbox hb; have n_ := z8 (Kd.R_below (kr HO_3.out) hb) (blk_below (bk BK656.out) hb) (below_step bel hb) (hbox) ((by rw [hg]; exact (below_size bel) : w.heap.size ≤ gb674)) ((by rw [hg]; exact (below_size bel) : w.heap.size ≤ gb674)) ((by rw [hg]; exact Nat.ne_of_lt (blk_lt (bk BK656.out)) : gb656 ≠ gb674)) ((by rw [hg]; exact Nat.ne_of_gt (blk_lt (bk BK656.out)) : gb674 ≠ gb656)); clear HO_3 BK656 HB; obtain ⟨HO_3, BK656, HB, BK674, GW674, GE674, NB656_674, NB674_656⟩ := n_; clear hb hbox hg; have hnb31 := NB674_656.out; have hnc31 := NB656_674.out; obtain ⟨hcz32_0, hcz32_1, hcz32_2⟩ := cells3 BK674.out; obtain ⟨hfz32_0, hfz32_1, hfz32_2⟩ := froz3 BK674.out; obtain ⟨Ao33, co33, eo33⟩ := Kd.R_slice HO_3.out; subst eo33))
         have n0_ : Aside0 (Kd.R (Kd.int .u8) 5 (((w30.setCell ⟨gb674, 0, none⟩ (.string ((rd_T40 l0_4 x4_1).f0))).setCell ⟨gb674, 1, none⟩ (.string ((rd_T40 l0_4 x4_1).f1))).setCell ⟨gb674, 2, none⟩ (.bool ((rd_T40 l0_4 x4_1).f2))) w.heap.size (fun _ => True) (.slice Ao33 x3_1.length co33) x3_1) := ⟨by (with_reducible repeat (first | apply Kd.R_alloc | apply Kd.R_drewN | apply Kd.R_drew)); exact Kd.R_mono (Kd.R_far (p := ⟨gb674, 2, none⟩) (Kd.R_far (p := ⟨gb674, 1, none⟩) (Kd.R_far (p := ⟨gb674, 0, none⟩) (Kd.R_types HO_3.out BK674.out (by decide)) (fun _ hk => hk.2) (.string ((rd_T40 l0_4 x4_1).f0))) (fun _ hk => hk.2) (.string ((rd_T40 l0_4 x4_1).f1))) (fun _ hk => hk.2) (.bool ((rd_T40 l0_4 x4_1).f2))) (fun _ hk => trivial)⟩
         have n1_ : Aside0 ((((w30.setCell ⟨gb674, 0, none⟩ (.string ((rd_T40 l0_4 x4_1).f0))).setCell ⟨gb674, 1, none⟩ (.string ((rd_T40 l0_4 x4_1).f1))).setCell ⟨gb674, 2, none⟩ (.bool ((rd_T40 l0_4 x4_1).f2))).heap[gb656]? = some (.cells #[.int .i64 a0_0, .int .i64 a0_1, .int .i64 a0_2, .bool a0_3, .slice (some ad673) l0_4.length c0_4, .string a0_5] 26 (0, 0))) := ⟨bk BK656.out⟩
         have n2_ : Aside0 ((((w30.setCell ⟨gb674, 0, none⟩ (.string ((rd_T40 l0_4 x4_1).f0))).setCell ⟨gb674, 1, none⟩ (.string ((rd_T40 l0_4 x4_1).f1))).setCell ⟨gb674, 2, none⟩ (.bool ((rd_T40 l0_4 x4_1).f2))).heap[gb674]? = some (.cells #[.string ((rd_T40 l0_4 x4_1).f0), .string ((rd_T40 l0_4 x4_1).f1), .bool ((rd_T40 l0_4 x4_1).f2)] 40 (0, 0))) := ⟨bp BK674.out⟩
         have n3_ : Aside0 (Below w.heap.size w (((w30.setCell ⟨gb674, 0, none⟩ (.string ((rd_T40 l0_4 x4_1).f0))).setCell ⟨gb674, 1, none⟩ (.string ((rd_T40 l0_4 x4_1).f1))).setCell ⟨gb674, 2, none⟩ (.bool ((rd_T40 l0_4 x4_1).f2)))) := ⟨bel⟩
         (try clear HO_3)
         (try clear BK656)
         (try clear BK674)
         (try clear HB)
         generalize (((w30.setCell ⟨gb674, 0, none⟩ (.string ((rd_T40 l0_4 x4_1).f0))).setCell ⟨gb674, 1, none⟩ (.string ((rd_T40 l0_4 x4_1).f1))).setCell ⟨gb674, 2, none⟩ (.bool ((rd_T40 l0_4 x4_1).f2))) = w34 at n0_ n1_ n2_ n3_ ⊢
         have HO_3 := n0_
         have BK656 := n1_
         have BK674 := n2_
         have HB := n3_
         clear n0_ n1_ n2_ n3_
         have n_ := z4 (Kd.R_drew HO_3.out) (blk_drew BK656.out) (blk_drew BK674.out) (below_drew1 HB.out)
         clear HO_3 BK656 BK674 HB
         obtain ⟨HO_3, BK656, BK674, HB⟩ := n_
         refine start_ (n := 10) (S := fun w' => w'.cell? ⟨gb674, 0, none⟩ = some (.string ((rd_T40 l0_4 x4_1).f0)) ∧ w'.cell? ⟨gb674, 1, none⟩ = some (.string ((rd_T40 l0_4 x4_1).f1)) ∧ w'.cell? ⟨gb674, 2, none⟩ = some (.bool ((rd_T40 l0_4 x4_1).f2))) (ds := []) (bv 10 0) (by kernel_rfl) rfl rfl ⟨(blk_cell BK674.out 0).trans rfl, (blk_cell BK674.out 1).trans rfl, (blk_cell BK674.out 2).trans rfl⟩ (fun hHeld => ?_); refine with_tabW federationref7_first.tab7 federationref7_first.bits7 (fun HT_ HW_ => ?_)
         generalize w34.drew = w35 at HO_3 BK656 BK674 HB hHeld ⊢
         refine pu 0 (some 38) (bv 10 1) ?_
         refine pu 1 (some 39) (bv 10 3) ?_
         refine pu 5 (some 43) (bv 10 35) ?_
         refine ta 2 (some 40) (bv 10 39) ?_
         refine pu 3 (some 41) (bv 10 47) ?_
         refine ta 6 (some 44) (bv 10 111) ?_
         refine join_ (σ := (Value) × Value) 2 (bv 10 255) (fun s_ => [(42, s_.1), (45, s_.2)]) (fun s_ w' => (w'.cell? ⟨gb674, 0, none⟩ = some (.string ((rd_T40 l0_4 x4_1).f0)) ∧ w'.cell? ⟨gb674, 1, none⟩ = some (.string ((rd_T40 l0_4 x4_1).f1)) ∧ w'.cell? ⟨gb674, 2, none⟩ = some (.bool ((rd_T40 l0_4 x4_1).f2))) ∧ (Kd.R (Kd.int .u8) 5 w' w.heap.size (fun _ => True) s_.1 t675) ∧ (w'.heap[gb656]? = some (.cells #[.int .i64 a0_0, .int .i64 a0_1, .int .i64 a0_2, .bool a0_3, .slice (some ad673) l0_4.length c0_4, .string a0_5] 26 (0, 0))) ∧ (w'.heap[gb674]? = some (.cells #[.string ((rd_T40 l0_4 x4_1).f0), .string ((rd_T40 l0_4 x4_1).f1), .bool ((rd_T40 l0_4 x4_1).f2)] 40 (0, 0))) ∧ (Below w.heap.size w w') ∧ (HasB w' s_.2 t678 (.slice none 0 0))) ?_ ?_
         rotate_left
         ·intro hCont
          refine two_ (i := 4) (j := 7) (Ni := some 42) (Nj := some 45) (bv 10 127) (bv 10 239) rfl rfl rfl rfl (two_of HT_.out (by kernel_rfl)) (by decide) (by decide) (fun K hK => ?_) (fun K hK => ?_)
          ·skip
           refine goes_ Try.func43 (by kernel_rfl) rfl #[.slice Ao33 x3_1.length co33, .int .i64 (((rd_T40 l0_4 x4_1).f0).size : Int), .int .i64 2] (by rfl) rfl rfl ar ?_
           with_reducible refine (federationref7_fixed.calls k1 (fun k_ => some k_ = (.slice Ao33 x3_1.length co33 : Value).ownBlock) (.slice Ao33 x3_1.length co33) x3_1 (((rd_T40 l0_4 x4_1).f0).size : Int) 2 t675 w _ ?side1 ?side2 A21.out).mono ?_
           (case side1 => exact bel)
           (case side2 => exact Kd.R_tight rfl HO_3.out)
           rintro e w36 ⟨v676, rfl, ho0, hb, hkp⟩
           refine ⟨_, rfl, ?_⟩
           (try (have hB_ := HasB.kept (by (with_reducible repeat (first | apply HasB.drewN | apply HasB.drew)); exact HBB.out) hkp; clear HBB; have HBB := am hB_; clear hB_))
           have n_ := z4 (blk_kept (bk BK656.out) hkp (fun hs_ => (fun e_ => (Kd.R_ne HO_3.out BK656.out (by decide)) e_) hs_)) (blk_kept (bk BK674.out) hkp (fun hs_ => (fun e_ => (Kd.R_ne HO_3.out BK674.out (by decide)) e_) hs_)) (Kd.R_mono (ok' := fun k_ => True) ho0 (fun k_ hk_ => trivial)) (hb)
           clear BK656 BK674 HB HO_3
           obtain ⟨BK656, BK674, HO677, HB⟩ := n_
           (try clear hb)
           (try clear hkp)
           (try clear ho0)
           refine hK.out _ _ ⟨(blk_cell BK674.out 0).trans rfl, (blk_cell BK674.out 1).trans rfl, (blk_cell BK674.out 2).trans rfl⟩ (fun hHeld => ?_)
           clear hK K
           refine no 42 ?_
           refine on 7 (some 45) (bv 10 255) (fun K hK => ?_)
           refine bytes_step (by rfl) 9 35 5 _ rfl Try.underlying9 Try.underlying35 Try.underlying5 ((rd_T40 l0_4 x4_1).f0) t678 A22.out rfl ?_
           intro vB w37 hnB_ hb
           have HBB := am (hnB_ (.slice none 0 0) (by first | exact own_none _ | exact rowLt HO677.out)); clear hnB_
           have n_ := z4 (Kd.R_below (kr HO677.out) hb) (blk_below (bk BK656.out) hb) (blk_below (bk BK674.out) hb) (below_step bel hb)
           clear HO677 BK656 BK674 HB
           obtain ⟨HO677, BK656, BK674, HB⟩ := n_
           (try clear hb)
           (try clear hb2)
           (try clear hk)
           (try clear hi)
           refine hK.out _ _ ⟨(blk_cell BK674.out 0).trans rfl, (blk_cell BK674.out 1).trans rfl, (blk_cell BK674.out 2).trans rfl⟩ (fun hHeld => ?_)
           clear hK K
           refine no 45 ?_
           exact norm_ (by simp only [putAll, Act.put, List.setIfInBounds_toArray, List.set_cons_zero, List.set_cons_succ]) (hCont ((v676), vB) _ ⟨hHeld, (kr HO677.out), (bk BK656.out), (bk BK674.out), bel, (by (with_reducible repeat (first | apply HasB.drewN | apply HasB.drew)); exact HBB.out)⟩)
          ·skip
           refine bytes_step (by rfl) 9 35 5 _ rfl Try.underlying9 Try.underlying35 Try.underlying5 ((rd_T40 l0_4 x4_1).f0) t678 A22.out rfl ?_
           intro vB w36 hnB_ hb
           have HBB := am (hnB_ (.slice Ao33 x3_1.length co33) (by first | exact own_none _ | exact rowLt HO_3.out)); clear hnB_
           have n_ := z4 (Kd.R_below (kr HO_3.out) hb) (blk_below (bk BK656.out) hb) (blk_below (bk BK674.out) hb) (below_step bel hb)
           clear HO_3 BK656 BK674 HB
           obtain ⟨HO_3, BK656, BK674, HB⟩ := n_
           (try clear hb)
           (try clear hb2)
           (try clear hk)
           (try clear hi)
           refine hK.out _ _ ⟨(blk_cell BK674.out 0).trans rfl, (blk_cell BK674.out 1).trans rfl, (blk_cell BK674.out 2).trans rfl⟩ (fun hHeld => ?_)
           clear hK K
           refine no 45 ?_
           refine on 4 (some 42) (bv 10 255) (fun K hK => ?_)
           refine goes_ Try.func43 (by kernel_rfl) rfl #[.slice Ao33 x3_1.length co33, .int .i64 (((rd_T40 l0_4 x4_1).f0).size : Int), .int .i64 2] (by rfl) rfl rfl ar ?_
           with_reducible refine (federationref7_fixed.calls k1 (fun k_ => some k_ = (.slice Ao33 x3_1.length co33 : Value).ownBlock) (.slice Ao33 x3_1.length co33) x3_1 (((rd_T40 l0_4 x4_1).f0).size : Int) 2 t675 w _ ?side1 ?side2 A21.out).mono ?_
           (case side1 => exact bel)
           (case side2 => exact Kd.R_tight rfl HO_3.out)
           rintro e w37 ⟨v676, rfl, ho0, hb, hkp⟩
           refine ⟨_, rfl, ?_⟩
           (try (have hB_ := HasB.kept (by (with_reducible repeat (first | apply HasB.drewN | apply HasB.drew)); exact HBB.out) hkp; clear HBB; have HBB := am hB_; clear hB_))
           have n_ := z4 (blk_kept (bk BK656.out) hkp (fun hs_ => (fun e_ => (Kd.R_ne HO_3.out BK656.out (by decide)) e_) hs_)) (blk_kept (bk BK674.out) hkp (fun hs_ => (fun e_ => (Kd.R_ne HO_3.out BK674.out (by decide)) e_) hs_)) (Kd.R_mono (ok' := fun k_ => True) ho0 (fun k_ hk_ => trivial)) (hb)
           clear BK656 BK674 HB HO_3
           obtain ⟨BK656, BK674, HO677, HB⟩ := n_
           (try clear hb)
           (try clear hkp)
           (try clear ho0)
           refine hK.out _ _ ⟨(blk_cell BK674.out 0).trans rfl, (blk_cell BK674.out 1).trans rfl, (blk_cell BK674.out 2).trans rfl⟩ (fun hHeld => ?_)
           clear hK K
           refine no 42 ?_
           exact norm_ (by simp only [putAll, Act.put, List.setIfInBounds_toArray, List.set_cons_zero, List.set_cons_succ]) (hCont ((v676), vB) _ ⟨hHeld, (kr HO677.out), (bk BK656.out), (bk BK674.out), bel, (by (with_reducible repeat (first | apply HasB.drewN | apply HasB.drew)); exact HBB.out)⟩)
         rintro ⟨v676, vB⟩ w38 ⟨hS_, h0_, h1_, h2_, h3_, hZ_⟩
         have HBB := am hZ_; clear hZ_
         have n0_ : Aside0 (Kd.R (Kd.int .u8) 5 w38 w.heap.size (fun _ => True) v676 t675) := ⟨h0_⟩
         have n1_ : Aside0 (w38.heap[gb656]? = some (.cells #[.int .i64 a0_0, .int .i64 a0_1, .int .i64 a0_2, .bool a0_3, .slice (some ad673) l0_4.length c0_4, .string a0_5] 26 (0, 0))) := ⟨h1_⟩
         have n2_ : Aside0 (w38.heap[gb674]? = some (.cells #[.string ((rd_T40 l0_4 x4_1).f0), .string ((rd_T40 l0_4 x4_1).f1), .bool ((rd_T40 l0_4 x4_1).f2)] 40 (0, 0))) := ⟨h2_⟩
         have n3_ : Aside0 (Below w.heap.size w w38) := ⟨h3_⟩
         clear HO_3 BK656 BK674 HB h0_ h1_ h2_ h3_
         have HO677 := n0_
         have BK656 := n1_
         have BK674 := n2_
         have HB := n3_
         clear n0_ n1_ n2_ n3_
         have hHeld : w38.cell? ⟨gb674, 0, none⟩ = some (.string ((rd_T40 l0_4 x4_1).f0)) ∧ w38.cell? ⟨gb674, 1, none⟩ = some (.string ((rd_T40 l0_4 x4_1).f1)) ∧ w38.cell? ⟨gb674, 2, none⟩ = some (.bool ((rd_T40 l0_4 x4_1).f2)) := hS_
         refine nq ?_
         refine on 8 (some 46) (bv 10 511) (fun K hK => ?_)
         refine R_append_bytes_step (w0 := w) w.heap.size (by rfl) (.tmp 42) _ 35 5 rfl Try.underlying35 info5 v676 t675 t678 (fun _ => True) vB rfl rfl (by (with_reducible repeat (first | apply HasB.drewN | apply HasB.drew)); exact HBB.out) ?aF ?aO ?aB ?aS ?aL ?_
         (case aB => exact bel)
         (case aF => exact (fun _ _ => trivial))
         (case aO => exact (kr HO677.out))
         (case aS => exact (below_size bel))
         (case aL => have := LMc23.out; omega)
         intro v680 w39 ho hb hg hat
         clear HBB
         rw [← Ny679.out] at ho
         have n_ := z4 (blk_grown (bk BK656.out) hg (Kd.R_ne HO677.out BK656.out (by decide))) (blk_grown (bk BK674.out) hg (Kd.R_ne HO677.out BK674.out (by decide))) (hb) (ho)
         clear BK656 BK674 HB HO677
         obtain ⟨BK656, BK674, HB, HO681⟩ := n_
         clear ho hb hg hat
         refine hK.out _ _ ⟨(blk_cell BK674.out 0).trans rfl, (blk_cell BK674.out 1).trans rfl, (blk_cell BK674.out 2).trans rfl⟩ (fun hHeld => ?_)
         clear hK K
         refine no 46 ?_
         refine pu 9 (some 3) (bv 10 1023) ?_
         refine done_ (done_of HT_.out (by kernel_rfl)) ?_
         obtain ⟨Ao40, co40, eo40⟩ := Kd.R_slice HO681.out
         subst eo40
         try go_wp2
         have n_ := z4 (Kd.R_drew HO681.out) (blk_drew BK656.out) (blk_drew BK674.out) (below_drew1 HB.out)
         clear HO681 BK656 BK674 HB
         obtain ⟨HO681, BK656, BK674, HB⟩ := n_
         refine start_ (n := 10) (S := fun w' => w'.cell? ⟨gb674, 0, none⟩ = some (.string ((rd_T40 l0_4 x4_1).f0)) ∧ w'.cell? ⟨gb674, 1, none⟩ = some (.string ((rd_T40 l0_4 x4_1).f1)) ∧ w'.cell? ⟨gb674, 2, none⟩ = some (.bool ((rd_T40 l0_4 x4_1).f2))) (ds := []) (bv 10 0) (by kernel_rfl) rfl rfl ⟨(blk_cell BK674.out 0).trans rfl, (blk_cell BK674.out 1).trans rfl, (blk_cell BK674.out 2).trans rfl⟩ (fun hHeld => ?_); refine with_tabW federationref7_first.tab8 federationref7_first.bits8 (fun HT_ HW_ => ?_)
         generalize w39.drew = w41 at HO681 BK656 BK674 HB hHeld ⊢
         refine pu 0 (some 47) (bv 10 1) ?_
         refine pu 1 (some 48) (bv 10 3) ?_
         refine pu 5 (some 52) (bv 10 35) ?_
         refine ta 2 (some 49) (bv 10 39) ?_
         refine pu 3 (some 50) (bv 10 47) ?_
         refine ta 6 (some 53) (bv 10 111) ?_
         refine join_ (σ := (Value) × Value) 2 (bv 10 255) (fun s_ => [(51, s_.1), (54, s_.2)]) (fun s_ w' => (w'.cell? ⟨gb674, 0, none⟩ = some (.string ((rd_T40 l0_4 x4_1).f0)) ∧ w'.cell? ⟨gb674, 1, none⟩ = some (.string ((rd_T40 l0_4 x4_1).f1)) ∧ w'.cell? ⟨gb674, 2, none⟩ = some (.bool ((rd_T40 l0_4 x4_1).f2))) ∧ (Kd.R (Kd.int .u8) 5 w' w.heap.size (fun _ => True) s_.1 t682) ∧ (w'.heap[gb656]? = some (.cells #[.int .i64 a0_0, .int .i64 a0_1, .int .i64 a0_2, .bool a0_3, .slice (some ad673) l0_4.length c0_4, .string a0_5] 26 (0, 0))) ∧ (w'.heap[gb674]? = some (.cells #[.string ((rd_T40 l0_4 x4_1).f0), .string ((rd_T40 l0_4 x4_1).f1), .bool ((rd_T40 l0_4 x4_1).f2)] 40 (0, 0))) ∧ (Below w.heap.size w w') ∧ (HasB w' s_.2 t685 (.slice none 0 0))) ?_ ?_
         rotate_left
         ·intro hCont
          refine two_ (i := 4) (j := 7) (Ni := some 51) (Nj := some 54) (bv 10 127) (bv 10 239) rfl rfl rfl rfl (two_of HT_.out (by kernel_rfl)) (by decide) (by decide) (fun K hK => ?_) (fun K hK => ?_)
          ·skip
           refine goes_ Try.func43 (by kernel_rfl) rfl #[.slice Ao40 y679.length co40, .int .i64 (((rd_T40 l0_4 x4_1).f1).size : Int), .int .i64 2] (by rfl) rfl rfl ar ?_
           with_reducible refine (federationref7_fixed.calls k1 (fun k_ => some k_ = (.slice Ao40 y679.length co40 : Value).ownBlock) (.slice Ao40 y679.length co40) y679 (((rd_T40 l0_4 x4_1).f1).size : Int) 2 t682 w _ ?side1 ?side2 A24.out).mono ?_
           (case side1 => exact bel)
           (case side2 => exact Kd.R_tight rfl HO681.out)
           rintro e w42 ⟨v683, rfl, ho0, hb, hkp⟩
           refine ⟨_, rfl, ?_⟩
           (try (have hB_ := HasB.kept (by (with_reducible repeat (first | apply HasB.drewN | apply HasB.drew)); exact HBB.out) hkp; clear HBB; have HBB := am hB_; clear hB_))
           have n_ := z4 (blk_kept (bk BK656.out) hkp (fun hs_ => (fun e_ => (Kd.R_ne HO681.out BK656.out (by decide)) e_) hs_)) (blk_kept (bk BK674.out) hkp (fun hs_ => (fun e_ => (Kd.R_ne HO681.out BK674.out (by decide)) e_) hs_)) (Kd.R_mono (ok' := fun k_ => True) ho0 (fun k_ hk_ => trivial)) (hb)
           clear BK656 BK674 HB HO681
           obtain ⟨BK656, BK674, HO684, HB⟩ := n_
           (try clear hb)
           (try clear hkp)
           (try clear ho0)
           refine hK.out _ _ ⟨(blk_cell BK674.out 0).trans rfl, (blk_cell BK674.out 1).trans rfl, (blk_cell BK674.out 2).trans rfl⟩ (fun hHeld => ?_)
           clear hK K
           refine no 51 ?_
           refine on 7 (some 54) (bv 10 255) (fun K hK => ?_)
           refine bytes_step (by rfl) 9 35 5 _ rfl Try.underlying9 Try.underlying35 Try.underlying5 ((rd_T40 l0_4 x4_1).f1) t685 A25.out rfl ?_
           intro vB w43 hnB_ hb
           have HBB := am (hnB_ (.slice none 0 0) (by first | exact own_none _ | exact rowLt HO684.out)); clear hnB_
           have n_ := z4 (Kd.R_below (kr HO684.out) hb) (blk_below (bk BK656.out) hb) (blk_below (bk BK674.out) hb) (below_step bel hb)
           clear HO684 BK656 BK674 HB
           obtain ⟨HO684, BK656, BK674, HB⟩ := n_
           (try clear hb)
           (try clear hb2)
           (try clear hk)
           (try clear hi)
           refine hK.out _ _ ⟨(blk_cell BK674.out 0).trans rfl, (blk_cell BK674.out 1).trans rfl, (blk_cell BK674.out 2).trans rfl⟩ (fun hHeld => ?_)
           clear hK K
           refine no 54 ?_
           exact norm_ (by simp only [putAll, Act.put, List.setIfInBounds_toArray, List.set_cons_zero, List.set_cons_succ]) (hCont ((v683), vB) _ ⟨hHeld, (kr HO684.out), (bk BK656.out), (bk BK674.out), bel, (by (with_reducible repeat (first | apply HasB.drewN | apply HasB.drew)); exact HBB.out)⟩)
          ·skip
           refine bytes_step (by rfl) 9 35 5 _ rfl Try.underlying9 Try.underlying35 Try.underlying5 ((rd_T40 l0_4 x4_1).f1) t685 A25.out rfl ?_
           intro vB w42 hnB_ hb
           have HBB := am (hnB_ (.slice Ao40 y679.length co40) (by first | exact own_none _ | exact rowLt HO681.out)); clear hnB_
           have n_ := z4 (Kd.R_below (kr HO681.out) hb) (blk_below (bk BK656.out) hb) (blk_below (bk BK674.out) hb) (below_step bel hb)
           clear HO681 BK656 BK674 HB
           obtain ⟨HO681, BK656, BK674, HB⟩ := n_
           (try clear hb)
           (try clear hb2)
           (try clear hk)
           (try clear hi)
           refine hK.out _ _ ⟨(blk_cell BK674.out 0).trans rfl, (blk_cell BK674.out 1).trans rfl, (blk_cell BK674.out 2).trans rfl⟩ (fun hHeld => ?_)
           clear hK K
           refine no 54 ?_
           refine on 4 (some 51) (bv 10 255) (fun K hK => ?_)
           refine goes_ Try.func43 (by kernel_rfl) rfl #[.slice Ao40 y679.length co40, .int .i64 (((rd_T40 l0_4 x4_1).f1).size : Int), .int .i64 2] (by rfl) rfl rfl ar ?_
           with_reducible refine (federationref7_fixed.calls k1 (fun k_ => some k_ = (.slice Ao40 y679.length co40 : Value).ownBlock) (.slice Ao40 y679.length co40) y679 (((rd_T40 l0_4 x4_1).f1).size : Int) 2 t682 w _ ?side1 ?side2 A24.out).mono ?_
           (case side1 => exact bel)
           (case side2 => exact Kd.R_tight rfl HO681.out)
           rintro e w43 ⟨v683, rfl, ho0, hb, hkp⟩
           refine ⟨_, rfl, ?_⟩
           (try (have hB_ := HasB.kept (by (with_reducible repeat (first | apply HasB.drewN | apply HasB.drew)); exact HBB.out) hkp; clear HBB; have HBB := am hB_; clear hB_))
           have n_ := z4 (blk_kept (bk BK656.out) hkp (fun hs_ => (fun e_ => (Kd.R_ne HO681.out BK656.out (by decide)) e_) hs_)) (blk_kept (bk BK674.out) hkp (fun hs_ => (fun e_ => (Kd.R_ne HO681.out BK674.out (by decide)) e_) hs_)) (Kd.R_mono (ok' := fun k_ => True) ho0 (fun k_ hk_ => trivial)) (hb)
           clear BK656 BK674 HB HO681
           obtain ⟨BK656, BK674, HO684, HB⟩ := n_
           (try clear hb)
           (try clear hkp)
           (try clear ho0)
           refine hK.out _ _ ⟨(blk_cell BK674.out 0).trans rfl, (blk_cell BK674.out 1).trans rfl, (blk_cell BK674.out 2).trans rfl⟩ (fun hHeld => ?_)
           clear hK K
           refine no 51 ?_
           exact norm_ (by simp only [putAll, Act.put, List.setIfInBounds_toArray, List.set_cons_zero, List.set_cons_succ]) (hCont ((v683), vB) _ ⟨hHeld, (kr HO684.out), (bk BK656.out), (bk BK674.out), bel, (by (with_reducible repeat (first | apply HasB.drewN | apply HasB.drew)); exact HBB.out)⟩)
         rintro ⟨v683, vB⟩ w44 ⟨hS_, h0_, h1_, h2_, h3_, hZ_⟩
         have HBB := am hZ_; clear hZ_
         have n0_ : Aside0 (Kd.R (Kd.int .u8) 5 w44 w.heap.size (fun _ => True) v683 t682) := ⟨h0_⟩
         have n1_ : Aside0 (w44.heap[gb656]? = some (.cells #[.int .i64 a0_0, .int .i64 a0_1, .int .i64 a0_2, .bool a0_3, .slice (some ad673) l0_4.length c0_4, .string a0_5] 26 (0, 0))) := ⟨h1_⟩
         have n2_ : Aside0 (w44.heap[gb674]? = some (.cells #[.string ((rd_T40 l0_4 x4_1).f0), .string ((rd_T40 l0_4 x4_1).f1), .bool ((rd_T40 l0_4 x4_1).f2)] 40 (0, 0))) := ⟨h2_⟩
         have n3_ : Aside0 (Below w.heap.size w w44) := ⟨h3_⟩
         clear HO681 BK656 BK674 HB h0_ h1_ h2_ h3_
         have HO684 := n0_
         have BK656 := n1_
         have BK674 := n2_
         have HB := n3_
         clear n0_ n1_ n2_ n3_
         have hHeld : w44.cell? ⟨gb674, 0, none⟩ = some (.string ((rd_T40 l0_4 x4_1).f0)) ∧ w44.cell? ⟨gb674, 1, none⟩ = some (.string ((rd_T40 l0_4 x4_1).f1)) ∧ w44.cell? ⟨gb674, 2, none⟩ = some (.bool ((rd_T40 l0_4 x4_1).f2)) := hS_
         refine nq ?_
         refine on 8 (some 55) (bv 10 511) (fun K hK => ?_)
         refine R_append_bytes_step (w0 := w) w.heap.size (by rfl) (.tmp 51) _ 35 5 rfl Try.underlying35 info5 v683 t682 t685 (fun _ => True) vB rfl rfl (by (with_reducible repeat (first | apply HasB.drewN | apply HasB.drew)); exact HBB.out) ?aF ?aO ?aB ?aS ?aL ?_
         (case aB => exact bel)
         (case aF => exact (fun _ _ => trivial))
         (case aO => exact (kr HO684.out))
         (case aS => exact (below_size bel))
         (case aL => have := LMc26.out; omega)
         intro v687 w45 ho hb hg hat
         clear HBB
         rw [← Ny686.out] at ho
         have n_ := z4 (blk_grown (bk BK656.out) hg (Kd.R_ne HO684.out BK656.out (by decide))) (blk_grown (bk BK674.out) hg (Kd.R_ne HO684.out BK674.out (by decide))) (hb) (ho)
         clear BK656 BK674 HB HO684
         obtain ⟨BK656, BK674, HB, HO688⟩ := n_
         clear ho hb hg hat
         refine hK.out _ _ ⟨(blk_cell BK674.out 0).trans rfl, (blk_cell BK674.out 1).trans rfl, (blk_cell BK674.out 2).trans rfl⟩ (fun hHeld => ?_)
         clear hK K
         refine no 55 ?_
         refine pu 9 (some 3) (bv 10 1023) ?_
         refine done_ (done_of HT_.out (by kernel_rfl)) ?_
         obtain ⟨hcz46_0, hcz46_1, hcz46_2⟩ := cells3 BK674.out
         obtain ⟨hfz46_0, hfz46_1, hfz46_2⟩ := froz3 BK674.out
         try go_wp2_with (first | ((with_reducible refine gate_callee (f := 44) rfl ?_); refine goesL_ (some 59) rfl rfl Try.func44 (by kernel_rfl) rfl #[.bool ((rd_T40 l0_4 x4_1).f2)] rfl ar ?_; (with_reducible refine (federationref7_bit.calls ((rd_T40 l0_4 x4_1).f2) t689 _ A27.out).mono ?_); rintro e w' ⟨rfl, ⟨nd, rfl⟩⟩; refine ⟨_, rfl, ?_⟩) | ((with_reducible refine gate_builtin (b := .append) (xs := #[.tmp 56, .tmp 60]) rfl ?_); at_builtin; refine Kd.R_append (Kd.int .u8) (w0 := w) w.heap.size rfl (.tmp 56) (.tmp 60) 35 5 (.int .u8 0) 1 rfl Try.underlying35 info5 rfl (by decide) (by omega) v687 y686 t689 [.int .u8 t689] (fun _ => True) (fun _ => False) rfl rfl ?aP (fun _ hk => hk.elim) ?aF ?aO ?aB ?aS ?aL ?_; (case aP => exact rfl); (case aB => exact bel); (case aF => exact (fun _ _ => trivial)); (case aO => exact (kr HO688.out)); (case aS => exact (below_size bel)); (case aL => have := LMc28.out; omega); intro v691 w47 ho hb hg hat; rw [← Ny690.out] at ho; have n_ := z4 (blk_grown (bk BK656.out) hg (Kd.R_ne HO688.out BK656.out (by decide))) (blk_grown (bk BK674.out) hg (Kd.R_ne HO688.out BK674.out (by decide))) (hb) (ho); clear BK656 BK674 HB HO688; obtain ⟨BK656, BK674, HB, HO692⟩ := n_; clear ho hb hg hat))
         go_roundg k1
         case measure => have := HK1.out; omega
         case rel => exact ⟨(y690), (wrap64 (x4_1 + 1)), (by first | rfl | (simp; done) | (simp [*]; done)), H', ⟨by have := HK1.out; omega⟩, ⟨kr HO692.out⟩, ⟨bk BK656.out⟩, ⟨bel⟩⟩
        ·rw [if_neg c28] at H
         exact absurd H (by simp)
       ·rw [if_neg c26] at H
        exact absurd H (by simp)
      ·rw [if_neg c23] at H
       exact absurd H (by simp)
     ·rw [if_neg c20] at H
      exact absurd H (by simp)
    ·rw [if_neg c19] at H
     have c19b0 : decide (x4_1 < (l0_4.length : Int)) = false := decide_eq_false c19
     clear c19
     obtain rfl := Option.some.inj H
     obtain ⟨hcz48_0, hcz48_1, hcz48_2, hcz48_3, hcz48_4, hcz48_5⟩ := cells6 BK656.out
     obtain ⟨hfz48_0, hfz48_1, hfz48_2, hfz48_3, hfz48_4, hfz48_5⟩ := froz6 BK656.out
     go_wp2
     go_ret
     exact ⟨_, er, kr HO_3.out, bel⟩
 ·rw [if_neg c5] at H
  exact absurd H (by simp)
end Go.Proofs.Ytagjmphkfeiiiaa.Q
