/- One function's walk, or a law's, by the text that a program of this session prints; what each theorem says stands in it. -/
import Derived.Test.YtagjmphkfeiiiaaQx0
import Derived.Test.YtagjmphkfeiiiaaQx21
import Derived.Test.YtagjmphkfeiiiaaQx23
import Derived.Test.YtagjmphkfeiiiaaXb
import Derived.Test.YtagjmphkfeiiiaaXs
namespace Go.Proofs.Ytagjmphkfeiiiaa.Q
open Go.RowKit Go.Proofs.YtagjmphkfeiiiaaW.PrintWords Go.Proofs.YtagjmphkfeiiiaaW.PrintLast Go.Proofs.YtagjmphkfeiiiaaW.PrintMore
attribute [local go_sem] min2_int min_two
set_option linter.unusedVariables false
set_option linter.unusedSimpArgs false
mutual
def federationref7_second.l0 : Nat → List Int → Int → Int → Int → Int → Bool → List (S40) → ByteArray → Option (List Int)
  | 0, _, _, _, _, _, _, _, _ => none
  | k + 1, x3, x4, x700000, x700001, x700002, x700003, x700004, x700005 => if x4 < (x700004.length : Int) then (if 0 ≤ x4 then ((federationref7_bit.f ((rd_T40 x700004 x4).f2)).bind fun t721 => ((some (([t721] : List Int) : List Int)).bind fun y722 => (if x3.length + y722.length < 140737488355328 then ((federationref7_free.f k (x3 ++ y722) (((rd_T40 x700004 x4).f0).size : Int)).bind fun t728 => ((own_bytes.f ((rd_T40 x700004 x4).f0)).bind fun t731 => (if t728.length + t731.size < 140737488355328 then ((some (t728 ++ bytesOf t731 : List Int)).bind fun y732 => (if ((rd_T40 x700004 x4).f2 = true) then (federationref7_second.j1 k y732 x4 x700000 x700001 x700002 x700003 x700004 x700005) else ((federationref7_free.f k y732 (((rd_T40 x700004 x4).f1).size : Int)).bind fun t735 => ((own_bytes.f ((rd_T40 x700004 x4).f1)).bind fun t738 => (if t735.length + t738.size < 140737488355328 then (federationref7_second.j1 k (t735 ++ bytesOf t738) x4 x700000 x700001 x700002 x700003 x700004 x700005) else (none)))))) else (none)))) else (none)))) else (none)) else ((federationref7_free.f k x3 (x700005.size : Int)).bind fun t742 => ((own_bytes.f x700005).bind fun t745 => (if t742.length + t745.size < 140737488355328 then (some (t742 ++ bytesOf t745)) else (none))))
def federationref7_second.j1 : Nat → List Int → Int → Int → Int → Int → Bool → List (S40) → ByteArray → Option (List Int)
  | 0, _, _, _, _, _, _, _, _ => none
  | k + 1, x3, x4, x700000, x700001, x700002, x700003, x700004, x700005 => federationref7_second.l0 k x3 (wrap64 (x4 + 1)) x700000 x700001 x700002 x700003 x700004 x700005
end
def federationref7_second.f (k : Nat) (a0_0 : Int) (a0_1 : Int) (a0_2 : Int) (a0_3 : Bool) (l0_4 : List (S40)) (a0_5 : ByteArray) : Option (List Int) := (federationref7_free.f k (([50, (a0_0) % 256] : List Int)) a0_1).bind fun t703 => ((federationref7_free.f k t703 a0_2).bind fun t706 => ((federationref7_bit.f a0_3).bind fun t709 => ((some (([t709] : List Int) : List Int)).bind fun y710 => (if t706.length + y710.length < 140737488355328 then ((federationref7_free.f k (t706 ++ y710) (l0_4.length : Int)).bind fun t716 => (federationref7_second.l0 k t716 0 a0_0 a0_1 a0_2 a0_3 l0_4 a0_5)) else (none)))))
theorem federationref7_second.mono_l : ∀ k, (∀ y0 y1 y2 y3 y4 y5 y6 y7, LeO (federationref7_second.l0 k y0 y1 y2 y3 y4 y5 y6 y7) (federationref7_second.l0 (k + 1) y0 y1 y2 y3 y4 y5 y6 y7)) ∧ (∀ y0 y1 y2 y3 y4 y5 y6 y7, LeO (federationref7_second.j1 k y0 y1 y2 y3 y4 y5 y6 y7) (federationref7_second.j1 (k + 1) y0 y1 y2 y3 y4 y5 y6 y7))
  | 0 => ⟨fun _ _ _ _ _ _ _ _ r h => by simp [federationref7_second.l0] at h, fun _ _ _ _ _ _ _ _ r h => by simp [federationref7_second.j1] at h⟩
  | k + 1 => by
    obtain ⟨ih0, ih1⟩ := federationref7_second.mono_l k
    refine ⟨?_, ?_⟩
    · intro y0 y1 y2 y3 y4 y5 y6 y7
      unfold federationref7_second.l0
      repeat' first
      | (with_reducible exact ih0 _ _ _ _ _ _ _ _)
      | (with_reducible exact ih1 _ _ _ _ _ _ _ _)
      | (with_reducible exact federationref7_free.mono _ _ _)
      | (with_reducible exact LeO.refl _)
      | (with_reducible exact LeO.none _)
      | (with_reducible refine LeO.ite ?_ ?_)
      | (with_reducible refine LeO.bind ?_ (fun _ => ?_))
    · intro y0 y1 y2 y3 y4 y5 y6 y7
      unfold federationref7_second.j1
      repeat' first
      | (with_reducible exact ih0 _ _ _ _ _ _ _ _)
      | (with_reducible exact ih1 _ _ _ _ _ _ _ _)
      | (with_reducible exact federationref7_free.mono _ _ _)
      | (with_reducible exact LeO.refl _)
      | (with_reducible exact LeO.none _)
      | (with_reducible refine LeO.ite ?_ ?_)
      | (with_reducible refine LeO.bind ?_ (fun _ => ?_))
theorem federationref7_second.mono : ∀ a0 a1 a2 a3 a4 a5 k, LeO (federationref7_second.f k a0 a1 a2 a3 a4 a5) (federationref7_second.f (k + 1) a0 a1 a2 a3 a4 a5) := by
  intro a0 a1 a2 a3 a4 a5 k
  obtain ⟨ih0, ih1⟩ := federationref7_second.mono_l k
  unfold federationref7_second.f
  repeat' first
      | (with_reducible exact ih0 _ _ _ _ _ _ _ _)
      | (with_reducible exact ih1 _ _ _ _ _ _ _ _)
      | (with_reducible exact federationref7_free.mono _ _ _)
      | (with_reducible exact LeO.refl _)
      | (with_reducible exact LeO.none _)
      | (with_reducible refine LeO.ite ?_ ?_)
      | (with_reducible refine LeO.bind ?_ (fun _ => ?_))
def federationref7_second.T1 : Bool × List (List Nat × List Nat) := (true, [([], []), ([0], [0]), ([1], [1]), ([2], [2]), ([], []), ([4], [4]), ([3, 5], [3, 5]), ([], []), ([7], [7]), ([6, 8, 6], [6, 8]), ([9, 9, 0, 1, 2, 3, 4, 5, 6, 7, 8, 9], [9])])
def federationref7_second.B1 : List Nat := [0, 1, 3, 7, 0, 16, 63, 0, 128, 511, 1023]
theorem federationref7_second.tab1 : rtab .any (opsOf Try.f29 1) = federationref7_second.T1 := by kernel_rfl
theorem federationref7_second.bits1 : waitsOk federationref7_second.T1.2 federationref7_second.B1 = true := by kernel_rfl
def federationref7_second.T2 : Bool × List (List Nat × List Nat) := (true, [([], []), ([], []), ([1], [1]), ([2], [2]), ([3], [3]), ([0, 4, 3], [0, 4]), ([], []), ([6], [6]), ([7], [7]), ([5, 8, 5], [5, 8]), ([9, 9, 0, 1, 2, 3, 4, 5, 6, 7, 8, 9], [0, 9])])
def federationref7_second.B2 : List Nat := [0, 0, 2, 6, 14, 31, 0, 64, 192, 511, 1023]
theorem federationref7_second.tab2 : rtab .any (opsOf Try.f29 2) = federationref7_second.T2 := by kernel_rfl
theorem federationref7_second.bits2 : waitsOk federationref7_second.T2.2 federationref7_second.B2 = true := by kernel_rfl
def federationref7_second.T7 : Bool × List (List Nat × List Nat) := (true, [([], []), ([], []), ([1], [1]), ([2], [2]), ([3], [3]), ([0, 4, 3], [0, 4]), ([], []), ([6], [6]), ([7], [7]), ([5, 8, 5], [5, 8]), ([], []), ([10], [10]), ([11], [11]), ([9, 12, 9], [9, 12]), ([13, 13, 0, 1, 2, 3, 4, 5, 6, 7, 8, 9, 10, 11, 12, 13], [0, 13])])
def federationref7_second.B7 : List Nat := [0, 0, 2, 6, 14, 31, 0, 64, 192, 511, 0, 1024, 3072, 8191, 16383]
theorem federationref7_second.tab7 : rtab .any (opsOf Try.f29 7) = federationref7_second.T7 := by kernel_rfl
theorem federationref7_second.bits7 : waitsOk federationref7_second.T7.2 federationref7_second.B7 = true := by kernel_rfl
def federationref7_second.T9 : Bool × List (List Nat × List Nat) := (true, [([], []), ([], []), ([1], [1]), ([2], [2]), ([0, 3], [0, 3]), ([], []), ([5], [5]), ([6], [6]), ([4, 7, 4], [4, 7]), ([8, 8, 0, 1, 2, 3, 4, 5, 6, 7, 8], [0, 8])])
def federationref7_second.B9 : List Nat := [0, 0, 2, 6, 15, 0, 32, 96, 255, 511]
theorem federationref7_second.tab9 : rtab .any (opsOf Try.f29 9) = federationref7_second.T9 := by kernel_rfl
theorem federationref7_second.bits9 : waitsOk federationref7_second.T9.2 federationref7_second.B9 = true := by kernel_rfl
def federationref7_second.T10 : Bool × List (List Nat × List Nat) := (true, [([], []), ([], []), ([1], [1]), ([2], [2]), ([0, 3], [0, 3]), ([], []), ([5], [5]), ([6], [6]), ([4, 7, 4], [4, 7]), ([8, 8, 0, 1, 2, 3, 4, 5, 6, 7, 8], [8])])
def federationref7_second.B10 : List Nat := [0, 0, 2, 6, 15, 0, 32, 96, 255, 511]
theorem federationref7_second.tab10 : rtab .any (opsOf Try.f29 10) = federationref7_second.T10 := by kernel_rfl
theorem federationref7_second.bits10 : waitsOk federationref7_second.T10.2 federationref7_second.B10 = true := by kernel_rfl
set_option maxHeartbeats 8000000 in
set_option maxRecDepth 100000 in
theorem federationref7_second.calls (k : Nat) (a0_0 : Int) (a0_1 : Int) (a0_2 : Int) (a0_3 : Bool) (A0_4 : Option Addr) (c0_4 : Nat) (l0_4 : List (S40)) (a0_5 : ByteArray) (r : List Int) (w : World) (hr0_4 : Kd.C k40 w A0_4 l0_4.length l0_4) (hc0_4 : l0_4.length ≤ c0_4) (h : federationref7_second.f k a0_0 a0_1 a0_2 a0_3 l0_4 a0_5 = some r) :
  Calls Try.prog 29 #[.agg #[.int .i64 a0_0, .int .i64 a0_1, .int .i64 a0_2, .bool a0_3, .slice A0_4 l0_4.length c0_4, .string a0_5]] w fun e w' => ∃ v0_ : Value, e = .returned (v0_) ∧ Kd.R (Kd.int .u8) 5 w' w.heap.size (fun _ => True) v0_ r ∧ Below w.heap.size w w' := by
 have hu26 := Try.underlying26
 have hu40 := Try.underlying40
 have HR0_4 := am hr0_4
 have HC0_4 := am hc0_4
 clear hr0_4 hc0_4
 have HB := am (Below.refl w.heap.size w)
 have H : ((federationref7_free.f k (([50, (a0_0) % 256] : List Int)) a0_1).bind fun t703 => ((federationref7_free.f k t703 a0_2).bind fun t706 => ((federationref7_bit.f a0_3).bind fun t709 => ((some (([t709] : List Int) : List Int)).bind fun y710 => (if t706.length + y710.length < 140737488355328 then ((federationref7_free.f k (t706 ++ y710) (l0_4.length : Int)).bind fun t716 => (federationref7_second.l0 k t716 0 a0_0 a0_1 a0_2 a0_3 l0_4 a0_5)) else (none)))))) = some r := h
 clear h
 obtain ⟨y700, hy700⟩ : ∃ y_ : List Int, y_ = (([50, (a0_0) % 256] : List Int)) := ⟨_, rfl⟩
 replace H : ((federationref7_free.f k y700 a0_1).bind fun t703 => ((federationref7_free.f k t703 a0_2).bind fun t706 => ((federationref7_bit.f a0_3).bind fun t709 => ((some (([t709] : List Int) : List Int)).bind fun y710 => (if t706.length + y710.length < 140737488355328 then ((federationref7_free.f k (t706 ++ y710) (l0_4.length : Int)).bind fun t716 => (federationref7_second.l0 k t716 0 a0_0 a0_1 a0_2 a0_3 l0_4 a0_5)) else (none)))))) = some r := by first | (rw [hy700]; with_reducible exact H) | (have H2_ := (Option.bind_some _ _).symm.trans H; rw [hy700]; with_reducible exact H2_) | (have H2_ := (Option.bind_some _ _).symm.trans H; with_reducible exact H2_) | with_reducible exact H | (rw [hy700]; exact H) | exact H
 have Ny700 := am hy700
 clear hy700
 replace H := Option.bind_eq_some_iff.mp H
 obtain ⟨t703, A20, H⟩ := H
 replace H : ((federationref7_free.f k t703 a0_2).bind fun t706 => ((federationref7_bit.f a0_3).bind fun t709 => ((some (([t709] : List Int) : List Int)).bind fun y710 => (if t706.length + y710.length < 140737488355328 then ((federationref7_free.f k (t706 ++ y710) (l0_4.length : Int)).bind fun t716 => (federationref7_second.l0 k t716 0 a0_0 a0_1 a0_2 a0_3 l0_4 a0_5)) else (none))))) = some r := H
 have A2 := am A20
 clear A20
 replace H := Option.bind_eq_some_iff.mp H
 obtain ⟨t706, A30, H⟩ := H
 replace H : ((federationref7_bit.f a0_3).bind fun t709 => ((some (([t709] : List Int) : List Int)).bind fun y710 => (if t706.length + y710.length < 140737488355328 then ((federationref7_free.f k (t706 ++ y710) (l0_4.length : Int)).bind fun t716 => (federationref7_second.l0 k t716 0 a0_0 a0_1 a0_2 a0_3 l0_4 a0_5)) else (none)))) = some r := H
 have A3 := am A30
 clear A30
 replace H := Option.bind_eq_some_iff.mp H
 obtain ⟨t709, A40, H⟩ := H
 replace H : ((some (([t709] : List Int) : List Int)).bind fun y710 => (if t706.length + y710.length < 140737488355328 then ((federationref7_free.f k (t706 ++ y710) (l0_4.length : Int)).bind fun t716 => (federationref7_second.l0 k t716 0 a0_0 a0_1 a0_2 a0_3 l0_4 a0_5)) else (none))) = some r := H
 have A4 := am A40
 clear A40
 obtain ⟨y710, hy710⟩ : ∃ y_ : List Int, y_ = (([t709] : List Int)) := ⟨_, rfl⟩
 replace H : (if t706.length + y710.length < 140737488355328 then ((federationref7_free.f k (t706 ++ y710) (l0_4.length : Int)).bind fun t716 => (federationref7_second.l0 k t716 0 a0_0 a0_1 a0_2 a0_3 l0_4 a0_5)) else (none)) = some r := by first | (rw [hy710]; with_reducible exact H) | (have H2_ := (Option.bind_some _ _).symm.trans H; rw [hy710]; with_reducible exact H2_) | (have H2_ := (Option.bind_some _ _).symm.trans H; with_reducible exact H2_) | with_reducible exact H | (rw [hy710]; exact H) | exact H
 have Ny710 := am hy710
 clear hy710
 by_cases c5 : t706.length + y710.length < 140737488355328
 ·rw [if_pos c5] at H
  have LMc5 := am c5
  clear c5
  obtain ⟨y713, hy713⟩ : ∃ y_ : List Int, y_ = (t706 ++ y710) := ⟨_, rfl⟩
  replace H : ((federationref7_free.f k y713 (l0_4.length : Int)).bind fun t716 => (federationref7_second.l0 k t716 0 a0_0 a0_1 a0_2 a0_3 l0_4 a0_5)) = some r := by first | (rw [hy713]; with_reducible exact H) | (have H2_ := (Option.bind_some _ _).symm.trans H; rw [hy713]; with_reducible exact H2_) | (have H2_ := (Option.bind_some _ _).symm.trans H; with_reducible exact H2_) | with_reducible exact H | (rw [hy713]; exact H) | exact H
  have Ny713 := am hy713
  clear hy713
  replace H := Option.bind_eq_some_iff.mp H
  obtain ⟨t716, A60, H⟩ := H
  replace H : (federationref7_second.l0 k t716 0 a0_0 a0_1 a0_2 a0_3 l0_4 a0_5) = some r := H
  have A6 := am A60
  clear A60
  have H' := am H
  clear H
  go_enter Try.func29, Try.ntmps29
  try go_wp2_with (first | ((with_reducible refine gate_dst (N := 1) rfl ?_); refine bx 1 26 (cs := #[.int .i64 a0_0, .int .i64 a0_1, .int .i64 a0_2, .bool a0_3, .slice A0_4 l0_4.length c0_4, .string a0_5]) ?_; intro gb699 hg w7 hbox hb; have n_ := z4 (below_step bel hb) (hbox) ((by rw [hg]; exact (below_size bel) : w.heap.size ≤ gb699)) ((by rw [hg]; exact (below_size bel) : w.heap.size ≤ gb699)); clear HB; obtain ⟨HB, BK699, GW699, GE699⟩ := n_; clear hb hbox hg))
  have n_ := z2 (blk_drew BK699.out) (below_drew1 HB.out)
  clear BK699 HB
  obtain ⟨BK699, HB⟩ := n_
  refine start_ (n := 11) (S := fun w' => w'.cell? ⟨gb699, 0, none⟩ = some (.int .i64 a0_0) ∧ w'.cell? ⟨gb699, 1, none⟩ = some (.int .i64 a0_1) ∧ w'.cell? ⟨gb699, 2, none⟩ = some (.int .i64 a0_2) ∧ w'.cell? ⟨gb699, 3, none⟩ = some (.bool a0_3) ∧ w'.cell? ⟨gb699, 4, none⟩ = some (.slice A0_4 l0_4.length c0_4) ∧ w'.cell? ⟨gb699, 5, none⟩ = some (.string a0_5)) (ds := []) (bv 11 0) (by kernel_rfl) rfl rfl ⟨(blk_cell BK699.out 0).trans rfl, (blk_cell BK699.out 1).trans rfl, (blk_cell BK699.out 2).trans rfl, (blk_cell BK699.out 3).trans rfl, (blk_cell BK699.out 4).trans rfl, (blk_cell BK699.out 5).trans rfl⟩ (fun hHeld => ?_); refine with_tabW federationref7_second.tab1 federationref7_second.bits1 (fun HT_ HW_ => ?_)
  generalize w7.drew = w8 at BK699 HB hHeld ⊢
  refine pu 0 (some 6) (bv 11 1) ?_
  refine pu 4 (some 10) (bv 11 17) ?_
  refine pu 7 (some 13) (bv 11 145) ?_
  refine ta 1 (some 7) (bv 11 147) ?_
  refine pu 2 (some 8) (bv 11 151) ?_
  refine ta 5 (some 11) (bv 11 183) ?_
  refine ta 8 (some 14) (bv 11 439) ?_
  refine on 3 (some 9) (bv 11 447) (fun K hK => ?_)
  refine Kd.R_lit_step (Kd.int .u8) _ 5 ?hg (N := 9) ?hd (xs := ([50, (a0_0) % 256] : List Int)) (inner := [.int .u8 50, .int .u8 ((a0_0) % 256)]) (ok := fun _ => True) (okp := fun _ => True) ?hr ?hp (fun _ hk => hk) trivial (Below.refl _ _) (Nat.le_refl _) (by simp) ?_; (case hd => rfl); (case hg => rfl); (case hr => first | (go_simp; done) | (go_simp; rfl)); (case hp => exact (Reps.one (show Kd.M (Kd.int .u8) _ _ _ 50 [.int .u8 50] from rfl) (Reps.one (show Kd.M (Kd.int .u8) _ _ _ ((a0_0) % 256) [.int .u8 ((a0_0) % 256)] from rfl) (Reps.none _ _))))
  intro v701 w9 ho10 hb hg_ hnew_
  (try (have hB_ := HasB.below (by (with_reducible repeat (first | apply HasB.drewN | apply HasB.drew)); exact HBB.out) hb; clear HBB; have HBB := am hB_; clear hB_))
  clear hg_ hnew_
  (first | rw [← Ny700.out] at ho10 | (simp only [Int.reduceToNat] at ho10; rw [← Ny700.out] at ho10))
  have n_ := z3 (Kd.R_lower ho10 (below_size bel)) (blk_below (bk BK699.out) hb) (below_step bel hb)
  clear BK699 HB
  obtain ⟨HO702, BK699, HB⟩ := n_
  clear hb ho10
  obtain ⟨Ao11, co11, eo11⟩ := Kd.R_slice HO702.out
  (first | subst eo11 | (injection eo11 with f1_ f2_ f3_; have f4_ := f1_.symm; have f5_ := f3_.symm; clear f1_ f2_ f3_; subst f4_; subst f5_))
  refine hK.out _ _ ⟨(blk_cell BK699.out 0).trans rfl, (blk_cell BK699.out 1).trans rfl, (blk_cell BK699.out 2).trans rfl, (blk_cell BK699.out 3).trans rfl, (blk_cell BK699.out 4).trans rfl, (blk_cell BK699.out 5).trans rfl⟩ (fun hHeld => ?_)
  clear hK K
  refine no 9 ?_
  refine on 6 (some 12) (bv 11 511) (fun K hK => ?_)
  refine goes_ Try.func45 (by kernel_rfl) rfl #[.slice Ao11 y700.length co11, .int .i64 a0_1] (by rfl) rfl rfl ar ?_
  with_reducible refine (federationref7_free.calls k (fun k_ => some k_ = (.slice Ao11 y700.length co11 : Value).ownBlock) (.slice Ao11 y700.length co11) y700 a0_1 t703 w _ ?side1 ?side2 A2.out).mono ?_
  (case side1 => exact bel)
  (case side2 => exact Kd.R_tight rfl HO702.out)
  rintro e w12 ⟨v704, rfl, ho0, hb, hkp⟩
  refine ⟨_, rfl, ?_⟩
  (try (have hB_ := HasB.kept (by (with_reducible repeat (first | apply HasB.drewN | apply HasB.drew)); exact HBB.out) hkp; clear HBB; have HBB := am hB_; clear hB_))
  have n_ := z3 (blk_kept (bk BK699.out) hkp (fun hs_ => (fun e_ => (Kd.R_ne HO702.out BK699.out (by decide)) e_) hs_)) (Kd.R_mono (ok' := fun k_ => True) ho0 (fun k_ hk_ => trivial)) (hb)
  clear BK699 HB HO702
  obtain ⟨BK699, HO705, HB⟩ := n_
  (try clear hb)
  (try clear hkp)
  (try clear ho0)
  obtain ⟨Ao13, co13, eo13⟩ := Kd.R_slice HO705.out
  (first | subst eo13 | (injection eo13 with f1_ f2_ f3_; have f4_ := f1_.symm; have f5_ := f3_.symm; clear f1_ f2_ f3_; subst f4_; subst f5_))
  refine hK.out _ _ ⟨(blk_cell BK699.out 0).trans rfl, (blk_cell BK699.out 1).trans rfl, (blk_cell BK699.out 2).trans rfl, (blk_cell BK699.out 3).trans rfl, (blk_cell BK699.out 4).trans rfl, (blk_cell BK699.out 5).trans rfl⟩ (fun hHeld => ?_)
  clear hK K
  refine no 12 ?_
  refine on 9 (some 15) (bv 11 1023) (fun K hK => ?_)
  refine goes_ Try.func45 (by kernel_rfl) rfl #[.slice Ao13 t703.length co13, .int .i64 a0_2] (by rfl) rfl rfl ar ?_
  with_reducible refine (federationref7_free.calls k (fun k_ => some k_ = (.slice Ao13 t703.length co13 : Value).ownBlock) (.slice Ao13 t703.length co13) t703 a0_2 t706 w _ ?side1 ?side2 A3.out).mono ?_
  (case side1 => exact bel)
  (case side2 => exact Kd.R_tight rfl HO705.out)
  rintro e w14 ⟨v707, rfl, ho0, hb, hkp⟩
  refine ⟨_, rfl, ?_⟩
  (try (have hB_ := HasB.kept (by (with_reducible repeat (first | apply HasB.drewN | apply HasB.drew)); exact HBB.out) hkp; clear HBB; have HBB := am hB_; clear hB_))
  have n_ := z3 (blk_kept (bk BK699.out) hkp (fun hs_ => (fun e_ => (Kd.R_ne HO705.out BK699.out (by decide)) e_) hs_)) (Kd.R_mono (ok' := fun k_ => True) ho0 (fun k_ hk_ => trivial)) (hb)
  clear BK699 HB HO705
  obtain ⟨BK699, HO708, HB⟩ := n_
  (try clear hb)
  (try clear hkp)
  (try clear ho0)
  refine hK.out _ _ ⟨(blk_cell BK699.out 0).trans rfl, (blk_cell BK699.out 1).trans rfl, (blk_cell BK699.out 2).trans rfl, (blk_cell BK699.out 3).trans rfl, (blk_cell BK699.out 4).trans rfl, (blk_cell BK699.out 5).trans rfl⟩ (fun hHeld => ?_)
  clear hK K
  refine no 15 ?_
  refine pu 10 (some 3) (bv 11 2047) ?_
  refine done_ (done_of HT_.out (by kernel_rfl)) ?_
  try go_wp2
  have n_ := z3 (Kd.R_drew HO708.out) (blk_drew BK699.out) (below_drew1 HB.out)
  clear HO708 BK699 HB
  obtain ⟨HO708, BK699, HB⟩ := n_
  refine start_ (n := 11) (S := fun w' => w'.cell? ⟨gb699, 0, none⟩ = some (.int .i64 a0_0) ∧ w'.cell? ⟨gb699, 1, none⟩ = some (.int .i64 a0_1) ∧ w'.cell? ⟨gb699, 2, none⟩ = some (.int .i64 a0_2) ∧ w'.cell? ⟨gb699, 3, none⟩ = some (.bool a0_3) ∧ w'.cell? ⟨gb699, 4, none⟩ = some (.slice A0_4 l0_4.length c0_4) ∧ w'.cell? ⟨gb699, 5, none⟩ = some (.string a0_5)) (ds := []) (bv 11 0) (by kernel_rfl) rfl rfl ⟨(blk_cell BK699.out 0).trans rfl, (blk_cell BK699.out 1).trans rfl, (blk_cell BK699.out 2).trans rfl, (blk_cell BK699.out 3).trans rfl, (blk_cell BK699.out 4).trans rfl, (blk_cell BK699.out 5).trans rfl⟩ (fun hHeld => ?_); refine with_tabW federationref7_second.tab2 federationref7_second.bits2 (fun HT_ HW_ => ?_)
  generalize w14.drew = w15 at HO708 BK699 HB hHeld ⊢
  refine pu 0 (some 16) (bv 11 1) ?_
  refine pu 1 (some 17) (bv 11 3) ?_
  refine pu 6 (some 22) (bv 11 67) ?_
  refine ta 2 (some 18) (bv 11 71) ?_
  refine ta 7 (some 23) (bv 11 199) ?_
  refine pu 8 (some 24) (bv 11 455) ?_
  refine on 3 (some 19) (bv 11 463) (fun K hK => ?_)
  refine goes_ Try.func44 (by kernel_rfl) rfl #[.bool a0_3] (by rfl) rfl rfl ar ?_
  with_reducible refine (federationref7_bit.calls a0_3 t709 _ A4.out).mono ?_
  rintro e w' ⟨rfl, ⟨nd, rfl⟩⟩
  refine ⟨_, rfl, ?_⟩
  refine hK.out _ _ ⟨(blk_cell BK699.out 0).trans rfl, (blk_cell BK699.out 1).trans rfl, (blk_cell BK699.out 2).trans rfl, (blk_cell BK699.out 3).trans rfl, (blk_cell BK699.out 4).trans rfl, (blk_cell BK699.out 5).trans rfl⟩ (fun hHeld => ?_)
  clear hK K
  refine no 19 ?_
  refine on 4 (some 20) (bv 11 479) (fun K hK => ?_)
  refine Kd.R_lit_step (Kd.int .u8) _ 5 ?hg (N := 20) ?hd (xs := ([t709] : List Int)) (inner := [.int .u8 t709]) (ok := fun _ => True) (okp := fun _ => True) ?hr ?hp (fun _ hk => hk) trivial (Below.refl _ _) (Nat.le_refl _) (by simp) ?_; (case hd => rfl); (case hg => rfl); (case hr => first | (go_simp; done) | (go_simp; rfl)); (case hp => exact (Reps.one (show Kd.M (Kd.int .u8) _ _ _ t709 [.int .u8 t709] from rfl) (Reps.none _ _)))
  intro v711 w16 ho17 hb hg_ hnew_
  (try (have hB_ := HasB.below (by (with_reducible repeat (first | apply HasB.drewN | apply HasB.drew)); exact HBB.out) hb; clear HBB; have HBB := am hB_; clear hB_))
  clear hg_ hnew_
  (first | rw [← Ny710.out] at ho17 | (simp only [Int.reduceToNat] at ho17; rw [← Ny710.out] at ho17))
  have n_ := z4 (Kd.R_elder' (kr HO708.out) (Kd.R_base ho17) hb) (Kd.R_lower (Kd.R_new' ho17 (Kd.R_lt (kr HO708.out))) (below_size bel)) (blk_below (bk BK699.out) hb) (below_step bel hb)
  clear HO708 BK699 HB
  obtain ⟨HO708, HO712, BK699, HB⟩ := n_
  clear hb ho17
  obtain ⟨Ao19, co19, eo19⟩ := Kd.R_slice HO712.out
  (first | subst eo19 | (injection eo19 with f1_ f2_ f3_; have f4_ := f1_.symm; have f5_ := f3_.symm; clear f1_ f2_ f3_; subst f4_; subst f5_))
  refine hK.out _ _ ⟨(blk_cell BK699.out 0).trans rfl, (blk_cell BK699.out 1).trans rfl, (blk_cell BK699.out 2).trans rfl, (blk_cell BK699.out 3).trans rfl, (blk_cell BK699.out 4).trans rfl, (blk_cell BK699.out 5).trans rfl⟩ (fun hHeld => ?_)
  clear hK K
  refine no 20 ?_
  refine on 5 (some 21) (bv 11 511) (fun K hK => ?_)
  refine Kd.R_append_rows_step (Kd.int .u8) (w0 := w) w.heap.size (by rfl) (.tmp 16) (.tmp 20) 35 5 (.int .u8 0) 1 rfl Try.underlying35 info5 rfl (by decide) (by omega) v707 t706 y710 _ _ _ (fun k_ => some k_ ≠ (.slice Ao19 y710.length co19 : Value).ownBlock) (fun _ => False) rfl rfl ?aO ?aR (fun _ _ h => h) (fun _ h => h.elim) ?aF ?aB ?aS ?aL ?_
  (case aR => repeat (first | exact (Kd.R_reads' HO712.out).2.2 | (with_reducible refine Kd.C_alloc ?_ _) | (with_reducible refine Kd.C_drewN ?_ _) | (with_reducible refine Kd.C_drew ?_)))
  (case aB => exact bel)
  (case aF => exact (fun k_ hk => Kd.fresh' (Kd.R_lt (kr HO712.out)) k_ hk))
  (case aO => exact (kr (Kd.R_mono HO708.out (fun _ hk => hk.2))))
  (case aS => exact (below_size bel))
  (case aL => have := LMc5.out; omega)
  intro v714 w18 ho hb hg hat
  (try (have hB_ := HasB.grown (by (with_reducible repeat (first | apply HasB.drewN | apply HasB.drew)); exact HBB.out) hg hat; clear HBB; have HBB := am hB_; clear hB_))
  rw [← Ny713.out] at ho
  have n_ := z4 (blk_grown (bk BK699.out) hg (Kd.R_ne HO708.out BK699.out (by decide))) (Kd.R_after (ok := (fun _ => True)) (kr HO712.out) hg hat) (hb) (ho)
  clear BK699 HO712 HB HO708
  obtain ⟨BK699, HO712, HB, HO715⟩ := n_
  clear ho hb hg hat
  obtain ⟨Ao20, co20, eo20⟩ := Kd.R_slice HO715.out
  (first | subst eo20 | (injection eo20 with f1_ f2_ f3_; have f4_ := f1_.symm; have f5_ := f3_.symm; clear f1_ f2_ f3_; subst f4_; subst f5_))
  refine hK.out _ _ ⟨(blk_cell BK699.out 0).trans rfl, (blk_cell BK699.out 1).trans rfl, (blk_cell BK699.out 2).trans rfl, (blk_cell BK699.out 3).trans rfl, (blk_cell BK699.out 4).trans rfl, (blk_cell BK699.out 5).trans rfl⟩ (fun hHeld => ?_)
  clear hK K
  refine no 21 ?_
  refine on 9 (some 25) (bv 11 1023) (fun K hK => ?_)
  refine goes_ Try.func45 (by kernel_rfl) rfl #[.slice Ao20 y713.length co20, .int .i64 (l0_4.length : Int)] (by rfl) rfl rfl ar ?_
  with_reducible refine (federationref7_free.calls k (fun k_ => some k_ = (.slice Ao20 y713.length co20 : Value).ownBlock) (.slice Ao20 y713.length co20) y713 (l0_4.length : Int) t716 w _ ?side1 ?side2 A6.out).mono ?_
  (case side1 => exact bel)
  (case side2 => exact Kd.R_tight rfl HO715.out)
  rintro e w21 ⟨v717, rfl, ho0, hb, hkp⟩
  refine ⟨_, rfl, ?_⟩
  (try (have hB_ := HasB.kept (by (with_reducible repeat (first | apply HasB.drewN | apply HasB.drew)); exact HBB.out) hkp; clear HBB; have HBB := am hB_; clear hB_))
  have n_ := z4 (blk_kept (bk BK699.out) hkp (fun hs_ => (fun e_ => (Kd.R_ne HO715.out BK699.out (by decide)) e_) hs_)) (Kd.R_mono (ok' := fun k_ => some k_ ≠ (v717 : Value).ownBlock) (Kd.R_keptB (HO712.out) hkp (fun k_ hk_ hs_ => (hk_.2) hs_)) (fun k_ hk_ => fun e_ => Or.elim (ho0.1 k_ e_.symm) (fun hs_ => hk_.2.1 hs_) (fun hn_ => Nat.not_le.2 hk_.2.2 hn_))) (Kd.R_mono (ok' := fun k_ => some k_ ≠ (.slice Ao19 y710.length co19 : Value).ownBlock) ho0 (fun k_ hk_ => Or.elim hk_ (fun hs_ => fun e_ => (((HO712.out).1 k_ e_.symm).2) hs_) (fun hn_ => (Kd.fresh' (Kd.R_lt (kr HO712.out)) k_ hn_)))) (hb)
  clear BK699 HO712 HB HO715
  obtain ⟨BK699, HO712, HO718, HB⟩ := n_
  (try clear hb)
  (try clear hkp)
  (try clear ho0)
  refine hK.out _ _ ⟨(blk_cell BK699.out 0).trans rfl, (blk_cell BK699.out 1).trans rfl, (blk_cell BK699.out 2).trans rfl, (blk_cell BK699.out 3).trans rfl, (blk_cell BK699.out 4).trans rfl, (blk_cell BK699.out 5).trans rfl⟩ (fun hHeld => ?_)
  clear hK K
  refine no 25 ?_
  refine pu 10 (some 3) (bv 11 2047) ?_
  refine done_ (done_of HT_.out (by kernel_rfl)) ?_
  try go_wp2
  go_loopg [3, 4] k (fun kq v3 v4 w' => ∃ (x3_1 : List Int) (x4_1 : Int), v4 = .int .i64 x4_1 ∧ Aside0 (federationref7_second.l0 kq x3_1 x4_1 a0_0 a0_1 a0_2 a0_3 l0_4 a0_5 = some r) ∧ Aside0 (kq ≤ k) ∧ Aside0 (Kd.R (Kd.int .u8) 5 w' w.heap.size (fun _ => True) v3 x3_1) ∧ Aside0 (w'.heap[gb699]? = some (.cells #[.int .i64 a0_0, .int .i64 a0_1, .int .i64 a0_2, .bool a0_3, (.slice A0_4 l0_4.length c0_4), .string a0_5] 26 (0, 0))) ∧ Aside0 (Below w.heap.size w w'))
  case atStart => exact ⟨(t716), (0), (by first | rfl | (simp; done) | (simp [*]; done)), H', ⟨Nat.le_refl _⟩, ⟨kr (Kd.R_mono HO718.out (fun _ hk => trivial))⟩, ⟨bk BK699.out⟩, ⟨bel⟩⟩
  case round =>
   clear H'
   try clear c2
   try clear p2
   try clear c4
   try clear c5
   obtain ⟨x3_1, x4_1, rfl, HA, HK1, HO_3, BK699, HB⟩ := hrel
   cases gk with
   | zero => exact absurd HA.out (by simp [federationref7_second.l0])
   | succ k1 =>
    have H := HA.out
    clear HA
    simp only [federationref7_second.l0] at H
    by_cases c22 : x4_1 < (l0_4.length : Int)
    ·rw [if_pos c22] at H
     have c22b0 : decide (x4_1 < (l0_4.length : Int)) = true := decide_eq_true c22
     clear c22
     by_cases c23 : 0 ≤ x4_1
     ·rw [if_pos c23] at H
      have c23b0 : decide (0 ≤ x4_1) = true := decide_eq_true c23
      clear c23
      replace H := Option.bind_eq_some_iff.mp H
      obtain ⟨t721, A240, H⟩ := H
      replace H : ((some (([t721] : List Int) : List Int)).bind fun y722 => (if x3_1.length + y722.length < 140737488355328 then ((federationref7_free.f k1 (x3_1 ++ y722) (((rd_T40 l0_4 x4_1).f0).size : Int)).bind fun t728 => ((own_bytes.f ((rd_T40 l0_4 x4_1).f0)).bind fun t731 => (if t728.length + t731.size < 140737488355328 then ((some (t728 ++ bytesOf t731 : List Int)).bind fun y732 => (if ((rd_T40 l0_4 x4_1).f2 = true) then (federationref7_second.j1 k1 y732 x4_1 a0_0 a0_1 a0_2 a0_3 l0_4 a0_5) else ((federationref7_free.f k1 y732 (((rd_T40 l0_4 x4_1).f1).size : Int)).bind fun t735 => ((own_bytes.f ((rd_T40 l0_4 x4_1).f1)).bind fun t738 => (if t735.length + t738.size < 140737488355328 then (federationref7_second.j1 k1 (t735 ++ bytesOf t738) x4_1 a0_0 a0_1 a0_2 a0_3 l0_4 a0_5) else (none)))))) else (none)))) else (none))) = some r := H
      have A24 := am A240
      clear A240
      obtain ⟨y722, hy722⟩ : ∃ y_ : List Int, y_ = (([t721] : List Int)) := ⟨_, rfl⟩
      replace H : (if x3_1.length + y722.length < 140737488355328 then ((federationref7_free.f k1 (x3_1 ++ y722) (((rd_T40 l0_4 x4_1).f0).size : Int)).bind fun t728 => ((own_bytes.f ((rd_T40 l0_4 x4_1).f0)).bind fun t731 => (if t728.length + t731.size < 140737488355328 then ((some (t728 ++ bytesOf t731 : List Int)).bind fun y732 => (if ((rd_T40 l0_4 x4_1).f2 = true) then (federationref7_second.j1 k1 y732 x4_1 a0_0 a0_1 a0_2 a0_3 l0_4 a0_5) else ((federationref7_free.f k1 y732 (((rd_T40 l0_4 x4_1).f1).size : Int)).bind fun t735 => ((own_bytes.f ((rd_T40 l0_4 x4_1).f1)).bind fun t738 => (if t735.length + t738.size < 140737488355328 then (federationref7_second.j1 k1 (t735 ++ bytesOf t738) x4_1 a0_0 a0_1 a0_2 a0_3 l0_4 a0_5) else (none)))))) else (none)))) else (none)) = some r := by first | (rw [hy722]; with_reducible exact H) | (have H2_ := (Option.bind_some _ _).symm.trans H; rw [hy722]; with_reducible exact H2_) | (have H2_ := (Option.bind_some _ _).symm.trans H; with_reducible exact H2_) | with_reducible exact H | (rw [hy722]; exact H) | exact H
      have Ny722 := am hy722
      clear hy722
      by_cases c25 : x3_1.length + y722.length < 140737488355328
      ·rw [if_pos c25] at H
       have LMc25 := am c25
       clear c25
       obtain ⟨y725, hy725⟩ : ∃ y_ : List Int, y_ = (x3_1 ++ y722) := ⟨_, rfl⟩
       replace H : ((federationref7_free.f k1 y725 (((rd_T40 l0_4 x4_1).f0).size : Int)).bind fun t728 => ((own_bytes.f ((rd_T40 l0_4 x4_1).f0)).bind fun t731 => (if t728.length + t731.size < 140737488355328 then ((some (t728 ++ bytesOf t731 : List Int)).bind fun y732 => (if ((rd_T40 l0_4 x4_1).f2 = true) then (federationref7_second.j1 k1 y732 x4_1 a0_0 a0_1 a0_2 a0_3 l0_4 a0_5) else ((federationref7_free.f k1 y732 (((rd_T40 l0_4 x4_1).f1).size : Int)).bind fun t735 => ((own_bytes.f ((rd_T40 l0_4 x4_1).f1)).bind fun t738 => (if t735.length + t738.size < 140737488355328 then (federationref7_second.j1 k1 (t735 ++ bytesOf t738) x4_1 a0_0 a0_1 a0_2 a0_3 l0_4 a0_5) else (none)))))) else (none)))) = some r := by first | (rw [hy725]; with_reducible exact H) | (have H2_ := (Option.bind_some _ _).symm.trans H; rw [hy725]; with_reducible exact H2_) | (have H2_ := (Option.bind_some _ _).symm.trans H; with_reducible exact H2_) | with_reducible exact H | (rw [hy725]; exact H) | exact H
       have Ny725 := am hy725
       clear hy725
       replace H := Option.bind_eq_some_iff.mp H
       obtain ⟨t728, A260, H⟩ := H
       replace H : ((own_bytes.f ((rd_T40 l0_4 x4_1).f0)).bind fun t731 => (if t728.length + t731.size < 140737488355328 then ((some (t728 ++ bytesOf t731 : List Int)).bind fun y732 => (if ((rd_T40 l0_4 x4_1).f2 = true) then (federationref7_second.j1 k1 y732 x4_1 a0_0 a0_1 a0_2 a0_3 l0_4 a0_5) else ((federationref7_free.f k1 y732 (((rd_T40 l0_4 x4_1).f1).size : Int)).bind fun t735 => ((own_bytes.f ((rd_T40 l0_4 x4_1).f1)).bind fun t738 => (if t735.length + t738.size < 140737488355328 then (federationref7_second.j1 k1 (t735 ++ bytesOf t738) x4_1 a0_0 a0_1 a0_2 a0_3 l0_4 a0_5) else (none)))))) else (none))) = some r := H
       have A26 := am A260
       clear A260
       replace H := Option.bind_eq_some_iff.mp H
       obtain ⟨t731, A270, H⟩ := H
       replace H : (if t728.length + t731.size < 140737488355328 then ((some (t728 ++ bytesOf t731 : List Int)).bind fun y732 => (if ((rd_T40 l0_4 x4_1).f2 = true) then (federationref7_second.j1 k1 y732 x4_1 a0_0 a0_1 a0_2 a0_3 l0_4 a0_5) else ((federationref7_free.f k1 y732 (((rd_T40 l0_4 x4_1).f1).size : Int)).bind fun t735 => ((own_bytes.f ((rd_T40 l0_4 x4_1).f1)).bind fun t738 => (if t735.length + t738.size < 140737488355328 then (federationref7_second.j1 k1 (t735 ++ bytesOf t738) x4_1 a0_0 a0_1 a0_2 a0_3 l0_4 a0_5) else (none)))))) else (none)) = some r := H
       have A27 := am A270
       clear A270
       by_cases c28 : t728.length + t731.size < 140737488355328
       ·rw [if_pos c28] at H
        have LMc28 := am c28
        clear c28
        obtain ⟨y732, hy732⟩ : ∃ y_ : List Int, y_ = (t728 ++ bytesOf t731) := ⟨_, rfl⟩
        replace H : (if ((rd_T40 l0_4 x4_1).f2 = true) then (federationref7_second.j1 k1 y732 x4_1 a0_0 a0_1 a0_2 a0_3 l0_4 a0_5) else ((federationref7_free.f k1 y732 (((rd_T40 l0_4 x4_1).f1).size : Int)).bind fun t735 => ((own_bytes.f ((rd_T40 l0_4 x4_1).f1)).bind fun t738 => (if t735.length + t738.size < 140737488355328 then (federationref7_second.j1 k1 (t735 ++ bytesOf t738) x4_1 a0_0 a0_1 a0_2 a0_3 l0_4 a0_5) else (none))))) = some r := by first | (rw [hy732]; with_reducible exact H) | (have H2_ := (Option.bind_some _ _).symm.trans H; rw [hy732]; with_reducible exact H2_) | (have H2_ := (Option.bind_some _ _).symm.trans H; with_reducible exact H2_) | with_reducible exact H | (rw [hy732]; exact H) | exact H
        have Ny732 := am hy732
        clear hy732
        have HC29 := am H
        clear H
        obtain ⟨hcz30_0, hcz30_1, hcz30_2, hcz30_3, hcz30_4, hcz30_5⟩ := cells6 BK699.out
        obtain ⟨hfz30_0, hfz30_1, hfz30_2, hfz30_3, hfz30_4, hfz30_5⟩ := froz6 BK699.out
        have p719 : 0 ≤ (x4_1 : Int) := of_decide_eq_true (by first | (with_reducible assumption) | assumption)
        have q719 : x4_1 < (l0_4.length : Int) := of_decide_eq_true (by first | (with_reducible assumption) | assumption)
        obtain ⟨ad719, e719, hx719_0, hx719_1, hx719_2⟩ := at_T40 HR0_4.out x4_1 p719 q719
        cases e719
        replace hx719_0 := (HB.out.cell (World.block_lt_of_cell? w _ hx719_0)).trans hx719_0
        replace hx719_1 := (HB.out.cell (World.block_lt_of_cell? w _ hx719_1)).trans hx719_1
        replace hx719_2 := (HB.out.cell (World.block_lt_of_cell? w _ hx719_2)).trans hx719_2
        replace p719 := eq_true p719
        replace q719 := eq_true q719
        try go_wp2_with (first | ((with_reducible refine gate_dst (N := 5) rfl ?_); refine bx 5 40 (cs := #[.string (⟨#[]⟩ : ByteArray), .string (⟨#[]⟩ : ByteArray), .bool false]) ?_; intro gb720 hg w31 hbox hb; have n_ := z8 (Kd.R_below (kr HO_3.out) hb) (blk_below (bk BK699.out) hb) (below_step bel hb) (hbox) ((by rw [hg]; exact (below_size bel) : w.heap.size ≤ gb720)) ((by rw [hg]; exact (below_size bel) : w.heap.size ≤ gb720)) ((by rw [hg]; exact Nat.ne_of_lt (blk_lt (bk BK699.out)) : gb699 ≠ gb720)) ((by rw [hg]; exact Nat.ne_of_gt (blk_lt (bk BK699.out)) : gb720 ≠ gb699)); clear HO_3 BK699 HB; obtain ⟨HO_3, BK699, HB, BK720, GW720, GE720, NB699_720, NB720_699⟩ := n_; clear hb hbox hg; have hnb32 := NB720_699.out; have hnc32 := NB699_720.out; obtain ⟨hcz33_0, hcz33_1, hcz33_2⟩ := cells3 BK720.out; obtain ⟨hfz33_0, hfz33_1, hfz33_2⟩ := froz3 BK720.out; obtain ⟨Ao34, co34, eo34⟩ := Kd.R_slice HO_3.out; subst eo34))
        have n0_ : Aside0 (Kd.R (Kd.int .u8) 5 (((w31.setCell ⟨gb720, 0, none⟩ (.string ((rd_T40 l0_4 x4_1).f0))).setCell ⟨gb720, 1, none⟩ (.string ((rd_T40 l0_4 x4_1).f1))).setCell ⟨gb720, 2, none⟩ (.bool ((rd_T40 l0_4 x4_1).f2))) w.heap.size (fun _ => True) (.slice Ao34 x3_1.length co34) x3_1) := ⟨by (with_reducible repeat (first | apply Kd.R_alloc | apply Kd.R_drewN | apply Kd.R_drew)); exact Kd.R_mono (Kd.R_far (p := ⟨gb720, 2, none⟩) (Kd.R_far (p := ⟨gb720, 1, none⟩) (Kd.R_far (p := ⟨gb720, 0, none⟩) (Kd.R_types HO_3.out BK720.out (by decide)) (fun _ hk => hk.2) (.string ((rd_T40 l0_4 x4_1).f0))) (fun _ hk => hk.2) (.string ((rd_T40 l0_4 x4_1).f1))) (fun _ hk => hk.2) (.bool ((rd_T40 l0_4 x4_1).f2))) (fun _ hk => trivial)⟩
        have n1_ : Aside0 ((((w31.setCell ⟨gb720, 0, none⟩ (.string ((rd_T40 l0_4 x4_1).f0))).setCell ⟨gb720, 1, none⟩ (.string ((rd_T40 l0_4 x4_1).f1))).setCell ⟨gb720, 2, none⟩ (.bool ((rd_T40 l0_4 x4_1).f2))).heap[gb699]? = some (.cells #[.int .i64 a0_0, .int .i64 a0_1, .int .i64 a0_2, .bool a0_3, .slice (some ad719) l0_4.length c0_4, .string a0_5] 26 (0, 0))) := ⟨bk BK699.out⟩
        have n2_ : Aside0 ((((w31.setCell ⟨gb720, 0, none⟩ (.string ((rd_T40 l0_4 x4_1).f0))).setCell ⟨gb720, 1, none⟩ (.string ((rd_T40 l0_4 x4_1).f1))).setCell ⟨gb720, 2, none⟩ (.bool ((rd_T40 l0_4 x4_1).f2))).heap[gb720]? = some (.cells #[.string ((rd_T40 l0_4 x4_1).f0), .string ((rd_T40 l0_4 x4_1).f1), .bool ((rd_T40 l0_4 x4_1).f2)] 40 (0, 0))) := ⟨bp BK720.out⟩
        have n3_ : Aside0 (Below w.heap.size w (((w31.setCell ⟨gb720, 0, none⟩ (.string ((rd_T40 l0_4 x4_1).f0))).setCell ⟨gb720, 1, none⟩ (.string ((rd_T40 l0_4 x4_1).f1))).setCell ⟨gb720, 2, none⟩ (.bool ((rd_T40 l0_4 x4_1).f2)))) := ⟨bel⟩
        (try clear HO_3)
        (try clear BK699)
        (try clear BK720)
        (try clear HB)
        generalize (((w31.setCell ⟨gb720, 0, none⟩ (.string ((rd_T40 l0_4 x4_1).f0))).setCell ⟨gb720, 1, none⟩ (.string ((rd_T40 l0_4 x4_1).f1))).setCell ⟨gb720, 2, none⟩ (.bool ((rd_T40 l0_4 x4_1).f2))) = w35 at n0_ n1_ n2_ n3_ ⊢
        have HO_3 := n0_
        have BK699 := n1_
        have BK720 := n2_
        have HB := n3_
        clear n0_ n1_ n2_ n3_
        have n_ := z4 (Kd.R_drew HO_3.out) (blk_drew BK699.out) (blk_drew BK720.out) (below_drew1 HB.out)
        clear HO_3 BK699 BK720 HB
        obtain ⟨HO_3, BK699, BK720, HB⟩ := n_
        refine start_ (n := 15) (S := fun w' => w'.cell? ⟨gb720, 0, none⟩ = some (.string ((rd_T40 l0_4 x4_1).f0)) ∧ w'.cell? ⟨gb720, 1, none⟩ = some (.string ((rd_T40 l0_4 x4_1).f1)) ∧ w'.cell? ⟨gb720, 2, none⟩ = some (.bool ((rd_T40 l0_4 x4_1).f2))) (ds := []) (bv 15 0) (by kernel_rfl) rfl rfl ⟨(blk_cell BK720.out 0).trans rfl, (blk_cell BK720.out 1).trans rfl, (blk_cell BK720.out 2).trans rfl⟩ (fun hHeld => ?_); refine with_tabW federationref7_second.tab7 federationref7_second.bits7 (fun HT_ HW_ => ?_)
        generalize w35.drew = w36 at HO_3 BK699 BK720 HB hHeld ⊢
        refine pu 0 (some 38) (bv 15 1) ?_
        refine pu 1 (some 39) (bv 15 3) ?_
        refine pu 6 (some 44) (bv 15 67) ?_
        refine pu 10 (some 48) (bv 15 1091) ?_
        refine ta 2 (some 40) (bv 15 1095) ?_
        refine ta 7 (some 45) (bv 15 1223) ?_
        refine pu 8 (some 46) (bv 15 1479) ?_
        refine ta 11 (some 49) (bv 15 3527) ?_
        refine join_ (σ := (Value × Value × Value) × Value) 2 (bv 15 8191) (fun s_ => [(41, .int .u8 t721), (42, s_.1.1), (43, s_.1.2.1), (47, s_.1.2.2), (50, s_.2)]) (fun s_ w' => (w'.cell? ⟨gb720, 0, none⟩ = some (.string ((rd_T40 l0_4 x4_1).f0)) ∧ w'.cell? ⟨gb720, 1, none⟩ = some (.string ((rd_T40 l0_4 x4_1).f1)) ∧ w'.cell? ⟨gb720, 2, none⟩ = some (.bool ((rd_T40 l0_4 x4_1).f2))) ∧ (Kd.R (Kd.int .u8) 5 w' w.heap.size (fun k_ => some k_ ≠ (s_.1.2.2 : Value).ownBlock) s_.1.1 y722) ∧ (Kd.R (Kd.int .u8) 5 w' w.heap.size (fun k_ => some k_ ≠ (s_.1.1 : Value).ownBlock) s_.1.2.2 t728) ∧ (w'.heap[gb699]? = some (.cells #[.int .i64 a0_0, .int .i64 a0_1, .int .i64 a0_2, .bool a0_3, .slice (some ad719) l0_4.length c0_4, .string a0_5] 26 (0, 0))) ∧ (w'.heap[gb720]? = some (.cells #[.string ((rd_T40 l0_4 x4_1).f0), .string ((rd_T40 l0_4 x4_1).f1), .bool ((rd_T40 l0_4 x4_1).f2)] 40 (0, 0))) ∧ (Below w.heap.size w w') ∧ (HasB w' s_.2 t731 (.slice none 0 0))) ?_ ?_
        rotate_left
        ·intro hJ3_4_5_9_12
         refine join_ (σ := Value × Value × Value) 3 (bv 15 4095) (fun s_ => [(41, .int .u8 t721), (42, s_.1), (43, s_.2.1), (47, s_.2.2)]) (fun s_ w' => (w'.cell? ⟨gb720, 0, none⟩ = some (.string ((rd_T40 l0_4 x4_1).f0)) ∧ w'.cell? ⟨gb720, 1, none⟩ = some (.string ((rd_T40 l0_4 x4_1).f1)) ∧ w'.cell? ⟨gb720, 2, none⟩ = some (.bool ((rd_T40 l0_4 x4_1).f2))) ∧ (Kd.R (Kd.int .u8) 5 w' w.heap.size (fun k_ => some k_ ≠ (s_.2.2 : Value).ownBlock) s_.1 y722) ∧ (Kd.R (Kd.int .u8) 5 w' w.heap.size (fun k_ => some k_ ≠ (s_.1 : Value).ownBlock) s_.2.2 t728) ∧ (w'.heap[gb699]? = some (.cells #[.int .i64 a0_0, .int .i64 a0_1, .int .i64 a0_2, .bool a0_3, .slice (some ad719) l0_4.length c0_4, .string a0_5] 26 (0, 0))) ∧ (w'.heap[gb720]? = some (.cells #[.string ((rd_T40 l0_4 x4_1).f0), .string ((rd_T40 l0_4 x4_1).f1), .bool ((rd_T40 l0_4 x4_1).f2)] 40 (0, 0))) ∧ (Below w.heap.size w w')) ?_ ?_
         rotate_left
         ·intro hJ3_4_5_9
          refine join_ (σ := (Value × Value) × Value) 3 (bv 15 7679) (fun s_ => [(41, .int .u8 t721), (42, s_.1.1), (43, s_.1.2), (50, s_.2)]) (fun s_ w' => (w'.cell? ⟨gb720, 0, none⟩ = some (.string ((rd_T40 l0_4 x4_1).f0)) ∧ w'.cell? ⟨gb720, 1, none⟩ = some (.string ((rd_T40 l0_4 x4_1).f1)) ∧ w'.cell? ⟨gb720, 2, none⟩ = some (.bool ((rd_T40 l0_4 x4_1).f2))) ∧ (Kd.R (Kd.int .u8) 5 w' w.heap.size (fun k_ => some k_ ≠ (s_.1.2 : Value).ownBlock) s_.1.1 y722) ∧ (Kd.R (Kd.int .u8) 5 w' w.heap.size (fun k_ => some k_ ≠ (s_.1.1 : Value).ownBlock) s_.1.2 y725) ∧ (w'.heap[gb699]? = some (.cells #[.int .i64 a0_0, .int .i64 a0_1, .int .i64 a0_2, .bool a0_3, .slice (some ad719) l0_4.length c0_4, .string a0_5] 26 (0, 0))) ∧ (w'.heap[gb720]? = some (.cells #[.string ((rd_T40 l0_4 x4_1).f0), .string ((rd_T40 l0_4 x4_1).f1), .bool ((rd_T40 l0_4 x4_1).f2)] 40 (0, 0))) ∧ (Below w.heap.size w w') ∧ (HasB w' s_.2 t731 s_.1.2)) ?_ ?_
          rotate_left
          ·intro hJ3_4_5_12
           refine join_ (σ := Value × Value) 4 (bv 15 3583) (fun s_ => [(41, .int .u8 t721), (42, s_.1), (43, s_.2)]) (fun s_ w' => (w'.cell? ⟨gb720, 0, none⟩ = some (.string ((rd_T40 l0_4 x4_1).f0)) ∧ w'.cell? ⟨gb720, 1, none⟩ = some (.string ((rd_T40 l0_4 x4_1).f1)) ∧ w'.cell? ⟨gb720, 2, none⟩ = some (.bool ((rd_T40 l0_4 x4_1).f2))) ∧ (Kd.R (Kd.int .u8) 5 w' w.heap.size (fun k_ => some k_ ≠ (s_.2 : Value).ownBlock) s_.1 y722) ∧ (Kd.R (Kd.int .u8) 5 w' w.heap.size (fun k_ => some k_ ≠ (s_.1 : Value).ownBlock) s_.2 y725) ∧ (w'.heap[gb699]? = some (.cells #[.int .i64 a0_0, .int .i64 a0_1, .int .i64 a0_2, .bool a0_3, .slice (some ad719) l0_4.length c0_4, .string a0_5] 26 (0, 0))) ∧ (w'.heap[gb720]? = some (.cells #[.string ((rd_T40 l0_4 x4_1).f0), .string ((rd_T40 l0_4 x4_1).f1), .bool ((rd_T40 l0_4 x4_1).f2)] 40 (0, 0))) ∧ (Below w.heap.size w w')) ?_ ?_
           rotate_left
           ·intro hJ3_4_5
            refine join_ (σ := (Value) × Value) 4 (bv 15 7647) (fun s_ => [(41, .int .u8 t721), (42, s_.1), (50, s_.2)]) (fun s_ w' => (w'.cell? ⟨gb720, 0, none⟩ = some (.string ((rd_T40 l0_4 x4_1).f0)) ∧ w'.cell? ⟨gb720, 1, none⟩ = some (.string ((rd_T40 l0_4 x4_1).f1)) ∧ w'.cell? ⟨gb720, 2, none⟩ = some (.bool ((rd_T40 l0_4 x4_1).f2))) ∧ (Kd.R (Kd.int .u8) 5 w' w.heap.size (fun k_ => some k_ ≠ (.slice Ao34 x3_1.length co34 : Value).ownBlock) s_.1 y722) ∧ (Kd.R (Kd.int .u8) 5 w' w.heap.size (fun k_ => some k_ ≠ (s_.1 : Value).ownBlock) (.slice Ao34 x3_1.length co34) x3_1) ∧ (w'.heap[gb699]? = some (.cells #[.int .i64 a0_0, .int .i64 a0_1, .int .i64 a0_2, .bool a0_3, .slice (some ad719) l0_4.length c0_4, .string a0_5] 26 (0, 0))) ∧ (w'.heap[gb720]? = some (.cells #[.string ((rd_T40 l0_4 x4_1).f0), .string ((rd_T40 l0_4 x4_1).f1), .bool ((rd_T40 l0_4 x4_1).f2)] 40 (0, 0))) ∧ (Below w.heap.size w w') ∧ (HasB w' s_.2 t731 (.slice Ao34 x3_1.length co34))) ?_ ?_
            rotate_left
            ·intro hJ3_4_12
             refine join_ (σ := Value) 5 (bv 15 3551) (fun s_ => [(41, .int .u8 t721), (42, s_)]) (fun s_ w' => (w'.cell? ⟨gb720, 0, none⟩ = some (.string ((rd_T40 l0_4 x4_1).f0)) ∧ w'.cell? ⟨gb720, 1, none⟩ = some (.string ((rd_T40 l0_4 x4_1).f1)) ∧ w'.cell? ⟨gb720, 2, none⟩ = some (.bool ((rd_T40 l0_4 x4_1).f2))) ∧ (Kd.R (Kd.int .u8) 5 w' w.heap.size (fun k_ => some k_ ≠ (.slice Ao34 x3_1.length co34 : Value).ownBlock) s_ y722) ∧ (Kd.R (Kd.int .u8) 5 w' w.heap.size (fun k_ => some k_ ≠ (s_ : Value).ownBlock) (.slice Ao34 x3_1.length co34) x3_1) ∧ (w'.heap[gb699]? = some (.cells #[.int .i64 a0_0, .int .i64 a0_1, .int .i64 a0_2, .bool a0_3, .slice (some ad719) l0_4.length c0_4, .string a0_5] 26 (0, 0))) ∧ (w'.heap[gb720]? = some (.cells #[.string ((rd_T40 l0_4 x4_1).f0), .string ((rd_T40 l0_4 x4_1).f1), .bool ((rd_T40 l0_4 x4_1).f2)] 40 (0, 0))) ∧ (Below w.heap.size w w')) ?_ ?_
             rotate_left
             ·intro hJ3_4
              refine join_ (σ := (Unit) × Value) 5 (bv 15 7631) (fun s_ => [(41, .int .u8 t721), (50, s_.2)]) (fun s_ w' => (w'.cell? ⟨gb720, 0, none⟩ = some (.string ((rd_T40 l0_4 x4_1).f0)) ∧ w'.cell? ⟨gb720, 1, none⟩ = some (.string ((rd_T40 l0_4 x4_1).f1)) ∧ w'.cell? ⟨gb720, 2, none⟩ = some (.bool ((rd_T40 l0_4 x4_1).f2))) ∧ (Kd.R (Kd.int .u8) 5 w' w.heap.size (fun _ => True) (.slice Ao34 x3_1.length co34) x3_1) ∧ (w'.heap[gb699]? = some (.cells #[.int .i64 a0_0, .int .i64 a0_1, .int .i64 a0_2, .bool a0_3, .slice (some ad719) l0_4.length c0_4, .string a0_5] 26 (0, 0))) ∧ (w'.heap[gb720]? = some (.cells #[.string ((rd_T40 l0_4 x4_1).f0), .string ((rd_T40 l0_4 x4_1).f1), .bool ((rd_T40 l0_4 x4_1).f2)] 40 (0, 0))) ∧ (Below w.heap.size w w') ∧ (HasB w' s_.2 t731 (.slice Ao34 x3_1.length co34))) ?_ ?_
              rotate_left
              ·intro hJ3_12
               refine join_ (σ := Unit) 6 (bv 15 3535) (fun s_ => [(41, .int .u8 t721)]) (fun s_ w' => (w'.cell? ⟨gb720, 0, none⟩ = some (.string ((rd_T40 l0_4 x4_1).f0)) ∧ w'.cell? ⟨gb720, 1, none⟩ = some (.string ((rd_T40 l0_4 x4_1).f1)) ∧ w'.cell? ⟨gb720, 2, none⟩ = some (.bool ((rd_T40 l0_4 x4_1).f2))) ∧ (Kd.R (Kd.int .u8) 5 w' w.heap.size (fun _ => True) (.slice Ao34 x3_1.length co34) x3_1) ∧ (w'.heap[gb699]? = some (.cells #[.int .i64 a0_0, .int .i64 a0_1, .int .i64 a0_2, .bool a0_3, .slice (some ad719) l0_4.length c0_4, .string a0_5] 26 (0, 0))) ∧ (w'.heap[gb720]? = some (.cells #[.string ((rd_T40 l0_4 x4_1).f0), .string ((rd_T40 l0_4 x4_1).f1), .bool ((rd_T40 l0_4 x4_1).f2)] 40 (0, 0))) ∧ (Below w.heap.size w w')) ?_ ?_
               rotate_left
               ·intro hJ3
                refine join_ (σ := (Unit) × Value) 6 (bv 15 7623) (fun s_ => [(50, s_.2)]) (fun s_ w' => (w'.cell? ⟨gb720, 0, none⟩ = some (.string ((rd_T40 l0_4 x4_1).f0)) ∧ w'.cell? ⟨gb720, 1, none⟩ = some (.string ((rd_T40 l0_4 x4_1).f1)) ∧ w'.cell? ⟨gb720, 2, none⟩ = some (.bool ((rd_T40 l0_4 x4_1).f2))) ∧ (Kd.R (Kd.int .u8) 5 w' w.heap.size (fun _ => True) (.slice Ao34 x3_1.length co34) x3_1) ∧ (w'.heap[gb699]? = some (.cells #[.int .i64 a0_0, .int .i64 a0_1, .int .i64 a0_2, .bool a0_3, .slice (some ad719) l0_4.length c0_4, .string a0_5] 26 (0, 0))) ∧ (w'.heap[gb720]? = some (.cells #[.string ((rd_T40 l0_4 x4_1).f0), .string ((rd_T40 l0_4 x4_1).f1), .bool ((rd_T40 l0_4 x4_1).f2)] 40 (0, 0))) ∧ (Below w.heap.size w w') ∧ (HasB w' s_.2 t731 (.slice Ao34 x3_1.length co34))) ?_ ?_
                rotate_left
                ·intro hJ12
                 refine two_ (i := 3) (j := 12) (Ni := some 41) (Nj := some 50) (bv 15 3535) (bv 15 7623) rfl rfl rfl rfl (two_of HT_.out (by kernel_rfl)) (by decide) (by decide) (fun K hK => ?_) (fun K hK => ?_)
                 ·skip
                  refine goes_ Try.func44 (by kernel_rfl) rfl #[.bool ((rd_T40 l0_4 x4_1).f2)] (by rfl) rfl rfl ar ?_
                  with_reducible refine (federationref7_bit.calls ((rd_T40 l0_4 x4_1).f2) t721 _ A24.out).mono ?_
                  rintro e w' ⟨rfl, ⟨nd, rfl⟩⟩
                  refine ⟨_, rfl, ?_⟩
                  refine hK.out _ _ ⟨(blk_cell BK720.out 0).trans rfl, (blk_cell BK720.out 1).trans rfl, (blk_cell BK720.out 2).trans rfl⟩ (fun hHeld => ?_)
                  clear hK K
                  refine no 41 ?_
                  exact norm_ (by simp only [putAll, Act.put, List.setIfInBounds_toArray, List.set_cons_zero, List.set_cons_succ] <;> rfl) (hJ3 () _ ⟨hHeld, (kr HO_3.out), (bk BK699.out), (bk BK720.out), bel⟩)
                 ·skip
                  refine bytes_step (by rfl) 9 35 5 _ rfl Try.underlying9 Try.underlying35 Try.underlying5 ((rd_T40 l0_4 x4_1).f0) t731 A27.out rfl ?_
                  intro vB w37 hnB_ hb
                  have HBB := am (hnB_ (.slice Ao34 x3_1.length co34) (by first | exact own_none _ | exact rowLt HO_3.out)); clear hnB_
                  have n_ := z4 (Kd.R_below (kr HO_3.out) hb) (blk_below (bk BK699.out) hb) (blk_below (bk BK720.out) hb) (below_step bel hb)
                  clear HO_3 BK699 BK720 HB
                  obtain ⟨HO_3, BK699, BK720, HB⟩ := n_
                  (try clear hb)
                  (try clear hb2)
                  (try clear hk)
                  (try clear hi)
                  refine hK.out _ _ ⟨(blk_cell BK720.out 0).trans rfl, (blk_cell BK720.out 1).trans rfl, (blk_cell BK720.out 2).trans rfl⟩ (fun hHeld => ?_)
                  clear hK K
                  refine no 50 ?_
                  exact norm_ (by simp only [putAll, Act.put, List.setIfInBounds_toArray, List.set_cons_zero, List.set_cons_succ] <;> rfl) (hJ12 ((), vB) _ ⟨hHeld, (kr HO_3.out), (bk BK699.out), (bk BK720.out), bel, (by (with_reducible repeat (first | apply HasB.drewN | apply HasB.drew)); exact HBB.out)⟩)
                ·skip
                 rintro ⟨_, vB⟩ w38 ⟨hS_, h0_, h1_, h2_, h3_, hZ_⟩
                 have HBB := am hZ_; clear hZ_
                 have n0_ : Aside0 (Kd.R (Kd.int .u8) 5 w38 w.heap.size (fun _ => True) (.slice Ao34 x3_1.length co34) x3_1) := ⟨h0_⟩
                 have n1_ : Aside0 (w38.heap[gb699]? = some (.cells #[.int .i64 a0_0, .int .i64 a0_1, .int .i64 a0_2, .bool a0_3, .slice (some ad719) l0_4.length c0_4, .string a0_5] 26 (0, 0))) := ⟨h1_⟩
                 have n2_ : Aside0 (w38.heap[gb720]? = some (.cells #[.string ((rd_T40 l0_4 x4_1).f0), .string ((rd_T40 l0_4 x4_1).f1), .bool ((rd_T40 l0_4 x4_1).f2)] 40 (0, 0))) := ⟨h2_⟩
                 have n3_ : Aside0 (Below w.heap.size w w38) := ⟨h3_⟩
                 clear HO_3 BK699 BK720 HB h0_ h1_ h2_ h3_
                 have HO_3 := n0_
                 have BK699 := n1_
                 have BK720 := n2_
                 have HB := n3_
                 clear n0_ n1_ n2_ n3_
                 have hHeld : w38.cell? ⟨gb720, 0, none⟩ = some (.string ((rd_T40 l0_4 x4_1).f0)) ∧ w38.cell? ⟨gb720, 1, none⟩ = some (.string ((rd_T40 l0_4 x4_1).f1)) ∧ w38.cell? ⟨gb720, 2, none⟩ = some (.bool ((rd_T40 l0_4 x4_1).f2)) := hS_
                 refine nq ?_
                 refine on 3 (some 41) (bv 15 7631) (fun K hK => ?_)
                 refine goes_ Try.func44 (by kernel_rfl) rfl #[.bool ((rd_T40 l0_4 x4_1).f2)] (by rfl) rfl rfl ar ?_
                 with_reducible refine (federationref7_bit.calls ((rd_T40 l0_4 x4_1).f2) t721 _ A24.out).mono ?_
                 rintro e w' ⟨rfl, ⟨nd, rfl⟩⟩
                 refine ⟨_, rfl, ?_⟩
                 refine hK.out _ _ ⟨(blk_cell BK720.out 0).trans rfl, (blk_cell BK720.out 1).trans rfl, (blk_cell BK720.out 2).trans rfl⟩ (fun hHeld => ?_)
                 clear hK K
                 refine no 41 ?_
                 exact norm_ (by simp only [putAll, Act.put, List.setIfInBounds_toArray, List.set_cons_zero, List.set_cons_succ] <;> rfl) (hJ3_12 ((), vB) _ ⟨hHeld, (kr HO_3.out), (bk BK699.out), (bk BK720.out), bel, (by (with_reducible repeat (first | apply HasB.drewN | apply HasB.drew)); exact HBB.out)⟩)
               ·skip
                rintro _ w37 ⟨hS_, h0_, h1_, h2_, h3_⟩
                have n0_ : Aside0 (Kd.R (Kd.int .u8) 5 w37 w.heap.size (fun _ => True) (.slice Ao34 x3_1.length co34) x3_1) := ⟨h0_⟩
                have n1_ : Aside0 (w37.heap[gb699]? = some (.cells #[.int .i64 a0_0, .int .i64 a0_1, .int .i64 a0_2, .bool a0_3, .slice (some ad719) l0_4.length c0_4, .string a0_5] 26 (0, 0))) := ⟨h1_⟩
                have n2_ : Aside0 (w37.heap[gb720]? = some (.cells #[.string ((rd_T40 l0_4 x4_1).f0), .string ((rd_T40 l0_4 x4_1).f1), .bool ((rd_T40 l0_4 x4_1).f2)] 40 (0, 0))) := ⟨h2_⟩
                have n3_ : Aside0 (Below w.heap.size w w37) := ⟨h3_⟩
                clear HO_3 BK699 BK720 HB h0_ h1_ h2_ h3_
                have HO_3 := n0_
                have BK699 := n1_
                have BK720 := n2_
                have HB := n3_
                clear n0_ n1_ n2_ n3_
                have hHeld : w37.cell? ⟨gb720, 0, none⟩ = some (.string ((rd_T40 l0_4 x4_1).f0)) ∧ w37.cell? ⟨gb720, 1, none⟩ = some (.string ((rd_T40 l0_4 x4_1).f1)) ∧ w37.cell? ⟨gb720, 2, none⟩ = some (.bool ((rd_T40 l0_4 x4_1).f2)) := hS_
                refine nq ?_
                refine two_ (i := 4) (j := 12) (Ni := some 42) (Nj := some 50) (bv 15 3551) (bv 15 7631) rfl rfl rfl rfl (two_of HT_.out (by kernel_rfl)) (by decide) (by decide) (fun K hK => ?_) (fun K hK => ?_)
                ·skip
                 refine Kd.R_lit_step (Kd.int .u8) _ 5 ?hg (N := 42) ?hd (xs := ([t721] : List Int)) (inner := [.int .u8 t721]) (ok := fun _ => True) (okp := fun _ => True) ?hr ?hp (fun _ hk => hk) trivial (Below.refl _ _) (Nat.le_refl _) (by simp) ?_; (case hd => rfl); (case hg => rfl); (case hr => first | (go_simp; done) | (go_simp; rfl)); (case hp => exact (Reps.one (show Kd.M (Kd.int .u8) _ _ _ t721 [.int .u8 t721] from rfl) (Reps.none _ _)))
                 intro v723 w38 ho39 hb hg_ hnew_
                 (try (have hB_ := HasB.below (by (with_reducible repeat (first | apply HasB.drewN | apply HasB.drew)); exact HBB.out) hb; clear HBB; have HBB := am hB_; clear hB_))
                 clear hg_ hnew_
                 (first | rw [← Ny722.out] at ho39 | (simp only [Int.reduceToNat] at ho39; rw [← Ny722.out] at ho39))
                 have n_ := z5 (Kd.R_elder' (kr HO_3.out) (Kd.R_base ho39) hb) (Kd.R_lower (Kd.R_new' ho39 (Kd.R_lt (kr HO_3.out))) (below_size bel)) (blk_below (bk BK699.out) hb) (blk_below (bk BK720.out) hb) (below_step bel hb)
                 clear HO_3 BK699 BK720 HB
                 obtain ⟨HO_3, HO724, BK699, BK720, HB⟩ := n_
                 clear hb ho39
                 refine hK.out _ _ ⟨(blk_cell BK720.out 0).trans rfl, (blk_cell BK720.out 1).trans rfl, (blk_cell BK720.out 2).trans rfl⟩ (fun hHeld => ?_)
                 clear hK K
                 refine no 42 ?_
                 exact norm_ (by simp only [putAll, Act.put, List.setIfInBounds_toArray, List.set_cons_zero, List.set_cons_succ] <;> rfl) (hJ3_4 (v723) _ ⟨hHeld, (kr (Kd.R_mono HO724.out (fun _ hk => hk.2))), (kr (Kd.R_mono HO_3.out (fun _ hk => hk.2))), (bk BK699.out), (bk BK720.out), bel⟩)
                ·skip
                 refine bytes_step (by rfl) 9 35 5 _ rfl Try.underlying9 Try.underlying35 Try.underlying5 ((rd_T40 l0_4 x4_1).f0) t731 A27.out rfl ?_
                 intro vB w38 hnB_ hb
                 have HBB := am (hnB_ (.slice Ao34 x3_1.length co34) (by first | exact own_none _ | exact rowLt HO_3.out)); clear hnB_
                 have n_ := z4 (Kd.R_below (kr HO_3.out) hb) (blk_below (bk BK699.out) hb) (blk_below (bk BK720.out) hb) (below_step bel hb)
                 clear HO_3 BK699 BK720 HB
                 obtain ⟨HO_3, BK699, BK720, HB⟩ := n_
                 (try clear hb)
                 (try clear hb2)
                 (try clear hk)
                 (try clear hi)
                 refine hK.out _ _ ⟨(blk_cell BK720.out 0).trans rfl, (blk_cell BK720.out 1).trans rfl, (blk_cell BK720.out 2).trans rfl⟩ (fun hHeld => ?_)
                 clear hK K
                 refine no 50 ?_
                 exact norm_ (by simp only [putAll, Act.put, List.setIfInBounds_toArray, List.set_cons_zero, List.set_cons_succ] <;> rfl) (hJ3_12 ((), vB) _ ⟨hHeld, (kr HO_3.out), (bk BK699.out), (bk BK720.out), bel, (by (with_reducible repeat (first | apply HasB.drewN | apply HasB.drew)); exact HBB.out)⟩)
              ·skip
               rintro ⟨_, vB⟩ w38 ⟨hS_, h0_, h1_, h2_, h3_, hZ_⟩
               have HBB := am hZ_; clear hZ_
               have n0_ : Aside0 (Kd.R (Kd.int .u8) 5 w38 w.heap.size (fun _ => True) (.slice Ao34 x3_1.length co34) x3_1) := ⟨h0_⟩
               have n1_ : Aside0 (w38.heap[gb699]? = some (.cells #[.int .i64 a0_0, .int .i64 a0_1, .int .i64 a0_2, .bool a0_3, .slice (some ad719) l0_4.length c0_4, .string a0_5] 26 (0, 0))) := ⟨h1_⟩
               have n2_ : Aside0 (w38.heap[gb720]? = some (.cells #[.string ((rd_T40 l0_4 x4_1).f0), .string ((rd_T40 l0_4 x4_1).f1), .bool ((rd_T40 l0_4 x4_1).f2)] 40 (0, 0))) := ⟨h2_⟩
               have n3_ : Aside0 (Below w.heap.size w w38) := ⟨h3_⟩
               clear HO_3 BK699 BK720 HB h0_ h1_ h2_ h3_
               have HO_3 := n0_
               have BK699 := n1_
               have BK720 := n2_
               have HB := n3_
               clear n0_ n1_ n2_ n3_
               have hHeld : w38.cell? ⟨gb720, 0, none⟩ = some (.string ((rd_T40 l0_4 x4_1).f0)) ∧ w38.cell? ⟨gb720, 1, none⟩ = some (.string ((rd_T40 l0_4 x4_1).f1)) ∧ w38.cell? ⟨gb720, 2, none⟩ = some (.bool ((rd_T40 l0_4 x4_1).f2)) := hS_
               refine nq ?_
               refine on 4 (some 42) (bv 15 7647) (fun K hK => ?_)
               refine Kd.R_lit_step (Kd.int .u8) _ 5 ?hg (N := 42) ?hd (xs := ([t721] : List Int)) (inner := [.int .u8 t721]) (ok := fun _ => True) (okp := fun _ => True) ?hr ?hp (fun _ hk => hk) trivial (Below.refl _ _) (Nat.le_refl _) (by simp) ?_; (case hd => rfl); (case hg => rfl); (case hr => first | (go_simp; done) | (go_simp; rfl)); (case hp => exact (Reps.one (show Kd.M (Kd.int .u8) _ _ _ t721 [.int .u8 t721] from rfl) (Reps.none _ _)))
               intro v723 w39 ho40 hb hg_ hnew_
               (try (have hB_ := HasB.below (by (with_reducible repeat (first | apply HasB.drewN | apply HasB.drew)); exact HBB.out) hb; clear HBB; have HBB := am hB_; clear hB_))
               clear hg_ hnew_
               (first | rw [← Ny722.out] at ho40 | (simp only [Int.reduceToNat] at ho40; rw [← Ny722.out] at ho40))
               have n_ := z5 (Kd.R_elder' (kr HO_3.out) (Kd.R_base ho40) hb) (Kd.R_lower (Kd.R_new' ho40 (Kd.R_lt (kr HO_3.out))) (below_size bel)) (blk_below (bk BK699.out) hb) (blk_below (bk BK720.out) hb) (below_step bel hb)
               clear HO_3 BK699 BK720 HB
               obtain ⟨HO_3, HO724, BK699, BK720, HB⟩ := n_
               clear hb ho40
               refine hK.out _ _ ⟨(blk_cell BK720.out 0).trans rfl, (blk_cell BK720.out 1).trans rfl, (blk_cell BK720.out 2).trans rfl⟩ (fun hHeld => ?_)
               clear hK K
               refine no 42 ?_
               exact norm_ (by simp only [putAll, Act.put, List.setIfInBounds_toArray, List.set_cons_zero, List.set_cons_succ] <;> rfl) (hJ3_4_12 ((v723), vB) _ ⟨hHeld, (kr (Kd.R_mono HO724.out (fun _ hk => hk.2))), (kr (Kd.R_mono HO_3.out (fun _ hk => hk.2))), (bk BK699.out), (bk BK720.out), bel, (by (with_reducible repeat (first | apply HasB.drewN | apply HasB.drew)); exact HBB.out)⟩)
             ·skip
              rintro v723 w39 ⟨hS_, h0_, h1_, h2_, h3_, h4_⟩
              have n0_ : Aside0 (Kd.R (Kd.int .u8) 5 w39 w.heap.size (fun k_ => some k_ ≠ (.slice Ao34 x3_1.length co34 : Value).ownBlock) v723 y722) := ⟨h0_⟩
              have n1_ : Aside0 (Kd.R (Kd.int .u8) 5 w39 w.heap.size (fun k_ => some k_ ≠ (v723 : Value).ownBlock) (.slice Ao34 x3_1.length co34) x3_1) := ⟨h1_⟩
              have n2_ : Aside0 (w39.heap[gb699]? = some (.cells #[.int .i64 a0_0, .int .i64 a0_1, .int .i64 a0_2, .bool a0_3, .slice (some ad719) l0_4.length c0_4, .string a0_5] 26 (0, 0))) := ⟨h2_⟩
              have n3_ : Aside0 (w39.heap[gb720]? = some (.cells #[.string ((rd_T40 l0_4 x4_1).f0), .string ((rd_T40 l0_4 x4_1).f1), .bool ((rd_T40 l0_4 x4_1).f2)] 40 (0, 0))) := ⟨h3_⟩
              have n4_ : Aside0 (Below w.heap.size w w39) := ⟨h4_⟩
              clear HO_3 BK699 BK720 HB h0_ h1_ h2_ h3_ h4_
              have HO724 := n0_
              have HO_3 := n1_
              have BK699 := n2_
              have BK720 := n3_
              have HB := n4_
              clear n0_ n1_ n2_ n3_ n4_
              have hHeld : w39.cell? ⟨gb720, 0, none⟩ = some (.string ((rd_T40 l0_4 x4_1).f0)) ∧ w39.cell? ⟨gb720, 1, none⟩ = some (.string ((rd_T40 l0_4 x4_1).f1)) ∧ w39.cell? ⟨gb720, 2, none⟩ = some (.bool ((rd_T40 l0_4 x4_1).f2)) := hS_
              obtain ⟨Ao41, co41, eo41⟩ := Kd.R_slice HO724.out
              (first | subst eo41 | (injection eo41 with f1_ f2_ f3_; have f4_ := f1_.symm; have f5_ := f3_.symm; clear f1_ f2_ f3_; subst f4_; subst f5_))
              refine nq ?_
              refine two_ (i := 5) (j := 12) (Ni := some 43) (Nj := some 50) (bv 15 3583) (bv 15 7647) rfl rfl rfl rfl (two_of HT_.out (by kernel_rfl)) (by decide) (by decide) (fun K hK => ?_) (fun K hK => ?_)
              ·skip
               refine Kd.R_append_rows_step (Kd.int .u8) (w0 := w) w.heap.size (by rfl) (.tmp 38) (.tmp 42) 35 5 (.int .u8 0) 1 rfl Try.underlying35 info5 rfl (by decide) (by omega) (.slice Ao34 x3_1.length co34) x3_1 y722 _ _ _ (fun k_ => some k_ ≠ (.slice Ao41 y722.length co41 : Value).ownBlock) (fun _ => False) rfl rfl ?aO ?aR (fun _ _ h => h) (fun _ h => h.elim) ?aF ?aB ?aS ?aL ?_
               (case aR => repeat (first | exact (Kd.R_reads' HO724.out).2.2 | (with_reducible refine Kd.C_alloc ?_ _) | (with_reducible refine Kd.C_drewN ?_ _) | (with_reducible refine Kd.C_drew ?_)))
               (case aB => exact bel)
               (case aF => exact (fun k_ hk => Kd.fresh' (Kd.R_lt (kr HO724.out)) k_ hk))
               (case aO => exact (kr HO_3.out))
               (case aS => exact (below_size bel))
               (case aL => have := LMc25.out; omega)
               intro v726 w40 ho hb hg hat
               (try (have hB_ := HasB.grown (by (with_reducible repeat (first | apply HasB.drewN | apply HasB.drew)); exact HBB.out) hg hat; clear HBB; have HBB := am hB_; clear hB_))
               rw [← Ny725.out] at ho
               have n_ := z5 (blk_grown (bk BK699.out) hg (Kd.R_ne HO_3.out BK699.out (by decide))) (blk_grown (bk BK720.out) hg (Kd.R_ne HO_3.out BK720.out (by decide))) (Kd.R_after (ok := (fun _ => True)) (by (with_reducible repeat (first | apply Kd.R_alloc | apply Kd.R_drewN | apply Kd.R_drew)); exact Kd.R_mono HO724.out (fun _ hk => ⟨trivial, hk⟩)) hg hat) (hb) (ho)
               clear BK699 BK720 HO724 HB HO_3
               obtain ⟨BK699, BK720, HO724, HB, HO727⟩ := n_
               clear ho hb hg hat
               refine hK.out _ _ ⟨(blk_cell BK720.out 0).trans rfl, (blk_cell BK720.out 1).trans rfl, (blk_cell BK720.out 2).trans rfl⟩ (fun hHeld => ?_)
               clear hK K
               refine no 43 ?_
               exact norm_ (by simp only [putAll, Act.put, List.setIfInBounds_toArray, List.set_cons_zero, List.set_cons_succ] <;> rfl) (hJ3_4_5 (.slice Ao41 y722.length co41, v726) _ ⟨hHeld, (kr (Kd.R_mono HO724.out (fun _ hk => hk.2))), (kr HO727.out), (bk BK699.out), (bk BK720.out), bel⟩)
              ·skip
               refine bytes_step (by rfl) 9 35 5 _ rfl Try.underlying9 Try.underlying35 Try.underlying5 ((rd_T40 l0_4 x4_1).f0) t731 A27.out rfl ?_
               intro vB w40 hnB_ hb
               have HBB := am (hnB_ (.slice Ao34 x3_1.length co34) (by first | exact own_none _ | exact rowLt HO_3.out | exact rowLt HO724.out)); clear hnB_
               have n_ := z5 (Kd.R_below (kr HO_3.out) hb) (Kd.R_below (kr HO724.out) hb) (blk_below (bk BK699.out) hb) (blk_below (bk BK720.out) hb) (below_step bel hb)
               clear HO_3 HO724 BK699 BK720 HB
               obtain ⟨HO_3, HO724, BK699, BK720, HB⟩ := n_
               (try clear hb)
               (try clear hb2)
               (try clear hk)
               (try clear hi)
               refine hK.out _ _ ⟨(blk_cell BK720.out 0).trans rfl, (blk_cell BK720.out 1).trans rfl, (blk_cell BK720.out 2).trans rfl⟩ (fun hHeld => ?_)
               clear hK K
               refine no 50 ?_
               exact norm_ (by simp only [putAll, Act.put, List.setIfInBounds_toArray, List.set_cons_zero, List.set_cons_succ] <;> rfl) (hJ3_4_12 (((.slice Ao41 y722.length co41)), vB) _ ⟨hHeld, (kr HO724.out), (kr HO_3.out), (bk BK699.out), (bk BK720.out), bel, (by (with_reducible repeat (first | apply HasB.drewN | apply HasB.drew)); exact HBB.out)⟩)
            ·skip
             rintro ⟨v723, vB⟩ w40 ⟨hS_, h0_, h1_, h2_, h3_, h4_, hZ_⟩
             have HBB := am hZ_; clear hZ_
             have n0_ : Aside0 (Kd.R (Kd.int .u8) 5 w40 w.heap.size (fun k_ => some k_ ≠ (.slice Ao34 x3_1.length co34 : Value).ownBlock) v723 y722) := ⟨h0_⟩
             have n1_ : Aside0 (Kd.R (Kd.int .u8) 5 w40 w.heap.size (fun k_ => some k_ ≠ (v723 : Value).ownBlock) (.slice Ao34 x3_1.length co34) x3_1) := ⟨h1_⟩
             have n2_ : Aside0 (w40.heap[gb699]? = some (.cells #[.int .i64 a0_0, .int .i64 a0_1, .int .i64 a0_2, .bool a0_3, .slice (some ad719) l0_4.length c0_4, .string a0_5] 26 (0, 0))) := ⟨h2_⟩
             have n3_ : Aside0 (w40.heap[gb720]? = some (.cells #[.string ((rd_T40 l0_4 x4_1).f0), .string ((rd_T40 l0_4 x4_1).f1), .bool ((rd_T40 l0_4 x4_1).f2)] 40 (0, 0))) := ⟨h3_⟩
             have n4_ : Aside0 (Below w.heap.size w w40) := ⟨h4_⟩
             clear HO_3 BK699 BK720 HB h0_ h1_ h2_ h3_ h4_
             have HO724 := n0_
             have HO_3 := n1_
             have BK699 := n2_
             have BK720 := n3_
             have HB := n4_
             clear n0_ n1_ n2_ n3_ n4_
             have hHeld : w40.cell? ⟨gb720, 0, none⟩ = some (.string ((rd_T40 l0_4 x4_1).f0)) ∧ w40.cell? ⟨gb720, 1, none⟩ = some (.string ((rd_T40 l0_4 x4_1).f1)) ∧ w40.cell? ⟨gb720, 2, none⟩ = some (.bool ((rd_T40 l0_4 x4_1).f2)) := hS_
             obtain ⟨Ao42, co42, eo42⟩ := Kd.R_slice HO724.out
             (first | subst eo42 | (injection eo42 with f1_ f2_ f3_; have f4_ := f1_.symm; have f5_ := f3_.symm; clear f1_ f2_ f3_; subst f4_; subst f5_))
             refine nq ?_
             refine on 5 (some 43) (bv 15 7679) (fun K hK => ?_)
             refine Kd.R_append_rows_step (Kd.int .u8) (w0 := w) w.heap.size (by rfl) (.tmp 38) (.tmp 42) 35 5 (.int .u8 0) 1 rfl Try.underlying35 info5 rfl (by decide) (by omega) (.slice Ao34 x3_1.length co34) x3_1 y722 _ _ _ (fun k_ => some k_ ≠ (.slice Ao42 y722.length co42 : Value).ownBlock) (fun _ => False) rfl rfl ?aO ?aR (fun _ _ h => h) (fun _ h => h.elim) ?aF ?aB ?aS ?aL ?_
             (case aR => repeat (first | exact (Kd.R_reads' HO724.out).2.2 | (with_reducible refine Kd.C_alloc ?_ _) | (with_reducible refine Kd.C_drewN ?_ _) | (with_reducible refine Kd.C_drew ?_)))
             (case aB => exact bel)
             (case aF => exact (fun k_ hk => Kd.fresh' (Kd.R_lt (kr HO724.out)) k_ hk))
             (case aO => exact (kr HO_3.out))
             (case aS => exact (below_size bel))
             (case aL => have := LMc25.out; omega)
             intro v726 w41 ho hb hg hat
             (try (have hB_ := HasB.grown (by (with_reducible repeat (first | apply HasB.drewN | apply HasB.drew)); exact HBB.out) hg hat; clear HBB; have HBB := am hB_; clear hB_))
             rw [← Ny725.out] at ho
             have n_ := z5 (blk_grown (bk BK699.out) hg (Kd.R_ne HO_3.out BK699.out (by decide))) (blk_grown (bk BK720.out) hg (Kd.R_ne HO_3.out BK720.out (by decide))) (Kd.R_after (ok := (fun _ => True)) (by (with_reducible repeat (first | apply Kd.R_alloc | apply Kd.R_drewN | apply Kd.R_drew)); exact Kd.R_mono HO724.out (fun _ hk => ⟨trivial, hk⟩)) hg hat) (hb) (ho)
             clear BK699 BK720 HO724 HB HO_3
             obtain ⟨BK699, BK720, HO724, HB, HO727⟩ := n_
             clear ho hb hg hat
             refine hK.out _ _ ⟨(blk_cell BK720.out 0).trans rfl, (blk_cell BK720.out 1).trans rfl, (blk_cell BK720.out 2).trans rfl⟩ (fun hHeld => ?_)
             clear hK K
             refine no 43 ?_
             exact norm_ (by simp only [putAll, Act.put, List.setIfInBounds_toArray, List.set_cons_zero, List.set_cons_succ] <;> rfl) (hJ3_4_5_12 ((.slice Ao42 y722.length co42, v726), vB) _ ⟨hHeld, (kr (Kd.R_mono HO724.out (fun _ hk => hk.2))), (kr HO727.out), (bk BK699.out), (bk BK720.out), bel, (by (with_reducible repeat (first | apply HasB.drewN | apply HasB.drew)); exact HBB.out)⟩)
           ·skip
            rintro ⟨v723, v726⟩ w41 ⟨hS_, h0_, h1_, h2_, h3_, h4_⟩
            have n0_ : Aside0 (Kd.R (Kd.int .u8) 5 w41 w.heap.size (fun k_ => some k_ ≠ (v726 : Value).ownBlock) v723 y722) := ⟨h0_⟩
            have n1_ : Aside0 (Kd.R (Kd.int .u8) 5 w41 w.heap.size (fun k_ => some k_ ≠ (v723 : Value).ownBlock) v726 y725) := ⟨h1_⟩
            have n2_ : Aside0 (w41.heap[gb699]? = some (.cells #[.int .i64 a0_0, .int .i64 a0_1, .int .i64 a0_2, .bool a0_3, .slice (some ad719) l0_4.length c0_4, .string a0_5] 26 (0, 0))) := ⟨h2_⟩
            have n3_ : Aside0 (w41.heap[gb720]? = some (.cells #[.string ((rd_T40 l0_4 x4_1).f0), .string ((rd_T40 l0_4 x4_1).f1), .bool ((rd_T40 l0_4 x4_1).f2)] 40 (0, 0))) := ⟨h3_⟩
            have n4_ : Aside0 (Below w.heap.size w w41) := ⟨h4_⟩
            clear HO_3 BK699 BK720 HB h0_ h1_ h2_ h3_ h4_
            have HO724 := n0_
            have HO727 := n1_
            have BK699 := n2_
            have BK720 := n3_
            have HB := n4_
            clear n0_ n1_ n2_ n3_ n4_
            have hHeld : w41.cell? ⟨gb720, 0, none⟩ = some (.string ((rd_T40 l0_4 x4_1).f0)) ∧ w41.cell? ⟨gb720, 1, none⟩ = some (.string ((rd_T40 l0_4 x4_1).f1)) ∧ w41.cell? ⟨gb720, 2, none⟩ = some (.bool ((rd_T40 l0_4 x4_1).f2)) := hS_
            obtain ⟨Ao42, co42, eo42⟩ := Kd.R_slice HO727.out
            (first | subst eo42 | (injection eo42 with f1_ f2_ f3_; have f4_ := f1_.symm; have f5_ := f3_.symm; clear f1_ f2_ f3_; subst f4_; subst f5_))
            refine nq ?_
            refine two_ (i := 9) (j := 12) (Ni := some 47) (Nj := some 50) (bv 15 4095) (bv 15 7679) rfl rfl rfl rfl (two_of HT_.out (by kernel_rfl)) (by decide) (by decide) (fun K hK => ?_) (fun K hK => ?_)
            ·skip
             refine goes_ Try.func45 (by kernel_rfl) rfl #[.slice Ao42 y725.length co42, .int .i64 (((rd_T40 l0_4 x4_1).f0).size : Int)] (by rfl) rfl rfl ar ?_
             with_reducible refine (federationref7_free.calls k1 (fun k_ => some k_ = (.slice Ao42 y725.length co42 : Value).ownBlock) (.slice Ao42 y725.length co42) y725 (((rd_T40 l0_4 x4_1).f0).size : Int) t728 w _ ?side1 ?side2 A26.out).mono ?_
             (case side1 => exact bel)
             (case side2 => exact Kd.R_tight rfl HO727.out)
             rintro e w43 ⟨v729, rfl, ho0, hb, hkp⟩
             refine ⟨_, rfl, ?_⟩
             (try (have hB_ := HasB.kept (by (with_reducible repeat (first | apply HasB.drewN | apply HasB.drew)); exact HBB.out) hkp; clear HBB; have HBB := am hB_; clear hB_))
             have n_ := z5 (blk_kept (bk BK699.out) hkp (fun hs_ => (fun e_ => (Kd.R_ne HO727.out BK699.out (by decide)) e_) hs_)) (blk_kept (bk BK720.out) hkp (fun hs_ => (fun e_ => (Kd.R_ne HO727.out BK720.out (by decide)) e_) hs_)) (Kd.R_mono (ok' := fun k_ => some k_ ≠ (v729 : Value).ownBlock) (Kd.R_keptB (HO724.out) hkp (fun k_ hk_ hs_ => (hk_) hs_)) (fun k_ hk_ => fun e_ => Or.elim (ho0.1 k_ e_.symm) (fun hs_ => hk_.2.1 hs_) (fun hn_ => Nat.not_le.2 hk_.2.2 hn_))) (Kd.R_mono (ok' := fun k_ => some k_ ≠ (v723 : Value).ownBlock) ho0 (fun k_ hk_ => Or.elim hk_ (fun hs_ => fun e_ => (((HO724.out).1 k_ e_.symm)) hs_) (fun hn_ => (Kd.fresh' (Kd.R_lt (kr HO724.out)) k_ hn_)))) (hb)
             clear BK699 BK720 HO724 HB HO727
             obtain ⟨BK699, BK720, HO724, HO730, HB⟩ := n_
             (try clear hb)
             (try clear hkp)
             (try clear ho0)
             refine hK.out _ _ ⟨(blk_cell BK720.out 0).trans rfl, (blk_cell BK720.out 1).trans rfl, (blk_cell BK720.out 2).trans rfl⟩ (fun hHeld => ?_)
             clear hK K
             refine no 47 ?_
             exact norm_ (by simp only [putAll, Act.put, List.setIfInBounds_toArray, List.set_cons_zero, List.set_cons_succ] <;> rfl) (hJ3_4_5_9 (v723, .slice Ao42 y725.length co42, v729) _ ⟨hHeld, (kr HO724.out), (kr HO730.out), (bk BK699.out), (bk BK720.out), bel⟩)
            ·skip
             refine bytes_step (by rfl) 9 35 5 _ rfl Try.underlying9 Try.underlying35 Try.underlying5 ((rd_T40 l0_4 x4_1).f0) t731 A27.out rfl ?_
             intro vB w42 hnB_ hb
             have HBB := am (hnB_ ((.slice Ao42 y725.length co42) : Value) (by first | exact own_none _ | exact rowLt HO724.out | exact rowLt HO727.out)); clear hnB_
             have n_ := z5 (Kd.R_below (kr HO724.out) hb) (Kd.R_below (kr HO727.out) hb) (blk_below (bk BK699.out) hb) (blk_below (bk BK720.out) hb) (below_step bel hb)
             clear HO724 HO727 BK699 BK720 HB
             obtain ⟨HO724, HO727, BK699, BK720, HB⟩ := n_
             (try clear hb)
             (try clear hb2)
             (try clear hk)
             (try clear hi)
             refine hK.out _ _ ⟨(blk_cell BK720.out 0).trans rfl, (blk_cell BK720.out 1).trans rfl, (blk_cell BK720.out 2).trans rfl⟩ (fun hHeld => ?_)
             clear hK K
             refine no 50 ?_
             exact norm_ (by simp only [putAll, Act.put, List.setIfInBounds_toArray, List.set_cons_zero, List.set_cons_succ] <;> rfl) (hJ3_4_5_12 ((v723, (.slice Ao42 y725.length co42)), vB) _ ⟨hHeld, (kr HO724.out), (kr HO727.out), (bk BK699.out), (bk BK720.out), bel, (by (with_reducible repeat (first | apply HasB.drewN | apply HasB.drew)); exact HBB.out)⟩)
          ·skip
           rintro ⟨⟨v723, v726⟩, vB⟩ w42 ⟨hS_, h0_, h1_, h2_, h3_, h4_, hZ_⟩
           have HBB := am hZ_; clear hZ_
           have n0_ : Aside0 (Kd.R (Kd.int .u8) 5 w42 w.heap.size (fun k_ => some k_ ≠ (v726 : Value).ownBlock) v723 y722) := ⟨h0_⟩
           have n1_ : Aside0 (Kd.R (Kd.int .u8) 5 w42 w.heap.size (fun k_ => some k_ ≠ (v723 : Value).ownBlock) v726 y725) := ⟨h1_⟩
           have n2_ : Aside0 (w42.heap[gb699]? = some (.cells #[.int .i64 a0_0, .int .i64 a0_1, .int .i64 a0_2, .bool a0_3, .slice (some ad719) l0_4.length c0_4, .string a0_5] 26 (0, 0))) := ⟨h2_⟩
           have n3_ : Aside0 (w42.heap[gb720]? = some (.cells #[.string ((rd_T40 l0_4 x4_1).f0), .string ((rd_T40 l0_4 x4_1).f1), .bool ((rd_T40 l0_4 x4_1).f2)] 40 (0, 0))) := ⟨h3_⟩
           have n4_ : Aside0 (Below w.heap.size w w42) := ⟨h4_⟩
           clear HO_3 BK699 BK720 HB h0_ h1_ h2_ h3_ h4_
           have HO724 := n0_
           have HO727 := n1_
           have BK699 := n2_
           have BK720 := n3_
           have HB := n4_
           clear n0_ n1_ n2_ n3_ n4_
           have hHeld : w42.cell? ⟨gb720, 0, none⟩ = some (.string ((rd_T40 l0_4 x4_1).f0)) ∧ w42.cell? ⟨gb720, 1, none⟩ = some (.string ((rd_T40 l0_4 x4_1).f1)) ∧ w42.cell? ⟨gb720, 2, none⟩ = some (.bool ((rd_T40 l0_4 x4_1).f2)) := hS_
           obtain ⟨Ao43, co43, eo43⟩ := Kd.R_slice HO727.out
           (first | subst eo43 | (injection eo43 with f1_ f2_ f3_; have f4_ := f1_.symm; have f5_ := f3_.symm; clear f1_ f2_ f3_; subst f4_; subst f5_))
           refine nq ?_
           refine on 9 (some 47) (bv 15 8191) (fun K hK => ?_)
           refine goes_ Try.func45 (by kernel_rfl) rfl #[.slice Ao43 y725.length co43, .int .i64 (((rd_T40 l0_4 x4_1).f0).size : Int)] (by rfl) rfl rfl ar ?_
           with_reducible refine (federationref7_free.calls k1 (fun k_ => some k_ = (.slice Ao43 y725.length co43 : Value).ownBlock) (.slice Ao43 y725.length co43) y725 (((rd_T40 l0_4 x4_1).f0).size : Int) t728 w _ ?side1 ?side2 A26.out).mono ?_
           (case side1 => exact bel)
           (case side2 => exact Kd.R_tight rfl HO727.out)
           rintro e w44 ⟨v729, rfl, ho0, hb, hkp⟩
           refine ⟨_, rfl, ?_⟩
           (try (have hB_ := HasB.kept (by (with_reducible repeat (first | apply HasB.drewN | apply HasB.drew)); exact HBB.out) hkp; clear HBB; have HBB := am hB_; clear hB_))
           have n_ := z5 (blk_kept (bk BK699.out) hkp (fun hs_ => (fun e_ => (Kd.R_ne HO727.out BK699.out (by decide)) e_) hs_)) (blk_kept (bk BK720.out) hkp (fun hs_ => (fun e_ => (Kd.R_ne HO727.out BK720.out (by decide)) e_) hs_)) (Kd.R_mono (ok' := fun k_ => some k_ ≠ (v729 : Value).ownBlock) (Kd.R_keptB (HO724.out) hkp (fun k_ hk_ hs_ => (hk_) hs_)) (fun k_ hk_ => fun e_ => Or.elim (ho0.1 k_ e_.symm) (fun hs_ => hk_.2.1 hs_) (fun hn_ => Nat.not_le.2 hk_.2.2 hn_))) (Kd.R_mono (ok' := fun k_ => some k_ ≠ (v723 : Value).ownBlock) ho0 (fun k_ hk_ => Or.elim hk_ (fun hs_ => fun e_ => (((HO724.out).1 k_ e_.symm)) hs_) (fun hn_ => (Kd.fresh' (Kd.R_lt (kr HO724.out)) k_ hn_)))) (hb)
           clear BK699 BK720 HO724 HB HO727
           obtain ⟨BK699, BK720, HO724, HO730, HB⟩ := n_
           (try clear hb)
           (try clear hkp)
           (try clear ho0)
           refine hK.out _ _ ⟨(blk_cell BK720.out 0).trans rfl, (blk_cell BK720.out 1).trans rfl, (blk_cell BK720.out 2).trans rfl⟩ (fun hHeld => ?_)
           clear hK K
           refine no 47 ?_
           exact norm_ (by simp only [putAll, Act.put, List.setIfInBounds_toArray, List.set_cons_zero, List.set_cons_succ] <;> rfl) (hJ3_4_5_9_12 ((v723, .slice Ao43 y725.length co43, v729), vB) _ ⟨hHeld, (kr HO724.out), (kr HO730.out), (bk BK699.out), (bk BK720.out), bel, (by (with_reducible repeat (first | apply HasB.drewN | apply HasB.drew)); exact HBB.out)⟩)
         ·skip
          rintro ⟨v723, v726, v729⟩ w43 ⟨hS_, h0_, h1_, h2_, h3_, h4_⟩
          have n0_ : Aside0 (Kd.R (Kd.int .u8) 5 w43 w.heap.size (fun k_ => some k_ ≠ (v729 : Value).ownBlock) v723 y722) := ⟨h0_⟩
          have n1_ : Aside0 (Kd.R (Kd.int .u8) 5 w43 w.heap.size (fun k_ => some k_ ≠ (v723 : Value).ownBlock) v729 t728) := ⟨h1_⟩
          have n2_ : Aside0 (w43.heap[gb699]? = some (.cells #[.int .i64 a0_0, .int .i64 a0_1, .int .i64 a0_2, .bool a0_3, .slice (some ad719) l0_4.length c0_4, .string a0_5] 26 (0, 0))) := ⟨h2_⟩
          have n3_ : Aside0 (w43.heap[gb720]? = some (.cells #[.string ((rd_T40 l0_4 x4_1).f0), .string ((rd_T40 l0_4 x4_1).f1), .bool ((rd_T40 l0_4 x4_1).f2)] 40 (0, 0))) := ⟨h3_⟩
          have n4_ : Aside0 (Below w.heap.size w w43) := ⟨h4_⟩
          clear HO_3 BK699 BK720 HB h0_ h1_ h2_ h3_ h4_
          have HO724 := n0_
          have HO730 := n1_
          have BK699 := n2_
          have BK720 := n3_
          have HB := n4_
          clear n0_ n1_ n2_ n3_ n4_
          have hHeld : w43.cell? ⟨gb720, 0, none⟩ = some (.string ((rd_T40 l0_4 x4_1).f0)) ∧ w43.cell? ⟨gb720, 1, none⟩ = some (.string ((rd_T40 l0_4 x4_1).f1)) ∧ w43.cell? ⟨gb720, 2, none⟩ = some (.bool ((rd_T40 l0_4 x4_1).f2)) := hS_
          refine nq ?_
          refine on 12 (some 50) (bv 15 8191) (fun K hK => ?_)
          refine bytes_step (by rfl) 9 35 5 _ rfl Try.underlying9 Try.underlying35 Try.underlying5 ((rd_T40 l0_4 x4_1).f0) t731 A27.out rfl ?_
          intro vB w44 hnB_ hb
          have HBB := am (hnB_ (.slice none 0 0) (by first | exact own_none _ | exact rowLt HO724.out | exact rowLt HO730.out)); clear hnB_
          have n_ := z5 (Kd.R_below (kr HO724.out) hb) (Kd.R_below (kr HO730.out) hb) (blk_below (bk BK699.out) hb) (blk_below (bk BK720.out) hb) (below_step bel hb)
          clear HO724 HO730 BK699 BK720 HB
          obtain ⟨HO724, HO730, BK699, BK720, HB⟩ := n_
          (try clear hb)
          (try clear hb2)
          (try clear hk)
          (try clear hi)
          refine hK.out _ _ ⟨(blk_cell BK720.out 0).trans rfl, (blk_cell BK720.out 1).trans rfl, (blk_cell BK720.out 2).trans rfl⟩ (fun hHeld => ?_)
          clear hK K
          refine no 50 ?_
          exact norm_ (by simp only [putAll, Act.put, List.setIfInBounds_toArray, List.set_cons_zero, List.set_cons_succ] <;> rfl) (hJ3_4_5_9_12 ((v723, v726, v729), vB) _ ⟨hHeld, (kr HO724.out), (kr HO730.out), (bk BK699.out), (bk BK720.out), bel, (by (with_reducible repeat (first | apply HasB.drewN | apply HasB.drew)); exact HBB.out)⟩)
        rintro ⟨⟨v723, v726, v729⟩, vB⟩ w44 ⟨hS_, h0_, h1_, h2_, h3_, h4_, hZ_⟩
        have HBB := am hZ_; clear hZ_
        have n0_ : Aside0 (Kd.R (Kd.int .u8) 5 w44 w.heap.size (fun k_ => some k_ ≠ (v729 : Value).ownBlock) v723 y722) := ⟨h0_⟩
        have n1_ : Aside0 (Kd.R (Kd.int .u8) 5 w44 w.heap.size (fun k_ => some k_ ≠ (v723 : Value).ownBlock) v729 t728) := ⟨h1_⟩
        have n2_ : Aside0 (w44.heap[gb699]? = some (.cells #[.int .i64 a0_0, .int .i64 a0_1, .int .i64 a0_2, .bool a0_3, .slice (some ad719) l0_4.length c0_4, .string a0_5] 26 (0, 0))) := ⟨h2_⟩
        have n3_ : Aside0 (w44.heap[gb720]? = some (.cells #[.string ((rd_T40 l0_4 x4_1).f0), .string ((rd_T40 l0_4 x4_1).f1), .bool ((rd_T40 l0_4 x4_1).f2)] 40 (0, 0))) := ⟨h3_⟩
        have n4_ : Aside0 (Below w.heap.size w w44) := ⟨h4_⟩
        clear HO_3 BK699 BK720 HB h0_ h1_ h2_ h3_ h4_
        have HO724 := n0_
        have HO730 := n1_
        have BK699 := n2_
        have BK720 := n3_
        have HB := n4_
        clear n0_ n1_ n2_ n3_ n4_
        have hHeld : w44.cell? ⟨gb720, 0, none⟩ = some (.string ((rd_T40 l0_4 x4_1).f0)) ∧ w44.cell? ⟨gb720, 1, none⟩ = some (.string ((rd_T40 l0_4 x4_1).f1)) ∧ w44.cell? ⟨gb720, 2, none⟩ = some (.bool ((rd_T40 l0_4 x4_1).f2)) := hS_
        refine nq ?_
        refine on 13 (some 51) (bv 15 16383) (fun K hK => ?_)
        refine R_append_bytes_step (w0 := w) w.heap.size (by rfl) (.tmp 47) _ 35 5 rfl Try.underlying35 info5 v729 t728 t731 (fun k_ => some k_ ≠ (v723 : Value).ownBlock) vB rfl rfl (by (with_reducible repeat (first | apply HasB.drewN | apply HasB.drew)); exact HBB.out) ?aF ?aO ?aB ?aS ?aL ?_
        (case aB => exact bel)
        (case aF => exact (fun k_ hk => Kd.fresh' (Kd.R_lt (kr HO724.out)) k_ hk))
        (case aO => exact (kr HO730.out))
        (case aS => exact (below_size bel))
        (case aL => have := LMc28.out; omega)
        intro v733 w45 ho hb hg hat
        clear HBB
        rw [← Ny732.out] at ho
        have n_ := z5 (blk_grown (bk BK699.out) hg (Kd.R_ne HO730.out BK699.out (by decide))) (blk_grown (bk BK720.out) hg (Kd.R_ne HO730.out BK720.out (by decide))) (Kd.R_after (ok := (fun _ => True)) (by (with_reducible repeat (first | apply Kd.R_alloc | apply Kd.R_drewN | apply Kd.R_drew)); exact Kd.R_mono HO724.out (fun _ hk => ⟨trivial, hk⟩)) hg hat) (hb) (ho)
        clear BK699 BK720 HO724 HB HO730
        obtain ⟨BK699, BK720, HO724, HB, HO734⟩ := n_
        clear ho hb hg hat
        refine hK.out _ _ ⟨(blk_cell BK720.out 0).trans rfl, (blk_cell BK720.out 1).trans rfl, (blk_cell BK720.out 2).trans rfl⟩ (fun hHeld => ?_)
        clear hK K
        refine no 51 ?_
        refine pu 14 (some 3) (bv 15 32767) ?_
        refine done_ (done_of HT_.out (by kernel_rfl)) ?_
        obtain ⟨hcz46_0, hcz46_1, hcz46_2⟩ := cells3 BK720.out
        obtain ⟨hfz46_0, hfz46_1, hfz46_2⟩ := froz3 BK720.out
        go_upto_if 54 with (fail)
        refine wp_last (fun K_ hK_ => ?_)
        go_cut [3] (fun v3 wc => ∃ (kq : Nat) (x3_28 : List Int), Aside0 (federationref7_second.j1 kq x3_28 x4_1 a0_0 a0_1 a0_2 a0_3 l0_4 a0_5 = some r) ∧ Aside0 (kq ≤ k1) ∧ Aside0 (Kd.R (Kd.int .u8) 5 wc w.heap.size (fun _ => True) v3 x3_28) ∧ Aside0 (wc.heap[gb699]? = some (.cells #[.int .i64 a0_0, .int .i64 a0_1, .int .i64 a0_2, .bool a0_3, (.slice (some ad719) l0_4.length c0_4), .string a0_5] 26 (0, 0))) ∧ Aside0 (wc.heap[gb720]? = some (.cells #[.string ((rd_T40 l0_4 x4_1).f0), .string ((rd_T40 l0_4 x4_1).f1), .bool ((rd_T40 l0_4 x4_1).f2)] 40 (0, 0))) ∧ Aside0 (Below w.heap.size w wc))
        case first =>
         have H := HC29.out
         clear HC29
         obtain ⟨bq47, hbq47⟩ : ∃ b_ : Bool, b_ = ((rd_T40 l0_4 x4_1).f2) := ⟨_, rfl⟩
         replace H : (if (bq47 = true) then (federationref7_second.j1 k1 y732 x4_1 a0_0 a0_1 a0_2 a0_3 l0_4 a0_5) else ((federationref7_free.f k1 y732 (((rd_T40 l0_4 x4_1).f1).size : Int)).bind fun t735 => ((own_bytes.f ((rd_T40 l0_4 x4_1).f1)).bind fun t738 => (if t735.length + t738.size < 140737488355328 then (federationref7_second.j1 k1 (t735 ++ bytesOf t738) x4_1 a0_0 a0_1 a0_2 a0_3 l0_4 a0_5) else (none))))) = some r := by rw [← hbq47] at H; exact H
         have Nbq47 := am hbq47
         clear hbq47
         (try rw [← Nbq47.out])
         by_cases c48 : (bq47 = true)
         ·subst c48
          have H1 : (federationref7_second.j1 k1 y732 x4_1 a0_0 a0_1 a0_2 a0_3 l0_4 a0_5) = some r := by rw [if_pos rfl] at H; exact H
          clear H
          have H := H1
          clear H1
          have H' := am H
          clear H
          go_wp2
          go_meet
          case rel => exact ⟨_, (y732), H', ⟨by have := HK1.out; first | omega | exact Nat.le_refl _⟩, ⟨kr (Kd.R_mono HO734.out (fun _ hk => trivial))⟩, ⟨bk BK699.out⟩, ⟨bk BK720.out⟩, ⟨bel⟩⟩
         ·replace c48 := Bool.eq_false_iff.mpr c48
          subst c48
          have H1 : ((federationref7_free.f k1 y732 (((rd_T40 l0_4 x4_1).f1).size : Int)).bind fun t735 => ((own_bytes.f ((rd_T40 l0_4 x4_1).f1)).bind fun t738 => (if t735.length + t738.size < 140737488355328 then (federationref7_second.j1 k1 (t735 ++ bytesOf t738) x4_1 a0_0 a0_1 a0_2 a0_3 l0_4 a0_5) else (none)))) = some r := by rw [if_neg (show ¬ (false = true) by decide)] at H; exact H
          clear H
          have H := H1
          clear H1
          replace H := Option.bind_eq_some_iff.mp H
          obtain ⟨t735, A490, H⟩ := H
          replace H : ((own_bytes.f ((rd_T40 l0_4 x4_1).f1)).bind fun t738 => (if t735.length + t738.size < 140737488355328 then (federationref7_second.j1 k1 (t735 ++ bytesOf t738) x4_1 a0_0 a0_1 a0_2 a0_3 l0_4 a0_5) else (none))) = some r := H
          have A49 := am A490
          clear A490
          replace H := Option.bind_eq_some_iff.mp H
          obtain ⟨t738, A500, H⟩ := H
          replace H : (if t735.length + t738.size < 140737488355328 then (federationref7_second.j1 k1 (t735 ++ bytesOf t738) x4_1 a0_0 a0_1 a0_2 a0_3 l0_4 a0_5) else (none)) = some r := H
          have A50 := am A500
          clear A500
          by_cases c51 : t735.length + t738.size < 140737488355328
          ·rw [if_pos c51] at H
           have LMc51 := am c51
           clear c51
           obtain ⟨y739, hy739⟩ : ∃ y_ : List Int, y_ = (t735 ++ bytesOf t738) := ⟨_, rfl⟩
           replace H : (federationref7_second.j1 k1 y739 x4_1 a0_0 a0_1 a0_2 a0_3 l0_4 a0_5) = some r := by first | (rw [hy739]; with_reducible exact H) | (have H2_ := (Option.bind_some _ _).symm.trans H; rw [hy739]; with_reducible exact H2_) | (have H2_ := (Option.bind_some _ _).symm.trans H; with_reducible exact H2_) | with_reducible exact H | (rw [hy739]; exact H) | exact H
           have Ny739 := am hy739
           clear hy739
           have H' := am H
           clear H
           obtain ⟨Ao52, co52, eo52⟩ := Kd.R_slice HO734.out
           subst eo52
           try go_wp2
           have n_ := z5 (Kd.R_drew HO724.out) (Kd.R_drew HO734.out) (blk_drew BK699.out) (blk_drew BK720.out) (below_drew1 HB.out)
           clear HO724 HO734 BK699 BK720 HB
           obtain ⟨HO724, HO734, BK699, BK720, HB⟩ := n_
           refine start_ (n := 10) (S := fun w' => w'.cell? ⟨gb720, 0, none⟩ = some (.string ((rd_T40 l0_4 x4_1).f0)) ∧ w'.cell? ⟨gb720, 1, none⟩ = some (.string ((rd_T40 l0_4 x4_1).f1)) ∧ w'.cell? ⟨gb720, 2, none⟩ = some (.bool ((rd_T40 l0_4 x4_1).f2))) (ds := []) (bv 10 0) (by kernel_rfl) rfl rfl ⟨(blk_cell BK720.out 0).trans rfl, (blk_cell BK720.out 1).trans rfl, (blk_cell BK720.out 2).trans rfl⟩ (fun hHeld => ?_); refine with_tabW federationref7_second.tab9 federationref7_second.bits9 (fun HT_ HW_ => ?_)
           generalize w45.drew = w53 at HO724 HO734 BK699 BK720 HB hHeld ⊢
           refine pu 0 (some 55) (bv 10 1) ?_
           refine pu 1 (some 56) (bv 10 3) ?_
           refine pu 5 (some 60) (bv 10 35) ?_
           refine ta 2 (some 57) (bv 10 39) ?_
           refine pu 3 (some 58) (bv 10 47) ?_
           refine ta 6 (some 61) (bv 10 111) ?_
           refine join_ (σ := (Value) × Value) 2 (bv 10 255) (fun s_ => [(59, s_.1), (62, s_.2)]) (fun s_ w' => (w'.cell? ⟨gb720, 0, none⟩ = some (.string ((rd_T40 l0_4 x4_1).f0)) ∧ w'.cell? ⟨gb720, 1, none⟩ = some (.string ((rd_T40 l0_4 x4_1).f1)) ∧ w'.cell? ⟨gb720, 2, none⟩ = some (.bool ((rd_T40 l0_4 x4_1).f2))) ∧ (Kd.R (Kd.int .u8) 5 w' w.heap.size (fun k_ => some k_ ≠ (s_.1 : Value).ownBlock) v723 y722) ∧ (Kd.R (Kd.int .u8) 5 w' w.heap.size (fun k_ => some k_ ≠ (v723 : Value).ownBlock) s_.1 t735) ∧ (w'.heap[gb699]? = some (.cells #[.int .i64 a0_0, .int .i64 a0_1, .int .i64 a0_2, .bool a0_3, .slice (some ad719) l0_4.length c0_4, .string a0_5] 26 (0, 0))) ∧ (w'.heap[gb720]? = some (.cells #[.string ((rd_T40 l0_4 x4_1).f0), .string ((rd_T40 l0_4 x4_1).f1), .bool ((rd_T40 l0_4 x4_1).f2)] 40 (0, 0))) ∧ (Below w.heap.size w w') ∧ (HasB w' s_.2 t738 (.slice none 0 0))) ?_ ?_
           rotate_left
           ·intro hCont
            refine two_ (i := 4) (j := 7) (Ni := some 59) (Nj := some 62) (bv 10 127) (bv 10 239) rfl rfl rfl rfl (two_of HT_.out (by kernel_rfl)) (by decide) (by decide) (fun K hK => ?_) (fun K hK => ?_)
            ·skip
             refine goes_ Try.func45 (by kernel_rfl) rfl #[.slice Ao52 y732.length co52, .int .i64 (((rd_T40 l0_4 x4_1).f1).size : Int)] (by rfl) rfl rfl ar ?_
             with_reducible refine (federationref7_free.calls k1 (fun k_ => some k_ = (.slice Ao52 y732.length co52 : Value).ownBlock) (.slice Ao52 y732.length co52) y732 (((rd_T40 l0_4 x4_1).f1).size : Int) t735 w _ ?side1 ?side2 A49.out).mono ?_
             (case side1 => exact bel)
             (case side2 => exact Kd.R_tight rfl HO734.out)
             rintro e w54 ⟨v736, rfl, ho0, hb, hkp⟩
             refine ⟨_, rfl, ?_⟩
             (try (have hB_ := HasB.kept (by (with_reducible repeat (first | apply HasB.drewN | apply HasB.drew)); exact HBB.out) hkp; clear HBB; have HBB := am hB_; clear hB_))
             have n_ := z5 (blk_kept (bk BK699.out) hkp (fun hs_ => (fun e_ => (Kd.R_ne HO734.out BK699.out (by decide)) e_) hs_)) (blk_kept (bk BK720.out) hkp (fun hs_ => (fun e_ => (Kd.R_ne HO734.out BK720.out (by decide)) e_) hs_)) (Kd.R_mono (ok' := fun k_ => some k_ ≠ (v736 : Value).ownBlock) (Kd.R_keptB (HO724.out) hkp (fun k_ hk_ hs_ => (hk_.2) hs_)) (fun k_ hk_ => fun e_ => Or.elim (ho0.1 k_ e_.symm) (fun hs_ => hk_.2.1 hs_) (fun hn_ => Nat.not_le.2 hk_.2.2 hn_))) (Kd.R_mono (ok' := fun k_ => some k_ ≠ (v723 : Value).ownBlock) ho0 (fun k_ hk_ => Or.elim hk_ (fun hs_ => fun e_ => (((HO724.out).1 k_ e_.symm).2) hs_) (fun hn_ => (Kd.fresh' (Kd.R_lt (kr HO724.out)) k_ hn_)))) (hb)
             clear BK699 BK720 HO724 HB HO734
             obtain ⟨BK699, BK720, HO724, HO737, HB⟩ := n_
             (try clear hb)
             (try clear hkp)
             (try clear ho0)
             refine hK.out _ _ ⟨(blk_cell BK720.out 0).trans rfl, (blk_cell BK720.out 1).trans rfl, (blk_cell BK720.out 2).trans rfl⟩ (fun hHeld => ?_)
             clear hK K
             refine no 59 ?_
             refine on 7 (some 62) (bv 10 255) (fun K hK => ?_)
             refine bytes_step (by rfl) 9 35 5 _ rfl Try.underlying9 Try.underlying35 Try.underlying5 ((rd_T40 l0_4 x4_1).f1) t738 A50.out rfl ?_
             intro vB w55 hnB_ hb
             have HBB := am (hnB_ (.slice none 0 0) (by first | exact own_none _ | exact rowLt HO724.out | exact rowLt HO737.out)); clear hnB_
             have n_ := z5 (Kd.R_below (kr HO724.out) hb) (Kd.R_below (kr HO737.out) hb) (blk_below (bk BK699.out) hb) (blk_below (bk BK720.out) hb) (below_step bel hb)
             clear HO724 HO737 BK699 BK720 HB
             obtain ⟨HO724, HO737, BK699, BK720, HB⟩ := n_
             (try clear hb)
             (try clear hb2)
             (try clear hk)
             (try clear hi)
             refine hK.out _ _ ⟨(blk_cell BK720.out 0).trans rfl, (blk_cell BK720.out 1).trans rfl, (blk_cell BK720.out 2).trans rfl⟩ (fun hHeld => ?_)
             clear hK K
             refine no 62 ?_
             exact norm_ (by simp only [putAll, Act.put, List.setIfInBounds_toArray, List.set_cons_zero, List.set_cons_succ]) (hCont ((v736), vB) _ ⟨hHeld, (kr HO724.out), (kr HO737.out), (bk BK699.out), (bk BK720.out), bel, (by (with_reducible repeat (first | apply HasB.drewN | apply HasB.drew)); exact HBB.out)⟩)
            ·skip
             refine bytes_step (by rfl) 9 35 5 _ rfl Try.underlying9 Try.underlying35 Try.underlying5 ((rd_T40 l0_4 x4_1).f1) t738 A50.out rfl ?_
             intro vB w54 hnB_ hb
             have HBB := am (hnB_ (.slice Ao52 y732.length co52) (by first | exact own_none _ | exact rowLt HO724.out | exact rowLt HO734.out)); clear hnB_
             have n_ := z5 (Kd.R_below (kr HO724.out) hb) (Kd.R_below (kr HO734.out) hb) (blk_below (bk BK699.out) hb) (blk_below (bk BK720.out) hb) (below_step bel hb)
             clear HO724 HO734 BK699 BK720 HB
             obtain ⟨HO724, HO734, BK699, BK720, HB⟩ := n_
             (try clear hb)
             (try clear hb2)
             (try clear hk)
             (try clear hi)
             refine hK.out _ _ ⟨(blk_cell BK720.out 0).trans rfl, (blk_cell BK720.out 1).trans rfl, (blk_cell BK720.out 2).trans rfl⟩ (fun hHeld => ?_)
             clear hK K
             refine no 62 ?_
             refine on 4 (some 59) (bv 10 255) (fun K hK => ?_)
             refine goes_ Try.func45 (by kernel_rfl) rfl #[.slice Ao52 y732.length co52, .int .i64 (((rd_T40 l0_4 x4_1).f1).size : Int)] (by rfl) rfl rfl ar ?_
             with_reducible refine (federationref7_free.calls k1 (fun k_ => some k_ = (.slice Ao52 y732.length co52 : Value).ownBlock) (.slice Ao52 y732.length co52) y732 (((rd_T40 l0_4 x4_1).f1).size : Int) t735 w _ ?side1 ?side2 A49.out).mono ?_
             (case side1 => exact bel)
             (case side2 => exact Kd.R_tight rfl HO734.out)
             rintro e w55 ⟨v736, rfl, ho0, hb, hkp⟩
             refine ⟨_, rfl, ?_⟩
             (try (have hB_ := HasB.kept (by (with_reducible repeat (first | apply HasB.drewN | apply HasB.drew)); exact HBB.out) hkp; clear HBB; have HBB := am hB_; clear hB_))
             have n_ := z5 (blk_kept (bk BK699.out) hkp (fun hs_ => (fun e_ => (Kd.R_ne HO734.out BK699.out (by decide)) e_) hs_)) (blk_kept (bk BK720.out) hkp (fun hs_ => (fun e_ => (Kd.R_ne HO734.out BK720.out (by decide)) e_) hs_)) (Kd.R_mono (ok' := fun k_ => some k_ ≠ (v736 : Value).ownBlock) (Kd.R_keptB (HO724.out) hkp (fun k_ hk_ hs_ => (hk_.2) hs_)) (fun k_ hk_ => fun e_ => Or.elim (ho0.1 k_ e_.symm) (fun hs_ => hk_.2.1 hs_) (fun hn_ => Nat.not_le.2 hk_.2.2 hn_))) (Kd.R_mono (ok' := fun k_ => some k_ ≠ (v723 : Value).ownBlock) ho0 (fun k_ hk_ => Or.elim hk_ (fun hs_ => fun e_ => (((HO724.out).1 k_ e_.symm).2) hs_) (fun hn_ => (Kd.fresh' (Kd.R_lt (kr HO724.out)) k_ hn_)))) (hb)
             clear BK699 BK720 HO724 HB HO734
             obtain ⟨BK699, BK720, HO724, HO737, HB⟩ := n_
             (try clear hb)
             (try clear hkp)
             (try clear ho0)
             refine hK.out _ _ ⟨(blk_cell BK720.out 0).trans rfl, (blk_cell BK720.out 1).trans rfl, (blk_cell BK720.out 2).trans rfl⟩ (fun hHeld => ?_)
             clear hK K
             refine no 59 ?_
             exact norm_ (by simp only [putAll, Act.put, List.setIfInBounds_toArray, List.set_cons_zero, List.set_cons_succ]) (hCont ((v736), vB) _ ⟨hHeld, (kr HO724.out), (kr HO737.out), (bk BK699.out), (bk BK720.out), bel, (by (with_reducible repeat (first | apply HasB.drewN | apply HasB.drew)); exact HBB.out)⟩)
           rintro ⟨v736, vB⟩ w56 ⟨hS_, h0_, h1_, h2_, h3_, h4_, hZ_⟩
           have HBB := am hZ_; clear hZ_
           have n0_ : Aside0 (Kd.R (Kd.int .u8) 5 w56 w.heap.size (fun k_ => some k_ ≠ (v736 : Value).ownBlock) v723 y722) := ⟨h0_⟩
           have n1_ : Aside0 (Kd.R (Kd.int .u8) 5 w56 w.heap.size (fun k_ => some k_ ≠ (v723 : Value).ownBlock) v736 t735) := ⟨h1_⟩
           have n2_ : Aside0 (w56.heap[gb699]? = some (.cells #[.int .i64 a0_0, .int .i64 a0_1, .int .i64 a0_2, .bool a0_3, .slice (some ad719) l0_4.length c0_4, .string a0_5] 26 (0, 0))) := ⟨h2_⟩
           have n3_ : Aside0 (w56.heap[gb720]? = some (.cells #[.string ((rd_T40 l0_4 x4_1).f0), .string ((rd_T40 l0_4 x4_1).f1), .bool ((rd_T40 l0_4 x4_1).f2)] 40 (0, 0))) := ⟨h3_⟩
           have n4_ : Aside0 (Below w.heap.size w w56) := ⟨h4_⟩
           clear HO724 HO734 BK699 BK720 HB h0_ h1_ h2_ h3_ h4_
           have HO724 := n0_
           have HO737 := n1_
           have BK699 := n2_
           have BK720 := n3_
           have HB := n4_
           clear n0_ n1_ n2_ n3_ n4_
           have hHeld : w56.cell? ⟨gb720, 0, none⟩ = some (.string ((rd_T40 l0_4 x4_1).f0)) ∧ w56.cell? ⟨gb720, 1, none⟩ = some (.string ((rd_T40 l0_4 x4_1).f1)) ∧ w56.cell? ⟨gb720, 2, none⟩ = some (.bool ((rd_T40 l0_4 x4_1).f2)) := hS_
           refine nq ?_
           refine on 8 (some 63) (bv 10 511) (fun K hK => ?_)
           refine R_append_bytes_step (w0 := w) w.heap.size (by rfl) (.tmp 59) _ 35 5 rfl Try.underlying35 info5 v736 t735 t738 (fun k_ => some k_ ≠ (v723 : Value).ownBlock) vB rfl rfl (by (with_reducible repeat (first | apply HasB.drewN | apply HasB.drew)); exact HBB.out) ?aF ?aO ?aB ?aS ?aL ?_
           (case aB => exact bel)
           (case aF => exact (fun k_ hk => Kd.fresh' (Kd.R_lt (kr HO724.out)) k_ hk))
           (case aO => exact (kr HO737.out))
           (case aS => exact (below_size bel))
           (case aL => have := LMc51.out; omega)
           intro v740 w57 ho hb hg hat
           clear HBB
           rw [← Ny739.out] at ho
           have n_ := z5 (blk_grown (bk BK699.out) hg (Kd.R_ne HO737.out BK699.out (by decide))) (blk_grown (bk BK720.out) hg (Kd.R_ne HO737.out BK720.out (by decide))) (Kd.R_after (ok := (fun _ => True)) (by (with_reducible repeat (first | apply Kd.R_alloc | apply Kd.R_drewN | apply Kd.R_drew)); exact Kd.R_mono HO724.out (fun _ hk => ⟨trivial, hk⟩)) hg hat) (hb) (ho)
           clear BK699 BK720 HO724 HB HO737
           obtain ⟨BK699, BK720, HO724, HB, HO741⟩ := n_
           clear ho hb hg hat
           refine hK.out _ _ ⟨(blk_cell BK720.out 0).trans rfl, (blk_cell BK720.out 1).trans rfl, (blk_cell BK720.out 2).trans rfl⟩ (fun hHeld => ?_)
           clear hK K
           refine no 63 ?_
           refine pu 9 (some 3) (bv 10 1023) ?_
           refine done_ (done_of HT_.out (by kernel_rfl)) ?_
           try go_wp2
           go_meet
           case rel => exact ⟨_, (y739), H', ⟨by have := HK1.out; first | omega | exact Nat.le_refl _⟩, ⟨kr (Kd.R_mono HO741.out (fun _ hk => trivial))⟩, ⟨bk BK699.out⟩, ⟨bk BK720.out⟩, ⟨bel⟩⟩
          ·rw [if_neg c51] at H
           exact absurd H (by simp)
        case rest =>
         clear HC29
         try clear c2
         try clear p2
         try clear c4
         try clear q4
         try clear c5
         try clear c9
         try clear c28
         try clear c45
         try clear q47
         try clear c48
         try clear c51
         try clear hcz46_0 hcz46_1 hcz46_2
         try clear hfz46_0 hfz46_1 hfz46_2
         obtain ⟨kq, x3_28, HA, HJ28, HO_3, BK699, BK720, HB⟩ := hcut
         cases kq with
         | zero => exact absurd HA.out (by simp [federationref7_second.j1])
         | succ kj28 =>
          have H := HA.out
          clear HA
          simp only [federationref7_second.j1] at H
          have H' := am H
          clear H
          refine hK_ _ _ ?_
          go_wp2
          go_roundg kj28
          case measure => have := HK1.out; have := HJ28.out; omega
          case rel => exact ⟨(x3_28), (wrap64 (x4_1 + 1)), (by first | rfl | (simp; done) | (simp [*]; done)), H', ⟨by have := HK1.out; have := HJ28.out; omega⟩, ⟨kr HO_3.out⟩, ⟨bk BK699.out⟩, ⟨bel⟩⟩
       ·rw [if_neg c28] at H
        exact absurd H (by simp)
      ·rw [if_neg c25] at H
       exact absurd H (by simp)
     ·rw [if_neg c23] at H
      exact absurd H (by simp)
    ·rw [if_neg c22] at H
     have c22b0 : decide (x4_1 < (l0_4.length : Int)) = false := decide_eq_false c22
     clear c22
     replace H := Option.bind_eq_some_iff.mp H
     obtain ⟨t742, A580, H⟩ := H
     replace H : ((own_bytes.f a0_5).bind fun t745 => (if t742.length + t745.size < 140737488355328 then (some (t742 ++ bytesOf t745)) else (none))) = some r := H
     have A58 := am A580
     clear A580
     replace H := Option.bind_eq_some_iff.mp H
     obtain ⟨t745, A590, H⟩ := H
     replace H : (if t742.length + t745.size < 140737488355328 then (some (t742 ++ bytesOf t745)) else (none)) = some r := H
     have A59 := am A590
     clear A590
     by_cases c60 : t742.length + t745.size < 140737488355328
     ·rw [if_pos c60] at H
      have LMc60 := am c60
      clear c60
      obtain ⟨y746, hy746⟩ : ∃ y_ : List Int, y_ = (t742 ++ bytesOf t745) := ⟨_, rfl⟩
      replace H : (some y746) = some r := by first | (rw [hy746]; with_reducible exact H) | (have H2_ := (Option.bind_some _ _).symm.trans H; rw [hy746]; with_reducible exact H2_) | (have H2_ := (Option.bind_some _ _).symm.trans H; with_reducible exact H2_) | with_reducible exact H | (rw [hy746]; exact H) | exact H
      have Ny746 := am hy746
      clear hy746
      obtain rfl := Option.some.inj H
      obtain ⟨hcz61_0, hcz61_1, hcz61_2, hcz61_3, hcz61_4, hcz61_5⟩ := cells6 BK699.out
      obtain ⟨hfz61_0, hfz61_1, hfz61_2, hfz61_3, hfz61_4, hfz61_5⟩ := froz6 BK699.out
      obtain ⟨Ao62, co62, eo62⟩ := Kd.R_slice HO_3.out
      subst eo62
      try go_wp2
      have n_ := z3 (Kd.R_drew HO_3.out) (blk_drew BK699.out) (below_drew1 HB.out)
      clear HO_3 BK699 HB
      obtain ⟨HO_3, BK699, HB⟩ := n_
      refine start_ (n := 10) (S := fun w' => w'.cell? ⟨gb699, 0, none⟩ = some (.int .i64 a0_0) ∧ w'.cell? ⟨gb699, 1, none⟩ = some (.int .i64 a0_1) ∧ w'.cell? ⟨gb699, 2, none⟩ = some (.int .i64 a0_2) ∧ w'.cell? ⟨gb699, 3, none⟩ = some (.bool a0_3) ∧ w'.cell? ⟨gb699, 4, none⟩ = some (.slice A0_4 l0_4.length c0_4) ∧ w'.cell? ⟨gb699, 5, none⟩ = some (.string a0_5)) (ds := []) (bv 10 0) (by kernel_rfl) rfl rfl ⟨(blk_cell BK699.out 0).trans rfl, (blk_cell BK699.out 1).trans rfl, (blk_cell BK699.out 2).trans rfl, (blk_cell BK699.out 3).trans rfl, (blk_cell BK699.out 4).trans rfl, (blk_cell BK699.out 5).trans rfl⟩ (fun hHeld => ?_); refine with_tabW federationref7_second.tab10 federationref7_second.bits10 (fun HT_ HW_ => ?_)
      generalize wr.drew = w63 at HO_3 BK699 HB hHeld ⊢
      refine pu 0 (some 64) (bv 10 1) ?_
      refine pu 1 (some 65) (bv 10 3) ?_
      refine pu 5 (some 69) (bv 10 35) ?_
      refine ta 2 (some 66) (bv 10 39) ?_
      refine pu 3 (some 67) (bv 10 47) ?_
      refine ta 6 (some 70) (bv 10 111) ?_
      refine join_ (σ := (Value) × Value) 2 (bv 10 255) (fun s_ => [(68, s_.1), (71, s_.2)]) (fun s_ w' => (w'.cell? ⟨gb699, 0, none⟩ = some (.int .i64 a0_0) ∧ w'.cell? ⟨gb699, 1, none⟩ = some (.int .i64 a0_1) ∧ w'.cell? ⟨gb699, 2, none⟩ = some (.int .i64 a0_2) ∧ w'.cell? ⟨gb699, 3, none⟩ = some (.bool a0_3) ∧ w'.cell? ⟨gb699, 4, none⟩ = some (.slice A0_4 l0_4.length c0_4) ∧ w'.cell? ⟨gb699, 5, none⟩ = some (.string a0_5)) ∧ (Kd.R (Kd.int .u8) 5 w' w.heap.size (fun _ => True) s_.1 t742) ∧ (w'.heap[gb699]? = some (.cells #[.int .i64 a0_0, .int .i64 a0_1, .int .i64 a0_2, .bool a0_3, .slice A0_4 l0_4.length c0_4, .string a0_5] 26 (0, 0))) ∧ (Below w.heap.size w w') ∧ (HasB w' s_.2 t745 (.slice none 0 0))) ?_ ?_
      rotate_left
      ·intro hCont
       refine two_ (i := 4) (j := 7) (Ni := some 68) (Nj := some 71) (bv 10 127) (bv 10 239) rfl rfl rfl rfl (two_of HT_.out (by kernel_rfl)) (by decide) (by decide) (fun K hK => ?_) (fun K hK => ?_)
       ·skip
        refine goes_ Try.func45 (by kernel_rfl) rfl #[.slice Ao62 x3_1.length co62, .int .i64 (a0_5.size : Int)] (by rfl) rfl rfl ar ?_
        with_reducible refine (federationref7_free.calls k1 (fun k_ => some k_ = (.slice Ao62 x3_1.length co62 : Value).ownBlock) (.slice Ao62 x3_1.length co62) x3_1 (a0_5.size : Int) t742 w _ ?side1 ?side2 A58.out).mono ?_
        (case side1 => exact bel)
        (case side2 => exact Kd.R_tight rfl HO_3.out)
        rintro e w64 ⟨v743, rfl, ho0, hb, hkp⟩
        refine ⟨_, rfl, ?_⟩
        (try (have hB_ := HasB.kept (by (with_reducible repeat (first | apply HasB.drewN | apply HasB.drew)); exact HBB.out) hkp; clear HBB; have HBB := am hB_; clear hB_))
        have n_ := z3 (blk_kept (bk BK699.out) hkp (fun hs_ => (fun e_ => (Kd.R_ne HO_3.out BK699.out (by decide)) e_) hs_)) (Kd.R_mono (ok' := fun k_ => True) ho0 (fun k_ hk_ => trivial)) (hb)
        clear BK699 HB HO_3
        obtain ⟨BK699, HO744, HB⟩ := n_
        (try clear hb)
        (try clear hkp)
        (try clear ho0)
        refine hK.out _ _ ⟨(blk_cell BK699.out 0).trans rfl, (blk_cell BK699.out 1).trans rfl, (blk_cell BK699.out 2).trans rfl, (blk_cell BK699.out 3).trans rfl, (blk_cell BK699.out 4).trans rfl, (blk_cell BK699.out 5).trans rfl⟩ (fun hHeld => ?_)
        clear hK K
        refine no 68 ?_
        refine on 7 (some 71) (bv 10 255) (fun K hK => ?_)
        refine bytes_step (by rfl) 9 35 5 _ rfl Try.underlying9 Try.underlying35 Try.underlying5 a0_5 t745 A59.out rfl ?_
        intro vB w65 hnB_ hb
        have HBB := am (hnB_ (.slice none 0 0) (by first | exact own_none _ | exact rowLt HO744.out)); clear hnB_
        have n_ := z3 (Kd.R_below (kr HO744.out) hb) (blk_below (bk BK699.out) hb) (below_step bel hb)
        clear HO744 BK699 HB
        obtain ⟨HO744, BK699, HB⟩ := n_
        (try clear hb)
        (try clear hb2)
        (try clear hk)
        (try clear hi)
        refine hK.out _ _ ⟨(blk_cell BK699.out 0).trans rfl, (blk_cell BK699.out 1).trans rfl, (blk_cell BK699.out 2).trans rfl, (blk_cell BK699.out 3).trans rfl, (blk_cell BK699.out 4).trans rfl, (blk_cell BK699.out 5).trans rfl⟩ (fun hHeld => ?_)
        clear hK K
        refine no 71 ?_
        exact norm_ (by simp only [putAll, Act.put, List.setIfInBounds_toArray, List.set_cons_zero, List.set_cons_succ]) (hCont ((v743), vB) _ ⟨hHeld, (kr HO744.out), (bk BK699.out), bel, (by (with_reducible repeat (first | apply HasB.drewN | apply HasB.drew)); exact HBB.out)⟩)
       ·skip
        refine bytes_step (by rfl) 9 35 5 _ rfl Try.underlying9 Try.underlying35 Try.underlying5 a0_5 t745 A59.out rfl ?_
        intro vB w64 hnB_ hb
        have HBB := am (hnB_ (.slice Ao62 x3_1.length co62) (by first | exact own_none _ | exact rowLt HO_3.out)); clear hnB_
        have n_ := z3 (Kd.R_below (kr HO_3.out) hb) (blk_below (bk BK699.out) hb) (below_step bel hb)
        clear HO_3 BK699 HB
        obtain ⟨HO_3, BK699, HB⟩ := n_
        (try clear hb)
        (try clear hb2)
        (try clear hk)
        (try clear hi)
        refine hK.out _ _ ⟨(blk_cell BK699.out 0).trans rfl, (blk_cell BK699.out 1).trans rfl, (blk_cell BK699.out 2).trans rfl, (blk_cell BK699.out 3).trans rfl, (blk_cell BK699.out 4).trans rfl, (blk_cell BK699.out 5).trans rfl⟩ (fun hHeld => ?_)
        clear hK K
        refine no 71 ?_
        refine on 4 (some 68) (bv 10 255) (fun K hK => ?_)
        refine goes_ Try.func45 (by kernel_rfl) rfl #[.slice Ao62 x3_1.length co62, .int .i64 (a0_5.size : Int)] (by rfl) rfl rfl ar ?_
        with_reducible refine (federationref7_free.calls k1 (fun k_ => some k_ = (.slice Ao62 x3_1.length co62 : Value).ownBlock) (.slice Ao62 x3_1.length co62) x3_1 (a0_5.size : Int) t742 w _ ?side1 ?side2 A58.out).mono ?_
        (case side1 => exact bel)
        (case side2 => exact Kd.R_tight rfl HO_3.out)
        rintro e w65 ⟨v743, rfl, ho0, hb, hkp⟩
        refine ⟨_, rfl, ?_⟩
        (try (have hB_ := HasB.kept (by (with_reducible repeat (first | apply HasB.drewN | apply HasB.drew)); exact HBB.out) hkp; clear HBB; have HBB := am hB_; clear hB_))
        have n_ := z3 (blk_kept (bk BK699.out) hkp (fun hs_ => (fun e_ => (Kd.R_ne HO_3.out BK699.out (by decide)) e_) hs_)) (Kd.R_mono (ok' := fun k_ => True) ho0 (fun k_ hk_ => trivial)) (hb)
        clear BK699 HB HO_3
        obtain ⟨BK699, HO744, HB⟩ := n_
        (try clear hb)
        (try clear hkp)
        (try clear ho0)
        refine hK.out _ _ ⟨(blk_cell BK699.out 0).trans rfl, (blk_cell BK699.out 1).trans rfl, (blk_cell BK699.out 2).trans rfl, (blk_cell BK699.out 3).trans rfl, (blk_cell BK699.out 4).trans rfl, (blk_cell BK699.out 5).trans rfl⟩ (fun hHeld => ?_)
        clear hK K
        refine no 68 ?_
        exact norm_ (by simp only [putAll, Act.put, List.setIfInBounds_toArray, List.set_cons_zero, List.set_cons_succ]) (hCont ((v743), vB) _ ⟨hHeld, (kr HO744.out), (bk BK699.out), bel, (by (with_reducible repeat (first | apply HasB.drewN | apply HasB.drew)); exact HBB.out)⟩)
      rintro ⟨v743, vB⟩ w66 ⟨hS_, h0_, h1_, h2_, hZ_⟩
      have HBB := am hZ_; clear hZ_
      have n0_ : Aside0 (Kd.R (Kd.int .u8) 5 w66 w.heap.size (fun _ => True) v743 t742) := ⟨h0_⟩
      have n1_ : Aside0 (w66.heap[gb699]? = some (.cells #[.int .i64 a0_0, .int .i64 a0_1, .int .i64 a0_2, .bool a0_3, .slice A0_4 l0_4.length c0_4, .string a0_5] 26 (0, 0))) := ⟨h1_⟩
      have n2_ : Aside0 (Below w.heap.size w w66) := ⟨h2_⟩
      clear HO_3 BK699 HB h0_ h1_ h2_
      have HO744 := n0_
      have BK699 := n1_
      have HB := n2_
      clear n0_ n1_ n2_
      have hHeld : w66.cell? ⟨gb699, 0, none⟩ = some (.int .i64 a0_0) ∧ w66.cell? ⟨gb699, 1, none⟩ = some (.int .i64 a0_1) ∧ w66.cell? ⟨gb699, 2, none⟩ = some (.int .i64 a0_2) ∧ w66.cell? ⟨gb699, 3, none⟩ = some (.bool a0_3) ∧ w66.cell? ⟨gb699, 4, none⟩ = some (.slice A0_4 l0_4.length c0_4) ∧ w66.cell? ⟨gb699, 5, none⟩ = some (.string a0_5) := hS_
      refine nq ?_
      refine on 8 (some 72) (bv 10 511) (fun K hK => ?_)
      refine R_append_bytes_step (w0 := w) w.heap.size (by rfl) (.tmp 68) _ 35 5 rfl Try.underlying35 info5 v743 t742 t745 (fun _ => True) vB rfl rfl (by (with_reducible repeat (first | apply HasB.drewN | apply HasB.drew)); exact HBB.out) ?aF ?aO ?aB ?aS ?aL ?_
      (case aB => exact bel)
      (case aF => exact (fun _ _ => trivial))
      (case aO => exact (kr HO744.out))
      (case aS => exact (below_size bel))
      (case aL => have := LMc60.out; omega)
      intro v747 w67 ho hb hg hat
      clear HBB
      rw [← Ny746.out] at ho
      have n_ := z3 (blk_grown (bk BK699.out) hg (Kd.R_ne HO744.out BK699.out (by decide))) (hb) (ho)
      clear BK699 HB HO744
      obtain ⟨BK699, HB, HO748⟩ := n_
      clear ho hb hg hat
      refine hK.out _ _ ⟨(blk_cell BK699.out 0).trans rfl, (blk_cell BK699.out 1).trans rfl, (blk_cell BK699.out 2).trans rfl, (blk_cell BK699.out 3).trans rfl, (blk_cell BK699.out 4).trans rfl, (blk_cell BK699.out 5).trans rfl⟩ (fun hHeld => ?_)
      clear hK K
      refine no 72 ?_
      refine pu 9 (some 2) (bv 10 1023) ?_
      refine done_ (done_of HT_.out (by kernel_rfl)) ?_
      try go_wp2
      go_ret
      exact ⟨_, er, kr HO748.out, bel⟩
     ·rw [if_neg c60] at H
      exact absurd H (by simp)
 ·rw [if_neg c5] at H
  exact absurd H (by simp)
end Go.Proofs.Ytagjmphkfeiiiaa.Q
