/- One function's walk, or a law's, by the text that a program of this session prints; what each theorem says stands in it. -/
import Derived.Test.YtagjmphkfeiiiaaQx0
import Derived.Test.YtagjmphkfeiiiaaQx10
import Derived.Lib.Hide
import Derived.Test.YtagjmphkfeiiiaaRq
import Derived.Test.YtagjmphkfeiiiaaXs
namespace Go.Proofs.Ytagjmphkfeiiiaa.Q
open Go.RowKit Go.Proofs.YtagjmphkfeiiiaaW.PrintWords Go.Proofs.YtagjmphkfeiiiaaW.PrintLast Go.Proofs.YtagjmphkfeiiiaaW.PrintMore
attribute [local go_sem] min2_int min_two
set_option linter.unusedVariables false
set_option linter.unusedSimpArgs false
mutual
def federationlaw7_Make.j0 : Nat → Int → List Int → ByteArray → Int → Int → Int → Bool → ByteArray → Option (Int × Int × Int × Bool × (List (S40)) × ByteArray)
  | 0, _, _, _, _, _, _, _, _ => none
  | k + 1, x2, x3, x4, x476000, x476001, x476002, x476003, x476005 => if x476000 = 2 then (federationlaw7_Make.j1 k x2 x3 x4 false x476000 x476001 x476002 x476003 x476005) else (federationlaw7_Make.j1 k x2 x3 x4 (x476000 != 3) x476000 x476001 x476002 x476003 x476005)
def federationlaw7_Make.j1 : Nat → Int → List Int → ByteArray → Bool → Int → Int → Int → Bool → ByteArray → Option (Int × Int × Int × Bool × (List (S40)) × ByteArray)
  | 0, _, _, _, _, _, _, _, _, _ => none
  | k + 1, x2, x3, x4, x46, x476000, x476001, x476002, x476003, x476005 => if x46 = true then (some (x476000, x476001, x476002, x476003, ([] : List (S40)), x476005)) else ((federationlaw7_within.f x2 2).bind fun t476 => (federationlaw7_Make.l0 k x3 x4 0 x476000 x476001 x476002 (t476 == 0) ([] : List (S40)) x476005))
def federationlaw7_Make.l0 : Nat → List Int → ByteArray → Int → Int → Int → Int → Bool → List (S40) → ByteArray → Option (Int × Int × Int × Bool × (List (S40)) × ByteArray)
  | 0, _, _, _, _, _, _, _, _, _ => none
  | k + 1, x3, x4, x12, x476000, x476001, x476002, x476003, x476004, x476005 => if x12 < (x3.length : Int) then (federationlaw7_Make.j3 k x3 x4 x12 (decide (x12 < 20)) x476000 x476001 x476002 x476003 x476004 x476005) else (federationlaw7_Make.j3 k x3 x4 x12 false x476000 x476001 x476002 x476003 x476004 x476005)
def federationlaw7_Make.j3 : Nat → List Int → ByteArray → Int → Bool → Int → Int → Int → Bool → List (S40) → ByteArray → Option (Int × Int × Int × Bool × (List (S40)) × ByteArray)
  | 0, _, _, _, _, _, _, _, _, _, _ => none
  | k + 1, x3, x4, x12, x59, x476000, x476001, x476002, x476003, x476004, x476005 => if x59 = true then (if 0 ≤ x12 then (if x12 < (x3.length : Int) then ((federationlaw7_within.f (rd x3 x12) 1073741824).bind fun t478 => (if 0 ≤ (Int.tmod t478 3) then (if (Int.tmod t478 3) ≤ (wrap64 ((Int.tmod t478 3) + 1)) then (if (wrap64 ((Int.tmod t478 3) + 1)) ≤ 3 then ((federationlaw7_within.f (wrap64 (Int.tdiv t478 3)) (wrap64 ((x4.size : Int) + 1))).bind fun t479 => (if 0 ≤ t479 then (if t479 ≤ (x4.size : Int) then (if ((⟨#[114, 99, 107]⟩ : ByteArray).extract ((Int.tmod t478 3) : Int).toNat ((wrap64 ((Int.tmod t478 3) + 1)) : Int).toNat).size + (x4.extract 0 (t479 : Int).toNat).size ≤ 9223372036854775807 then ((federationlaw7_within.f (wrap64 (Int.tdiv t478 7)) (wrap64 ((x4.size : Int) + 1))).bind fun t480 => (if 0 ≤ t480 then (if t480 ≤ (x4.size : Int) then (if (Int.tmod t478 5) = 0 then (federationlaw7_Make.j4 k x3 x4 x12 x476000 x476001 x476002 x476003 x476004 x476005 (((⟨#[114, 99, 107]⟩ : ByteArray).extract ((Int.tmod t478 3) : Int).toNat ((wrap64 ((Int.tmod t478 3) + 1)) : Int).toNat) ++ (x4.extract 0 (t479 : Int).toNat)) (⟨#[]⟩ : ByteArray) ((Int.tmod t478 5) == 0)) else (federationlaw7_Make.j4 k x3 x4 x12 x476000 x476001 x476002 x476003 x476004 x476005 (((⟨#[114, 99, 107]⟩ : ByteArray).extract ((Int.tmod t478 3) : Int).toNat ((wrap64 ((Int.tmod t478 3) + 1)) : Int).toNat) ++ (x4.extract 0 (t479 : Int).toNat)) (x4.extract (t480 : Int).toNat x4.size) ((Int.tmod t478 5) == 0))) else (none)) else (none))) else (none)) else (none)) else (none))) else (none)) else (none)) else (none))) else (none)) else (none)) else (some (x476000, x476001, x476002, x476003, x476004, x476005))
def federationlaw7_Make.j4 : Nat → List Int → ByteArray → Int → Int → Int → Int → Bool → List (S40) → ByteArray → ByteArray → ByteArray → Bool → Option (Int × Int × Int × Bool × (List (S40)) × ByteArray)
  | 0, _, _, _, _, _, _, _, _, _, _, _, _ => none
  | k + 1, x3, x4, x12, x476000, x476001, x476002, x476003, x476004, x476005, x482000, x482001, x482002 => if x476004.length < 3518437208883 then (federationlaw7_Make.l0 k x3 x4 (wrap64 (x12 + 1)) x476000 x476001 x476002 x476003 (x476004 ++ [(⟨x482000, x482001, x482002⟩ : S40)]) x476005) else (none)
end
def federationlaw7_Make.f (k : Nat) (a0 : Int) (a1 : Int) (a2 : Int) (l3 : List Int) (a4 : ByteArray) : Option (Int × Int × Int × Bool × (List (S40)) × ByteArray) := (federationlaw7_within.f a0 6).bind fun t466 => ((federationlaw7_within.f a1 200).bind fun t467 => ((federationlaw7_within.f a1 1099511627776).bind fun t468 => ((some (([t467, t468, 9223372036854775807] : List Int) : List Int)).bind fun y469 => ((federationlaw7_within.f (wrap64 (Int.tdiv a0 6)) 3).bind fun t472 => (if 0 ≤ t472 then (if t472 < (y469.length : Int) then ((federationlaw7_within.f a2 1073741824).bind fun t474 => (if t466 = 5 then (if 0 ≤ (mn (a4.size : Int) 40) then (if (mn (a4.size : Int) 40) ≤ (a4.size : Int) then (federationlaw7_Make.j0 k a2 l3 a4 t466 (rd y469 t472) t474 false (a4.extract 0 ((mn (a4.size : Int) 40) : Int).toNat)) else (none)) else (none)) else (federationlaw7_Make.j0 k a2 l3 a4 t466 (rd y469 t472) t474 false (⟨#[]⟩ : ByteArray)))) else (none)) else (none))))))
theorem federationlaw7_Make.mono_l : ∀ k, (∀ y0 y1 y2 y3 y4 y5 y6 y7, LeO (federationlaw7_Make.j0 k y0 y1 y2 y3 y4 y5 y6 y7) (federationlaw7_Make.j0 (k + 1) y0 y1 y2 y3 y4 y5 y6 y7)) ∧ (∀ y0 y1 y2 y3 y4 y5 y6 y7 y8, LeO (federationlaw7_Make.j1 k y0 y1 y2 y3 y4 y5 y6 y7 y8) (federationlaw7_Make.j1 (k + 1) y0 y1 y2 y3 y4 y5 y6 y7 y8)) ∧ (∀ y0 y1 y2 y3 y4 y5 y6 y7 y8, LeO (federationlaw7_Make.l0 k y0 y1 y2 y3 y4 y5 y6 y7 y8) (federationlaw7_Make.l0 (k + 1) y0 y1 y2 y3 y4 y5 y6 y7 y8)) ∧ (∀ y0 y1 y2 y3 y4 y5 y6 y7 y8 y9, LeO (federationlaw7_Make.j3 k y0 y1 y2 y3 y4 y5 y6 y7 y8 y9) (federationlaw7_Make.j3 (k + 1) y0 y1 y2 y3 y4 y5 y6 y7 y8 y9)) ∧ (∀ y0 y1 y2 y3 y4 y5 y6 y7 y8 y9 y10 y11, LeO (federationlaw7_Make.j4 k y0 y1 y2 y3 y4 y5 y6 y7 y8 y9 y10 y11) (federationlaw7_Make.j4 (k + 1) y0 y1 y2 y3 y4 y5 y6 y7 y8 y9 y10 y11))
  | 0 => ⟨fun _ _ _ _ _ _ _ _ r h => by simp [federationlaw7_Make.j0] at h, fun _ _ _ _ _ _ _ _ _ r h => by simp [federationlaw7_Make.j1] at h, fun _ _ _ _ _ _ _ _ _ r h => by simp [federationlaw7_Make.l0] at h, fun _ _ _ _ _ _ _ _ _ _ r h => by simp [federationlaw7_Make.j3] at h, fun _ _ _ _ _ _ _ _ _ _ _ _ r h => by simp [federationlaw7_Make.j4] at h⟩
  | k + 1 => by
    obtain ⟨ih0, ih1, ih2, ih3, ih4⟩ := federationlaw7_Make.mono_l k
    refine ⟨?_, ?_, ?_, ?_, ?_⟩
    · intro y0 y1 y2 y3 y4 y5 y6 y7
      unfold federationlaw7_Make.j0
      repeat' first
      | (with_reducible exact ih0 _ _ _ _ _ _ _ _)
      | (with_reducible exact ih1 _ _ _ _ _ _ _ _ _)
      | (with_reducible exact ih2 _ _ _ _ _ _ _ _ _)
      | (with_reducible exact ih3 _ _ _ _ _ _ _ _ _ _)
      | (with_reducible exact ih4 _ _ _ _ _ _ _ _ _ _ _ _)
      | (with_reducible exact LeO.refl _)
      | (with_reducible exact LeO.none _)
      | (with_reducible refine LeO.ite ?_ ?_)
      | (with_reducible refine LeO.bind ?_ (fun _ => ?_))
    · intro y0 y1 y2 y3 y4 y5 y6 y7 y8
      unfold federationlaw7_Make.j1
      repeat' first
      | (with_reducible exact ih0 _ _ _ _ _ _ _ _)
      | (with_reducible exact ih1 _ _ _ _ _ _ _ _ _)
      | (with_reducible exact ih2 _ _ _ _ _ _ _ _ _)
      | (with_reducible exact ih3 _ _ _ _ _ _ _ _ _ _)
      | (with_reducible exact ih4 _ _ _ _ _ _ _ _ _ _ _ _)
      | (with_reducible exact LeO.refl _)
      | (with_reducible exact LeO.none _)
      | (with_reducible refine LeO.ite ?_ ?_)
      | (with_reducible refine LeO.bind ?_ (fun _ => ?_))
    · intro y0 y1 y2 y3 y4 y5 y6 y7 y8
      unfold federationlaw7_Make.l0
      repeat' first
      | (with_reducible exact ih0 _ _ _ _ _ _ _ _)
      | (with_reducible exact ih1 _ _ _ _ _ _ _ _ _)
      | (with_reducible exact ih2 _ _ _ _ _ _ _ _ _)
      | (with_reducible exact ih3 _ _ _ _ _ _ _ _ _ _)
      | (with_reducible exact ih4 _ _ _ _ _ _ _ _ _ _ _ _)
      | (with_reducible exact LeO.refl _)
      | (with_reducible exact LeO.none _)
      | (with_reducible refine LeO.ite ?_ ?_)
      | (with_reducible refine LeO.bind ?_ (fun _ => ?_))
    · intro y0 y1 y2 y3 y4 y5 y6 y7 y8 y9
      unfold federationlaw7_Make.j3
      repeat' first
      | (with_reducible exact ih0 _ _ _ _ _ _ _ _)
      | (with_reducible exact ih1 _ _ _ _ _ _ _ _ _)
      | (with_reducible exact ih2 _ _ _ _ _ _ _ _ _)
      | (with_reducible exact ih3 _ _ _ _ _ _ _ _ _ _)
      | (with_reducible exact ih4 _ _ _ _ _ _ _ _ _ _ _ _)
      | (with_reducible exact LeO.refl _)
      | (with_reducible exact LeO.none _)
      | (with_reducible refine LeO.ite ?_ ?_)
      | (with_reducible refine LeO.bind ?_ (fun _ => ?_))
    · intro y0 y1 y2 y3 y4 y5 y6 y7 y8 y9 y10 y11
      unfold federationlaw7_Make.j4
      repeat' first
      | (with_reducible exact ih0 _ _ _ _ _ _ _ _)
      | (with_reducible exact ih1 _ _ _ _ _ _ _ _ _)
      | (with_reducible exact ih2 _ _ _ _ _ _ _ _ _)
      | (with_reducible exact ih3 _ _ _ _ _ _ _ _ _ _)
      | (with_reducible exact ih4 _ _ _ _ _ _ _ _ _ _ _ _)
      | (with_reducible exact LeO.refl _)
      | (with_reducible exact LeO.none _)
      | (with_reducible refine LeO.ite ?_ ?_)
      | (with_reducible refine LeO.bind ?_ (fun _ => ?_))
theorem federationlaw7_Make.mono : ∀ a0 a1 a2 a3 a4 k, LeO (federationlaw7_Make.f k a0 a1 a2 a3 a4) (federationlaw7_Make.f (k + 1) a0 a1 a2 a3 a4) := by
  intro a0 a1 a2 a3 a4 k
  obtain ⟨ih0, ih1, ih2, ih3, ih4⟩ := federationlaw7_Make.mono_l k
  unfold federationlaw7_Make.f
  repeat' first
      | (with_reducible exact ih0 _ _ _ _ _ _ _ _)
      | (with_reducible exact ih1 _ _ _ _ _ _ _ _ _)
      | (with_reducible exact ih2 _ _ _ _ _ _ _ _ _)
      | (with_reducible exact ih3 _ _ _ _ _ _ _ _ _ _)
      | (with_reducible exact ih4 _ _ _ _ _ _ _ _ _ _ _ _)
      | (with_reducible exact LeO.refl _)
      | (with_reducible exact LeO.none _)
      | (with_reducible refine LeO.ite ?_ ?_)
      | (with_reducible refine LeO.bind ?_ (fun _ => ?_))
theorem within_still (a0 a1 r : Int) (w : World) (h : federationlaw7_within.f a0 a1 = some r) : Calls Try.prog 15 #[.int .i64 a0, .int .i64 a1] w fun e w' => e = .returned (.int .i64 r) ∧ w' = w := by
  unfold federationlaw7_within.f at h
  by_cases h0 : a1 = 0
  · rw [if_pos h0] at h
    cases h
  · rw [if_neg h0] at h
    have e0 : (a1 == 0) = false := by simpa using h0
    have e1 : ¬ a1 = 0 := h0
    by_cases h1 : Int.tmod a0 a1 < 0
    · rw [if_pos h1] at h
      injection h with h
      have d1 : decide (Int.tmod a0 a1 < 0) = true := decide_eq_true h1
      subst h
      go_enter Try.func15, Try.ntmps15
      go_wp2
      go_ret
      exact ⟨rfl, rfl⟩
    · rw [if_neg h1] at h
      injection h with h
      have d1 : decide (Int.tmod a0 a1 < 0) = false := decide_eq_false h1
      subst h
      go_enter Try.func15, Try.ntmps15
      go_wp2
      go_ret
      exact ⟨rfl, rfl⟩
theorem lim14 (a4 : ByteArray) (i j t : Int) (hj : j ≤ 3) (ht : t ≤ (a4.size : Int)) (h : ((⟨#[114, 99, 107]⟩ : ByteArray).extract i.toNat j.toNat).size + (a4.extract 0 t.toNat).size ≤ 9223372036854775807) : (9223372036854775807 < j.toNat - i.toNat + t.toNat) = False := by
  rw [ByteArray.size_extract, ByteArray.size_extract, show (⟨#[114, 99, 107]⟩ : ByteArray).size = 3 from rfl] at h
  exact eq_false (Nat.not_lt.2 (by omega))
set_option maxHeartbeats 8000000 in
set_option maxRecDepth 100000 in
theorem federationlaw7_Make.calls (k : Nat) (a0 : Int) (a1 : Int) (a2 : Int) (A3 : Option Addr) (c3 : Nat) (l3 : List Int) (a4 : ByteArray) (r1 : Int) (r2 : Int) (r3 : Int) (r4 : Bool) (r5 : List (S40)) (r6 : ByteArray) (w : World) (hr3 : Kd.C (Kd.int .i64) w A3 l3.length l3) (hc3 : l3.length ≤ c3) (h : federationlaw7_Make.f k a0 a1 a2 l3 a4 = some (r1, r2, r3, r4, r5, r6)) :
    Calls Try.prog 14 #[.int .i64 a0, .int .i64 a1, .int .i64 a2, .slice A3 l3.length c3, .string a4] w fun e w' => ∃ v4_ : Value, e = .returned (.agg #[.int .i64 r1, .int .i64 r2, .int .i64 r3, .bool r4, v4_, .string r6]) ∧ Kd.R k40 40 w' w.heap.size (fun _ => True) v4_ r5 ∧ Below w.heap.size w w' := by
  have hu26 := Try.underlying26
  have hu40 := Try.underlying40
  have HR3 := am hr3
  have HC3 := am hc3
  clear hr3 hc3
  have HB := am (Below.refl w.heap.size w)
  have H : ((federationlaw7_within.f a0 6).bind fun t466 => ((federationlaw7_within.f a1 200).bind fun t467 => ((federationlaw7_within.f a1 1099511627776).bind fun t468 => ((some (([t467, t468, 9223372036854775807] : List Int) : List Int)).bind fun y469 => ((federationlaw7_within.f (wrap64 (Int.tdiv a0 6)) 3).bind fun t472 => (if 0 ≤ t472 then (if t472 < (y469.length : Int) then ((federationlaw7_within.f a2 1073741824).bind fun t474 => (if t466 = 5 then (if 0 ≤ (mn (a4.size : Int) 40) then (if (mn (a4.size : Int) 40) ≤ (a4.size : Int) then (federationlaw7_Make.j0 k a2 l3 a4 t466 (rd y469 t472) t474 false (a4.extract 0 ((mn (a4.size : Int) 40) : Int).toNat)) else (none)) else (none)) else (federationlaw7_Make.j0 k a2 l3 a4 t466 (rd y469 t472) t474 false (⟨#[]⟩ : ByteArray)))) else (none)) else (none))))))) = some (r1, r2, r3, r4, r5, r6) := h
  clear h
  replace H := Option.bind_eq_some_iff.mp H
  obtain ⟨t466, A60, H⟩ := H
  replace H : ((federationlaw7_within.f a1 200).bind fun t467 => ((federationlaw7_within.f a1 1099511627776).bind fun t468 => ((some (([t467, t468, 9223372036854775807] : List Int) : List Int)).bind fun y469 => ((federationlaw7_within.f (wrap64 (Int.tdiv a0 6)) 3).bind fun t472 => (if 0 ≤ t472 then (if t472 < (y469.length : Int) then ((federationlaw7_within.f a2 1073741824).bind fun t474 => (if t466 = 5 then (if 0 ≤ (mn (a4.size : Int) 40) then (if (mn (a4.size : Int) 40) ≤ (a4.size : Int) then (federationlaw7_Make.j0 k a2 l3 a4 t466 (rd y469 t472) t474 false (a4.extract 0 ((mn (a4.size : Int) 40) : Int).toNat)) else (none)) else (none)) else (federationlaw7_Make.j0 k a2 l3 a4 t466 (rd y469 t472) t474 false (⟨#[]⟩ : ByteArray)))) else (none)) else (none)))))) = some (r1, r2, r3, r4, r5, r6) := H
  have A6 := am A60
  clear A60
  replace H := Option.bind_eq_some_iff.mp H
  obtain ⟨t467, A70, H⟩ := H
  replace H : ((federationlaw7_within.f a1 1099511627776).bind fun t468 => ((some (([t467, t468, 9223372036854775807] : List Int) : List Int)).bind fun y469 => ((federationlaw7_within.f (wrap64 (Int.tdiv a0 6)) 3).bind fun t472 => (if 0 ≤ t472 then (if t472 < (y469.length : Int) then ((federationlaw7_within.f a2 1073741824).bind fun t474 => (if t466 = 5 then (if 0 ≤ (mn (a4.size : Int) 40) then (if (mn (a4.size : Int) 40) ≤ (a4.size : Int) then (federationlaw7_Make.j0 k a2 l3 a4 t466 (rd y469 t472) t474 false (a4.extract 0 ((mn (a4.size : Int) 40) : Int).toNat)) else (none)) else (none)) else (federationlaw7_Make.j0 k a2 l3 a4 t466 (rd y469 t472) t474 false (⟨#[]⟩ : ByteArray)))) else (none)) else (none))))) = some (r1, r2, r3, r4, r5, r6) := H
  have A7 := am A70
  clear A70
  replace H := Option.bind_eq_some_iff.mp H
  obtain ⟨t468, A80, H⟩ := H
  replace H : ((some (([t467, t468, 9223372036854775807] : List Int) : List Int)).bind fun y469 => ((federationlaw7_within.f (wrap64 (Int.tdiv a0 6)) 3).bind fun t472 => (if 0 ≤ t472 then (if t472 < (y469.length : Int) then ((federationlaw7_within.f a2 1073741824).bind fun t474 => (if t466 = 5 then (if 0 ≤ (mn (a4.size : Int) 40) then (if (mn (a4.size : Int) 40) ≤ (a4.size : Int) then (federationlaw7_Make.j0 k a2 l3 a4 t466 (rd y469 t472) t474 false (a4.extract 0 ((mn (a4.size : Int) 40) : Int).toNat)) else (none)) else (none)) else (federationlaw7_Make.j0 k a2 l3 a4 t466 (rd y469 t472) t474 false (⟨#[]⟩ : ByteArray)))) else (none)) else (none)))) = some (r1, r2, r3, r4, r5, r6) := H
  have A8 := am A80
  clear A80
  obtain ⟨y469, hy469⟩ : ∃ y_ : List Int, y_ = (([t467, t468, 9223372036854775807] : List Int)) := ⟨_, rfl⟩
  replace H : ((federationlaw7_within.f (wrap64 (Int.tdiv a0 6)) 3).bind fun t472 => (if 0 ≤ t472 then (if t472 < (y469.length : Int) then ((federationlaw7_within.f a2 1073741824).bind fun t474 => (if t466 = 5 then (if 0 ≤ (mn (a4.size : Int) 40) then (if (mn (a4.size : Int) 40) ≤ (a4.size : Int) then (federationlaw7_Make.j0 k a2 l3 a4 t466 (rd y469 t472) t474 false (a4.extract 0 ((mn (a4.size : Int) 40) : Int).toNat)) else (none)) else (none)) else (federationlaw7_Make.j0 k a2 l3 a4 t466 (rd y469 t472) t474 false (⟨#[]⟩ : ByteArray)))) else (none)) else (none))) = some (r1, r2, r3, r4, r5, r6) := by first | (rw [hy469]; with_reducible exact H) | (have H2_ := (Option.bind_some _ _).symm.trans H; rw [hy469]; with_reducible exact H2_) | (have H2_ := (Option.bind_some _ _).symm.trans H; with_reducible exact H2_) | with_reducible exact H | (rw [hy469]; exact H) | exact H
  have Ny469 := am hy469
  clear hy469
  replace H := Option.bind_eq_some_iff.mp H
  obtain ⟨t472, A90, H⟩ := H
  replace H : (if 0 ≤ t472 then (if t472 < (y469.length : Int) then ((federationlaw7_within.f a2 1073741824).bind fun t474 => (if t466 = 5 then (if 0 ≤ (mn (a4.size : Int) 40) then (if (mn (a4.size : Int) 40) ≤ (a4.size : Int) then (federationlaw7_Make.j0 k a2 l3 a4 t466 (rd y469 t472) t474 false (a4.extract 0 ((mn (a4.size : Int) 40) : Int).toNat)) else (none)) else (none)) else (federationlaw7_Make.j0 k a2 l3 a4 t466 (rd y469 t472) t474 false (⟨#[]⟩ : ByteArray)))) else (none)) else (none)) = some (r1, r2, r3, r4, r5, r6) := H
  have A9 := am A90
  clear A90
  by_cases c10 : 0 ≤ t472
  · rw [if_pos c10] at H
    have c10b0 : decide (0 ≤ t472) = true := decide_eq_true c10
    clear c10
    by_cases c11 : t472 < (y469.length : Int)
    · rw [if_pos c11] at H
      have c11b0 : decide (t472 < (y469.length : Int)) = true := decide_eq_true c11
      clear c11
      replace H := Option.bind_eq_some_iff.mp H
      obtain ⟨t474, A120, H⟩ := H
      replace H : (if t466 = 5 then (if 0 ≤ (mn (a4.size : Int) 40) then (if (mn (a4.size : Int) 40) ≤ (a4.size : Int) then (federationlaw7_Make.j0 k a2 l3 a4 t466 (rd y469 t472) t474 false (a4.extract 0 ((mn (a4.size : Int) 40) : Int).toNat)) else (none)) else (none)) else (federationlaw7_Make.j0 k a2 l3 a4 t466 (rd y469 t472) t474 false (⟨#[]⟩ : ByteArray))) = some (r1, r2, r3, r4, r5, r6) := H
      have A12 := am A120
      clear A120
      have HC13 := am H
      clear H
      go_enter Try.func14, Try.ntmps14
      try go_wp2_with (first | ((with_reducible refine gate_dst (N := 10) rfl ?_); refine bx 10 26 (cs := #[.int .i64 0, .int .i64 0, .int .i64 0, .bool false, .slice none 0 0, .string (⟨#[]⟩ : ByteArray)]) ?_; intro gb465 hg w14 hbox hb; have n_ := z4 (below_step bel hb) (hbox) ((by rw [hg]; exact (below_size bel) : w.heap.size ≤ gb465)) ((by rw [hg]; exact (below_size bel) : w.heap.size ≤ gb465)); clear HB; obtain ⟨HB, BK465, GW465, GE465⟩ := n_; clear hb hbox hg))
      have pi473 : (0 ≤ (t472 : Int)) = True := eq_true (of_decide_eq_true (by first | (with_reducible assumption) | assumption))
      have qi473 : (t472 < (y469.length : Int)) = True := eq_true (of_decide_eq_true (by first | (with_reducible assumption) | assumption))
      have hy3_ : y469.length = 3 := by rw [Ny469.out]; rfl
      have ql_ : (t472 < (3 : Int)) = True := by have q_ := of_eq_true qi473; rw [hy3_] at q_; exact eq_true q_
      have HY3_ := am hy3_
      clear hy3_
      rename_i K_ hK_
      have hCont_ : ∀ (gb475 : Nat) (w20 : World) (v15_ v16_ v17_ v18_ v19_ v20_ v21_ v22_ v23_ v24_ v25_ v26_ v27_ v28_ v29_ : Value) (BK465 : Aside0 (w20.heap[gb465]? = some (.cells #[.int .i64 0, .int .i64 0, .int .i64 0, .bool false, .slice none 0 0, .string (⟨#[]⟩ : ByteArray)] 26 (0, 0)))) (BK475 : Aside0 (w20.heap[gb475]? = some (.cells #[.int .i64 0, .int .i64 0, .int .i64 0, .bool false, .slice none 0 0, .string (⟨#[]⟩ : ByteArray)] 26 (0, 0)))) (GW475 : Aside0 (w.heap.size ≤ gb475)) (GE475 : Aside0 (w.heap.size ≤ gb475)) (NB465_475 : Aside0 (gb465 ≠ gb475)) (NB475_465 : Aside0 (gb475 ≠ gb465)) (HB : Aside0 (Below w.heap.size w w20)), K_ { tmps := #[.int .i64 a0, .int .i64 a1, .int .i64 a2, .slice A3 l3.length c3, .string a4, undef, undef, undef, undef, undef, .pointer (some ⟨gb465, 0, none⟩), .pointer (some ⟨gb475, 0, none⟩), undef, undef, undef, v15_, v16_, v17_, v18_, v19_, v20_, v21_, v22_, v23_, v24_, v25_, v26_, v27_, v28_, v29_, undef, undef, undef, undef, undef, undef, undef, undef, undef, undef, undef, undef, undef, undef, undef, undef, undef, undef, undef, undef, undef, undef, undef, undef, undef, undef, undef, undef, undef, undef, undef, undef, undef, undef, undef, undef, undef, undef, undef, undef, undef, undef, undef, undef, undef, undef, undef, undef, undef, undef, undef, undef, undef, undef, undef, undef, undef, undef, undef, undef, undef, undef, undef, undef, undef, undef, undef, undef, undef, undef, undef, undef, undef, undef], defers := [] } ((((((w20.setCell ⟨gb475, 0, none⟩ (.int .i64 t466)).setCell ⟨gb475, 1, none⟩ (.int .i64 (rd y469 t472))).setCell ⟨gb475, 2, none⟩ (.int .i64 t474)).setCell ⟨gb475, 3, none⟩ (.bool false)).setCell ⟨gb475, 4, none⟩ (.slice none 0 0)).setCell ⟨gb475, 5, none⟩ (.string (⟨#[]⟩ : ByteArray))) := by
        intro gb475 w20 v15_ v16_ v17_ v18_ v19_ v20_ v21_ v22_ v23_ v24_ v25_ v26_ v27_ v28_ v29_ BK465 BK475 GW475 GE475 NB465_475 NB475_465 HB
        refine hK_ _ _ ?_
        have hnb28 := NB475_465.out
        have hnc28 := NB465_475.out
        obtain ⟨hcz29_0, hcz29_1, hcz29_2, hcz29_3, hcz29_4, hcz29_5⟩ := cells6 BK475.out
        obtain ⟨hfz29_0, hfz29_1, hfz29_2, hfz29_3, hfz29_4, hfz29_5⟩ := froz6 BK475.out
        go_upto_if 32 with (fail)
        go_cut [] (fun wc => ∃ (kq : Nat) (x476005_12 : ByteArray), Aside0 (federationlaw7_Make.j0 kq a2 l3 a4 t466 (rd y469 t472) t474 false x476005_12 = some (r1, r2, r3, r4, r5, r6)) ∧ Aside0 (kq ≤ k) ∧ Aside0 (wc.heap[gb465]? = some (.cells #[.int .i64 0, .int .i64 0, .int .i64 0, .bool false, (.slice none 0 0), .string (⟨#[]⟩ : ByteArray)] 26 (0, 0))) ∧ Aside0 (wc.heap[gb475]? = some (.cells #[.int .i64 t466, .int .i64 (rd y469 t472), .int .i64 t474, .bool false, (.slice none 0 0), .string x476005_12] 26 (0, 0))) ∧ Aside0 (Below w.heap.size w wc))
        case first =>
          have H := HC13.out
          clear HC13
          by_cases c30 : t466 = 5
          · rw [if_pos c30] at H
            have c30b0 : (t466 == 5) = true := beq_iff_eq.mpr c30
            have c30b1 : (t466 != 5) = false := bne_eq_false_iff_eq.mpr c30
            clear c30
            (first | rw [c30b0] | (simp only [i64_w, i32_w]; rw [c30b0]) | skip)
            obtain ⟨ji31, hji31⟩ : ∃ j_ : Int, (mn (a4.size : Int) 40) = j_ := ⟨_, rfl⟩
            replace H : (if 0 ≤ (ji31) then (if (ji31) ≤ (a4.size : Int) then (federationlaw7_Make.j0 k a2 l3 a4 t466 (rd y469 t472) t474 false (a4.extract 0 ((ji31) : Int).toNat)) else (none)) else (none)) = some (r1, r2, r3, r4, r5, r6) := by first | (rw [hji31] at H; exact H) | (simp only [hji31] at H ⊢; exact H)
            (try (have hji31h : ji31 ≤ 40 := by (rw [← hji31]; unfold mn; (repeat' split) <;> omega)))
            (try (have hji31g : ji31 ≤ 64 := by omega))
            (try (have hji31l : 0 ≤ ji31 := by (rw [← hji31]; unfold mn; (repeat' split) <;> omega)))
            (try (have hji31m : 0 ≤ ji31 := by omega))
            have hji31_ : (if 40 < (a4.size : Int) then 40 else (a4.size : Int)) = ji31 := hji31
            by_cases c32 : 0 ≤ (ji31)
            · rw [if_pos c32] at H
              have c32b0 := eq_true c32
              have c32b1 : decide (0 ≤ (ji31)) = true := decide_eq_true c32
              clear c32
              by_cases c33 : (ji31) ≤ (a4.size : Int)
              · rw [if_pos c33] at H
                have c33b0 := eq_true c33
                have c33b1 : decide ((ji31) ≤ (a4.size : Int)) = true := decide_eq_true c33
                clear c33
                have H' := am H
                clear H
                have hnb34 := NB475_465.out
                have hnc34 := NB465_475.out
                obtain ⟨hcz35_0, hcz35_1, hcz35_2, hcz35_3, hcz35_4, hcz35_5⟩ := cells6 BK475.out
                obtain ⟨hfz35_0, hfz35_1, hfz35_2, hfz35_3, hfz35_4, hfz35_5⟩ := froz6 BK475.out
                go_wp2
                go_meet
                case rel => exact ⟨_, (a4.extract 0 ((ji31) : Int).toNat), H', ⟨by first | omega | exact Nat.le_refl _⟩, ⟨bk BK465.out⟩, ⟨bp BK475.out⟩, ⟨bel⟩⟩
              · rw [if_neg c33] at H
                exact absurd H (by simp)
            · rw [if_neg c32] at H
              exact absurd H (by simp)
          · rw [if_neg c30] at H
            have c30b0 : (t466 == 5) = false := beq_eq_false_iff_ne.mpr c30
            have c30b1 : (t466 != 5) = true := bne_iff_ne.mpr c30
            (first | rw [c30b0] | (simp only [i64_w, i32_w]; rw [c30b0]) | skip)
            have H' := am H
            clear H
            go_wp2
            go_meet
            case rel => exact ⟨_, ((⟨#[]⟩ : ByteArray)), H', ⟨by first | omega | exact Nat.le_refl _⟩, ⟨bk BK465.out⟩, ⟨bp BK475.out⟩, ⟨bel⟩⟩
        case rest =>
          clear HC13
          try clear c1
          try clear c2
          try clear p2
          try clear c3
          try clear p4
          try clear q4
          try clear hx4
          try clear c15
          try clear c28
          try clear c30
          try clear c30b0
          try clear c30b1
          try clear c32
          try clear c32b0
          try clear c32b1
          try clear c33
          try clear c33b0
          try clear c33b1
          try clear c34
          try clear hcz29_0 hcz29_1 hcz29_2 hcz29_3 hcz29_4 hcz29_5
          try clear hcz35_0 hcz35_1 hcz35_2 hcz35_3 hcz35_4 hcz35_5
          try clear hfz29_0 hfz29_1 hfz29_2 hfz29_3 hfz29_4 hfz29_5
          try clear hfz35_0 hfz35_1 hfz35_2 hfz35_3 hfz35_4 hfz35_5
          try clear hx473_0
          try clear p473
          try clear q473
          obtain ⟨kq, x476005_12, HA, HJ12, BK465, BK475, HB⟩ := hcut
          cases kq with
          | zero => exact absurd HA.out (by simp [federationlaw7_Make.j0])
          | succ kj12 =>
            have H := HA.out
            clear HA
            simp only [federationlaw7_Make.j0] at H
            have HC36 := am H
            clear H
            go_upto_region 4 with (fail)
            go_cut [46] (fun v46 wc => ∃ (kq : Nat) (x46_35 : Bool), v46 = .bool x46_35 ∧ Aside0 (federationlaw7_Make.j1 kq a2 l3 a4 x46_35 t466 (rd y469 t472) t474 false x476005_12 = some (r1, r2, r3, r4, r5, r6)) ∧ Aside0 (kq ≤ kj12) ∧ Aside0 (wc.heap[gb465]? = some (.cells #[.int .i64 0, .int .i64 0, .int .i64 0, .bool false, (.slice none 0 0), .string (⟨#[]⟩ : ByteArray)] 26 (0, 0))) ∧ Aside0 (wc.heap[gb475]? = some (.cells #[.int .i64 t466, .int .i64 (rd y469 t472), .int .i64 t474, .bool false, (.slice none 0 0), .string x476005_12] 26 (0, 0))) ∧ Aside0 (Below w.heap.size w wc))
            case first =>
              have H := HC36.out
              clear HC36
              by_cases c37 : t466 = 2
              · rw [if_pos c37] at H
                have c37b0 : (t466 == 2) = true := beq_iff_eq.mpr c37
                have c37b1 : (t466 != 2) = false := bne_eq_false_iff_eq.mpr c37
                clear c37
                (first | rw [c37b0] | (simp only [i64_w, i32_w]; rw [c37b0]) | skip)
                have H' := am H
                clear H
                have hnb38 := NB475_465.out
                have hnc38 := NB465_475.out
                obtain ⟨hcz39_0, hcz39_1, hcz39_2, hcz39_3, hcz39_4, hcz39_5⟩ := cells6 BK475.out
                obtain ⟨hfz39_0, hfz39_1, hfz39_2, hfz39_3, hfz39_4, hfz39_5⟩ := froz6 BK475.out
                go_wp2
                go_meet
                case rel => exact ⟨_, (false), (by first | rfl | (simp; done) | (simp [*]; done)), H', ⟨by have := HJ12.out; first | omega | exact Nat.le_refl _⟩, ⟨bk BK465.out⟩, ⟨bk BK475.out⟩, ⟨bel⟩⟩
              · rw [if_neg c37] at H
                have c37b0 : (t466 == 2) = false := beq_eq_false_iff_ne.mpr c37
                have c37b1 : (t466 != 2) = true := bne_iff_ne.mpr c37
                (first | rw [c37b0] | (simp only [i64_w, i32_w]; rw [c37b0]) | skip)
                have H' := am H
                clear H
                have hnb40 := NB475_465.out
                have hnc40 := NB465_475.out
                obtain ⟨hcz41_0, hcz41_1, hcz41_2, hcz41_3, hcz41_4, hcz41_5⟩ := cells6 BK475.out
                obtain ⟨hfz41_0, hfz41_1, hfz41_2, hfz41_3, hfz41_4, hfz41_5⟩ := froz6 BK475.out
                go_wp2
                go_meet
                case rel => exact ⟨_, ((t466 != 3)), (by first | rfl | (simp; done) | (simp [*]; done)), H', ⟨by have := HJ12.out; first | omega | exact Nat.le_refl _⟩, ⟨bk BK465.out⟩, ⟨bk BK475.out⟩, ⟨bel⟩⟩
            case rest =>
              clear HC36
              try clear c1
              try clear c2
              try clear p2
              try clear c3
              try clear c4
              try clear p4
              try clear q4
              try clear hx4
              try clear c15
              try clear c28
              try clear c30
              try clear c30b0
              try clear c30b1
              try clear c32
              try clear c32b0
              try clear c32b1
              try clear c33
              try clear c33b0
              try clear c33b1
              try clear c34
              try clear c37
              try clear c37b0
              try clear c37b1
              try clear c38
              try clear c40
              try clear hcz29_0 hcz29_1 hcz29_2 hcz29_3 hcz29_4 hcz29_5
              try clear hcz35_0 hcz35_1 hcz35_2 hcz35_3 hcz35_4 hcz35_5
              try clear hcz39_0 hcz39_1 hcz39_2 hcz39_3 hcz39_4 hcz39_5
              try clear hcz41_0 hcz41_1 hcz41_2 hcz41_3 hcz41_4 hcz41_5
              try clear hfz29_0 hfz29_1 hfz29_2 hfz29_3 hfz29_4 hfz29_5
              try clear hfz35_0 hfz35_1 hfz35_2 hfz35_3 hfz35_4 hfz35_5
              try clear hfz39_0 hfz39_1 hfz39_2 hfz39_3 hfz39_4 hfz39_5
              try clear hfz41_0 hfz41_1 hfz41_2 hfz41_3 hfz41_4 hfz41_5
              try clear hx473_0
              try clear p2
              try clear p4
              try clear p473
              try clear q4
              try clear q473
              obtain ⟨kq, x46_35, rfl, HA, HJ35, BK465, BK475, HB⟩ := hcut
              cases kq with
              | zero => exact absurd HA.out (by simp [federationlaw7_Make.j1])
              | succ kj35 =>
                have H := HA.out
                clear HA
                simp only [federationlaw7_Make.j1] at H
                by_cases c42 : x46_35 = true
                · subst c42
                  have H1 : (some (t466, (rd y469 t472), t474, false, ([] : List (S40)), x476005_12)) = some (r1, r2, r3, r4, r5, r6) := by rw [if_pos rfl] at H; exact H
                  clear H
                  have H := H1
                  clear H1
                  simp only [Option.some.injEq, Prod.mk.injEq] at H
                  obtain ⟨rfl, rfl, rfl, rfl, rfl, rfl⟩ := H
                  have hnb43 := NB475_465.out
                  have hnc43 := NB465_475.out
                  obtain ⟨hcz44_0, hcz44_1, hcz44_2, hcz44_3, hcz44_4, hcz44_5⟩ := cells6 BK475.out
                  obtain ⟨hfz44_0, hfz44_1, hfz44_2, hfz44_3, hfz44_4, hfz44_5⟩ := froz6 BK475.out
                  obtain ⟨hcz45_0, hcz45_1, hcz45_2, hcz45_3, hcz45_4, hcz45_5⟩ := cells6 BK465.out
                  obtain ⟨hfz45_0, hfz45_1, hfz45_2, hfz45_3, hfz45_4, hfz45_5⟩ := froz6 BK465.out
                  go_wp2
                  refine bodyPost_ret (results_cell_row rfl _ _ gb465 26 #[.int .i64 t466, .int .i64 (rd y469 t472), .int .i64 t474, .bool false, .slice none 0 0, .string x476005_12] (0, 0) _ rfl (bp BK465.out) Try.underlying26 rfl (by kernel_rfl)) rfl ?_
                  exact ⟨_, er, by first | exact Kd.R_nil _ _ _ _ _ | exact Kd.N_nil _ _ _ _ _ | exact Kd.V_nil _ _ _ _ _ | exact Kd.Q_nil _ _ _ _ _ | exact Kd.S_nil _ _ _ _ _, bel⟩
                · replace c42 := Bool.eq_false_iff.mpr c42
                  subst c42
                  have H1 : ((federationlaw7_within.f a2 2).bind fun t476 => (federationlaw7_Make.l0 kj35 l3 a4 0 t466 (rd y469 t472) t474 (t476 == 0) ([] : List (S40)) x476005_12)) = some (r1, r2, r3, r4, r5, r6) := by rw [if_neg (show ¬ (false = true) by decide)] at H; exact H
                  clear H
                  have H := H1
                  clear H1
                  replace H := Option.bind_eq_some_iff.mp H
                  obtain ⟨t476, A460, H⟩ := H
                  replace H : (federationlaw7_Make.l0 kj35 l3 a4 0 t466 (rd y469 t472) t474 (t476 == 0) ([] : List (S40)) x476005_12) = some (r1, r2, r3, r4, r5, r6) := H
                  have A46 := am A460
                  clear A460
                  have H' := am H
                  clear H
                  go_wp2_with (first | ((with_reducible refine gate_callee (f := 15) rfl ?_); refine goesL_ (some 49) rfl rfl Try.func15 (by kernel_rfl) rfl #[.int .i64 a2, .int .i64 2] rfl ar ?_; (with_reducible refine (federationlaw7_within.calls a2 2 t476 _ A46.out).mono ?_); rintro e w' ⟨rfl, ⟨nd, rfl⟩⟩; refine ⟨_, rfl, ?_⟩; (try (rw [drewN_self wc]; generalize hq_ : World.drewN wc _ = wc; have n0_ : Aside0 (wc.heap[gb465]? = some (.cells #[.int .i64 0, .int .i64 0, .int .i64 0, .bool false, .slice none 0 0, .string (⟨#[]⟩ : ByteArray)] 26 (0, 0))) := ⟨by rw [← hq_]; exact (bk BK465.out)⟩; have n1_ : Aside0 (wc.heap[gb475]? = some (.cells #[.int .i64 t466, .int .i64 (rd y469 t472), .int .i64 t474, .bool false, .slice none 0 0, .string x476005_12] 26 (0, 0))) := ⟨by rw [← hq_]; exact (bk BK475.out)⟩; have n2_ : Aside0 (Below w.heap.size w wc) := ⟨by rw [← hq_]; exact bel⟩; clear BK465 BK475 HB hq_; have BK465 := n0_; have BK475 := n1_; have HB := n2_; clear n0_ n1_ n2_)); have hnb47 := NB475_465.out; have hnc47 := NB465_475.out; obtain ⟨hcz48_0, hcz48_1, hcz48_2, hcz48_3, hcz48_4, hcz48_5⟩ := cells6 BK475.out; obtain ⟨hfz48_0, hfz48_1, hfz48_2, hfz48_3, hfz48_4, hfz48_5⟩ := froz6 BK475.out))
                  go_loopg [12] kj35 (fun kq v12 w' => ∃ (x12_3 : Int) (x476004_3 : List (S40)) (u476004 : Value), v12 = .int .i64 x12_3 ∧ Aside0 (federationlaw7_Make.l0 kq l3 a4 x12_3 t466 (rd y469 t472) t474 (t476 == 0) x476004_3 x476005_12 = some (r1, r2, r3, r4, r5, r6)) ∧ Aside0 (kq ≤ kj35) ∧ Aside0 (Kd.R k40 40 w' w.heap.size (fun _ => True) u476004 x476004_3) ∧ Aside0 (w'.heap[gb465]? = some (.cells #[.int .i64 0, .int .i64 0, .int .i64 0, .bool false, (.slice none 0 0), .string (⟨#[]⟩ : ByteArray)] 26 (0, 0))) ∧ Aside0 (w'.heap[gb475]? = some (.cells #[.int .i64 t466, .int .i64 (rd y469 t472), .int .i64 t474, .bool (t476 == 0), u476004, .string x476005_12] 26 (0, 0))) ∧ Aside0 (Below w.heap.size w w'))
                  case atStart => exact ⟨(0), (([] : List (S40))), (.slice none 0 0), (by first | rfl | (simp; done) | (simp [*]; done)), H', ⟨Nat.le_refl _⟩, ⟨by first | exact Kd.R_nil _ _ _ _ _ | exact Kd.N_nil _ _ _ _ _ | exact Kd.V_nil _ _ _ _ _ | exact Kd.Q_nil _ _ _ _ _ | exact Kd.S_nil _ _ _ _ _⟩, ⟨bk BK465.out⟩, ⟨bp BK475.out⟩, ⟨bel⟩⟩
                  case round =>
                    clear H'
                    try clear c1
                    try clear c2
                    try clear p2
                    try clear c3
                    try clear c4
                    try clear p4
                    try clear q4
                    try clear hx4
                    try clear c15
                    try clear c28
                    try clear c30
                    try clear c30b0
                    try clear c30b1
                    try clear c32
                    try clear c32b0
                    try clear c32b1
                    try clear c33
                    try clear c33b0
                    try clear c33b1
                    try clear c34
                    try clear c37
                    try clear c37b0
                    try clear c37b1
                    try clear c38
                    try clear c40
                    try clear c42
                    try clear c43
                    try clear c47
                    try clear p47
                    try clear q47
                    try clear hx47
                    try clear hcz29_0 hcz29_1 hcz29_2 hcz29_3 hcz29_4 hcz29_5
                    try clear hcz35_0 hcz35_1 hcz35_2 hcz35_3 hcz35_4 hcz35_5
                    try clear hcz39_0 hcz39_1 hcz39_2 hcz39_3 hcz39_4 hcz39_5
                    try clear hcz41_0 hcz41_1 hcz41_2 hcz41_3 hcz41_4 hcz41_5
                    try clear hcz44_0 hcz44_1 hcz44_2 hcz44_3 hcz44_4 hcz44_5
                    try clear hcz45_0 hcz45_1 hcz45_2 hcz45_3 hcz45_4 hcz45_5
                    try clear hcz48_0 hcz48_1 hcz48_2 hcz48_3 hcz48_4 hcz48_5
                    try clear hfz29_0 hfz29_1 hfz29_2 hfz29_3 hfz29_4 hfz29_5
                    try clear hfz35_0 hfz35_1 hfz35_2 hfz35_3 hfz35_4 hfz35_5
                    try clear hfz39_0 hfz39_1 hfz39_2 hfz39_3 hfz39_4 hfz39_5
                    try clear hfz41_0 hfz41_1 hfz41_2 hfz41_3 hfz41_4 hfz41_5
                    try clear hfz44_0 hfz44_1 hfz44_2 hfz44_3 hfz44_4 hfz44_5
                    try clear hfz45_0 hfz45_1 hfz45_2 hfz45_3 hfz45_4 hfz45_5
                    try clear hfz48_0 hfz48_1 hfz48_2 hfz48_3 hfz48_4 hfz48_5
                    try clear hx473_0
                    try clear p2
                    try clear p4
                    try clear p473
                    try clear q4
                    try clear q473
                    obtain ⟨x12_3, x476004_3, u476004, rfl, HA, HK3, HO_476004, BK465, BK475, HB⟩ := hrel
                    cases gk with
                    | zero => exact absurd HA.out (by simp [federationlaw7_Make.l0])
                    | succ k3 =>
                      have H := HA.out
                      clear HA
                      simp only [federationlaw7_Make.l0] at H
                      have HC49 := am H
                      clear H
                      go_upto_region 8 with (fail)
                      go_cut [59] (fun v59 wc => ∃ (kq : Nat) (x59_48 : Bool), v59 = .bool x59_48 ∧ Aside0 (federationlaw7_Make.j3 kq l3 a4 x12_3 x59_48 t466 (rd y469 t472) t474 (t476 == 0) x476004_3 x476005_12 = some (r1, r2, r3, r4, r5, r6)) ∧ Aside0 (kq ≤ k3) ∧ Aside0 (Kd.R k40 40 wc w.heap.size (fun _ => True) u476004 x476004_3) ∧ Aside0 (wc.heap[gb465]? = some (.cells #[.int .i64 0, .int .i64 0, .int .i64 0, .bool false, (.slice none 0 0), .string (⟨#[]⟩ : ByteArray)] 26 (0, 0))) ∧ Aside0 (wc.heap[gb475]? = some (.cells #[.int .i64 t466, .int .i64 (rd y469 t472), .int .i64 t474, .bool (t476 == 0), u476004, .string x476005_12] 26 (0, 0))) ∧ Aside0 (Below w.heap.size w wc))
                      case first =>
                        have H := HC49.out
                        clear HC49
                        by_cases c50 : x12_3 < (l3.length : Int)
                        · rw [if_pos c50] at H
                          have c50b0 : decide (x12_3 < (l3.length : Int)) = true := decide_eq_true c50
                          clear c50
                          (first | rw [c50b0] | (simp only [i64_w, i32_w]; rw [c50b0]) | skip)
                          have H' := am H
                          clear H
                          go_wp2
                          go_meet
                          case rel => exact ⟨_, (decide (x12_3 < 20)), (by first | rfl | (simp; done) | (simp [*]; done)), H', ⟨by have := HJ12.out; have := HJ35.out; have := HK3.out; first | omega | exact Nat.le_refl _⟩, ⟨kr HO_476004.out⟩, ⟨bk BK465.out⟩, ⟨bk BK475.out⟩, ⟨bel⟩⟩
                        · rw [if_neg c50] at H
                          have c50b0 : decide (x12_3 < (l3.length : Int)) = false := decide_eq_false c50
                          clear c50
                          (first | rw [c50b0] | (simp only [i64_w, i32_w]; rw [c50b0]) | skip)
                          have H' := am H
                          clear H
                          go_wp2
                          go_meet
                          case rel => exact ⟨_, (false), (by first | rfl | (simp; done) | (simp [*]; done)), H', ⟨by have := HJ12.out; have := HJ35.out; have := HK3.out; first | omega | exact Nat.le_refl _⟩, ⟨kr HO_476004.out⟩, ⟨bk BK465.out⟩, ⟨bk BK475.out⟩, ⟨bel⟩⟩
                      case rest =>
                        clear HC49
                        try clear c1
                        try clear c2
                        try clear p2
                        try clear c3
                        try clear c4
                        try clear p4
                        try clear q4
                        try clear hx4
                        try clear c5
                        try clear c15
                        try clear c28
                        try clear c30
                        try clear c30b0
                        try clear c30b1
                        try clear c32
                        try clear c32b0
                        try clear c32b1
                        try clear c33
                        try clear c33b0
                        try clear c33b1
                        try clear c34
                        try clear c37
                        try clear c37b0
                        try clear c37b1
                        try clear c38
                        try clear c40
                        try clear c42
                        try clear c43
                        try clear c47
                        try clear p47
                        try clear q47
                        try clear hx47
                        try clear c50
                        try clear c50b0
                        try clear hcz29_0 hcz29_1 hcz29_2 hcz29_3 hcz29_4 hcz29_5
                        try clear hcz35_0 hcz35_1 hcz35_2 hcz35_3 hcz35_4 hcz35_5
                        try clear hcz39_0 hcz39_1 hcz39_2 hcz39_3 hcz39_4 hcz39_5
                        try clear hcz41_0 hcz41_1 hcz41_2 hcz41_3 hcz41_4 hcz41_5
                        try clear hcz44_0 hcz44_1 hcz44_2 hcz44_3 hcz44_4 hcz44_5
                        try clear hcz45_0 hcz45_1 hcz45_2 hcz45_3 hcz45_4 hcz45_5
                        try clear hcz48_0 hcz48_1 hcz48_2 hcz48_3 hcz48_4 hcz48_5
                        try clear hfz29_0 hfz29_1 hfz29_2 hfz29_3 hfz29_4 hfz29_5
                        try clear hfz35_0 hfz35_1 hfz35_2 hfz35_3 hfz35_4 hfz35_5
                        try clear hfz39_0 hfz39_1 hfz39_2 hfz39_3 hfz39_4 hfz39_5
                        try clear hfz41_0 hfz41_1 hfz41_2 hfz41_3 hfz41_4 hfz41_5
                        try clear hfz44_0 hfz44_1 hfz44_2 hfz44_3 hfz44_4 hfz44_5
                        try clear hfz45_0 hfz45_1 hfz45_2 hfz45_3 hfz45_4 hfz45_5
                        try clear hfz48_0 hfz48_1 hfz48_2 hfz48_3 hfz48_4 hfz48_5
                        try clear hx473_0
                        try clear p2
                        try clear p4
                        try clear p47
                        try clear p473
                        try clear q4
                        try clear q47
                        try clear q473
                        obtain ⟨kq, x59_48, rfl, HA, HJ48, HO_476004, BK465, BK475, HB⟩ := hcut
                        cases kq with
                        | zero => exact absurd HA.out (by simp [federationlaw7_Make.j3])
                        | succ kj48 =>
                          have H := HA.out
                          clear HA
                          simp only [federationlaw7_Make.j3] at H
                          by_cases c51 : x59_48 = true
                          · subst c51
                            have H1 : (if 0 ≤ x12_3 then (if x12_3 < (l3.length : Int) then ((federationlaw7_within.f (rd l3 x12_3) 1073741824).bind fun t478 => (if 0 ≤ (Int.tmod t478 3) then (if (Int.tmod t478 3) ≤ (wrap64 ((Int.tmod t478 3) + 1)) then (if (wrap64 ((Int.tmod t478 3) + 1)) ≤ 3 then ((federationlaw7_within.f (wrap64 (Int.tdiv t478 3)) (wrap64 ((a4.size : Int) + 1))).bind fun t479 => (if 0 ≤ t479 then (if t479 ≤ (a4.size : Int) then (if ((⟨#[114, 99, 107]⟩ : ByteArray).extract ((Int.tmod t478 3) : Int).toNat ((wrap64 ((Int.tmod t478 3) + 1)) : Int).toNat).size + (a4.extract 0 (t479 : Int).toNat).size ≤ 9223372036854775807 then ((federationlaw7_within.f (wrap64 (Int.tdiv t478 7)) (wrap64 ((a4.size : Int) + 1))).bind fun t480 => (if 0 ≤ t480 then (if t480 ≤ (a4.size : Int) then (if (Int.tmod t478 5) = 0 then (federationlaw7_Make.j4 kj48 l3 a4 x12_3 t466 (rd y469 t472) t474 (t476 == 0) x476004_3 x476005_12 (((⟨#[114, 99, 107]⟩ : ByteArray).extract ((Int.tmod t478 3) : Int).toNat ((wrap64 ((Int.tmod t478 3) + 1)) : Int).toNat) ++ (a4.extract 0 (t479 : Int).toNat)) (⟨#[]⟩ : ByteArray) ((Int.tmod t478 5) == 0)) else (federationlaw7_Make.j4 kj48 l3 a4 x12_3 t466 (rd y469 t472) t474 (t476 == 0) x476004_3 x476005_12 (((⟨#[114, 99, 107]⟩ : ByteArray).extract ((Int.tmod t478 3) : Int).toNat ((wrap64 ((Int.tmod t478 3) + 1)) : Int).toNat) ++ (a4.extract 0 (t479 : Int).toNat)) (a4.extract (t480 : Int).toNat a4.size) ((Int.tmod t478 5) == 0))) else (none)) else (none))) else (none)) else (none)) else (none))) else (none)) else (none)) else (none))) else (none)) else (none)) = some (r1, r2, r3, r4, r5, r6) := by rw [if_pos rfl] at H; exact H
                            clear H
                            have H := H1
                            clear H1
                            by_cases c52 : 0 ≤ x12_3
                            · rw [if_pos c52] at H
                              have c52b0 : decide (0 ≤ x12_3) = true := decide_eq_true c52
                              clear c52
                              by_cases c53 : x12_3 < (l3.length : Int)
                              · rw [if_pos c53] at H
                                have c53b0 : decide (x12_3 < (l3.length : Int)) = true := decide_eq_true c53
                                clear c53
                                replace H := Option.bind_eq_some_iff.mp H
                                obtain ⟨t478, A540, H⟩ := H
                                replace H : (if 0 ≤ (Int.tmod t478 3) then (if (Int.tmod t478 3) ≤ (wrap64 ((Int.tmod t478 3) + 1)) then (if (wrap64 ((Int.tmod t478 3) + 1)) ≤ 3 then ((federationlaw7_within.f (wrap64 (Int.tdiv t478 3)) (wrap64 ((a4.size : Int) + 1))).bind fun t479 => (if 0 ≤ t479 then (if t479 ≤ (a4.size : Int) then (if ((⟨#[114, 99, 107]⟩ : ByteArray).extract ((Int.tmod t478 3) : Int).toNat ((wrap64 ((Int.tmod t478 3) + 1)) : Int).toNat).size + (a4.extract 0 (t479 : Int).toNat).size ≤ 9223372036854775807 then ((federationlaw7_within.f (wrap64 (Int.tdiv t478 7)) (wrap64 ((a4.size : Int) + 1))).bind fun t480 => (if 0 ≤ t480 then (if t480 ≤ (a4.size : Int) then (if (Int.tmod t478 5) = 0 then (federationlaw7_Make.j4 kj48 l3 a4 x12_3 t466 (rd y469 t472) t474 (t476 == 0) x476004_3 x476005_12 (((⟨#[114, 99, 107]⟩ : ByteArray).extract ((Int.tmod t478 3) : Int).toNat ((wrap64 ((Int.tmod t478 3) + 1)) : Int).toNat) ++ (a4.extract 0 (t479 : Int).toNat)) (⟨#[]⟩ : ByteArray) ((Int.tmod t478 5) == 0)) else (federationlaw7_Make.j4 kj48 l3 a4 x12_3 t466 (rd y469 t472) t474 (t476 == 0) x476004_3 x476005_12 (((⟨#[114, 99, 107]⟩ : ByteArray).extract ((Int.tmod t478 3) : Int).toNat ((wrap64 ((Int.tmod t478 3) + 1)) : Int).toNat) ++ (a4.extract 0 (t479 : Int).toNat)) (a4.extract (t480 : Int).toNat a4.size) ((Int.tmod t478 5) == 0))) else (none)) else (none))) else (none)) else (none)) else (none))) else (none)) else (none)) else (none)) = some (r1, r2, r3, r4, r5, r6) := H
                                have A54 := am A540
                                clear A540
                                obtain ⟨ji55, hji55⟩ : ∃ j_ : Int, (Int.tmod t478 3) = j_ := ⟨_, rfl⟩
                                replace H : (if 0 ≤ (ji55) then (if (ji55) ≤ (wrap64 ((ji55) + 1)) then (if (wrap64 ((ji55) + 1)) ≤ 3 then ((federationlaw7_within.f (wrap64 (Int.tdiv t478 3)) (wrap64 ((a4.size : Int) + 1))).bind fun t479 => (if 0 ≤ t479 then (if t479 ≤ (a4.size : Int) then (if ((⟨#[114, 99, 107]⟩ : ByteArray).extract ((ji55) : Int).toNat ((wrap64 ((ji55) + 1)) : Int).toNat).size + (a4.extract 0 (t479 : Int).toNat).size ≤ 9223372036854775807 then ((federationlaw7_within.f (wrap64 (Int.tdiv t478 7)) (wrap64 ((a4.size : Int) + 1))).bind fun t480 => (if 0 ≤ t480 then (if t480 ≤ (a4.size : Int) then (if (Int.tmod t478 5) = 0 then (federationlaw7_Make.j4 kj48 l3 a4 x12_3 t466 (rd y469 t472) t474 (t476 == 0) x476004_3 x476005_12 (((⟨#[114, 99, 107]⟩ : ByteArray).extract ((ji55) : Int).toNat ((wrap64 ((ji55) + 1)) : Int).toNat) ++ (a4.extract 0 (t479 : Int).toNat)) (⟨#[]⟩ : ByteArray) ((Int.tmod t478 5) == 0)) else (federationlaw7_Make.j4 kj48 l3 a4 x12_3 t466 (rd y469 t472) t474 (t476 == 0) x476004_3 x476005_12 (((⟨#[114, 99, 107]⟩ : ByteArray).extract ((ji55) : Int).toNat ((wrap64 ((ji55) + 1)) : Int).toNat) ++ (a4.extract 0 (t479 : Int).toNat)) (a4.extract (t480 : Int).toNat a4.size) ((Int.tmod t478 5) == 0))) else (none)) else (none))) else (none)) else (none)) else (none))) else (none)) else (none)) else (none)) = some (r1, r2, r3, r4, r5, r6) := by first | (rw [hji55] at H; exact H) | (simp only [hji55] at H ⊢; exact H)
                                (try rw [hji55] at A54)
                                by_cases c56 : 0 ≤ (ji55)
                                · rw [if_pos c56] at H
                                  have c56b0 := eq_true c56
                                  have c56b1 : decide (0 ≤ (ji55)) = true := decide_eq_true c56
                                  clear c56
                                  by_cases c57 : (ji55) ≤ (wrap64 ((ji55) + 1))
                                  · rw [if_pos c57] at H
                                    have c57b0 := eq_true c57
                                    have c57b1 : decide ((ji55) ≤ (wrap64 ((ji55) + 1))) = true := decide_eq_true c57
                                    by_cases c58 : (wrap64 ((ji55) + 1)) ≤ 3
                                    · rw [if_pos c58] at H
                                      have c58b0 := eq_true c58
                                      have c58b1 : decide ((wrap64 ((ji55) + 1)) ≤ 3) = true := decide_eq_true c58
                                      replace H := Option.bind_eq_some_iff.mp H
                                      obtain ⟨t479, A590, H⟩ := H
                                      replace H : (if 0 ≤ t479 then (if t479 ≤ (a4.size : Int) then (if ((⟨#[114, 99, 107]⟩ : ByteArray).extract ((ji55) : Int).toNat ((wrap64 ((ji55) + 1)) : Int).toNat).size + (a4.extract 0 (t479 : Int).toNat).size ≤ 9223372036854775807 then ((federationlaw7_within.f (wrap64 (Int.tdiv t478 7)) (wrap64 ((a4.size : Int) + 1))).bind fun t480 => (if 0 ≤ t480 then (if t480 ≤ (a4.size : Int) then (if (Int.tmod t478 5) = 0 then (federationlaw7_Make.j4 kj48 l3 a4 x12_3 t466 (rd y469 t472) t474 (t476 == 0) x476004_3 x476005_12 (((⟨#[114, 99, 107]⟩ : ByteArray).extract ((ji55) : Int).toNat ((wrap64 ((ji55) + 1)) : Int).toNat) ++ (a4.extract 0 (t479 : Int).toNat)) (⟨#[]⟩ : ByteArray) ((Int.tmod t478 5) == 0)) else (federationlaw7_Make.j4 kj48 l3 a4 x12_3 t466 (rd y469 t472) t474 (t476 == 0) x476004_3 x476005_12 (((⟨#[114, 99, 107]⟩ : ByteArray).extract ((ji55) : Int).toNat ((wrap64 ((ji55) + 1)) : Int).toNat) ++ (a4.extract 0 (t479 : Int).toNat)) (a4.extract (t480 : Int).toNat a4.size) ((Int.tmod t478 5) == 0))) else (none)) else (none))) else (none)) else (none)) else (none)) = some (r1, r2, r3, r4, r5, r6) := H
                                      have A59 := am A590
                                      clear A590
                                      by_cases c60 : 0 ≤ t479
                                      · rw [if_pos c60] at H
                                        have c60b0 := eq_true c60
                                        have c60b1 : decide (0 ≤ t479) = true := decide_eq_true c60
                                        clear c60
                                        by_cases c61 : t479 ≤ (a4.size : Int)
                                        · rw [if_pos c61] at H
                                          have c61b0 := eq_true c61
                                          have c61b1 : decide (t479 ≤ (a4.size : Int)) = true := decide_eq_true c61
                                          clear c61
                                          by_cases c62 : ((⟨#[114, 99, 107]⟩ : ByteArray).extract ((ji55) : Int).toNat ((wrap64 ((ji55) + 1)) : Int).toNat).size + (a4.extract 0 (t479 : Int).toNat).size ≤ 9223372036854775807
                                          · rw [if_pos c62] at H
                                            have c62b0 := eq_true c62
                                            have c62b1 : decide (((⟨#[114, 99, 107]⟩ : ByteArray).extract ((ji55) : Int).toNat ((wrap64 ((ji55) + 1)) : Int).toNat).size + (a4.extract 0 (t479 : Int).toNat).size ≤ 9223372036854775807) = true := decide_eq_true c62
                                            try have c62b2 : (9223372036854775807 < ((⟨#[114, 99, 107]⟩ : ByteArray).extract ((ji55) : Int).toNat ((wrap64 ((ji55) + 1)) : Int).toNat).size + (a4.extract 0 (t479 : Int).toNat).size) = False := eq_false (Nat.not_lt.2 c62)
                                            replace H := Option.bind_eq_some_iff.mp H
                                            obtain ⟨t480, A630, H⟩ := H
                                            replace H : (if 0 ≤ t480 then (if t480 ≤ (a4.size : Int) then (if (Int.tmod t478 5) = 0 then (federationlaw7_Make.j4 kj48 l3 a4 x12_3 t466 (rd y469 t472) t474 (t476 == 0) x476004_3 x476005_12 (((⟨#[114, 99, 107]⟩ : ByteArray).extract ((ji55) : Int).toNat ((wrap64 ((ji55) + 1)) : Int).toNat) ++ (a4.extract 0 (t479 : Int).toNat)) (⟨#[]⟩ : ByteArray) ((Int.tmod t478 5) == 0)) else (federationlaw7_Make.j4 kj48 l3 a4 x12_3 t466 (rd y469 t472) t474 (t476 == 0) x476004_3 x476005_12 (((⟨#[114, 99, 107]⟩ : ByteArray).extract ((ji55) : Int).toNat ((wrap64 ((ji55) + 1)) : Int).toNat) ++ (a4.extract 0 (t479 : Int).toNat)) (a4.extract (t480 : Int).toNat a4.size) ((Int.tmod t478 5) == 0))) else (none)) else (none)) = some (r1, r2, r3, r4, r5, r6) := H
                                            have A63 := am A630
                                            clear A630
                                            by_cases c64 : 0 ≤ t480
                                            · rw [if_pos c64] at H
                                              have c64b0 := eq_true c64
                                              have c64b1 : decide (0 ≤ t480) = true := decide_eq_true c64
                                              clear c64
                                              by_cases c65 : t480 ≤ (a4.size : Int)
                                              · rw [if_pos c65] at H
                                                have c65b0 := eq_true c65
                                                have c65b1 : decide (t480 ≤ (a4.size : Int)) = true := decide_eq_true c65
                                                clear c65
                                                have HC66 := am H
                                                clear H
                                                have p477 : 0 ≤ (x12_3 : Int) := of_decide_eq_true (by first | (with_reducible assumption) | assumption)
                                                have q477 : x12_3 < (l3.length : Int) := of_decide_eq_true (by first | (with_reducible assumption) | assumption)
                                                obtain ⟨ad477, e477, hx477_0⟩ := Kd.at_int HR3.out x12_3 p477 q477
                                                cases e477
                                                replace hx477_0 := (HB.out.cell (World.block_lt_of_cell? w _ hx477_0)).trans hx477_0
                                                replace p477 := eq_true p477
                                                replace q477 := eq_true q477
                                                try go_wp2_with (first | ((with_reducible refine gate_callee (f := 15) rfl ?_); refine goesL_ (some 66) rfl rfl Try.func15 (by kernel_rfl) rfl #[.int .i64 (rd l3 x12_3), .int .i64 1073741824] rfl ar ?_; (with_reducible refine (federationlaw7_within.calls (rd l3 x12_3) 1073741824 t478 _ A54.out).mono ?_); rintro e w' ⟨rfl, ⟨nd, rfl⟩⟩; refine ⟨_, rfl, ?_⟩; (try (rw [drewN_self wc]; generalize hq_ : World.drewN wc _ = wc; have n0_ : Aside0 (Kd.R k40 40 wc w.heap.size (fun _ => True) u476004 x476004_3) := ⟨by rw [← hq_]; exact (kr HO_476004.out)⟩; have n1_ : Aside0 (wc.heap[gb465]? = some (.cells #[.int .i64 0, .int .i64 0, .int .i64 0, .bool false, .slice none 0 0, .string (⟨#[]⟩ : ByteArray)] 26 (0, 0))) := ⟨by rw [← hq_]; exact (bk BK465.out)⟩; have n2_ : Aside0 (wc.heap[gb475]? = some (.cells #[.int .i64 t466, .int .i64 (rd y469 t472), .int .i64 t474, .bool (t476 == 0), u476004, .string x476005_12] 26 (0, 0))) := ⟨by rw [← hq_]; exact (bk BK475.out)⟩; have n3_ : Aside0 (Below w.heap.size w wc) := ⟨by rw [← hq_]; exact bel⟩; clear HO_476004 BK465 BK475 HB hq_; have HO_476004 := n0_; have BK465 := n1_; have BK475 := n2_; have HB := n3_; clear n0_ n1_ n2_ n3_))))
                                                have n_ := z4 (Kd.R_drew HO_476004.out) (blk_drew BK465.out) (blk_drew BK475.out) (below_drew1 HB.out)
                                                clear HO_476004 BK465 BK475 HB
                                                obtain ⟨HO_476004, BK465, BK475, HB⟩ := n_
                                                refine Go.RTq.wp_region_tree [0, 1, 0, 4, 12, 31, 0, 0, 128, 0, 512, 1536, 3968, 8128, 16383, 0, 0, 65536, 0, 262144, 786432, 2039680, 4169600, 0, 8388608, 25165824, 67108863, 0, 268435455] (.p 0 (.p 1 (.p 2 (.p 3 (.p 4 (.p 5 (.p 6 (.p 7 (.p 8 (.p 9 (.p 10 (.p 11 (.p 12 (.p 13 (.p 14 (.p 15 (.p 16 (.p 17 (.p 18 (.p 19 (.p 20 (.p 21 (.p 22 (.p 23 (.p 24 (.p 25 (.p 26 (.w 27 [] (.w 28 [] .nil .stop) .stop)))))))))))))))))))))))))))) (by kernel_rfl) (by kernel_rfl) ?_
                                                generalize wc.drew = w67 at HO_476004 BK465 BK475 HB ⊢
                                                have s14_ : (9223372036854775807 < (wrap64 (ji55 + 1)).toNat - ji55.toNat + t479.toNat) = False := lim14 a4 _ _ _ (of_eq_true (by assumption)) (of_eq_true (by assumption)) (of_decide_eq_true (by assumption))
                                                (refine Go.RTq.step_p rfl (fun K hK => ?_); go_simp; (try simp only [i64_w]); refine hK _ ?_; clear hK K)
                                                (refine Go.RTq.step_p rfl (fun K hK => ?_); go_simp; (try simp only [i64_w]); refine hK _ ?_; clear hK K)
                                                (refine Go.RTq.step_p rfl (fun K hK => ?_); go_simp; (try simp only [i64_w]); refine hK _ ?_; clear hK K)
                                                (refine Go.RTq.step_p rfl (fun K hK => ?_); go_simp; (try simp only [i64_w]); refine hK _ ?_; clear hK K)
                                                (refine Go.RTq.step_p rfl (fun K hK => ?_); go_simp; (try simp only [i64_w]); refine hK _ ?_; clear hK K)
                                                (refine Go.RTq.step_p rfl (fun K hK => ?_); go_simp; (try simp only [i64_w]); refine hK _ ?_; clear hK K)
                                                (refine Go.RTq.step_p rfl (fun K hK => ?_); go_simp; (try simp only [i64_w]); refine hK _ ?_; clear hK K)
                                                (refine Go.RTq.step_p rfl (fun K hK => ?_); go_simp; (try simp only [i64_w]); refine hK _ ?_; clear hK K)
                                                (refine Go.RTq.step_p rfl (fun K hK => ?_); go_simp; (try simp only [i64_w]); refine hK _ ?_; clear hK K)
                                                (refine Go.RTq.step_p rfl (fun K hK => ?_); go_simp; (try simp only [i64_w]); refine hK _ ?_; clear hK K)
                                                (refine Go.RTq.step_p rfl (fun K hK => ?_); go_simp; (try simp only [i64_w]); refine hK _ ?_; clear hK K)
                                                (refine Go.RTq.step_p rfl (fun K hK => ?_); go_simp; (try simp only [i64_w]); refine hK _ ?_; clear hK K)
                                                (refine Go.RTq.step_q rfl rfl Try.func15 (by kernel_rfl) rfl #[.int .i64 (wrap64 (Int.tdiv t478 3)), .int .i64 (wrap64 ((a4.size : Int) + 1))] rfl ar (.int .i64 t479) (fun w' => by (try simp only [i64_w]); exact within_still _ _ _ w' A59.out) (a' := ?_) ?_ ?_; rotate_left; · simp only [Act.put, List.setIfInBounds_toArray, List.set_cons_zero, List.set_cons_succ]; rfl)
                                                (refine Go.RTq.step_p rfl (fun K hK => ?_); go_simp; (try simp only [i64_w]); refine hK _ ?_; clear hK K)
                                                (refine Go.RTq.step_p rfl (fun K hK => ?_); go_simp; (try simp only [i64_w]); refine hK _ ?_; clear hK K)
                                                (refine Go.RTq.step_p rfl (fun K hK => ?_); go_simp; (try simp only [i64_w]); refine hK _ ?_; clear hK K)
                                                (refine Go.RTq.step_p rfl (fun K hK => ?_); go_simp; (try simp only [i64_w]); refine hK _ ?_; clear hK K)
                                                (refine Go.RTq.step_p rfl (fun K hK => ?_); go_simp; (try simp only [i64_w]); refine hK _ ?_; clear hK K)
                                                (refine Go.RTq.step_p rfl (fun K hK => ?_); go_simp; (try simp only [i64_w]); refine hK _ ?_; clear hK K)
                                                (refine Go.RTq.step_p rfl (fun K hK => ?_); go_simp; (try simp only [i64_w]); refine hK _ ?_; clear hK K)
                                                (refine Go.RTq.step_p rfl (fun K hK => ?_); go_simp; (try simp only [i64_w]); refine hK _ ?_; clear hK K)
                                                (refine Go.RTq.step_q rfl rfl Try.func15 (by kernel_rfl) rfl #[.int .i64 (wrap64 (Int.tdiv t478 7)), .int .i64 (wrap64 ((a4.size : Int) + 1))] rfl ar (.int .i64 t480) (fun w' => by (try simp only [i64_w]); exact within_still _ _ _ w' A63.out) (a' := ?_) ?_ ?_; rotate_left; · simp only [Act.put, List.setIfInBounds_toArray, List.set_cons_zero, List.set_cons_succ]; rfl)
                                                (refine Go.RTq.step_p rfl (fun K hK => ?_); go_simp; (try simp only [i64_w]); refine hK _ ?_; clear hK K)
                                                (refine Go.RTq.step_p rfl (fun K hK => ?_); go_simp; (try simp only [i64_w]); refine hK _ ?_; clear hK K)
                                                (refine Go.RTq.step_p rfl (fun K hK => ?_); go_simp; (try simp only [i64_w]); refine hK _ ?_; clear hK K)
                                                (refine Go.RTq.step_p rfl (fun K hK => ?_); go_simp; (try simp only [i64_w]); refine hK _ ?_; clear hK K)
                                                (refine Go.RTq.step_p rfl (fun K hK => ?_); go_simp; (try simp only [i64_w]); refine hK _ ?_; clear hK K)
                                                (refine Go.RTq.step_w rfl rfl (fun K hK => ?_) Go.RTq.step_stop)
                                                go_wp2_with ((with_reducible refine gate_dst (N := 14) rfl ?_); refine bx 14 40 (cs := #[.string (⟨#[]⟩ : ByteArray), .string (⟨#[]⟩ : ByteArray), .bool false]) ?_; intro gb481 hg w69 hbox hb; have n0_ : Aside0 (Kd.R k40 40 w69 w.heap.size (fun k_ => k_ ≠ gb481) u476004 x476004_3) := ⟨Kd.R_mono (Kd.R_below (Kd.R_elderB HO_476004.out gb481 (Nat.le_of_eq hg.symm)) hb) (fun _ hk => hk.2)⟩; have n1_ := am (blk_below (g := gb465) (o := .cells #[.int .i64 0, .int .i64 0, .int .i64 0, .bool false, .slice none 0 0, .string (⟨#[]⟩ : ByteArray)] 26 (0, 0)) BK465.out hb); have n2_ := am (blk_below (g := gb475) (o := .cells #[.int .i64 t466, .int .i64 (rd y469 t472), .int .i64 t474, .bool (t476 == 0), u476004, .string x476005_12] 26 (0, 0)) BK475.out hb); have n3_ := am (below_step HB.out hb); have n4_ := am (hbox); have n5_ := am ((by rw [hg]; exact (below_size HB.out) : w.heap.size ≤ gb481)); have n6_ := am ((by rw [hg]; exact (below_size HB.out) : w.heap.size ≤ gb481)); have n7_ := am ((by rw [hg]; exact Nat.ne_of_lt (blk_lt (g := gb465) (o := .cells #[.int .i64 0, .int .i64 0, .int .i64 0, .bool false, .slice none 0 0, .string (⟨#[]⟩ : ByteArray)] 26 (0, 0)) BK465.out) : gb465 ≠ gb481)); have n8_ := am ((by rw [hg]; exact Nat.ne_of_gt (blk_lt (g := gb465) (o := .cells #[.int .i64 0, .int .i64 0, .int .i64 0, .bool false, .slice none 0 0, .string (⟨#[]⟩ : ByteArray)] 26 (0, 0)) BK465.out) : gb481 ≠ gb465)); have n9_ := am ((by rw [hg]; exact Nat.ne_of_lt (blk_lt (g := gb475) (o := .cells #[.int .i64 t466, .int .i64 (rd y469 t472), .int .i64 t474, .bool (t476 == 0), u476004, .string x476005_12] 26 (0, 0)) BK475.out) : gb475 ≠ gb481)); have n10_ := am ((by rw [hg]; exact Nat.ne_of_gt (blk_lt (g := gb475) (o := .cells #[.int .i64 t466, .int .i64 (rd y469 t472), .int .i64 t474, .bool (t476 == 0), u476004, .string x476005_12] 26 (0, 0)) BK475.out) : gb481 ≠ gb475)); clear HO_476004 BK465 BK475 HB; have HO_476004 := n0_; have BK465 := n1_; have BK475 := n2_; have HB := n3_; have BK481 := n4_; have GW481 := n5_; have GE481 := n6_; have NB465_481 := n7_; have NB481_465 := n8_; have NB475_481 := n9_; have NB481_475 := n10_; clear n0_ n1_ n2_ n3_ n4_ n5_ n6_ n7_ n8_ n9_ n10_ hb hbox hg)
                                                refine Go.RTq.QK_normal _ _ _ _ (hK _ _ ?_ ?_) <;> clear hK K
                                                · exact Go.RTq.again_nil
                                                (refine Go.RTq.step_w rfl rfl (fun K hK => ?_) Go.RTq.step_stop)
                                                have hs70 : w69.cell? ⟨gb481, 0, none⟩ = some (.string (⟨#[]⟩ : ByteArray)) := (blk_cell BK481.out 0).trans rfl
                                                have hfs70 := blk_frozen BK481.out 0
                                                have hns70_0 := NB465_481.out
                                                have hns70_1 := NB475_481.out
                                                have hms70_0 := NB481_465.out
                                                have hms70_1 := NB481_475.out
                                                have hs71 : w69.cell? ⟨gb481, 1, none⟩ = some (.string (⟨#[]⟩ : ByteArray)) := (blk_cell BK481.out 1).trans rfl
                                                have hfs71 := blk_frozen BK481.out 1
                                                have hns71_0 := NB465_481.out
                                                have hns71_1 := NB475_481.out
                                                have hms71_0 := NB481_465.out
                                                have hms71_1 := NB481_475.out
                                                have hs72 : w69.cell? ⟨gb481, 2, none⟩ = some (.bool false) := (blk_cell BK481.out 2).trans rfl
                                                have hfs72 := blk_frozen BK481.out 2
                                                have hns72_0 := NB465_481.out
                                                have hns72_1 := NB475_481.out
                                                have hms72_0 := NB481_465.out
                                                have hms72_1 := NB481_475.out
                                                go_wp2
                                                refine Go.RTq.QK_normal _ _ _ _ (hK _ _ ?_ ?_) <;> clear hK K
                                                · exact Go.RTq.again_nil
                                                refine Go.RTq.step_nil ?_
                                                have hnb73 := NB481_465.out
                                                have hnc73 := NB465_481.out
                                                have hnb74 := NB481_475.out
                                                have hnc74 := NB475_481.out
                                                obtain ⟨hcz75_0, hcz75_1, hcz75_2⟩ := cells3 BK481.out
                                                obtain ⟨hfz75_0, hfz75_1, hfz75_2⟩ := froz3 BK481.out
                                                go_upto_if 95 with (fail)
                                                go_cut [] (fun wc => ∃ (kq : Nat) (x482001_65 : ByteArray), Aside0 (federationlaw7_Make.j4 kq l3 a4 x12_3 t466 (rd y469 t472) t474 (t476 == 0) x476004_3 x476005_12 (((⟨#[114, 99, 107]⟩ : ByteArray).extract ((ji55) : Int).toNat ((wrap64 ((ji55) + 1)) : Int).toNat) ++ (a4.extract 0 (t479 : Int).toNat)) x482001_65 ((Int.tmod t478 5) == 0) = some (r1, r2, r3, r4, r5, r6)) ∧ Aside0 (kq ≤ kj48) ∧ Aside0 (Kd.R k40 40 wc w.heap.size (fun k_ => k_ ≠ gb481) u476004 x476004_3) ∧ Aside0 (wc.heap[gb465]? = some (.cells #[.int .i64 0, .int .i64 0, .int .i64 0, .bool false, (.slice none 0 0), .string (⟨#[]⟩ : ByteArray)] 26 (0, 0))) ∧ Aside0 (wc.heap[gb475]? = some (.cells #[.int .i64 t466, .int .i64 (rd y469 t472), .int .i64 t474, .bool (t476 == 0), u476004, .string x476005_12] 26 (0, 0))) ∧ Aside0 (wc.heap[gb481]? = some (.cells #[.string (((⟨#[114, 99, 107]⟩ : ByteArray).extract ((ji55) : Int).toNat ((wrap64 ((ji55) + 1)) : Int).toNat) ++ (a4.extract 0 (t479 : Int).toNat)), .string x482001_65, .bool ((Int.tmod t478 5) == 0)] 40 (0, 0))) ∧ Aside0 (Below w.heap.size w wc))
                                                case first =>
                                                  have H := HC66.out
                                                  clear HC66
                                                  by_cases c76 : (Int.tmod t478 5) = 0
                                                  · rw [if_pos c76] at H
                                                    have c76b0 : ((Int.tmod t478 5) == 0) = true := beq_iff_eq.mpr c76
                                                    have c76b1 : ((Int.tmod t478 5) != 0) = false := bne_eq_false_iff_eq.mpr c76
                                                    clear c76
                                                    (first | rw [c76b0] | (simp only [i64_w, i32_w]; rw [c76b0]) | skip)
                                                    have H' := am H
                                                    clear H
                                                    have hnb77 := NB481_465.out
                                                    have hnc77 := NB465_481.out
                                                    have hnb78 := NB481_475.out
                                                    have hnc78 := NB475_481.out
                                                    obtain ⟨hcz79_0, hcz79_1, hcz79_2⟩ := cells3 BK481.out
                                                    obtain ⟨hfz79_0, hfz79_1, hfz79_2⟩ := froz3 BK481.out
                                                    go_wp2
                                                    go_meet
                                                    case rel => rw [c76b0]; rw [c76b0] at H'; exact ⟨_, ((⟨#[]⟩ : ByteArray)), H', ⟨by have := HJ12.out; have := HJ35.out; have := HK3.out; have := HJ48.out; first | omega | exact Nat.le_refl _⟩, ⟨by (with_reducible repeat (first | apply Kd.R_alloc | apply Kd.R_drewN | apply Kd.R_drew)); exact Kd.R_mono (Kd.R_far (p := ⟨gb481, 1, none⟩) (Kd.R_far (p := ⟨gb481, 2, none⟩) (Kd.R_far (p := ⟨gb481, 1, none⟩) (Kd.R_far (p := ⟨gb481, 0, none⟩) (Kd.R_mono HO_476004.out (fun k_ hk => (⟨hk, hk⟩ : _ ∧ k_ ≠ gb481))) (fun _ hk => hk.2) (.string (((⟨#[114, 99, 107]⟩ : ByteArray).extract ((ji55) : Int).toNat ((wrap64 ((ji55) + 1)) : Int).toNat) ++ (a4.extract 0 (t479 : Int).toNat)))) (fun _ hk => hk.2) (.string (a4.extract (t480 : Int).toNat a4.size))) (fun _ hk => hk.2) (.bool true)) (fun _ hk => hk.2) (.string (⟨#[]⟩ : ByteArray))) (fun _ hk => hk.1)⟩, ⟨bk BK465.out⟩, ⟨bk BK475.out⟩, ⟨bp BK481.out⟩, ⟨bel⟩⟩
                                                  · rw [if_neg c76] at H
                                                    have c76b0 : ((Int.tmod t478 5) == 0) = false := beq_eq_false_iff_ne.mpr c76
                                                    have c76b1 : ((Int.tmod t478 5) != 0) = true := bne_iff_ne.mpr c76
                                                    (first | rw [c76b0] | (simp only [i64_w, i32_w]; rw [c76b0]) | skip)
                                                    have H' := am H
                                                    clear H
                                                    go_wp2
                                                    go_meet
                                                    case rel => rw [c76b0]; rw [c76b0] at H'; exact ⟨_, (a4.extract (t480 : Int).toNat a4.size), H', ⟨by have := HJ12.out; have := HJ35.out; have := HK3.out; have := HJ48.out; first | omega | exact Nat.le_refl _⟩, ⟨by (with_reducible repeat (first | apply Kd.R_alloc | apply Kd.R_drewN | apply Kd.R_drew)); exact Kd.R_mono (Kd.R_far (p := ⟨gb481, 2, none⟩) (Kd.R_far (p := ⟨gb481, 1, none⟩) (Kd.R_far (p := ⟨gb481, 0, none⟩) (Kd.R_mono HO_476004.out (fun k_ hk => (⟨hk, hk⟩ : _ ∧ k_ ≠ gb481))) (fun _ hk => hk.2) (.string (((⟨#[114, 99, 107]⟩ : ByteArray).extract ((ji55) : Int).toNat ((wrap64 ((ji55) + 1)) : Int).toNat) ++ (a4.extract 0 (t479 : Int).toNat)))) (fun _ hk => hk.2) (.string (a4.extract (t480 : Int).toNat a4.size))) (fun _ hk => hk.2) (.bool false)) (fun _ hk => hk.1)⟩, ⟨bk BK465.out⟩, ⟨bk BK475.out⟩, ⟨bp BK481.out⟩, ⟨bel⟩⟩
                                                case rest =>
                                                  clear HC66
                                                  try clear c1
                                                  try clear p2
                                                  try clear p4
                                                  try clear q4
                                                  try clear hx4
                                                  try clear c5
                                                  try clear c6
                                                  try clear p6
                                                  try clear c7
                                                  try clear c15
                                                  try clear p47
                                                  try clear q47
                                                  try clear hx47
                                                  try clear c58
                                                  try clear c58b0
                                                  try clear c58b1
                                                  try clear c60
                                                  try clear c60b0
                                                  try clear c60b1
                                                  try clear c61
                                                  try clear c61b0
                                                  try clear c61b1
                                                  try clear c62
                                                  try clear c62b0
                                                  try clear c62b1
                                                  try clear c62b2
                                                  try clear c64
                                                  try clear c64b0
                                                  try clear c64b1
                                                  try clear p64
                                                  try clear c65
                                                  try clear c65b0
                                                  try clear c65b1
                                                  try clear c73
                                                  try clear c74
                                                  try clear c76
                                                  try clear c76b0
                                                  try clear c76b1
                                                  try clear c77
                                                  try clear c78
                                                  try clear hcz75_0 hcz75_1 hcz75_2
                                                  try clear hcz79_0 hcz79_1 hcz79_2
                                                  try clear hfz75_0 hfz75_1 hfz75_2
                                                  try clear hfz79_0 hfz79_1 hfz79_2
                                                  try clear hx477_0
                                                  try clear p477
                                                  try clear q477
                                                  obtain ⟨kq, x482001_65, HA, HJ65, HO_476004, BK465, BK475, BK481, HB⟩ := hcut
                                                  cases kq with
                                                  | zero => exact absurd HA.out (by simp [federationlaw7_Make.j4])
                                                  | succ kj65 =>
                                                    have H := HA.out
                                                    clear HA
                                                    simp only [federationlaw7_Make.j4] at H
                                                    by_cases c80 : x476004_3.length < 3518437208883
                                                    · rw [if_pos c80] at H
                                                      have LMc80 := am c80
                                                      clear c80
                                                      obtain ⟨y482, hy482⟩ : ∃ y_ : List (S40), y_ = (x476004_3 ++ [(⟨(((⟨#[114, 99, 107]⟩ : ByteArray).extract ((ji55) : Int).toNat ((wrap64 ((ji55) + 1)) : Int).toNat) ++ (a4.extract 0 (t479 : Int).toNat)), x482001_65, ((Int.tmod t478 5) == 0)⟩ : S40)]) := ⟨_, rfl⟩
                                                      replace H : (federationlaw7_Make.l0 kj65 l3 a4 (wrap64 (x12_3 + 1)) t466 (rd y469 t472) t474 (t476 == 0) y482 x476005_12) = some (r1, r2, r3, r4, r5, r6) := by first | (rw [hy482]; with_reducible exact H) | (have H2_ := (Option.bind_some _ _).symm.trans H; rw [hy482]; with_reducible exact H2_) | (have H2_ := (Option.bind_some _ _).symm.trans H; with_reducible exact H2_) | with_reducible exact H | (rw [hy482]; exact H) | exact H
                                                      have Ny482 := am hy482
                                                      clear hy482
                                                      have H' := am H
                                                      clear H
                                                      have hnb81 := NB475_465.out
                                                      have hnc81 := NB465_475.out
                                                      have hnb82 := NB475_481.out
                                                      have hnc82 := NB481_475.out
                                                      obtain ⟨hcz83_0, hcz83_1, hcz83_2, hcz83_3, hcz83_4, hcz83_5⟩ := cells6 BK475.out
                                                      obtain ⟨hfz83_0, hfz83_1, hfz83_2, hfz83_3, hfz83_4, hfz83_5⟩ := froz6 BK475.out
                                                      have hnb84 := NB481_465.out
                                                      have hnc84 := NB465_481.out
                                                      obtain ⟨hcz85_0, hcz85_1, hcz85_2⟩ := cells3 BK481.out
                                                      obtain ⟨hfz85_0, hfz85_1, hfz85_2⟩ := froz3 BK481.out
                                                      go_wp2_with (first | ((with_reducible refine gate_builtin (b := .append) (xs := #[.tmp 98, .tmp 100]) rfl ?_); at_builtin; refine Kd.R_append k40 (w0 := w) w.heap.size rfl (.tmp 98) (.tmp 100) 24 40 (.agg #[(.string ⟨#[]⟩), (.string ⟨#[]⟩), (.bool false)]) 40 rfl Try.underlying24 info40 rfl (by decide) (by omega) u476004 x476004_3 (⟨(((⟨#[114, 99, 107]⟩ : ByteArray).extract ((ji55) : Int).toNat ((wrap64 ((ji55) + 1)) : Int).toNat) ++ (a4.extract 0 (t479 : Int).toNat)), x482001_65, ((Int.tmod t478 5) == 0)⟩ : S40) [.string (((⟨#[114, 99, 107]⟩ : ByteArray).extract ((ji55) : Int).toNat ((wrap64 ((ji55) + 1)) : Int).toNat) ++ (a4.extract 0 (t479 : Int).toNat)), .string x482001_65, .bool ((Int.tmod t478 5) == 0)] (fun k_ => k_ ≠ gb481) (fun _ => False) rfl rfl ?aP (fun _ hk => hk.elim) ?aF ?aO ?aB ?aS ?aL ?_; (case aP => exact k40_mkM _ _ _ (⟨(((⟨#[114, 99, 107]⟩ : ByteArray).extract ((ji55) : Int).toNat ((wrap64 ((ji55) + 1)) : Int).toNat) ++ (a4.extract 0 (t479 : Int).toNat)), x482001_65, ((Int.tmod t478 5) == 0)⟩ : S40)); (case aB => exact bel); (case aF => exact (fun k_ hk => Kd.freshB (bk BK481.out) k_ hk)); (case aO => exact (kr HO_476004.out)); (case aS => exact (below_size bel)); (case aL => have := LMc80.out; omega); intro v483 w86 ho hb hg hat; rw [← Ny482.out] at ho; have n_ := z5 (blk_grown (bk BK465.out) hg (Kd.R_ne HO_476004.out BK465.out (by decide))) (blk_grown (bk BK475.out) hg (Kd.R_ne HO_476004.out BK475.out (by decide))) (blk_grown (bk BK481.out) hg (Kd.R_away HO_476004.out (fun _ hk => hk))) (hb) (ho); clear BK465 BK475 BK481 HB HO_476004; obtain ⟨BK465, BK475, BK481, HB, HO484⟩ := n_; clear ho hb hg hat; obtain ⟨Ao87, co87, eo87⟩ := Kd.R_slice HO484.out; subst eo87; obtain ⟨hcz88_0, hcz88_1, hcz88_2, hcz88_3, hcz88_4, hcz88_5⟩ := cells6 BK475.out; obtain ⟨hfz88_0, hfz88_1, hfz88_2, hfz88_3, hfz88_4, hfz88_5⟩ := froz6 BK475.out))
                                                      go_roundg kj65
                                                      case measure => have := HJ12.out; have := HJ35.out; have := HK3.out; have := HJ48.out; have := HJ65.out; omega
                                                      case rel => exact ⟨(wrap64 (x12_3 + 1)), (y482), (.slice Ao87 y482.length co87), (by first | rfl | (simp; done) | (simp [*]; done)), H', ⟨by have := HJ12.out; have := HJ35.out; have := HK3.out; have := HJ48.out; have := HJ65.out; omega⟩, ⟨by (with_reducible repeat (first | apply Kd.R_alloc | apply Kd.R_drewN | apply Kd.R_drew)); exact Kd.R_mono (Kd.R_far (p := ⟨gb475, 4, none⟩) (Kd.R_types HO484.out BK475.out (by decide)) (fun _ hk => hk.2) (.slice Ao87 y482.length co87)) (fun _ hk => trivial)⟩, ⟨bk BK465.out⟩, ⟨bp BK475.out⟩, ⟨bel⟩⟩
                                                    · rw [if_neg c80] at H
                                                      exact absurd H (by simp)
                                              · rw [if_neg c65] at H
                                                exact absurd H (by simp)
                                            · rw [if_neg c64] at H
                                              exact absurd H (by simp)
                                          · rw [if_neg c62] at H
                                            exact absurd H (by simp)
                                        · rw [if_neg c61] at H
                                          exact absurd H (by simp)
                                      · rw [if_neg c60] at H
                                        exact absurd H (by simp)
                                    · rw [if_neg c58] at H
                                      exact absurd H (by simp)
                                  · rw [if_neg c57] at H
                                    exact absurd H (by simp)
                                · rw [if_neg c56] at H
                                  exact absurd H (by simp)
                              · rw [if_neg c53] at H
                                exact absurd H (by simp)
                            · rw [if_neg c52] at H
                              exact absurd H (by simp)
                          · replace c51 := Bool.eq_false_iff.mpr c51
                            subst c51
                            have H1 : (some (t466, (rd y469 t472), t474, (t476 == 0), x476004_3, x476005_12)) = some (r1, r2, r3, r4, r5, r6) := by rw [if_neg (show ¬ (false = true) by decide)] at H; exact H
                            clear H
                            have H := H1
                            clear H1
                            simp only [Option.some.injEq, Prod.mk.injEq] at H
                            obtain ⟨rfl, rfl, rfl, rfl, rfl, rfl⟩ := H
                            have hnb89 := NB475_465.out
                            have hnc89 := NB465_475.out
                            obtain ⟨hcz90_0, hcz90_1, hcz90_2, hcz90_3, hcz90_4, hcz90_5⟩ := cells6 BK475.out
                            obtain ⟨hfz90_0, hfz90_1, hfz90_2, hfz90_3, hfz90_4, hfz90_5⟩ := froz6 BK475.out
                            obtain ⟨hcz91_0, hcz91_1, hcz91_2, hcz91_3, hcz91_4, hcz91_5⟩ := cells6 BK465.out
                            obtain ⟨hfz91_0, hfz91_1, hfz91_2, hfz91_3, hfz91_4, hfz91_5⟩ := froz6 BK465.out
                            obtain ⟨Ao92, co92, eo92⟩ := Kd.R_slice HO_476004.out
                            subst eo92
                            go_wp2
                            refine bodyPost_ret (results_cell_row rfl _ _ gb465 26 #[.int .i64 t466, .int .i64 (rd y469 t472), .int .i64 t474, .bool (t476 == 0), .slice Ao92 x476004_3.length co92, .string x476005_12] (0, 0) _ rfl (bp BK465.out) Try.underlying26 rfl (by kernel_rfl)) rfl ?_
                            exact ⟨_, er, by (with_reducible repeat (first | apply Kd.R_alloc | apply Kd.R_drewN | apply Kd.R_drew)); exact Kd.R_mono (Kd.R_far (p := ⟨gb465, 5, none⟩) (Kd.R_far (p := ⟨gb465, 4, none⟩) (Kd.R_far (p := ⟨gb465, 3, none⟩) (Kd.R_far (p := ⟨gb465, 2, none⟩) (Kd.R_far (p := ⟨gb465, 1, none⟩) (Kd.R_far (p := ⟨gb465, 0, none⟩) (Kd.R_types HO_476004.out BK465.out (by decide)) (fun _ hk => hk.2) (.int .i64 t466)) (fun _ hk => hk.2) (.int .i64 (rd y469 t472))) (fun _ hk => hk.2) (.int .i64 t474)) (fun _ hk => hk.2) (.bool (t476 == 0))) (fun _ hk => hk.2) (.slice Ao92 x476004_3.length co92)) (fun _ hk => hk.2) (.string x476005_12)) (fun _ hk => trivial), bel⟩
      clear hK_
      refine Go.RTq.wp_region_tree [0, 1, 0, 7, 0, 31, 63, 0, 128, 447, 1023, 2047, 0, 5055, 16383, 0, 65535] (.p 0 (.p 1 (.p 2 (.p 3 (.p 4 (.p 5 (.p 7 (.p 8 (.p 9 (.p 12 (.p 13 (.w 6 [] (.p 10 (.s 11 (.p 14 (.w 15 [11] (.w 16 [] .nil .stop) .stop)))) (.w 15 [] (.w 6 [] (.p 10 (.s 11 (.p 14 (.w 16 [] .nil .stop)))) .stop) .stop))))))))))))) (by kernel_rfl) (by kernel_rfl) ?_
      have n_ := z2 (blk_drew BK465.out) (below_drew1 HB.out)
      clear BK465 HB
      obtain ⟨BK465, HB⟩ := n_
      generalize w14.drew = w15_ at BK465 HB ⊢
      (refine Go.RTq.step_p rfl (fun K hK => ?_); go_simp; refine hK _ ?_; clear hK K)
      (refine Go.RTq.step_q rfl rfl Try.func15 (by kernel_rfl) rfl #[.int .i64 a0, .int .i64 6] rfl ar (.int .i64 t466) (fun w' => by (try simp only [i64_w]); exact within_still _ _ _ w' A6.out) (a' := ?_) ?_ ?_; rotate_left; · simp only [Act.put, List.setIfInBounds_toArray, List.set_cons_zero, List.set_cons_succ]; rfl)
      (refine Go.RTq.step_p rfl (fun K hK => ?_); go_simp; refine hK _ ?_; clear hK K)
      (refine Go.RTq.step_q rfl rfl Try.func15 (by kernel_rfl) rfl #[.int .i64 a1, .int .i64 200] rfl ar (.int .i64 t467) (fun w' => by (try simp only [i64_w]); exact within_still _ _ _ w' A7.out) (a' := ?_) ?_ ?_; rotate_left; · simp only [Act.put, List.setIfInBounds_toArray, List.set_cons_zero, List.set_cons_succ]; rfl)
      (refine Go.RTq.step_p rfl (fun K hK => ?_); go_simp; refine hK _ ?_; clear hK K)
      (refine Go.RTq.step_q rfl rfl Try.func15 (by kernel_rfl) rfl #[.int .i64 a1, .int .i64 1099511627776] rfl ar (.int .i64 t468) (fun w' => by (try simp only [i64_w]); exact within_still _ _ _ w' A8.out) (a' := ?_) ?_ ?_; rotate_left; · simp only [Act.put, List.setIfInBounds_toArray, List.set_cons_zero, List.set_cons_succ]; rfl)
      (refine Go.RTq.step_p rfl (fun K hK => ?_); go_simp; refine hK _ ?_; clear hK K)
      (refine Go.RTq.step_p rfl (fun K hK => ?_); go_simp; refine hK _ ?_; clear hK K)
      (refine Go.RTq.step_q rfl rfl Try.func15 (by kernel_rfl) rfl #[.int .i64 (IntKind.i64.wrap (Int.tdiv a0 6)), .int .i64 3] rfl ar (.int .i64 t472) (fun w' => by (try simp only [i64_w]); exact within_still _ _ _ w' A9.out) (a' := ?_) ?_ ?_; rotate_left; · simp only [Act.put, List.setIfInBounds_toArray, List.set_cons_zero, List.set_cons_succ]; rfl)
      (refine Go.RTq.step_p rfl (fun K hK => ?_); go_simp; refine hK _ ?_; clear hK K)
      (refine Go.RTq.step_q rfl rfl Try.func15 (by kernel_rfl) rfl #[.int .i64 a2, .int .i64 1073741824] rfl ar (.int .i64 t474) (fun w' => by (try simp only [i64_w]); exact within_still _ _ _ w' A12.out) (a' := ?_) ?_ ?_; rotate_left; · simp only [Act.put, List.setIfInBounds_toArray, List.set_cons_zero, List.set_cons_succ]; rfl)
      (refine Go.RTq.step_w rfl rfl (fun K hK => ?_) ?_)
      · go_wp2_with ((with_reducible refine gate_dst (N := 21) rfl ?_); refine Kd.R_lit (Kd.int .i64) _ 3 ?hg (N := 21) ?hd (xs := ([t467, t468, 9223372036854775807] : List Int)) (inner := [.int .i64 t467, .int .i64 t468, .int .i64 9223372036854775807]) (ok := fun _ => True) (okp := fun _ => True) ?hr ?hp (fun _ hk => hk) trivial (Below.refl _ _) (Nat.le_refl _) (by simp) ?_; (case hd => rfl); (case hg => rfl); (case hr => first | (go_simp; done) | (go_simp; rfl)); (case hp => exact (Reps.one (show Kd.M (Kd.int .i64) _ _ _ t467 [.int .i64 t467] from rfl) (Reps.one (show Kd.M (Kd.int .i64) _ _ _ t468 [.int .i64 t468] from rfl) (Reps.one (show Kd.M (Kd.int .i64) _ _ _ 9223372036854775807 [.int .i64 9223372036854775807] from rfl) (Reps.none _ _))))); intro vl_ w17_ ho_ hb hg_ hnew_; clear hg_ hnew_; rw [← Ny469.out] at ho_; obtain ⟨Al_, cl_, el_, _, hC_⟩ := Kd.R_reads ho_; subst el_; obtain ⟨ad_, ea_, hx_⟩ := Kd.at_int hC_ t472 (of_eq_true pi473) (of_eq_true qi473); subst ea_; have HX_ := am hx_; clear hx_ hC_ ho_; have n_ := z2 (blk_below BK465.out hb) (below_step HB.out hb); clear BK465 HB; obtain ⟨BK465, HB⟩ := n_; clear hb)
        refine Go.RTq.QK_normal _ _ _ _ (hK _ _ ?_ ?_) <;> clear hK K
        · exact Go.RTq.again_nil
        (refine Go.RTq.step_p rfl (fun K hK => ?_); go_simp; refine hK _ ?_; clear hK K)
        (have hx_ := HX_.out; refine Go.RTq.step_s rfl (fun K hK => ?_); go_simp; refine hK _ ?_; clear hK K hx_)
        (refine Go.RTq.step_p rfl (fun K hK => ?_); go_simp; refine hK _ ?_; clear hK K)
        (refine Go.RTq.step_w rfl rfl (fun K hK => ?_) Go.RTq.step_stop)
        go_wp2_with ((with_reducible refine gate_dst (N := 11) rfl ?_); refine bx 11 26 (cs := #[.int .i64 0, .int .i64 0, .int .i64 0, .bool false, .slice none 0 0, .string (⟨#[]⟩ : ByteArray)]) ?_; intro gb475 hg w16_ hbox hb; have n0_ := am (blk_below BK465.out hb); have n1_ := am (below_step HB.out hb); have BK475 := am hbox; have GW475 := am ((by rw [hg]; exact (below_size HB.out)) : w.heap.size ≤ gb475); have GE475 := am ((by rw [hg]; exact (below_size HB.out)) : w.heap.size ≤ gb475); have NB465_475 := am ((by rw [hg]; exact Nat.ne_of_lt (blk_lt BK465.out)) : gb465 ≠ gb475); have NB475_465 := am ((by rw [hg]; exact Nat.ne_of_gt (blk_lt BK465.out)) : gb475 ≠ gb465); have n2_ := am (pw_cell_below hb HX_.out); clear HX_; have HX_ := n2_; clear n2_ BK465 HB hb hbox hg; have BK465 := n0_; have HB := n1_; clear n0_ n1_)
        refine Go.RTq.QK_normal _ _ _ _ (hK _ _ ?_ ?_) <;> clear hK K
        · refine Go.RTq.again_one rfl ?_ ?_
          · have hx_ := HX_.out
            go_simp
            try rfl
          exact Go.RTq.again_nil
        (refine Go.RTq.step_w rfl rfl (fun K hK => ?_) Go.RTq.step_stop)
        obtain ⟨hs0_, hs1_, hs2_, hs3_, hs4_, hs5_⟩ := cells6 BK475.out
        obtain ⟨hf0_, hf1_, hf2_, hf3_, hf4_, hf5_⟩ := froz6 BK475.out
        go_wp2
        refine Go.RTq.QK_normal _ _ _ _ (hK _ _ ?_ ?_) <;> clear hK K
        · exact Go.RTq.again_nil
        refine Go.RTq.step_nil ?_
        exact hCont_ _ _ _ _ _ _ _ _ _ _ _ _ _ _ _ _ _ BK465 BK475 GW475 GE475 NB465_475 NB475_465 HB
      · (refine Go.RTq.step_w rfl rfl (fun K hK => ?_) Go.RTq.step_stop)
        go_wp2_with ((with_reducible refine gate_dst (N := 11) rfl ?_); refine bx 11 26 (cs := #[.int .i64 0, .int .i64 0, .int .i64 0, .bool false, .slice none 0 0, .string (⟨#[]⟩ : ByteArray)]) ?_; intro gb475 hg w16_ hbox hb; have n0_ := am (blk_below BK465.out hb); have n1_ := am (below_step HB.out hb); have BK475 := am hbox; have GW475 := am ((by rw [hg]; exact (below_size HB.out)) : w.heap.size ≤ gb475); have GE475 := am ((by rw [hg]; exact (below_size HB.out)) : w.heap.size ≤ gb475); have NB465_475 := am ((by rw [hg]; exact Nat.ne_of_lt (blk_lt BK465.out)) : gb465 ≠ gb475); have NB475_465 := am ((by rw [hg]; exact Nat.ne_of_gt (blk_lt BK465.out)) : gb475 ≠ gb465); clear BK465 HB hb hbox hg; have BK465 := n0_; have HB := n1_; clear n0_ n1_)
        refine Go.RTq.QK_normal _ _ _ _ (hK _ _ ?_ ?_) <;> clear hK K
        · exact Go.RTq.again_nil
        (refine Go.RTq.step_w rfl rfl (fun K hK => ?_) Go.RTq.step_stop)
        go_wp2_with ((with_reducible refine gate_dst (N := 21) rfl ?_); refine Kd.R_lit (Kd.int .i64) _ 3 ?hg (N := 21) ?hd (xs := ([t467, t468, 9223372036854775807] : List Int)) (inner := [.int .i64 t467, .int .i64 t468, .int .i64 9223372036854775807]) (ok := fun _ => True) (okp := fun _ => True) ?hr ?hp (fun _ hk => hk) trivial (Below.refl _ _) (Nat.le_refl _) (by simp) ?_; (case hd => rfl); (case hg => rfl); (case hr => first | (go_simp; done) | (go_simp; rfl)); (case hp => exact (Reps.one (show Kd.M (Kd.int .i64) _ _ _ t467 [.int .i64 t467] from rfl) (Reps.one (show Kd.M (Kd.int .i64) _ _ _ t468 [.int .i64 t468] from rfl) (Reps.one (show Kd.M (Kd.int .i64) _ _ _ 9223372036854775807 [.int .i64 9223372036854775807] from rfl) (Reps.none _ _))))); intro vl_ w17_ ho_ hb hg_ hnew_; clear hg_ hnew_; rw [← Ny469.out] at ho_; obtain ⟨Al_, cl_, el_, _, hC_⟩ := Kd.R_reads ho_; subst el_; obtain ⟨ad_, ea_, hx_⟩ := Kd.at_int hC_ t472 (of_eq_true pi473) (of_eq_true qi473); subst ea_; have HX_ := am hx_; clear hx_ hC_ ho_; have n0_ := am (blk_below BK465.out hb); have n1_ := am (below_step HB.out hb); have n2_ := am (blk_below BK475.out hb); clear BK475; have BK475 := n2_; clear n2_ BK465 HB; have BK465 := n0_; have HB := n1_; clear n0_ n1_ hb)
        refine Go.RTq.QK_normal _ _ _ _ (hK _ _ ?_ ?_) <;> clear hK K
        · exact Go.RTq.again_nil
        (refine Go.RTq.step_p rfl (fun K hK => ?_); go_simp; refine hK _ ?_; clear hK K)
        (have hx_ := HX_.out; refine Go.RTq.step_s rfl (fun K hK => ?_); go_simp; refine hK _ ?_; clear hK K hx_)
        (refine Go.RTq.step_p rfl (fun K hK => ?_); go_simp; refine hK _ ?_; clear hK K)
        (refine Go.RTq.step_w rfl rfl (fun K hK => ?_) Go.RTq.step_stop)
        obtain ⟨hs0_, hs1_, hs2_, hs3_, hs4_, hs5_⟩ := cells6 BK475.out
        obtain ⟨hf0_, hf1_, hf2_, hf3_, hf4_, hf5_⟩ := froz6 BK475.out
        go_wp2
        refine Go.RTq.QK_normal _ _ _ _ (hK _ _ ?_ ?_) <;> clear hK K
        · exact Go.RTq.again_nil
        refine Go.RTq.step_nil ?_
        exact hCont_ _ _ _ _ _ _ _ _ _ _ _ _ _ _ _ _ _ BK465 BK475 GW475 GE475 NB465_475 NB475_465 HB
    · rw [if_neg c11] at H
      exact absurd H (by simp)
  · rw [if_neg c10] at H
    exact absurd H (by simp)
end Go.Proofs.Ytagjmphkfeiiiaa.Q
