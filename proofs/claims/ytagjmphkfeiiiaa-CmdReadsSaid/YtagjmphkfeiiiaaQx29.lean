/- One function's walk, or a law's, by the text that a program of this session prints; what each theorem says stands in it. -/
import Derived.Test.YtagjmphkfeiiiaaQx0
import Derived.Test.YtagjmphkfeiiiaaQx8
import Derived.Test.YtagjmphkfeiiiaaQx9
import Derived.Test.YtagjmphkfeiiiaaQx10
import Derived.Test.YtagjmphkfeiiiaaQx13
import Derived.Test.YtagjmphkfeiiiaaQx25
import Derived.Test.YtagjmphkfeiiiaaQx28
import Derived.Test.YtagjmphkfeiiiaaXc
import Derived.Test.YtagjmphkfeiiiaaXs
namespace Go.Proofs.Ytagjmphkfeiiiaa.Q
open Go.RowKit Go.Proofs.YtagjmphkfeiiiaaW.PrintWords Go.Proofs.YtagjmphkfeiiiaaW.PrintLast Go.Proofs.YtagjmphkfeiiiaaW.PrintMore
attribute [local go_sem] min2_int min_two
set_option linter.unusedVariables false
set_option linter.unusedSimpArgs false
mutual
def federationlaw7_CmdReads.j0 : Nat → Int → Int → Int → List Int → ByteArray → Int → List Int → List Int → Int → ByteArray → ByteArray → Bool → Option (Bool)
  | 0, _, _, _, _, _, _, _, _, _, _, _, _ => none
  | k + 1, x0, x1, x2, x3, x4, x5, x6, x7, x8, x9, x10, x54 => if x54 = true then (some true) else ((federationlaw7_Make.f k x0 x1 x2 x3 x4).bind fun bt911 => ((federationlaw7_within.f x5 2).bind fun t919 => ((federationref7_Encode.f k bt911.1 bt911.2.1 bt911.2.2.1 bt911.2.2.2.1 bt911.2.2.2.2.1 bt911.2.2.2.2.2 (wrap64 (1 + t919))).bind fun bt920 => (if bt920.2 = true then (federationlaw7_CmdReads.j1 k x6 x7 x8 x9 x10 bt920.1) else ((federationlaw7_Make.f k x0 x1 x2 x3 x4).bind fun bt922 => ((federationref7_Encode.f k bt922.1 bt922.2.1 bt922.2.2.1 bt922.2.2.2.1 bt922.2.2.2.2.1 bt922.2.2.2.2.2 2).bind fun bt930 => (federationlaw7_CmdReads.j1 k x6 x7 x8 x9 x10 bt930.1)))))))
def federationlaw7_CmdReads.j1 : Nat → List Int → List Int → Int → ByteArray → ByteArray → ByteArray → Option (Bool)
  | 0, _, _, _, _, _, _ => none
  | k + 1, x6, x7, x8, x9, x10, x23 => (own_made.f x23).bind fun t932 => (federationlaw7_CmdReads.l0 k x6 x7 x8 x9 x10 x23 t932 0)
def federationlaw7_CmdReads.j3 : Nat → Int → ByteArray → ByteArray → ByteArray → List Int → Option (Bool)
  | 0, _, _, _, _, _ => none
  | k + 1, x8, x9, x10, x23, x25 => (federationlaw7_within.f x8 (wrap64 ((x23.size : Int) + 1))).bind fun t940 => (if 0 ≤ t940 then (if t940 ≤ (x23.size : Int) then (if (x23.extract 0 (t940 : Int).toNat).size + x9.size ≤ 9223372036854775807 then (if ((x23.extract 0 (t940 : Int).toNat) ++ x9).size + (x23.extract (t940 : Int).toNat x23.size).size ≤ 9223372036854775807 then (if 1 + x10.size ≤ 9223372036854775807 then (if x23.size + 1 ≤ 9223372036854775807 then (federationlaw7_CmdReads.l1 k (([strOfNums x25, x23.extract 0 (t940 : Int).toNat, ((x23.extract 0 (t940 : Int).toNat) ++ x9) ++ (x23.extract (t940 : Int).toNat x23.size), x10, (⟨#[49]⟩ : ByteArray) ++ x10, (⟨#[50]⟩ : ByteArray) ++ x10, x23 ++ (⟨#[0]⟩ : ByteArray)] : List ByteArray)) 0) else (none)) else (none)) else (none)) else (none)) else (none)) else (none))
def federationlaw7_CmdReads.l1 : Nat → List ByteArray → Int → Option (Bool)
  | 0, _, _ => none
  | k + 1, x28, x29 => if x29 < (x28.length : Int) then (if 0 ≤ x29 then ((cmd_Decode.f k (rdOf ByteArray.empty x28 x29)).bind fun bt945 => ((federationref7_Decode.f k (rdOf ByteArray.empty x28 x29)).bind fun bt957 => ((cmd_Up.f k (rdOf ByteArray.empty x28 x29)).bind fun bt969 => ((federationref7_Up.f k (rdOf ByteArray.empty x28 x29)).bind fun bt972 => (if (bt945.2.2.2.2.2.2.2 != bt957.2.2.2.2.2.2.2) = true then (some false) else (if bt945.2.2.2.2.2.2.1 = bt957.2.2.2.2.2.2.1 then ((federationref7_Same.f k bt945.1 bt945.2.1 bt945.2.2.1 bt945.2.2.2.1 bt945.2.2.2.2.1 bt945.2.2.2.2.2.1 bt957.1 bt957.2.1 bt957.2.2.1 bt957.2.2.2.1 bt957.2.2.2.2.1 bt957.2.2.2.2.2.1).bind fun t974 => (if t974 = true then (if bt969.1.toList = bt972.1.toList then (if (bt969.2 != bt972.2) = true then (some false) else (federationlaw7_CmdReads.l1 k x28 (wrap64 (x29 + 1)))) else (some false)) else (some false))) else (some false))))))) else (none)) else (some true)
def federationlaw7_CmdReads.l0 : Nat → List Int → List Int → Int → ByteArray → ByteArray → ByteArray → List Int → Int → Option (Bool)
  | 0, _, _, _, _, _, _, _, _ => none
  | k + 1, x6, x7, x8, x9, x10, x23, x25, x26 => if x26 < (x6.length : Int) then (if x26 < (x7.length : Int) then (if x26 < 3 then (if 0 ≤ x26 then ((federationlaw7_within.f (rd x6 x26) (x25.length : Int)).bind fun t936 => (if 0 ≤ t936 then (if t936 < (x25.length : Int) then (federationlaw7_CmdReads.l0 k x6 x7 x8 x9 x10 x23 (x25.set (t936 : Int).toNat (((rd x25 t936) + (rd x7 x26)) % 256)) (wrap64 (x26 + 1))) else (none)) else (none))) else (none)) else (federationlaw7_CmdReads.j3 k x8 x9 x10 x23 x25)) else (federationlaw7_CmdReads.j3 k x8 x9 x10 x23 x25)) else (federationlaw7_CmdReads.j3 k x8 x9 x10 x23 x25)
end
def federationlaw7_CmdReads.f (k : Nat) (a0 : Int) (a1 : Int) (a2 : Int) (l3 : List Int) (a4 : ByteArray) (a5 : Int) (l6 : List Int) (l7 : List Int) (a8 : Int) (a9 : ByteArray) (a10 : ByteArray) : Option (Bool) := (federationlaw7_known.f k).bind fun t910 => (if t910 = true then (if (a4.size : Int) > 60 then (federationlaw7_CmdReads.j0 k a0 a1 a2 l3 a4 a5 l6 l7 a8 a9 a10 true) else (if (a9.size : Int) > 60 then (federationlaw7_CmdReads.j0 k a0 a1 a2 l3 a4 a5 l6 l7 a8 a9 a10 true) else (federationlaw7_CmdReads.j0 k a0 a1 a2 l3 a4 a5 l6 l7 a8 a9 a10 (decide ((a10.size : Int) > 100))))) else (some false))
theorem federationlaw7_CmdReads.mono_l : ∀ k, (∀ y0 y1 y2 y3 y4 y5 y6 y7 y8 y9 y10 y11, LeO (federationlaw7_CmdReads.j0 k y0 y1 y2 y3 y4 y5 y6 y7 y8 y9 y10 y11) (federationlaw7_CmdReads.j0 (k + 1) y0 y1 y2 y3 y4 y5 y6 y7 y8 y9 y10 y11)) ∧ (∀ y0 y1 y2 y3 y4 y5, LeO (federationlaw7_CmdReads.j1 k y0 y1 y2 y3 y4 y5) (federationlaw7_CmdReads.j1 (k + 1) y0 y1 y2 y3 y4 y5)) ∧ (∀ y0 y1 y2 y3 y4, LeO (federationlaw7_CmdReads.j3 k y0 y1 y2 y3 y4) (federationlaw7_CmdReads.j3 (k + 1) y0 y1 y2 y3 y4)) ∧ (∀ y0 y1, LeO (federationlaw7_CmdReads.l1 k y0 y1) (federationlaw7_CmdReads.l1 (k + 1) y0 y1)) ∧ (∀ y0 y1 y2 y3 y4 y5 y6 y7, LeO (federationlaw7_CmdReads.l0 k y0 y1 y2 y3 y4 y5 y6 y7) (federationlaw7_CmdReads.l0 (k + 1) y0 y1 y2 y3 y4 y5 y6 y7))
  | 0 => ⟨fun _ _ _ _ _ _ _ _ _ _ _ _ r h => by simp [federationlaw7_CmdReads.j0] at h, fun _ _ _ _ _ _ r h => by simp [federationlaw7_CmdReads.j1] at h, fun _ _ _ _ _ r h => by simp [federationlaw7_CmdReads.j3] at h, fun _ _ r h => by simp [federationlaw7_CmdReads.l1] at h, fun _ _ _ _ _ _ _ _ r h => by simp [federationlaw7_CmdReads.l0] at h⟩
  | k + 1 => by
    obtain ⟨ih0, ih1, ih2, ih3, ih4⟩ := federationlaw7_CmdReads.mono_l k
    refine ⟨?_, ?_, ?_, ?_, ?_⟩
    · intro y0 y1 y2 y3 y4 y5 y6 y7 y8 y9 y10 y11
      unfold federationlaw7_CmdReads.j0
      repeat' first
      | (with_reducible exact ih0 _ _ _ _ _ _ _ _ _ _ _ _)
      | (with_reducible exact ih1 _ _ _ _ _ _)
      | (with_reducible exact ih2 _ _ _ _ _)
      | (with_reducible exact ih3 _ _)
      | (with_reducible exact ih4 _ _ _ _ _ _ _ _)
      | (with_reducible exact cmd_Decode.mono _ _)
      | (with_reducible exact cmd_Up.mono _ _)
      | (with_reducible exact federationlaw7_Make.mono _ _ _ _ _ _)
      | (with_reducible exact federationlaw7_known.mono _)
      | (with_reducible exact federationref7_Decode.mono _ _)
      | (with_reducible exact federationref7_Encode.mono _ _ _ _ _ _ _ _)
      | (with_reducible exact federationref7_Same.mono _ _ _ _ _ _ _ _ _ _ _ _ _)
      | (with_reducible exact federationref7_Up.mono _ _)
      | (with_reducible exact LeO.refl _)
      | (with_reducible exact LeO.none _)
      | (with_reducible refine LeO.ite ?_ ?_)
      | (with_reducible refine LeO.bind ?_ (fun _ => ?_))
    · intro y0 y1 y2 y3 y4 y5
      unfold federationlaw7_CmdReads.j1
      repeat' first
      | (with_reducible exact ih0 _ _ _ _ _ _ _ _ _ _ _ _)
      | (with_reducible exact ih1 _ _ _ _ _ _)
      | (with_reducible exact ih2 _ _ _ _ _)
      | (with_reducible exact ih3 _ _)
      | (with_reducible exact ih4 _ _ _ _ _ _ _ _)
      | (with_reducible exact cmd_Decode.mono _ _)
      | (with_reducible exact cmd_Up.mono _ _)
      | (with_reducible exact federationlaw7_Make.mono _ _ _ _ _ _)
      | (with_reducible exact federationlaw7_known.mono _)
      | (with_reducible exact federationref7_Decode.mono _ _)
      | (with_reducible exact federationref7_Encode.mono _ _ _ _ _ _ _ _)
      | (with_reducible exact federationref7_Same.mono _ _ _ _ _ _ _ _ _ _ _ _ _)
      | (with_reducible exact federationref7_Up.mono _ _)
      | (with_reducible exact LeO.refl _)
      | (with_reducible exact LeO.none _)
      | (with_reducible refine LeO.ite ?_ ?_)
      | (with_reducible refine LeO.bind ?_ (fun _ => ?_))
    · intro y0 y1 y2 y3 y4
      unfold federationlaw7_CmdReads.j3
      repeat' first
      | (with_reducible exact ih0 _ _ _ _ _ _ _ _ _ _ _ _)
      | (with_reducible exact ih1 _ _ _ _ _ _)
      | (with_reducible exact ih2 _ _ _ _ _)
      | (with_reducible exact ih3 _ _)
      | (with_reducible exact ih4 _ _ _ _ _ _ _ _)
      | (with_reducible exact cmd_Decode.mono _ _)
      | (with_reducible exact cmd_Up.mono _ _)
      | (with_reducible exact federationlaw7_Make.mono _ _ _ _ _ _)
      | (with_reducible exact federationlaw7_known.mono _)
      | (with_reducible exact federationref7_Decode.mono _ _)
      | (with_reducible exact federationref7_Encode.mono _ _ _ _ _ _ _ _)
      | (with_reducible exact federationref7_Same.mono _ _ _ _ _ _ _ _ _ _ _ _ _)
      | (with_reducible exact federationref7_Up.mono _ _)
      | (with_reducible exact LeO.refl _)
      | (with_reducible exact LeO.none _)
      | (with_reducible refine LeO.ite ?_ ?_)
      | (with_reducible refine LeO.bind ?_ (fun _ => ?_))
    · intro y0 y1
      unfold federationlaw7_CmdReads.l1
      repeat' first
      | (with_reducible exact ih0 _ _ _ _ _ _ _ _ _ _ _ _)
      | (with_reducible exact ih1 _ _ _ _ _ _)
      | (with_reducible exact ih2 _ _ _ _ _)
      | (with_reducible exact ih3 _ _)
      | (with_reducible exact ih4 _ _ _ _ _ _ _ _)
      | (with_reducible exact cmd_Decode.mono _ _)
      | (with_reducible exact cmd_Up.mono _ _)
      | (with_reducible exact federationlaw7_Make.mono _ _ _ _ _ _)
      | (with_reducible exact federationlaw7_known.mono _)
      | (with_reducible exact federationref7_Decode.mono _ _)
      | (with_reducible exact federationref7_Encode.mono _ _ _ _ _ _ _ _)
      | (with_reducible exact federationref7_Same.mono _ _ _ _ _ _ _ _ _ _ _ _ _)
      | (with_reducible exact federationref7_Up.mono _ _)
      | (with_reducible exact LeO.refl _)
      | (with_reducible exact LeO.none _)
      | (with_reducible refine LeO.ite ?_ ?_)
      | (with_reducible refine LeO.bind ?_ (fun _ => ?_))
    · intro y0 y1 y2 y3 y4 y5 y6 y7
      unfold federationlaw7_CmdReads.l0
      repeat' first
      | (with_reducible exact ih0 _ _ _ _ _ _ _ _ _ _ _ _)
      | (with_reducible exact ih1 _ _ _ _ _ _)
      | (with_reducible exact ih2 _ _ _ _ _)
      | (with_reducible exact ih3 _ _)
      | (with_reducible exact ih4 _ _ _ _ _ _ _ _)
      | (with_reducible exact cmd_Decode.mono _ _)
      | (with_reducible exact cmd_Up.mono _ _)
      | (with_reducible exact federationlaw7_Make.mono _ _ _ _ _ _)
      | (with_reducible exact federationlaw7_known.mono _)
      | (with_reducible exact federationref7_Decode.mono _ _)
      | (with_reducible exact federationref7_Encode.mono _ _ _ _ _ _ _ _)
      | (with_reducible exact federationref7_Same.mono _ _ _ _ _ _ _ _ _ _ _ _ _)
      | (with_reducible exact federationref7_Up.mono _ _)
      | (with_reducible exact LeO.refl _)
      | (with_reducible exact LeO.none _)
      | (with_reducible refine LeO.ite ?_ ?_)
      | (with_reducible refine LeO.bind ?_ (fun _ => ?_))
theorem federationlaw7_CmdReads.mono : ∀ a0 a1 a2 a3 a4 a5 a6 a7 a8 a9 a10 k, LeO (federationlaw7_CmdReads.f k a0 a1 a2 a3 a4 a5 a6 a7 a8 a9 a10) (federationlaw7_CmdReads.f (k + 1) a0 a1 a2 a3 a4 a5 a6 a7 a8 a9 a10) := by
  intro a0 a1 a2 a3 a4 a5 a6 a7 a8 a9 a10 k
  obtain ⟨ih0, ih1, ih2, ih3, ih4⟩ := federationlaw7_CmdReads.mono_l k
  unfold federationlaw7_CmdReads.f
  repeat' first
      | (with_reducible exact ih0 _ _ _ _ _ _ _ _ _ _ _ _)
      | (with_reducible exact ih1 _ _ _ _ _ _)
      | (with_reducible exact ih2 _ _ _ _ _)
      | (with_reducible exact ih3 _ _)
      | (with_reducible exact ih4 _ _ _ _ _ _ _ _)
      | (with_reducible exact cmd_Decode.mono _ _)
      | (with_reducible exact cmd_Up.mono _ _)
      | (with_reducible exact federationlaw7_Make.mono _ _ _ _ _ _)
      | (with_reducible exact federationlaw7_known.mono _)
      | (with_reducible exact federationref7_Decode.mono _ _)
      | (with_reducible exact federationref7_Encode.mono _ _ _ _ _ _ _ _)
      | (with_reducible exact federationref7_Same.mono _ _ _ _ _ _ _ _ _ _ _ _ _)
      | (with_reducible exact federationref7_Up.mono _ _)
      | (with_reducible exact LeO.refl _)
      | (with_reducible exact LeO.none _)
      | (with_reducible refine LeO.ite ?_ ?_)
      | (with_reducible refine LeO.bind ?_ (fun _ => ?_))
def federationlaw7_CmdReads.T12 : Bool × List (List Nat × List Nat) := (true, [([], []), ([], []), ([], []), ([1, 2], [1, 2]), ([3], [3]), ([], []), ([5], [5]), ([4, 6], [4, 6]), ([0, 7], [0, 7]), ([8], [8]), ([], []), ([], []), ([10, 11], [10, 11]), ([12], [12]), ([9, 13], [9, 13]), ([0, 7, 0, 1, 2, 3, 4, 5, 6, 7, 8, 9, 10, 11, 12, 13, 14], [0, 7]), ([15, 14, 7, 0, 1, 2, 3, 4, 5, 6, 7, 8, 9, 10, 11, 12, 13, 14], [14, 15])])
def federationlaw7_CmdReads.B12 : List Nat := [0, 0, 0, 6, 14, 0, 32, 126, 255, 511, 0, 0, 3072, 7168, 16383, 32767, 65535]
theorem federationlaw7_CmdReads.tab12 : rtab .any (opsOf Try.f4 12) = federationlaw7_CmdReads.T12 := by kernel_rfl
theorem federationlaw7_CmdReads.bits12 : waitsOk federationlaw7_CmdReads.T12.2 federationlaw7_CmdReads.B12 = true := by kernel_rfl
def federationlaw7_CmdReads.T14 : Bool × List (List Nat × List Nat) := (true, [([], []), ([0], [0]), ([], []), ([], []), ([2, 3], [2, 3]), ([], []), ([], []), ([5, 6], [5, 6]), ([], []), ([7, 8], [7, 8]), ([], []), ([], []), ([10, 11], [10, 11]), ([9, 12], [9, 12]), ([], []), ([], []), ([15], [15]), ([], []), ([17], [17]), ([], []), ([19], [19]), ([1, 4, 13, 14, 16, 18, 20], [1, 4, 13, 14, 16, 18, 20]), ([21, 0, 1, 2, 3, 4, 5, 6, 7, 8, 9, 10, 11, 12, 13, 14, 15, 16, 17, 18, 19, 20, 21], [21])])
def federationlaw7_CmdReads.B14 : List Nat := [0, 1, 0, 0, 12, 0, 0, 96, 0, 480, 0, 0, 3072, 8160, 0, 0, 32768, 0, 131072, 0, 524288, 2097151, 4194303]
theorem federationlaw7_CmdReads.tab14 : rtab .any (opsOf Try.f4 14) = federationlaw7_CmdReads.T14 := by kernel_rfl
theorem federationlaw7_CmdReads.bits14 : waitsOk federationlaw7_CmdReads.T14.2 federationlaw7_CmdReads.B14 = true := by kernel_rfl
set_option maxHeartbeats 8000000 in
set_option maxRecDepth 100000 in
theorem federationlaw7_CmdReads.calls (k : Nat) (a0 : Int) (a1 : Int) (a2 : Int) (A3 : Option Addr) (c3 : Nat) (l3 : List Int) (a4 : ByteArray) (a5 : Int) (A6 : Option Addr) (c6 : Nat) (l6 : List Int) (A7 : Option Addr) (c7 : Nat) (l7 : List Int) (a8 : Int) (a9 : ByteArray) (a10 : ByteArray) (r : Bool) (w : World) (hr3 : Kd.C (Kd.int .i64) w A3 l3.length l3) (hc3 : l3.length ≤ c3) (hr6 : Kd.C (Kd.int .i64) w A6 l6.length l6) (hc6 : l6.length ≤ c6) (hr7 : Kd.C (Kd.int .u8) w A7 l7.length l7) (hc7 : l7.length ≤ c7) (h : federationlaw7_CmdReads.f k a0 a1 a2 l3 a4 a5 l6 l7 a8 a9 a10 = some r) :
  Calls Try.prog 4 #[.int .i64 a0, .int .i64 a1, .int .i64 a2, .slice A3 l3.length c3, .string a4, .int .i64 a5, .slice A6 l6.length c6, .slice A7 l7.length c7, .int .i64 a8, .string a9, .string a10] w fun e w' => e = .returned (.bool r) ∧ Below w.heap.size w w' := by
 have hu26 := Try.underlying26
 have HR3 := am hr3
 have HC3 := am hc3
 clear hr3 hc3
 have HR6 := am hr6
 have HC6 := am hc6
 clear hr6 hc6
 have HR7 := am hr7
 have HC7 := am hc7
 clear hr7 hc7
 have HB := am (Below.refl w.heap.size w)
 have H : ((federationlaw7_known.f k).bind fun t910 => (if t910 = true then (if (a4.size : Int) > 60 then (federationlaw7_CmdReads.j0 k a0 a1 a2 l3 a4 a5 l6 l7 a8 a9 a10 true) else (if (a9.size : Int) > 60 then (federationlaw7_CmdReads.j0 k a0 a1 a2 l3 a4 a5 l6 l7 a8 a9 a10 true) else (federationlaw7_CmdReads.j0 k a0 a1 a2 l3 a4 a5 l6 l7 a8 a9 a10 (decide ((a10.size : Int) > 100))))) else (some false))) = some r := h
 clear h
 replace H := Option.bind_eq_some_iff.mp H
 obtain ⟨t910, A120, H⟩ := H
 replace H : (if t910 = true then (if (a4.size : Int) > 60 then (federationlaw7_CmdReads.j0 k a0 a1 a2 l3 a4 a5 l6 l7 a8 a9 a10 true) else (if (a9.size : Int) > 60 then (federationlaw7_CmdReads.j0 k a0 a1 a2 l3 a4 a5 l6 l7 a8 a9 a10 true) else (federationlaw7_CmdReads.j0 k a0 a1 a2 l3 a4 a5 l6 l7 a8 a9 a10 (decide ((a10.size : Int) > 100))))) else (some false)) = some r := H
 have A12 := am A120
 clear A120
 by_cases c13 : t910 = true
 ·subst c13
  have H1 : (if (a4.size : Int) > 60 then (federationlaw7_CmdReads.j0 k a0 a1 a2 l3 a4 a5 l6 l7 a8 a9 a10 true) else (if (a9.size : Int) > 60 then (federationlaw7_CmdReads.j0 k a0 a1 a2 l3 a4 a5 l6 l7 a8 a9 a10 true) else (federationlaw7_CmdReads.j0 k a0 a1 a2 l3 a4 a5 l6 l7 a8 a9 a10 (decide ((a10.size : Int) > 100))))) = some r := by rw [if_pos rfl] at H; exact H
  clear H
  have H := H1
  clear H1
  have HC14 := am H
  clear H
  go_enter Try.func4, Try.ntmps4
  go_upto_region 3 with (first | ((with_reducible refine gate_callee (f := 13) rfl ?_); refine goesL_ (some 40) rfl rfl Try.func13 (by kernel_rfl) rfl #[] rfl ar ?_; (with_reducible refine (federationlaw7_known.calls k  true _ A12.out).mono ?_); rintro e w15 ⟨rfl, hb⟩; refine ⟨_, rfl, ?_⟩; have n0_ := am (below_step bel hb); clear HB; have HB := n0_; clear n0_; (try clear hb); (try clear hb2); (try clear hk); (try clear hi)))
  (try simp only [Act.put, List.setIfInBounds_toArray, List.set_cons_zero, List.set_cons_succ])
  go_cut [54] (fun v54 wc => ∃ (kq : Nat) (x54_13 : Bool), v54 = .bool x54_13 ∧ Aside0 (federationlaw7_CmdReads.j0 kq a0 a1 a2 l3 a4 a5 l6 l7 a8 a9 a10 x54_13 = some r) ∧ Aside0 (kq ≤ k) ∧ Aside0 (Below w.heap.size w wc))
  case first =>
   have H := HC14.out
   clear HC14
   by_cases c16 : (a4.size : Int) > 60
   ·rw [if_pos c16] at H
    have c16b0 : decide (60 < (a4.size : Int)) = true := decide_eq_true c16
    have c16b1 : decide (60 < a4.size) = true := decide_eq_true (by omega)
    clear c16
    (first | rw [c16b0] | (simp only [i64_w, i32_w]; rw [c16b0]) | skip)
    have H' := am H
    clear H
    go_wp2
    go_meet
    case rel => exact ⟨_, (true), (by first | rfl | (simp; done) | (simp [*]; done)), H', ⟨by first | omega | exact Nat.le_refl _⟩, ⟨bel⟩⟩
   ·rw [if_neg c16] at H
    have c16b0 : decide (60 < (a4.size : Int)) = false := decide_eq_false c16
    have c16b1 : decide (60 < a4.size) = false := decide_eq_false (by omega)
    clear c16
    (first | rw [c16b0] | (simp only [i64_w, i32_w]; rw [c16b0]) | skip)
    by_cases c17 : (a9.size : Int) > 60
    ·rw [if_pos c17] at H
     have c17b0 : decide (60 < (a9.size : Int)) = true := decide_eq_true c17
     have c17b1 : decide (60 < a9.size) = true := decide_eq_true (by omega)
     clear c17
     have H' := am H
     clear H
     go_wp2
     go_meet
     case rel => exact ⟨_, (true), (by first | rfl | (simp; done) | (simp [*]; done)), H', ⟨by first | omega | exact Nat.le_refl _⟩, ⟨bel⟩⟩
    ·rw [if_neg c17] at H
     have c17b0 : decide (60 < (a9.size : Int)) = false := decide_eq_false c17
     have c17b1 : decide (60 < a9.size) = false := decide_eq_false (by omega)
     clear c17
     have H' := am H
     clear H
     go_wp2
     go_meet
     case rel => exact ⟨_, (decide ((a10.size : Int) > 100)), (by first | rfl | (simp; done) | (simp [*]; done)), H', ⟨by first | omega | exact Nat.le_refl _⟩, ⟨bel⟩⟩
  case rest =>
   clear HC14
   try clear c1
   try clear p2
   try clear c3
   try clear c4
   try clear c6
   try clear c7
   try clear c13
   try clear c16
   try clear c16b0
   try clear c16b1
   try clear c17
   try clear c17b0
   try clear c17b1
   obtain ⟨kq, x54_13, rfl, HA, HJ13, HB⟩ := hcut
   cases kq with
   | zero => exact absurd HA.out (by simp [federationlaw7_CmdReads.j0])
   | succ kj13 =>
    have H := HA.out
    clear HA
    simp only [federationlaw7_CmdReads.j0] at H
    by_cases c18 : x54_13 = true
    ·subst c18
     have H1 : (some true) = some r := by rw [if_pos rfl] at H; exact H
     clear H
     have H := H1
     clear H1
     obtain rfl := Option.some.inj H
     go_wp2
     go_ret
     exact ⟨er, bel⟩
    ·replace c18 := Bool.eq_false_iff.mpr c18
     subst c18
     have H1 : ((federationlaw7_Make.f kj13 a0 a1 a2 l3 a4).bind fun bt911 => ((federationlaw7_within.f a5 2).bind fun t919 => ((federationref7_Encode.f kj13 bt911.1 bt911.2.1 bt911.2.2.1 bt911.2.2.2.1 bt911.2.2.2.2.1 bt911.2.2.2.2.2 (wrap64 (1 + t919))).bind fun bt920 => (if bt920.2 = true then (federationlaw7_CmdReads.j1 kj13 l6 l7 a8 a9 a10 bt920.1) else ((federationlaw7_Make.f kj13 a0 a1 a2 l3 a4).bind fun bt922 => ((federationref7_Encode.f kj13 bt922.1 bt922.2.1 bt922.2.2.1 bt922.2.2.2.1 bt922.2.2.2.2.1 bt922.2.2.2.2.2 2).bind fun bt930 => (federationlaw7_CmdReads.j1 kj13 l6 l7 a8 a9 a10 bt930.1))))))) = some r := by rw [if_neg (show ¬ (false = true) by decide)] at H; exact H
     clear H
     have H := H1
     clear H1
     replace H := Option.bind_eq_some_iff.mp H
     obtain ⟨⟨t911, t912, t913, t914, t915, t918⟩, A190, H⟩ := H
     replace H : ((federationlaw7_within.f a5 2).bind fun t919 => ((federationref7_Encode.f kj13 t911 t912 t913 t914 t915 t918 (wrap64 (1 + t919))).bind fun bt920 => (if bt920.2 = true then (federationlaw7_CmdReads.j1 kj13 l6 l7 a8 a9 a10 bt920.1) else ((federationlaw7_Make.f kj13 a0 a1 a2 l3 a4).bind fun bt922 => ((federationref7_Encode.f kj13 bt922.1 bt922.2.1 bt922.2.2.1 bt922.2.2.2.1 bt922.2.2.2.2.1 bt922.2.2.2.2.2 2).bind fun bt930 => (federationlaw7_CmdReads.j1 kj13 l6 l7 a8 a9 a10 bt930.1)))))) = some r := H
     have A19 := am A190
     clear A190
     replace H := Option.bind_eq_some_iff.mp H
     obtain ⟨t919, A200, H⟩ := H
     replace H : ((federationref7_Encode.f kj13 t911 t912 t913 t914 t915 t918 (wrap64 (1 + t919))).bind fun bt920 => (if bt920.2 = true then (federationlaw7_CmdReads.j1 kj13 l6 l7 a8 a9 a10 bt920.1) else ((federationlaw7_Make.f kj13 a0 a1 a2 l3 a4).bind fun bt922 => ((federationref7_Encode.f kj13 bt922.1 bt922.2.1 bt922.2.2.1 bt922.2.2.2.1 bt922.2.2.2.2.1 bt922.2.2.2.2.2 2).bind fun bt930 => (federationlaw7_CmdReads.j1 kj13 l6 l7 a8 a9 a10 bt930.1))))) = some r := H
     have A20 := am A200
     clear A200
     replace H := Option.bind_eq_some_iff.mp H
     obtain ⟨⟨t920, t921⟩, A210, H⟩ := H
     replace H : (if t921 = true then (federationlaw7_CmdReads.j1 kj13 l6 l7 a8 a9 a10 t920) else ((federationlaw7_Make.f kj13 a0 a1 a2 l3 a4).bind fun bt922 => ((federationref7_Encode.f kj13 bt922.1 bt922.2.1 bt922.2.2.1 bt922.2.2.2.1 bt922.2.2.2.2.1 bt922.2.2.2.2.2 2).bind fun bt930 => (federationlaw7_CmdReads.j1 kj13 l6 l7 a8 a9 a10 bt930.1)))) = some r := H
     have A21 := am A210
     clear A210
     have HC22 := am H
     clear H
     go_upto_if 69 with (first | ((with_reducible refine gate_callee (f := 14) rfl ?_); refine goesL_ (some 61) rfl rfl Try.func14 (by kernel_rfl) rfl #[.int .i64 a0, .int .i64 a1, .int .i64 a2, .slice A3 l3.length c3, .string a4] rfl ar ?_; (with_reducible refine (federationlaw7_Make.calls kj13 a0 a1 a2 _ _ l3 a4 t911 t912 t913 t914 t915 t918 _ ?side1 ?side2 A19.out).mono ?_); (case side1 => repeat (first | exact (Kd.C_below HR3.out HB.out) | (with_reducible refine Kd.C_alloc ?_ _) | (with_reducible refine Kd.C_drewN ?_ _) | (with_reducible refine Kd.C_drew ?_))); (case side2 => exact HC3.out); rintro e w23 ⟨v916, rfl, ho0, hb⟩; refine ⟨_, rfl, ?_⟩; have n_ := z2 (Kd.R_lower ho0 (below_size bel)) (below_step bel hb); clear HB; obtain ⟨HO917, HB⟩ := n_; (try clear hb); (try clear hb2); (try clear hk); (try clear hi); (try clear ho0)) | ((with_reducible refine gate_callee (f := 15) rfl ?_); refine goesL_ (some 63) rfl rfl Try.func15 (by kernel_rfl) rfl #[.int .i64 a5, .int .i64 2] rfl ar ?_; (with_reducible refine (federationlaw7_within.calls a5 2 t919 _ A20.out).mono ?_); rintro e w' ⟨rfl, ⟨nd, rfl⟩⟩; refine ⟨_, rfl, ?_⟩; obtain ⟨Ao24, co24, eo24⟩ := Kd.R_slice HO917.out; subst eo24) | ((with_reducible refine gate_callee (f := 17) rfl ?_); refine goesL_ (some 65) rfl rfl Try.func17 (by kernel_rfl) rfl #[.agg #[.int .i64 t911, .int .i64 t912, .int .i64 t913, .bool t914, .slice Ao24 t915.length co24, .string t918], .int .i64 (wrap64 (1 + t919))] rfl ar ?_; (with_reducible refine (federationref7_Encode.calls kj13 t911 t912 t913 t914 _ _ t915 t918 (wrap64 (1 + t919)) t920 t921 _ ?side1 ?side2 A21.out).mono ?_); (case side1 => repeat (first | exact (Kd.R_reads' HO917.out).2.2 | (with_reducible refine Kd.C_alloc ?_ _) | (with_reducible refine Kd.C_drewN ?_ _) | (with_reducible refine Kd.C_drew ?_))); (case side2 => exact (Kd.R_reads' HO917.out).2.1); rintro e w25 ⟨rfl, hb⟩; refine ⟨_, rfl, ?_⟩; have n_ := z2 (Kd.R_below (kr HO917.out) hb) (below_step bel hb); clear HO917 HB; obtain ⟨HO917, HB⟩ := n_; (try clear hb); (try clear hb2); (try clear hk); (try clear hi)))
     (try simp only [Act.put, List.setIfInBounds_toArray, List.set_cons_zero, List.set_cons_succ])
     go_cut [23] (fun v23 wc => ∃ (kq : Nat) (x23_21 : ByteArray), v23 = .string x23_21 ∧ Aside0 (federationlaw7_CmdReads.j1 kq l6 l7 a8 a9 a10 x23_21 = some r) ∧ Aside0 (kq ≤ kj13) ∧ Aside0 (Below w.heap.size w wc))
     case first =>
      have H := HC22.out
      clear HC22
      by_cases c26 : t921 = true
      ·subst c26
       have H1 : (federationlaw7_CmdReads.j1 kj13 l6 l7 a8 a9 a10 t920) = some r := by rw [if_pos rfl] at H; exact H
       clear H
       have H := H1
       clear H1
       have H' := am H
       clear H
       go_wp2
       go_meet
       case rel => exact ⟨_, (t920), (by first | rfl | (simp; done) | (simp [*]; done)), H', ⟨by have := HJ13.out; first | omega | exact Nat.le_refl _⟩, ⟨bel⟩⟩
      ·replace c26 := Bool.eq_false_iff.mpr c26
       subst c26
       have H1 : ((federationlaw7_Make.f kj13 a0 a1 a2 l3 a4).bind fun bt922 => ((federationref7_Encode.f kj13 bt922.1 bt922.2.1 bt922.2.2.1 bt922.2.2.2.1 bt922.2.2.2.2.1 bt922.2.2.2.2.2 2).bind fun bt930 => (federationlaw7_CmdReads.j1 kj13 l6 l7 a8 a9 a10 bt930.1))) = some r := by rw [if_neg (show ¬ (false = true) by decide)] at H; exact H
       clear H
       have H := H1
       clear H1
       replace H := Option.bind_eq_some_iff.mp H
       obtain ⟨⟨t922, t923, t924, t925, t926, t929⟩, A270, H⟩ := H
       replace H : ((federationref7_Encode.f kj13 t922 t923 t924 t925 t926 t929 2).bind fun bt930 => (federationlaw7_CmdReads.j1 kj13 l6 l7 a8 a9 a10 bt930.1)) = some r := H
       have A27 := am A270
       clear A270
       replace H := Option.bind_eq_some_iff.mp H
       obtain ⟨⟨t930, t931⟩, A280, H⟩ := H
       replace H : (federationlaw7_CmdReads.j1 kj13 l6 l7 a8 a9 a10 t930) = some r := H
       have A28 := am A280
       clear A280
       have H' := am H
       clear H
       go_wp2_with (first | ((with_reducible refine gate_callee (f := 14) rfl ?_); refine goesL_ (some 76) rfl rfl Try.func14 (by kernel_rfl) rfl #[.int .i64 a0, .int .i64 a1, .int .i64 a2, .slice A3 l3.length c3, .string a4] rfl ar ?_; (with_reducible refine (federationlaw7_Make.calls kj13 a0 a1 a2 _ _ l3 a4 t922 t923 t924 t925 t926 t929 _ ?side1 ?side2 A27.out).mono ?_); (case side1 => repeat (first | exact (Kd.C_below HR3.out HB.out) | (with_reducible refine Kd.C_alloc ?_ _) | (with_reducible refine Kd.C_drewN ?_ _) | (with_reducible refine Kd.C_drew ?_))); (case side2 => exact HC3.out); rintro e w29 ⟨v927, rfl, ho0, hb⟩; refine ⟨_, rfl, ?_⟩; have n_ := z3 (Kd.R_elder' (kr HO917.out) (Kd.R_base ho0) hb) (Kd.R_lower (Kd.R_new' ho0 (Kd.R_lt (kr HO917.out))) (below_size bel)) (below_step bel hb); clear HO917 HB; obtain ⟨HO917, HO928, HB⟩ := n_; (try clear hb); (try clear hb2); (try clear hk); (try clear hi); (try clear ho0); obtain ⟨Ao30, co30, eo30⟩ := Kd.R_slice HO928.out; subst eo30) | ((with_reducible refine gate_callee (f := 17) rfl ?_); refine goesL_ (some 77) rfl rfl Try.func17 (by kernel_rfl) rfl #[.agg #[.int .i64 t922, .int .i64 t923, .int .i64 t924, .bool t925, .slice Ao30 t926.length co30, .string t929], .int .i64 2] rfl ar ?_; (with_reducible refine (federationref7_Encode.calls kj13 t922 t923 t924 t925 _ _ t926 t929 2 t930 t931 _ ?side1 ?side2 A28.out).mono ?_); (case side1 => repeat (first | exact (Kd.R_reads' HO928.out).2.2 | (with_reducible refine Kd.C_alloc ?_ _) | (with_reducible refine Kd.C_drewN ?_ _) | (with_reducible refine Kd.C_drew ?_))); (case side2 => exact (Kd.R_reads' HO928.out).2.1); rintro e w31 ⟨rfl, hb⟩; refine ⟨_, rfl, ?_⟩; have n_ := z3 (Kd.R_below (kr HO917.out) hb) (Kd.R_below (kr HO928.out) hb) (below_step bel hb); clear HO917 HO928 HB; obtain ⟨HO917, HO928, HB⟩ := n_; (try clear hb); (try clear hb2); (try clear hk); (try clear hi)))
       go_meet
       case rel => exact ⟨_, (t930), (by first | rfl | (simp; done) | (simp [*]; done)), H', ⟨by have := HJ13.out; first | omega | exact Nat.le_refl _⟩, ⟨bel⟩⟩
     case rest =>
      clear HC22
      try clear c1
      try clear c2
      try clear p2
      try clear c3
      try clear c4
      try clear c6
      try clear p6
      try clear c7
      try clear c13
      try clear c14
      try clear c15
      try clear c16
      try clear c16b0
      try clear c16b1
      try clear c17
      try clear c17b0
      try clear c17b1
      try clear c18
      try clear c26
      try clear p2
      obtain ⟨kq, x23_21, rfl, HA, HJ21, HB⟩ := hcut
      cases kq with
      | zero => exact absurd HA.out (by simp [federationlaw7_CmdReads.j1])
      | succ kj21 =>
       have H := HA.out
       clear HA
       simp only [federationlaw7_CmdReads.j1] at H
       replace H := Option.bind_eq_some_iff.mp H
       obtain ⟨t932, A320, H⟩ := H
       replace H : (federationlaw7_CmdReads.l0 kj21 l6 l7 a8 a9 a10 x23_21 t932 0) = some r := H
       have A32 := am A320
       clear A320
       have HC33 := am H
       clear H
       go_upto_block 0 with (first | ((with_reducible refine gate_dst (N := 81) rfl ?_); refine made_event rfl _ rfl Try.underlying9 Try.underlying35 Try.underlying5 x23_21 t932 A32.out ?hx ?_; (case hx => first | (go_simp; done) | (go_simp; rfl)); intro v933 w34 ho0 hb; have n_ := z2 (RB.lower ho0 (below_size bel)) (below_step bel hb); clear HB; obtain ⟨HO934, HB⟩ := n_; (try clear hb); (try clear hb2); (try clear hk); (try clear hi); (try clear ho0)))
       (try simp only [Act.put, List.setIfInBounds_toArray, List.set_cons_zero, List.set_cons_succ])
       go_cut [] (fun wc => ∃ (kq : Nat) (x25_32 : List Int), Aside0 (federationlaw7_CmdReads.j3 kq a8 a9 a10 x23_21 x25_32 = some r) ∧ Aside0 (kq ≤ kj21) ∧ Aside0 (RB wc w.heap.size v933 x25_32) ∧ Aside0 (Below w.heap.size w wc))
       case first =>
        have H := HC33.out
        clear HC33
        have H' := am H
        clear H
        go_wp2
        go_loopg [26] kj21 (fun kq v26 w' => ∃ (x25_3 : List Int) (x26_3 : Int), v26 = .int .i64 x26_3 ∧ Aside0 (federationlaw7_CmdReads.l0 kq l6 l7 a8 a9 a10 x23_21 x25_3 x26_3 = some r) ∧ Aside0 (kq ≤ kj21) ∧ Aside0 (RB w' w.heap.size v933 x25_3) ∧ Aside0 (Below w.heap.size w w'))
        case atStart => exact ⟨(t932), (0), (by first | rfl | (simp; done) | (simp [*]; done)), H', ⟨Nat.le_refl _⟩, ⟨by (with_reducible repeat (first | apply RB.alloc | apply RB.drewN | apply RB.drew)); exact HO934.out⟩, ⟨bel⟩⟩
        case round =>
         clear H'
         try clear c1
         try clear c2
         try clear p2
         try clear c3
         try clear c4
         try clear c6
         try clear p6
         try clear c7
         try clear c9
         try clear c13
         try clear c14
         try clear c15
         try clear c16
         try clear c16b0
         try clear c16b1
         try clear c17
         try clear c17b0
         try clear c17b1
         try clear c18
         try clear c26
         try clear p2
         try clear p6
         obtain ⟨x25_3, x26_3, rfl, HA, HK3, HO_25, HB⟩ := hrel
         cases gk with
         | zero => exact absurd HA.out (by simp [federationlaw7_CmdReads.l0])
         | succ k3 =>
          have H := HA.out
          clear HA
          simp only [federationlaw7_CmdReads.l0] at H
          by_cases c35 : x26_3 < (l6.length : Int)
          ·rw [if_pos c35] at H
           have c35b0 : decide (x26_3 < (l6.length : Int)) = true := decide_eq_true c35
           clear c35
           (first | rw [c35b0] | (simp only [i64_w, i32_w]; rw [c35b0]) | skip)
           by_cases c36 : x26_3 < (l7.length : Int)
           ·rw [if_pos c36] at H
            have c36b0 : decide (x26_3 < (l7.length : Int)) = true := decide_eq_true c36
            clear c36
            by_cases c37 : x26_3 < 3
            ·rw [if_pos c37] at H
             have c37b0 : decide (x26_3 < 3) = true := decide_eq_true c37
             clear c37
             by_cases c38 : 0 ≤ x26_3
             ·rw [if_pos c38] at H
              have c38b0 : decide (0 ≤ x26_3) = true := decide_eq_true c38
              clear c38
              replace H := Option.bind_eq_some_iff.mp H
              obtain ⟨t936, A390, H⟩ := H
              replace H : (if 0 ≤ t936 then (if t936 < (x25_3.length : Int) then (federationlaw7_CmdReads.l0 k3 l6 l7 a8 a9 a10 x23_21 (x25_3.set (t936 : Int).toNat (((rd x25_3 t936) + (rd l7 x26_3)) % 256)) (wrap64 (x26_3 + 1))) else (none)) else (none)) = some r := H
              have A39 := am A390
              clear A390
              by_cases c40 : 0 ≤ t936
              ·rw [if_pos c40] at H
               have c40b0 : decide (0 ≤ t936) = true := decide_eq_true c40
               clear c40
               by_cases c41 : t936 < (x25_3.length : Int)
               ·rw [if_pos c41] at H
                have c41b0 : decide (t936 < (x25_3.length : Int)) = true := decide_eq_true c41
                clear c41
                obtain ⟨y939, hy939⟩ : ∃ y_ : List Int, y_ = (x25_3.set (t936 : Int).toNat (((rd x25_3 t936) + (rd l7 x26_3)) % 256)) := ⟨_, rfl⟩
                replace H : (federationlaw7_CmdReads.l0 k3 l6 l7 a8 a9 a10 x23_21 y939 (wrap64 (x26_3 + 1))) = some r := by first | (rw [hy939]; with_reducible exact H) | (have H2_ := (Option.bind_some _ _).symm.trans H; rw [hy939]; with_reducible exact H2_) | (have H2_ := (Option.bind_some _ _).symm.trans H; with_reducible exact H2_) | with_reducible exact H | (rw [hy939]; exact H) | exact H
                have Ny939 := am hy939
                clear hy939
                have H' := am H
                clear H
                try go_wp2
                have n_ := z2 (RB.drew HO_25.out) (below_drew1 HB.out)
                clear HO_25 HB
                obtain ⟨HO_25, HB⟩ := n_
                have p935 : 0 ≤ (x26_3 : Int) := of_decide_eq_true (by first | (with_reducible assumption) | assumption)
                have q935 : x26_3 < (l6.length : Int) := of_decide_eq_true (by first | (with_reducible assumption) | assumption)
                obtain ⟨ad935, e935, hx935_0⟩ := Kd.at_int HR6.out x26_3 p935 q935
                have hw935_0 := hx935_0
                cases e935
                replace hx935_0 := (HB.out.cell (World.block_lt_of_cell? w _ hx935_0)).trans hx935_0
                replace p935 := eq_true p935
                replace q935 := eq_true q935
                obtain ⟨Ao44, co44, eo44⟩ := RB.slice HO_25.out
                (first | subst eo44 | (injection eo44 with f1_ f2_ f3_; have f4_ := f1_.symm; have f5_ := f3_.symm; clear f1_ f2_ f3_; subst f4_; subst f5_))
                have p938 : 0 ≤ (x26_3 : Int) := of_decide_eq_true (by first | (with_reducible assumption) | assumption)
                have q938 : x26_3 < (l7.length : Int) := of_decide_eq_true (by first | (with_reducible assumption) | assumption)
                obtain ⟨ad938, e938, hx938_0⟩ := Kd.at_int HR7.out x26_3 p938 q938
                have hw938_0 := hx938_0
                cases e938
                replace hx938_0 := (HB.out.cell (World.block_lt_of_cell? w _ hx938_0)).trans hx938_0
                replace p938 := eq_true p938
                replace q938 := eq_true q938
                have p937 : 0 ≤ (t936 : Int) := of_decide_eq_true (by first | (with_reducible assumption) | assumption)
                have q937 : t936 < (x25_3.length : Int) := of_decide_eq_true (by first | (with_reducible assumption) | assumption)
                obtain ⟨ad937, e937, hx937_0⟩ := Kd.at_int (RB.reads HO_25.out) t936 p937 q937
                cases e937
                replace p937 := eq_true p937
                replace q937 := eq_true q937
                refine start_ (n := 17) (S := fun w' => w'.cell? (ad935.add (x26_3).toNat) = some (.int .i64 (rd l6 x26_3)) ∧ w'.cell? (ad938.add (x26_3).toNat) = some (.int .u8 (rd l7 x26_3)) ∧ w'.cell? (ad937.add (t936).toNat) = some (.int .u8 (rd x25_3 t936))) (ds := [16]) #[false, false, false, false, false, false, false, false, false, false, false, false, false, false, false, false, false] (by kernel_rfl) rfl rfl ⟨((HB.out.cell (World.block_lt_of_cell? w _ hw935_0)).trans hw935_0), ((HB.out.cell (World.block_lt_of_cell? w _ hw938_0)).trans hw938_0), hx937_0⟩ (fun hHeld => ?_); refine with_tabW federationlaw7_CmdReads.tab12 federationlaw7_CmdReads.bits12 (fun HT_ HW_ => ?_)
                generalize wr.drew = w43 at HO_25 HB hx935_0 hx937_0 hx938_0 hHeld ⊢
                refine pu 0 (some 98) #[true, false, false, false, false, false, false, false, false, false, false, false, false, false, false, false, false] ?_
                refine pu 1 (some 99) #[true, true, false, false, false, false, false, false, false, false, false, false, false, false, false, false, false] ?_
                refine pu 2 (some 100) #[true, true, true, false, false, false, false, false, false, false, false, false, false, false, false, false, false] ?_
                refine pu 3 (some 101) #[true, true, true, true, false, false, false, false, false, false, false, false, false, false, false, false, false] ?_
                refine pu 5 (some 103) #[true, true, true, true, false, true, false, false, false, false, false, false, false, false, false, false, false] ?_
                refine pu 6 (some 104) #[true, true, true, true, false, true, true, false, false, false, false, false, false, false, false, false, false] ?_
                refine pu 10 (some 108) #[true, true, true, true, false, true, true, false, false, false, true, false, false, false, false, false, false] ?_
                refine pu 11 (some 109) #[true, true, true, true, false, true, true, false, false, false, true, true, false, false, false, false, false] ?_
                refine pu 12 (some 110) #[true, true, true, true, false, true, true, false, false, false, true, true, true, false, false, false, false] ?_
                refine ta 4 (some 102) #[true, true, true, true, true, true, true, false, false, false, true, true, true, false, false, false, false] ?_
                refine ta 13 (some 111) #[true, true, true, true, true, true, true, false, false, false, true, true, true, true, false, false, false] ?_
                refine on 7 (some 105) #[true, true, true, true, true, true, true, true, false, false, true, true, true, true, false, false, false] (fun K hK => ?_)
                refine goes_ Try.func15 (by kernel_rfl) rfl #[.int .i64 (rd l6 x26_3), .int .i64 (x25_3.length : Int)] (by rfl) rfl rfl ar ?_
                with_reducible refine (federationlaw7_within.calls (rd l6 x26_3) (x25_3.length : Int) t936 _ A39.out).mono ?_
                rintro e w' ⟨rfl, ⟨nd, rfl⟩⟩
                refine ⟨_, rfl, ?_⟩
                have p42 : 0 ≤ (t936 : Int) := of_decide_eq_true (by first | (with_reducible assumption) | assumption)
                have q42 : (t936 : Int) < ((x25_3.length : Int) : Int) := of_decide_eq_true (by first | (with_reducible assumption) | assumption)
                obtain ⟨go42, co42, eo42, gb42, gl42, cl42, HG42⟩ := RB.form HO_25.out (by omega)
                (first | cases eo42 | (injection eo42 with ea_ en_ ec_; (first | subst ea_ | (injection ea_ with ea_; subst ea_)); subst ec_; clear en_))
                have GB42 := am gb42
                have GG42 := am HG42
                clear gb42 gl42 HG42
                (first | simp only [add_plain] at hx937_0 | skip)
                obtain ⟨hx42_0, hf42_0⟩ := RB.celln 0 HO_25.out (t936 : Int) p42 q42
                replace p42 := eq_true p42
                replace q42 := eq_true q42
                have HP45 := RB.putn HO_25.out (t936 : Int) (((rd x25_3 t936) + (rd l7 x26_3)) % 256)
                rw [← Ny939.out] at HP45
                have HQ45 := am HP45
                clear HP45
                refine hK.out _ _ ⟨((HB.out.cell (World.block_lt_of_cell? w _ hw935_0)).trans hw935_0), ((HB.out.cell (World.block_lt_of_cell? w _ hw938_0)).trans hw938_0), hHeld.2.2⟩ (fun hHeld => ?_)
                clear hK K
                refine no 105 ?_
                refine pu 8 (some 106) #[true, true, true, true, true, true, true, true, true, false, true, true, true, true, false, false, false] ?_
                refine take_ (i := 9) (N := some 107) (v := ?_) (a' := ?_) #[true, true, true, true, true, true, true, true, true, true, true, true, true, true, false, false, false] rfl rfl (take_ofW HT_.out HW_.out (by kernel_rfl)) (fun _ _ _ h => h) (Or.inl ⟨by rfl, ?_⟩) hHeld ?_ ?_
                rotate_left
                ·rintro w' ⟨s0, s1, s2⟩; (try simp only [add_plain] at s2)
                 go_simp
                 with_reducible rfl
                rotate_left
                ·simp only [Act.put, List.setIfInBounds_toArray, List.set_cons_zero, List.set_cons_succ, i64_w, i32_w]
                 rfl
                refine pu 14 (some 112) #[true, true, true, true, true, true, true, true, true, true, true, true, true, true, true, false, false] ?_
                refine pu 15 (some 113) #[true, true, true, true, true, true, true, true, true, true, true, true, true, true, true, true, false] ?_
                refine last_ (i := 16) (N := none) #[true, true, true, true, true, true, true, true, true, true, true, true, true, true, true, true, true] rfl rfl (one_of HT_.out (by kernel_rfl)) (by decide) (fun K hK => ?_)
                refine skip_ (w1 := ?_) (by rfl) rfl ?_ ?_
                rotate_left
                ·go_simp
                 rfl
                refine hK.out _ _ ?_
                clear hK K
                refine done_ (done_of HT_.out (by kernel_rfl)) ?_
                try go_wp2
                go_roundg k3
                case measure => have := HJ13.out; have := HJ21.out; have := HK3.out; omega
                case rel => exact ⟨(y939), (wrap64 (x26_3 + 1)), (by first | rfl | (simp; done) | (simp [*]; done)), H', ⟨by have := HJ13.out; have := HJ21.out; have := HK3.out; omega⟩, ⟨by (with_reducible repeat (first | apply RB.alloc | apply RB.drewN | apply RB.drew)); exact HQ45.out⟩, ⟨by repeat (first | (with_reducible first | exact HB.out | apply below_alloc | apply pw_below_drewN | apply below_drew1 | refine below_set ?_ GB42.out) | exact HB.out)⟩⟩
               ·rw [if_neg c41] at H
                exact absurd H (by simp)
              ·rw [if_neg c40] at H
               exact absurd H (by simp)
             ·rw [if_neg c38] at H
              exact absurd H (by simp)
            ·rw [if_neg c37] at H
             have c37b0 : decide (x26_3 < 3) = false := decide_eq_false c37
             clear c37
             have H' := am H
             clear H
             go_wp2
             go_meet
             case rel => exact ⟨_, (x25_3), H', ⟨by have := HJ13.out; have := HJ21.out; have := HK3.out; first | omega | exact Nat.le_refl _⟩, ⟨by (with_reducible repeat (first | apply RB.alloc | apply RB.drewN | apply RB.drew)); exact HO_25.out⟩, ⟨bel⟩⟩
           ·rw [if_neg c36] at H
            have c36b0 : decide (x26_3 < (l7.length : Int)) = false := decide_eq_false c36
            clear c36
            have H' := am H
            clear H
            go_wp2
            go_meet
            case rel => exact ⟨_, (x25_3), H', ⟨by have := HJ13.out; have := HJ21.out; have := HK3.out; first | omega | exact Nat.le_refl _⟩, ⟨by (with_reducible repeat (first | apply RB.alloc | apply RB.drewN | apply RB.drew)); exact HO_25.out⟩, ⟨bel⟩⟩
          ·rw [if_neg c35] at H
           have c35b0 : decide (x26_3 < (l6.length : Int)) = false := decide_eq_false c35
           clear c35
           (first | rw [c35b0] | (simp only [i64_w, i32_w]; rw [c35b0]) | skip)
           have H' := am H
           clear H
           go_wp2
           go_meet
           case rel => exact ⟨_, (x25_3), H', ⟨by have := HJ13.out; have := HJ21.out; have := HK3.out; first | omega | exact Nat.le_refl _⟩, ⟨by (with_reducible repeat (first | apply RB.alloc | apply RB.drewN | apply RB.drew)); exact HO_25.out⟩, ⟨bel⟩⟩
       case rest =>
        clear HC33
        try clear c1
        try clear c2
        try clear p2
        try clear c3
        try clear c4
        try clear p4
        try clear q4
        try clear hx4
        try clear c6
        try clear p6
        try clear c7
        try clear c9
        try clear p9
        try clear q9
        try clear hx9
        try clear c13
        try clear c14
        try clear c15
        try clear c16
        try clear c16b0
        try clear c16b1
        try clear c17
        try clear c17b0
        try clear c17b1
        try clear c18
        try clear c26
        try clear c35
        try clear c35b0
        try clear c36
        try clear c36b0
        try clear c37
        try clear c37b0
        try clear c38
        try clear c38b0
        try clear c40
        try clear c40b0
        try clear c41
        try clear c41b0
        try clear p42
        try clear q42
        try clear hx42
        try clear hf42
        try clear hx42_0
        try clear hx935_0
        try clear hx937_0
        try clear hx938_0
        try clear p2
        try clear p42
        try clear p6
        try clear p935
        try clear p937
        try clear p938
        try clear q42
        try clear q935
        try clear q937
        try clear q938
        obtain ⟨kq, x25_32, HA, HJ32, HO_25, HB⟩ := hcut
        cases kq with
        | zero => exact absurd HA.out (by simp [federationlaw7_CmdReads.j3])
        | succ kj32 =>
         have H := HA.out
         clear HA
         simp only [federationlaw7_CmdReads.j3] at H
         replace H := Option.bind_eq_some_iff.mp H
         obtain ⟨t940, A460, H⟩ := H
         replace H : (if 0 ≤ t940 then (if t940 ≤ (x23_21.size : Int) then (if (x23_21.extract 0 (t940 : Int).toNat).size + a9.size ≤ 9223372036854775807 then (if ((x23_21.extract 0 (t940 : Int).toNat) ++ a9).size + (x23_21.extract (t940 : Int).toNat x23_21.size).size ≤ 9223372036854775807 then (if 1 + a10.size ≤ 9223372036854775807 then (if x23_21.size + 1 ≤ 9223372036854775807 then (federationlaw7_CmdReads.l1 kj32 (([strOfNums x25_32, x23_21.extract 0 (t940 : Int).toNat, ((x23_21.extract 0 (t940 : Int).toNat) ++ a9) ++ (x23_21.extract (t940 : Int).toNat x23_21.size), a10, (⟨#[49]⟩ : ByteArray) ++ a10, (⟨#[50]⟩ : ByteArray) ++ a10, x23_21 ++ (⟨#[0]⟩ : ByteArray)] : List ByteArray)) 0) else (none)) else (none)) else (none)) else (none)) else (none)) else (none)) = some r := H
         have A46 := am A460
         clear A460
         by_cases c47 : 0 ≤ t940
         ·rw [if_pos c47] at H
          have c47b0 := eq_true c47
          have c47b1 : decide (0 ≤ t940) = true := decide_eq_true c47
          clear c47
          by_cases c48 : t940 ≤ (x23_21.size : Int)
          ·rw [if_pos c48] at H
           have c48b0 := eq_true c48
           have c48b1 : decide (t940 ≤ (x23_21.size : Int)) = true := decide_eq_true c48
           clear c48
           have c49b0 := eq_true (of_decide_eq_true (by first | (with_reducible assumption) | assumption) : 0 ≤ t940)
           have c50b0 := eq_true (of_decide_eq_true (by first | (with_reducible assumption) | assumption) : t940 ≤ (x23_21.size : Int))
           by_cases c51 : (x23_21.extract 0 (t940 : Int).toNat).size + a9.size ≤ 9223372036854775807
           ·rw [if_pos c51] at H
            have c51b0 := eq_true c51
            have c51b1 : decide ((x23_21.extract 0 (t940 : Int).toNat).size + a9.size ≤ 9223372036854775807) = true := decide_eq_true c51
            try have c51b2 : (9223372036854775807 < (x23_21.extract 0 (t940 : Int).toNat).size + a9.size) = False := eq_false (Nat.not_lt.2 c51)
            have c52b0 := eq_true (of_decide_eq_true (by first | (with_reducible assumption) | assumption) : 0 ≤ t940)
            have c53b0 := eq_true (of_decide_eq_true (by first | (with_reducible assumption) | assumption) : t940 ≤ (x23_21.size : Int))
            by_cases c54 : ((x23_21.extract 0 (t940 : Int).toNat) ++ a9).size + (x23_21.extract (t940 : Int).toNat x23_21.size).size ≤ 9223372036854775807
            ·rw [if_pos c54] at H
             have c54b0 := eq_true c54
             have c54b1 : decide (((x23_21.extract 0 (t940 : Int).toNat) ++ a9).size + (x23_21.extract (t940 : Int).toNat x23_21.size).size ≤ 9223372036854775807) = true := decide_eq_true c54
             try have c54b2 : (9223372036854775807 < ((x23_21.extract 0 (t940 : Int).toNat) ++ a9).size + (x23_21.extract (t940 : Int).toNat x23_21.size).size) = False := eq_false (Nat.not_lt.2 c54)
             have c51b7 : (9223372036854775807 < t940.toNat + a9.size) = False := by have h_ := c51; have q_ := of_eq_true c48b0; rw [ByteArray.size_extract] at h_; exact eq_false (by omega)
             have c54b7 : (9223372036854775807 < t940.toNat + a9.size + (x23_21.size - t940.toNat)) = False := by have h_ := c54; have q_ := of_eq_true c48b0; rw [ByteArray.size_append, ByteArray.size_extract, ByteArray.size_extract] at h_; exact eq_false (by omega)
             by_cases c55 : 1 + a10.size ≤ 9223372036854775807
             ·rw [if_pos c55] at H
              have c55b0 := eq_true c55
              have c55b1 : decide (1 + a10.size ≤ 9223372036854775807) = true := decide_eq_true c55
              try have c55b2 : (9223372036854775807 < 1 + a10.size) = False := eq_false (Nat.not_lt.2 c55)
              by_cases c56 : x23_21.size + 1 ≤ 9223372036854775807
              ·rw [if_pos c56] at H
               have c56b0 := eq_true c56
               have c56b1 : decide (x23_21.size + 1 ≤ 9223372036854775807) = true := decide_eq_true c56
               try have c56b2 : (9223372036854775807 < x23_21.size + 1) = False := eq_false (Nat.not_lt.2 c56)
               obtain ⟨y941, hy941⟩ : ∃ y_ : List ByteArray, y_ = (([strOfNums x25_32, x23_21.extract 0 (t940 : Int).toNat, ((x23_21.extract 0 (t940 : Int).toNat) ++ a9) ++ (x23_21.extract (t940 : Int).toNat x23_21.size), a10, (⟨#[49]⟩ : ByteArray) ++ a10, (⟨#[50]⟩ : ByteArray) ++ a10, x23_21 ++ (⟨#[0]⟩ : ByteArray)] : List ByteArray)) := ⟨_, rfl⟩
               replace H : (federationlaw7_CmdReads.l1 kj32 y941 0) = some r := by first | (rw [hy941]; with_reducible exact H) | (have H2_ := (Option.bind_some _ _).symm.trans H; rw [hy941]; with_reducible exact H2_) | (have H2_ := (Option.bind_some _ _).symm.trans H; with_reducible exact H2_) | with_reducible exact H | (rw [hy941]; exact H) | exact H
               have Ny941 := am hy941
               clear hy941
               have H' := am H
               clear H
               have hw_ : wrap64 ((x23_21.size : Int) + 1) = ((x23_21.size : Int) + 1) := by unfold wrap64; omega
               have hA_ := A46.out; rw [hw_] at hA_; clear A46 hw_; have A46 := am hA_; clear hA_
               try go_wp2_with (first | ((with_reducible refine gate_callee (f := 15) rfl ?_); refine goesL_ (some 118) rfl rfl Try.func15 (by kernel_rfl) rfl #[.int .i64 a8, .int .i64 ((x23_21.size : Int) + 1)] rfl ar ?_; (with_reducible refine (federationlaw7_within.calls a8 ((x23_21.size : Int) + 1) t940 _ A46.out).mono ?_); rintro e w' ⟨rfl, ⟨nd, rfl⟩⟩; refine ⟨_, rfl, ?_⟩))
               (try (rw [drewN_self wc]; generalize hq_ : World.drewN wc _ = wc; have n0_ : Aside0 (RB wc w.heap.size v933 x25_32) := ⟨by rw [← hq_]; exact (by (with_reducible repeat (first | apply RB.alloc | apply RB.drewN | apply RB.drew)); exact HO_25.out)⟩; have n1_ : Aside0 (Below w.heap.size w wc) := ⟨by rw [← hq_]; exact bel⟩; clear HO_25 HB hq_; have HO_25 := n0_; have HB := n1_; clear n0_ n1_))
               have n_ := z2 (RB.drew HO_25.out) (below_drew1 HB.out)
               clear HO_25 HB
               obtain ⟨HO_25, HB⟩ := n_
               refine start_ (n := 23) (S := fun w' => (convert 35 9 v933).run Try.prog w' = .ok (.string (strOfNums x25_32)) w') (ds := []) #[false, false, false, false, false, false, false, false, false, false, false, false, false, false, false, false, false, false, false, false, false, false, false] (by kernel_rfl) rfl rfl (RB.str Try.underlying35 Try.underlying5 Try.underlying9 HO_25.out) (fun hHeld => ?_); refine with_tabW federationlaw7_CmdReads.tab14 federationlaw7_CmdReads.bits14 (fun HT_ HW_ => ?_)
               generalize wc.drew = w57 at HO_25 HB hHeld ⊢
               refine pu 0 (some 119) #[true, false, false, false, false, false, false, false, false, false, false, false, false, false, false, false, false, false, false, false, false, false, false] ?_
               refine take_ (i := 1) (N := some 120) (v := ?_) (a' := ?_) #[true, true, false, false, false, false, false, false, false, false, false, false, false, false, false, false, false, false, false, false, false, false, false] rfl rfl (take_ofW HT_.out HW_.out (by kernel_rfl)) (fun _ _ _ h => h) (Or.inl ⟨by rfl, ?_⟩) hHeld ?_ ?_
               rotate_left
               ·intro w' s0
                go_simp
                with_reducible rfl
               rotate_left
               ·simp only [Act.put, List.setIfInBounds_toArray, List.set_cons_zero, List.set_cons_succ, i64_w, i32_w]
                rfl
               refine pu 2 (some 121) #[true, true, true, false, false, false, false, false, false, false, false, false, false, false, false, false, false, false, false, false, false, false, false] ?_
               refine pu 3 (some 122) #[true, true, true, true, false, false, false, false, false, false, false, false, false, false, false, false, false, false, false, false, false, false, false] ?_
               refine pu 4 (some 123) #[true, true, true, true, true, false, false, false, false, false, false, false, false, false, false, false, false, false, false, false, false, false, false] ?_
               refine pu 5 (some 124) #[true, true, true, true, true, true, false, false, false, false, false, false, false, false, false, false, false, false, false, false, false, false, false] ?_
               refine pu 6 (some 125) #[true, true, true, true, true, true, true, false, false, false, false, false, false, false, false, false, false, false, false, false, false, false, false] ?_
               refine pu 7 (some 126) #[true, true, true, true, true, true, true, true, false, false, false, false, false, false, false, false, false, false, false, false, false, false, false] ?_
               refine pu 8 (some 127) #[true, true, true, true, true, true, true, true, true, false, false, false, false, false, false, false, false, false, false, false, false, false, false] ?_
               refine pu 9 (some 128) #[true, true, true, true, true, true, true, true, true, true, false, false, false, false, false, false, false, false, false, false, false, false, false] ?_
               refine pu 10 (some 129) #[true, true, true, true, true, true, true, true, true, true, true, false, false, false, false, false, false, false, false, false, false, false, false] ?_
               refine pu 11 (some 130) #[true, true, true, true, true, true, true, true, true, true, true, true, false, false, false, false, false, false, false, false, false, false, false] ?_
               refine pu 12 (some 131) #[true, true, true, true, true, true, true, true, true, true, true, true, true, false, false, false, false, false, false, false, false, false, false] ?_
               refine pu 13 (some 132) #[true, true, true, true, true, true, true, true, true, true, true, true, true, true, false, false, false, false, false, false, false, false, false] ?_
               refine pu 14 (some 133) #[true, true, true, true, true, true, true, true, true, true, true, true, true, true, true, false, false, false, false, false, false, false, false] ?_
               refine pu 15 (some 134) #[true, true, true, true, true, true, true, true, true, true, true, true, true, true, true, true, false, false, false, false, false, false, false] ?_
               refine pu 16 (some 135) #[true, true, true, true, true, true, true, true, true, true, true, true, true, true, true, true, true, false, false, false, false, false, false] ?_
               refine pu 17 (some 136) #[true, true, true, true, true, true, true, true, true, true, true, true, true, true, true, true, true, true, false, false, false, false, false] ?_
               refine pu 18 (some 137) #[true, true, true, true, true, true, true, true, true, true, true, true, true, true, true, true, true, true, true, false, false, false, false] ?_
               refine pu 19 (some 138) #[true, true, true, true, true, true, true, true, true, true, true, true, true, true, true, true, true, true, true, true, false, false, false] ?_
               refine pu 20 (some 139) #[true, true, true, true, true, true, true, true, true, true, true, true, true, true, true, true, true, true, true, true, true, false, false] ?_
               refine on 21 (some 140) #[true, true, true, true, true, true, true, true, true, true, true, true, true, true, true, true, true, true, true, true, true, true, false] (fun K hK => ?_)
               refine Kd.R_lit_step Kd.string _ 9 ?hg (N := 140) ?hd (xs := ([strOfNums x25_32, x23_21.extract 0 (t940 : Int).toNat, ((x23_21.extract 0 (t940 : Int).toNat) ++ a9) ++ (x23_21.extract (t940 : Int).toNat x23_21.size), a10, (⟨#[49]⟩ : ByteArray) ++ a10, (⟨#[50]⟩ : ByteArray) ++ a10, x23_21 ++ (⟨#[0]⟩ : ByteArray)] : List ByteArray)) (inner := [.string (strOfNums x25_32), .string (x23_21.extract 0 (t940 : Int).toNat), .string (((x23_21.extract 0 (t940 : Int).toNat) ++ a9) ++ (x23_21.extract (t940 : Int).toNat x23_21.size)), .string a10, .string ((⟨#[49]⟩ : ByteArray) ++ a10), .string ((⟨#[50]⟩ : ByteArray) ++ a10), .string (x23_21 ++ (⟨#[0]⟩ : ByteArray))]) (ok := fun _ => True) (okp := fun _ => True) ?hr ?hp (fun _ hk => hk) trivial (Below.refl _ _) (Nat.le_refl _) (by simp) ?_; (case hd => rfl); (case hg => rfl); (case hr => first | (go_simp; done) | (go_simp; rfl)); (case hp => exact (Reps.one (show Kd.M Kd.string _ _ _ (strOfNums x25_32) [.string (strOfNums x25_32)] from rfl) (Reps.one (show Kd.M Kd.string _ _ _ (x23_21.extract 0 (t940 : Int).toNat) [.string (x23_21.extract 0 (t940 : Int).toNat)] from rfl) (Reps.one (show Kd.M Kd.string _ _ _ (((x23_21.extract 0 (t940 : Int).toNat) ++ a9) ++ (x23_21.extract (t940 : Int).toNat x23_21.size)) [.string (((x23_21.extract 0 (t940 : Int).toNat) ++ a9) ++ (x23_21.extract (t940 : Int).toNat x23_21.size))] from rfl) (Reps.one (show Kd.M Kd.string _ _ _ a10 [.string a10] from rfl) (Reps.one (show Kd.M Kd.string _ _ _ ((⟨#[49]⟩ : ByteArray) ++ a10) [.string ((⟨#[49]⟩ : ByteArray) ++ a10)] from rfl) (Reps.one (show Kd.M Kd.string _ _ _ ((⟨#[50]⟩ : ByteArray) ++ a10) [.string ((⟨#[50]⟩ : ByteArray) ++ a10)] from rfl) (Reps.one (show Kd.M Kd.string _ _ _ (x23_21 ++ (⟨#[0]⟩ : ByteArray)) [.string (x23_21 ++ (⟨#[0]⟩ : ByteArray))] from rfl) (Reps.none _ _)))))))))
               intro v942 w59 ho60 hb hg_ hnew_
               clear hg_ hnew_
               (first | rw [← Ny941.out] at ho60 | (simp only [Int.reduceToNat] at ho60; rw [← Ny941.out] at ho60))
               have n_ := z3 (RB.below (by (with_reducible repeat (first | apply RB.alloc | apply RB.drewN | apply RB.drew)); exact HO_25.out) hb) (Kd.R_lower ho60 (below_size bel)) (below_step bel hb)
               clear HO_25 HB
               obtain ⟨HO_25, HO943, HB⟩ := n_
               clear hb ho60
               refine hK.out _ _ (RB.str Try.underlying35 Try.underlying5 Try.underlying9 HO_25.out) (fun hHeld => ?_)
               clear hK K
               refine no 140 ?_
               refine pu 22 (some 28) #[true, true, true, true, true, true, true, true, true, true, true, true, true, true, true, true, true, true, true, true, true, true, true] ?_
               refine done_ (done_of HT_.out (by kernel_rfl)) ?_
               try go_wp2
               go_loopg [29] kj32 (fun kq v29 w' => ∃ (x29_4 : Int), v29 = .int .i64 x29_4 ∧ Aside0 (federationlaw7_CmdReads.l1 kq y941 x29_4 = some r) ∧ Aside0 (kq ≤ kj32) ∧ Aside0 (Kd.R Kd.string 9 w' w.heap.size (fun _ => True) v942 y941) ∧ Aside0 (Below w.heap.size w w'))
               case atStart => exact ⟨(0), (by first | rfl | (simp; done) | (simp [*]; done)), H', ⟨Nat.le_refl _⟩, ⟨kr HO943.out⟩, ⟨bel⟩⟩
               case round =>
                clear H'
                try clear c1
                try clear c2
                try clear p2
                try clear c3
                try clear c4
                try clear p4
                try clear q4
                try clear hx4
                try clear c5
                try clear hcv5
                try clear c6
                try clear p6
                try clear c7
                try clear c9
                try clear p9
                try clear q9
                try clear hx9
                try clear c13
                try clear c14
                try clear c15
                try clear c16
                try clear c16b0
                try clear c16b1
                try clear c17
                try clear c17b0
                try clear c17b1
                try clear c18
                try clear c26
                try clear c35
                try clear c35b0
                try clear c36
                try clear c36b0
                try clear c37
                try clear c37b0
                try clear c38
                try clear c38b0
                try clear c40
                try clear c40b0
                try clear c41
                try clear c41b0
                try clear p42
                try clear q42
                try clear hx42
                try clear hf42
                try clear c47
                try clear c47b0
                try clear c47b1
                try clear c48
                try clear c48b0
                try clear c48b1
                try clear c49
                try clear c49b0
                try clear c50
                try clear c50b0
                try clear c51
                try clear c51b0
                try clear c51b1
                try clear c51b2
                try clear c52
                try clear c52b0
                try clear c53
                try clear c53b0
                try clear c54
                try clear c54b0
                try clear c54b1
                try clear c54b2
                try clear c55
                try clear c55b0
                try clear c55b1
                try clear c55b2
                try clear c56
                try clear c56b0
                try clear c56b1
                try clear c56b2
                try clear hcv58
                try clear hx42_0
                try clear hx935_0
                try clear hx937_0
                try clear hx938_0
                try clear p2
                try clear p4
                try clear p42
                try clear p6
                try clear p9
                try clear p935
                try clear p937
                try clear p938
                try clear q4
                try clear q42
                try clear q9
                try clear q935
                try clear q937
                try clear q938
                obtain ⟨x29_4, rfl, HA, HK4, HO_28, HB⟩ := hrel
                cases gk with
                | zero => exact absurd HA.out (by simp [federationlaw7_CmdReads.l1])
                | succ k4 =>
                 have H := HA.out
                 clear HA
                 simp only [federationlaw7_CmdReads.l1] at H
                 by_cases c61 : x29_4 < (y941.length : Int)
                 ·rw [if_pos c61] at H
                  have c61b0 : decide (x29_4 < (y941.length : Int)) = true := decide_eq_true c61
                  clear c61
                  by_cases c62 : 0 ≤ x29_4
                  ·rw [if_pos c62] at H
                   have c62b0 : decide (0 ≤ x29_4) = true := decide_eq_true c62
                   clear c62
                   replace H := Option.bind_eq_some_iff.mp H
                   obtain ⟨⟨t945, t946, t947, t948, t949, t952, t953, t954⟩, A630, H⟩ := H
                   replace H : ((federationref7_Decode.f k4 (rdOf ByteArray.empty y941 x29_4)).bind fun bt957 => ((cmd_Up.f k4 (rdOf ByteArray.empty y941 x29_4)).bind fun bt969 => ((federationref7_Up.f k4 (rdOf ByteArray.empty y941 x29_4)).bind fun bt972 => (if (t954 != bt957.2.2.2.2.2.2.2) = true then (some false) else (if t953 = bt957.2.2.2.2.2.2.1 then ((federationref7_Same.f k4 t945 t946 t947 t948 t949 t952 bt957.1 bt957.2.1 bt957.2.2.1 bt957.2.2.2.1 bt957.2.2.2.2.1 bt957.2.2.2.2.2.1).bind fun t974 => (if t974 = true then (if bt969.1.toList = bt972.1.toList then (if (bt969.2 != bt972.2) = true then (some false) else (federationlaw7_CmdReads.l1 k4 y941 (wrap64 (x29_4 + 1)))) else (some false)) else (some false))) else (some false)))))) = some r := H
                   have A63 := am A630
                   clear A630
                   replace H := Option.bind_eq_some_iff.mp H
                   obtain ⟨⟨t957, t958, t959, t960, t961, t964, t965, t966⟩, A640, H⟩ := H
                   replace H : ((cmd_Up.f k4 (rdOf ByteArray.empty y941 x29_4)).bind fun bt969 => ((federationref7_Up.f k4 (rdOf ByteArray.empty y941 x29_4)).bind fun bt972 => (if (t954 != t966) = true then (some false) else (if t953 = t965 then ((federationref7_Same.f k4 t945 t946 t947 t948 t949 t952 t957 t958 t959 t960 t961 t964).bind fun t974 => (if t974 = true then (if bt969.1.toList = bt972.1.toList then (if (bt969.2 != bt972.2) = true then (some false) else (federationlaw7_CmdReads.l1 k4 y941 (wrap64 (x29_4 + 1)))) else (some false)) else (some false))) else (some false))))) = some r := H
                   have A64 := am A640
                   clear A640
                   replace H := Option.bind_eq_some_iff.mp H
                   obtain ⟨⟨t969, t970⟩, A650, H⟩ := H
                   replace H : ((federationref7_Up.f k4 (rdOf ByteArray.empty y941 x29_4)).bind fun bt972 => (if (t954 != t966) = true then (some false) else (if t953 = t965 then ((federationref7_Same.f k4 t945 t946 t947 t948 t949 t952 t957 t958 t959 t960 t961 t964).bind fun t974 => (if t974 = true then (if t969.toList = bt972.1.toList then (if (t970 != bt972.2) = true then (some false) else (federationlaw7_CmdReads.l1 k4 y941 (wrap64 (x29_4 + 1)))) else (some false)) else (some false))) else (some false)))) = some r := H
                   have A65 := am A650
                   clear A650
                   replace H := Option.bind_eq_some_iff.mp H
                   obtain ⟨⟨t972, t973⟩, A660, H⟩ := H
                   replace H : (if (t954 != t966) = true then (some false) else (if t953 = t965 then ((federationref7_Same.f k4 t945 t946 t947 t948 t949 t952 t957 t958 t959 t960 t961 t964).bind fun t974 => (if t974 = true then (if t969.toList = t972.toList then (if (t970 != t973) = true then (some false) else (federationlaw7_CmdReads.l1 k4 y941 (wrap64 (x29_4 + 1)))) else (some false)) else (some false))) else (some false))) = some r := H
                   have A66 := am A660
                   clear A660
                   obtain ⟨Ao68, co68, eo68⟩ := Kd.R_slice HO_28.out
                   subst eo68
                   have p944 : 0 ≤ (x29_4 : Int) := of_decide_eq_true (by first | (with_reducible assumption) | assumption)
                   have q944 : x29_4 < (y941.length : Int) := of_decide_eq_true (by first | (with_reducible assumption) | assumption)
                   obtain ⟨ad944, e944, hx944_0⟩ := Kd.at_string (Kd.R_reads' HO_28.out).2.2 x29_4 p944 q944
                   cases e944
                   replace p944 := eq_true p944
                   replace q944 := eq_true q944
                   go_upto_region 22 with (first | ((with_reducible refine gate_callee (f := 18) rfl ?_); refine goesL_ (some 152) rfl rfl Try.func18 (by kernel_rfl) rfl #[.string (rdOf ByteArray.empty y941 x29_4)] rfl ar ?_; (with_reducible refine (cmd_Decode.calls k4 (rdOf ByteArray.empty y941 x29_4) t945 t946 t947 t948 t949 t952 t953 t954 _ A63.out).mono ?_); rintro e w69 ⟨v950, rfl, ho0, hb⟩; refine ⟨_, rfl, ?_⟩; have n_ := z3 (Kd.R_below (kr HO_28.out) hb) (Kd.R_lower ho0 (below_size bel)) (below_step bel hb); clear HO_28 HB; obtain ⟨HO_28, HO951, HB⟩ := n_; (try clear hb); (try clear hb2); (try clear hk); (try clear hi); (try clear ho0)) | ((with_reducible refine gate_dst (N := 30) rfl ?_); refine bx 30 26 (cs := #[.int .i64 0, .int .i64 0, .int .i64 0, .bool false, .slice none 0 0, .string (⟨#[]⟩ : ByteArray)]) ?_; intro gb955 hg w70 hbox hb; have n_ := z6 (Kd.R_below (kr HO_28.out) hb) (Kd.R_below (kr HO951.out) hb) (below_step bel hb) (hbox) ((by rw [hg]; exact (below_size bel) : w.heap.size ≤ gb955)) ((by rw [hg]; exact (below_size bel) : w.heap.size ≤ gb955)); clear HO_28 HO951 HB; obtain ⟨HO_28, HO951, HB, BK955, GW955, GE955⟩ := n_; clear hb hbox hg; obtain ⟨hcz71_0, hcz71_1, hcz71_2, hcz71_3, hcz71_4, hcz71_5⟩ := cells6 BK955.out; obtain ⟨hfz71_0, hfz71_1, hfz71_2, hfz71_3, hfz71_4, hfz71_5⟩ := froz6 BK955.out; obtain ⟨Ao72, co72, eo72⟩ := Kd.R_slice HO951.out; subst eo72; have p956 : 0 ≤ (x29_4 : Int) := of_decide_eq_true (by first | (with_reducible assumption) | assumption); have q956 : x29_4 < (y941.length : Int) := of_decide_eq_true (by first | (with_reducible assumption) | assumption); obtain ⟨ad956, e956, hx956_0⟩ := Kd.at_string (Kd.R_reads' HO_28.out).2.2 x29_4 p956 q956; obtain rfl : ad944 = ad956 := (by injection e956); have hn956_0 : ad944.block ≠ gb955 := Kd.own_blk (Kd.R_ne HO_28.out BK955.out (by decide)); have hn956_1 : ad944.block ≠ gb955 := Kd.own_blk (Kd.R_ne HO_28.out BK955.out (by decide)); have hn956_2 : ad944.block ≠ gb955 := Kd.own_blk (Kd.R_ne HO_28.out BK955.out (by decide)); have hn956_3 : ad944.block ≠ gb955 := Kd.own_blk (Kd.R_ne HO_28.out BK955.out (by decide)); have hn956_4 : ad944.block ≠ gb955 := Kd.own_blk (Kd.R_ne HO_28.out BK955.out (by decide)); have hn956_5 : ad944.block ≠ gb955 := Kd.own_blk (Kd.R_ne HO_28.out BK955.out (by decide)); replace hx956_0 := (cell_far (p := ⟨gb955, 0, none⟩) (by first | (rw [add_block]; exact hn956_0) | (show (Addr.add _ _).block ≠ _; rw [add_block]; exact hn956_0) | exact hn956_0) (.int .i64 t945)).trans hx956_0; replace hx956_0 := (cell_far (p := ⟨gb955, 1, none⟩) (by first | (rw [add_block]; exact hn956_1) | (show (Addr.add _ _).block ≠ _; rw [add_block]; exact hn956_1) | exact hn956_1) (.int .i64 t946)).trans hx956_0; replace hx956_0 := (cell_far (p := ⟨gb955, 2, none⟩) (by first | (rw [add_block]; exact hn956_2) | (show (Addr.add _ _).block ≠ _; rw [add_block]; exact hn956_2) | exact hn956_2) (.int .i64 t947)).trans hx956_0; replace hx956_0 := (cell_far (p := ⟨gb955, 3, none⟩) (by first | (rw [add_block]; exact hn956_3) | (show (Addr.add _ _).block ≠ _; rw [add_block]; exact hn956_3) | exact hn956_3) (.bool t948)).trans hx956_0; replace hx956_0 := (cell_far (p := ⟨gb955, 4, none⟩) (by first | (rw [add_block]; exact hn956_4) | (show (Addr.add _ _).block ≠ _; rw [add_block]; exact hn956_4) | exact hn956_4) (.slice Ao72 t949.length co72)).trans hx956_0; replace hx956_0 := (cell_far (p := ⟨gb955, 5, none⟩) (by first | (rw [add_block]; exact hn956_5) | (show (Addr.add _ _).block ≠ _; rw [add_block]; exact hn956_5) | exact hn956_5) (.string t952)).trans hx956_0; clear hn956_0 hn956_1 hn956_2 hn956_3 hn956_4 hn956_5; replace p956 := eq_true p956; replace q956 := eq_true q956) | ((with_reducible refine gate_callee (f := 20) rfl ?_); refine goesL_ (some 161) rfl rfl Try.func20 (by kernel_rfl) rfl #[.string (rdOf ByteArray.empty y941 x29_4)] rfl ar ?_; (with_reducible refine (federationref7_Decode.calls k4 (rdOf ByteArray.empty y941 x29_4) t957 t958 t959 t960 t961 t964 t965 t966 _ A64.out).mono ?_); rintro e w73 ⟨v962, rfl, ho0, hb⟩; refine ⟨_, rfl, ?_⟩; have n_ := z5 (Kd.R_below (by (with_reducible repeat (first | apply Kd.R_alloc | apply Kd.R_drewN | apply Kd.R_drew)); exact (Kd.R_mono (Kd.R_far (p := ⟨gb955, 5, none⟩) (Kd.R_far (p := ⟨gb955, 4, none⟩) (Kd.R_far (p := ⟨gb955, 3, none⟩) (Kd.R_far (p := ⟨gb955, 2, none⟩) (Kd.R_far (p := ⟨gb955, 1, none⟩) (Kd.R_far (p := ⟨gb955, 0, none⟩) (Kd.R_types HO_28.out BK955.out (by decide)) (fun _ hk => hk.2) (.int .i64 t945)) (fun _ hk => hk.2) (.int .i64 t946)) (fun _ hk => hk.2) (.int .i64 t947)) (fun _ hk => hk.2) (.bool t948)) (fun _ hk => hk.2) (.slice Ao72 t949.length co72)) (fun _ hk => hk.2) (.string t952)) (fun _ h_ => h_.1))) hb) (Kd.R_elder' (by (with_reducible repeat (first | apply Kd.R_alloc | apply Kd.R_drewN | apply Kd.R_drew)); exact (Kd.R_mono (Kd.R_far (p := ⟨gb955, 5, none⟩) (Kd.R_far (p := ⟨gb955, 4, none⟩) (Kd.R_far (p := ⟨gb955, 3, none⟩) (Kd.R_far (p := ⟨gb955, 2, none⟩) (Kd.R_far (p := ⟨gb955, 1, none⟩) (Kd.R_far (p := ⟨gb955, 0, none⟩) (Kd.R_types HO951.out BK955.out (by decide)) (fun _ hk => hk.2) (.int .i64 t945)) (fun _ hk => hk.2) (.int .i64 t946)) (fun _ hk => hk.2) (.int .i64 t947)) (fun _ hk => hk.2) (.bool t948)) (fun _ hk => hk.2) (.slice Ao72 t949.length co72)) (fun _ hk => hk.2) (.string t952)) (fun _ h_ => h_.1))) (Kd.R_base ho0) hb) (Kd.R_lower (Kd.R_new' ho0 (Kd.R_lt (by (with_reducible repeat (first | apply Kd.R_alloc | apply Kd.R_drewN | apply Kd.R_drew)); exact (Kd.R_mono (Kd.R_far (p := ⟨gb955, 5, none⟩) (Kd.R_far (p := ⟨gb955, 4, none⟩) (Kd.R_far (p := ⟨gb955, 3, none⟩) (Kd.R_far (p := ⟨gb955, 2, none⟩) (Kd.R_far (p := ⟨gb955, 1, none⟩) (Kd.R_far (p := ⟨gb955, 0, none⟩) (Kd.R_types HO951.out BK955.out (by decide)) (fun _ hk => hk.2) (.int .i64 t945)) (fun _ hk => hk.2) (.int .i64 t946)) (fun _ hk => hk.2) (.int .i64 t947)) (fun _ hk => hk.2) (.bool t948)) (fun _ hk => hk.2) (.slice Ao72 t949.length co72)) (fun _ hk => hk.2) (.string t952)) (fun _ h_ => h_.1))))) (below_size bel)) (blk_below (g := gb955) (o := .cells #[.int .i64 t945, .int .i64 t946, .int .i64 t947, .bool t948, .slice Ao72 t949.length co72, .string t952] 26 (0, 0)) (bp BK955.out) hb) (below_step bel hb); clear HO_28 HO951 BK955 HB; obtain ⟨HO_28, HO951, HO963, BK955, HB⟩ := n_; (try clear hb); (try clear hb2); (try clear hk); (try clear hi); (try clear ho0)) | ((with_reducible refine gate_dst (N := 33) rfl ?_); refine bx 33 26 (cs := #[.int .i64 0, .int .i64 0, .int .i64 0, .bool false, .slice none 0 0, .string (⟨#[]⟩ : ByteArray)]) ?_; intro gb967 hg w74 hbox hb; have n_ := z10 (Kd.R_below (kr HO_28.out) hb) (Kd.R_below (kr HO951.out) hb) (Kd.R_below (kr HO963.out) hb) (blk_below (bk BK955.out) hb) (below_step bel hb) (hbox) ((by rw [hg]; exact (below_size bel) : w.heap.size ≤ gb967)) ((by rw [hg]; exact (below_size bel) : w.heap.size ≤ gb967)) ((by rw [hg]; exact Nat.ne_of_lt (blk_lt (bk BK955.out)) : gb955 ≠ gb967)) ((by rw [hg]; exact Nat.ne_of_gt (blk_lt (bk BK955.out)) : gb967 ≠ gb955)); clear HO_28 HO951 HO963 BK955 HB; obtain ⟨HO_28, HO951, HO963, BK955, HB, BK967, GW967, GE967, NB955_967, NB967_955⟩ := n_; clear hb hbox hg; have hnb75 := NB967_955.out; have hnc75 := NB955_967.out; obtain ⟨hcz76_0, hcz76_1, hcz76_2, hcz76_3, hcz76_4, hcz76_5⟩ := cells6 BK967.out; obtain ⟨hfz76_0, hfz76_1, hfz76_2, hfz76_3, hfz76_4, hfz76_5⟩ := froz6 BK967.out; obtain ⟨Ao77, co77, eo77⟩ := Kd.R_slice HO963.out; subst eo77; have p968 : 0 ≤ (x29_4 : Int) := of_decide_eq_true (by first | (with_reducible assumption) | assumption); have q968 : x29_4 < (y941.length : Int) := of_decide_eq_true (by first | (with_reducible assumption) | assumption); obtain ⟨ad968, e968, hx968_0⟩ := Kd.at_string (Kd.R_reads' HO_28.out).2.2 x29_4 p968 q968; obtain rfl : ad944 = ad968 := (by injection e968); have hn968_0 : ad944.block ≠ gb967 := Kd.own_blk (Kd.R_ne HO_28.out BK967.out (by decide)); have hn968_1 : ad944.block ≠ gb967 := Kd.own_blk (Kd.R_ne HO_28.out BK967.out (by decide)); have hn968_2 : ad944.block ≠ gb967 := Kd.own_blk (Kd.R_ne HO_28.out BK967.out (by decide)); have hn968_3 : ad944.block ≠ gb967 := Kd.own_blk (Kd.R_ne HO_28.out BK967.out (by decide)); have hn968_4 : ad944.block ≠ gb967 := Kd.own_blk (Kd.R_ne HO_28.out BK967.out (by decide)); have hn968_5 : ad944.block ≠ gb967 := Kd.own_blk (Kd.R_ne HO_28.out BK967.out (by decide)); replace hx968_0 := (cell_far (p := ⟨gb967, 0, none⟩) (by first | (rw [add_block]; exact hn968_0) | (show (Addr.add _ _).block ≠ _; rw [add_block]; exact hn968_0) | exact hn968_0) (.int .i64 t957)).trans hx968_0; replace hx968_0 := (cell_far (p := ⟨gb967, 1, none⟩) (by first | (rw [add_block]; exact hn968_1) | (show (Addr.add _ _).block ≠ _; rw [add_block]; exact hn968_1) | exact hn968_1) (.int .i64 t958)).trans hx968_0; replace hx968_0 := (cell_far (p := ⟨gb967, 2, none⟩) (by first | (rw [add_block]; exact hn968_2) | (show (Addr.add _ _).block ≠ _; rw [add_block]; exact hn968_2) | exact hn968_2) (.int .i64 t959)).trans hx968_0; replace hx968_0 := (cell_far (p := ⟨gb967, 3, none⟩) (by first | (rw [add_block]; exact hn968_3) | (show (Addr.add _ _).block ≠ _; rw [add_block]; exact hn968_3) | exact hn968_3) (.bool t960)).trans hx968_0; replace hx968_0 := (cell_far (p := ⟨gb967, 4, none⟩) (by first | (rw [add_block]; exact hn968_4) | (show (Addr.add _ _).block ≠ _; rw [add_block]; exact hn968_4) | exact hn968_4) (.slice Ao77 t961.length co77)).trans hx968_0; replace hx968_0 := (cell_far (p := ⟨gb967, 5, none⟩) (by first | (rw [add_block]; exact hn968_5) | (show (Addr.add _ _).block ≠ _; rw [add_block]; exact hn968_5) | exact hn968_5) (.string t964)).trans hx968_0; clear hn968_0 hn968_1 hn968_2 hn968_3 hn968_4 hn968_5; replace p968 := eq_true p968; replace q968 := eq_true q968) | ((with_reducible refine gate_callee (f := 21) rfl ?_); refine goesL_ (some 170) rfl rfl Try.func21 (by kernel_rfl) rfl #[.string (rdOf ByteArray.empty y941 x29_4)] rfl ar ?_; (with_reducible refine (cmd_Up.calls k4 (rdOf ByteArray.empty y941 x29_4) t969 t970 _ A65.out).mono ?_); rintro e w78 ⟨rfl, hb⟩; refine ⟨_, rfl, ?_⟩; have n_ := z6 (Kd.R_below (by (with_reducible repeat (first | apply Kd.R_alloc | apply Kd.R_drewN | apply Kd.R_drew)); exact (Kd.R_mono (Kd.R_far (p := ⟨gb967, 5, none⟩) (Kd.R_far (p := ⟨gb967, 4, none⟩) (Kd.R_far (p := ⟨gb967, 3, none⟩) (Kd.R_far (p := ⟨gb967, 2, none⟩) (Kd.R_far (p := ⟨gb967, 1, none⟩) (Kd.R_far (p := ⟨gb967, 0, none⟩) (Kd.R_types HO_28.out BK967.out (by decide)) (fun _ hk => hk.2) (.int .i64 t957)) (fun _ hk => hk.2) (.int .i64 t958)) (fun _ hk => hk.2) (.int .i64 t959)) (fun _ hk => hk.2) (.bool t960)) (fun _ hk => hk.2) (.slice Ao77 t961.length co77)) (fun _ hk => hk.2) (.string t964)) (fun _ h_ => h_.1))) hb) (Kd.R_below (by (with_reducible repeat (first | apply Kd.R_alloc | apply Kd.R_drewN | apply Kd.R_drew)); exact (Kd.R_mono (Kd.R_far (p := ⟨gb967, 5, none⟩) (Kd.R_far (p := ⟨gb967, 4, none⟩) (Kd.R_far (p := ⟨gb967, 3, none⟩) (Kd.R_far (p := ⟨gb967, 2, none⟩) (Kd.R_far (p := ⟨gb967, 1, none⟩) (Kd.R_far (p := ⟨gb967, 0, none⟩) (Kd.R_types HO951.out BK967.out (by decide)) (fun _ hk => hk.2) (.int .i64 t957)) (fun _ hk => hk.2) (.int .i64 t958)) (fun _ hk => hk.2) (.int .i64 t959)) (fun _ hk => hk.2) (.bool t960)) (fun _ hk => hk.2) (.slice Ao77 t961.length co77)) (fun _ hk => hk.2) (.string t964)) (fun _ h_ => h_.1))) hb) (Kd.R_below (by (with_reducible repeat (first | apply Kd.R_alloc | apply Kd.R_drewN | apply Kd.R_drew)); exact (Kd.R_mono (Kd.R_far (p := ⟨gb967, 5, none⟩) (Kd.R_far (p := ⟨gb967, 4, none⟩) (Kd.R_far (p := ⟨gb967, 3, none⟩) (Kd.R_far (p := ⟨gb967, 2, none⟩) (Kd.R_far (p := ⟨gb967, 1, none⟩) (Kd.R_far (p := ⟨gb967, 0, none⟩) (Kd.R_types HO963.out BK967.out (by decide)) (fun _ hk => hk.2) (.int .i64 t957)) (fun _ hk => hk.2) (.int .i64 t958)) (fun _ hk => hk.2) (.int .i64 t959)) (fun _ hk => hk.2) (.bool t960)) (fun _ hk => hk.2) (.slice Ao77 t961.length co77)) (fun _ hk => hk.2) (.string t964)) (fun _ h_ => h_.1))) hb) (blk_below (bk BK955.out) hb) (blk_below (g := gb967) (o := .cells #[.int .i64 t957, .int .i64 t958, .int .i64 t959, .bool t960, .slice Ao77 t961.length co77, .string t964] 26 (0, 0)) (bp BK967.out) hb) (below_step bel hb); clear HO_28 HO951 HO963 BK955 BK967 HB; obtain ⟨HO_28, HO951, HO963, BK955, BK967, HB⟩ := n_; (try clear hb); (try clear hb2); (try clear hk); (try clear hi); have p971 : 0 ≤ (x29_4 : Int) := of_decide_eq_true (by first | (with_reducible assumption) | assumption); have q971 : x29_4 < (y941.length : Int) := of_decide_eq_true (by first | (with_reducible assumption) | assumption); obtain ⟨ad971, e971, hx971_0⟩ := Kd.at_string (Kd.R_reads' HO_28.out).2.2 x29_4 p971 q971; obtain rfl : ad944 = ad971 := (by injection e971); replace p971 := eq_true p971; replace q971 := eq_true q971) | ((with_reducible refine gate_callee (f := 22) rfl ?_); refine goesL_ (some 178) rfl rfl Try.func22 (by kernel_rfl) rfl #[.string (rdOf ByteArray.empty y941 x29_4)] rfl ar ?_; (with_reducible refine (federationref7_Up.calls k4 (rdOf ByteArray.empty y941 x29_4) t972 t973 _ A66.out).mono ?_); rintro e w79 ⟨rfl, hb⟩; refine ⟨_, rfl, ?_⟩; have n_ := z6 (Kd.R_below (kr HO_28.out) hb) (Kd.R_below (kr HO951.out) hb) (Kd.R_below (kr HO963.out) hb) (blk_below (bk BK955.out) hb) (blk_below (bk BK967.out) hb) (below_step bel hb); clear HO_28 HO951 HO963 BK955 BK967 HB; obtain ⟨HO_28, HO951, HO963, BK955, BK967, HB⟩ := n_; (try clear hb); (try clear hb2); (try clear hk); (try clear hi)))
                   by_cases c67 : (t954 != t966) = true
                   ·rw [if_pos c67] at H
                    have c67b0 : (t954 != t966) = true := c67
                    (try (have c67b1 : decide (t954 = t966) = false := by simpa using c67))
                    (try (have c67b2 : (t954 == t966) = false := by simpa using c67))
                    (try (have c67b3 : ¬ (t954 = t966) := by simpa using c67))
                    clear c67
                    obtain rfl := Option.some.inj H
                    go_wp2
                    go_ret
                    exact ⟨er, bel⟩
                   ·rw [if_neg c67] at H
                    have c67b0 : (t954 != t966) = false := by simpa using c67
                    (try (have c67b1 : decide (t954 = t966) = true := by simpa using c67))
                    (try (have c67b2 : (t954 == t966) = true := by simpa using c67))
                    clear c67
                    by_cases c80 : t953 = t965
                    ·rw [if_pos c80] at H
                     have c80b0 : (t953 == t965) = true := beq_iff_eq.mpr c80
                     have c80b1 : (t953 != t965) = false := bne_eq_false_iff_eq.mpr c80
                     clear c80
                     replace H := Option.bind_eq_some_iff.mp H
                     obtain ⟨t974, A810, H⟩ := H
                     replace H : (if t974 = true then (if t969.toList = t972.toList then (if (t970 != t973) = true then (some false) else (federationlaw7_CmdReads.l1 k4 y941 (wrap64 (x29_4 + 1)))) else (some false)) else (some false)) = some r := H
                     have A81 := am A810
                     clear A810
                     by_cases c82 : t974 = true
                     ·subst c82
                      have H1 : (if t969.toList = t972.toList then (if (t970 != t973) = true then (some false) else (federationlaw7_CmdReads.l1 k4 y941 (wrap64 (x29_4 + 1)))) else (some false)) = some r := by rw [if_pos rfl] at H; exact H
                      clear H
                      have H := H1
                      clear H1
                      by_cases c83 : t969.toList = t972.toList
                      ·rw [if_pos c83] at H
                       have c83b0 : (t969.toList == t972.toList) = true := beq_iff_eq.mpr c83
                       have c83b1 : (t969.toList != t972.toList) = false := bne_eq_false_iff_eq.mpr c83
                       clear c83
                       by_cases c84 : (t970 != t973) = true
                       ·rw [if_pos c84] at H
                        have c84b0 : (t970 != t973) = true := c84
                        (try (have c84b1 : decide (t970 = t973) = false := by simpa using c84))
                        (try (have c84b2 : (t970 == t973) = false := by simpa using c84))
                        (try (have c84b3 : ¬ (t970 = t973) := by simpa using c84))
                        clear c84
                        obtain rfl := Option.some.inj H
                        obtain ⟨hcz97_0, hcz97_1, hcz97_2, hcz97_3, hcz97_4, hcz97_5⟩ := cells6 BK955.out
                        obtain ⟨hfz97_0, hfz97_1, hfz97_2, hfz97_3, hfz97_4, hfz97_5⟩ := froz6 BK955.out
                        obtain ⟨hcz98_0, hcz98_1, hcz98_2, hcz98_3, hcz98_4, hcz98_5⟩ := cells6 BK967.out
                        obtain ⟨hfz98_0, hfz98_1, hfz98_2, hfz98_3, hfz98_4, hfz98_5⟩ := froz6 BK967.out
                        go_wp2_with (first | (go_at_call 19; (with_reducible refine (federationref7_Same.calls k4 t945 t946 t947 t948 _ _ t949 t952 t957 t958 t959 t960 _ _ t961 t964 true _ ?side1 ?side2 ?side3 ?side4 A81.out).mono ?_); (case side1 => repeat (first | exact (Kd.R_reads' HO951.out).2.2 | (with_reducible refine Kd.C_alloc ?_ _) | (with_reducible refine Kd.C_drewN ?_ _) | (with_reducible refine Kd.C_drew ?_))); (case side2 => exact (Kd.R_reads' HO951.out).2.1); (case side3 => repeat (first | exact (Kd.R_reads' HO963.out).2.2 | (with_reducible refine Kd.C_alloc ?_ _) | (with_reducible refine Kd.C_drewN ?_ _) | (with_reducible refine Kd.C_drew ?_))); (case side4 => exact (Kd.R_reads' HO963.out).2.1); rintro e w99 ⟨rfl, hb⟩; have n_ := z6 (Kd.R_below (kr HO_28.out) hb) (Kd.R_below (kr HO951.out) hb) (Kd.R_below (kr HO963.out) hb) (blk_below (bk BK955.out) hb) (blk_below (bk BK967.out) hb) (below_step bel hb); clear HO_28 HO951 HO963 BK955 BK967 HB; obtain ⟨HO_28, HO951, HO963, BK955, BK967, HB⟩ := n_; (try clear hb); (try clear hb2); (try clear hk); (try clear hi)))
                        go_ret
                        exact ⟨er, bel⟩
                       ·rw [if_neg c84] at H
                        have c84b0 : (t970 != t973) = false := by simpa using c84
                        (try (have c84b1 : decide (t970 = t973) = true := by simpa using c84))
                        (try (have c84b2 : (t970 == t973) = true := by simpa using c84))
                        clear c84
                        have H' := am H
                        clear H
                        obtain ⟨hcz112_0, hcz112_1, hcz112_2, hcz112_3, hcz112_4, hcz112_5⟩ := cells6 BK955.out
                        obtain ⟨hfz112_0, hfz112_1, hfz112_2, hfz112_3, hfz112_4, hfz112_5⟩ := froz6 BK955.out
                        obtain ⟨hcz113_0, hcz113_1, hcz113_2, hcz113_3, hcz113_4, hcz113_5⟩ := cells6 BK967.out
                        obtain ⟨hfz113_0, hfz113_1, hfz113_2, hfz113_3, hfz113_4, hfz113_5⟩ := froz6 BK967.out
                        go_wp2_with (first | (go_at_call 19; (with_reducible refine (federationref7_Same.calls k4 t945 t946 t947 t948 _ _ t949 t952 t957 t958 t959 t960 _ _ t961 t964 true _ ?side1 ?side2 ?side3 ?side4 A81.out).mono ?_); (case side1 => repeat (first | exact (Kd.R_reads' HO951.out).2.2 | (with_reducible refine Kd.C_alloc ?_ _) | (with_reducible refine Kd.C_drewN ?_ _) | (with_reducible refine Kd.C_drew ?_))); (case side2 => exact (Kd.R_reads' HO951.out).2.1); (case side3 => repeat (first | exact (Kd.R_reads' HO963.out).2.2 | (with_reducible refine Kd.C_alloc ?_ _) | (with_reducible refine Kd.C_drewN ?_ _) | (with_reducible refine Kd.C_drew ?_))); (case side4 => exact (Kd.R_reads' HO963.out).2.1); rintro e w114 ⟨rfl, hb⟩; have n_ := z6 (Kd.R_below (kr HO_28.out) hb) (Kd.R_below (kr HO951.out) hb) (Kd.R_below (kr HO963.out) hb) (blk_below (bk BK955.out) hb) (blk_below (bk BK967.out) hb) (below_step bel hb); clear HO_28 HO951 HO963 BK955 BK967 HB; obtain ⟨HO_28, HO951, HO963, BK955, BK967, HB⟩ := n_; (try clear hb); (try clear hb2); (try clear hk); (try clear hi)))
                        go_roundg k4
                        case measure => have := HJ13.out; have := HJ21.out; have := HJ32.out; have := HK4.out; omega
                        case rel => exact ⟨(wrap64 (x29_4 + 1)), (by first | rfl | (simp; done) | (simp [*]; done)), H', ⟨by have := HJ13.out; have := HJ21.out; have := HJ32.out; have := HK4.out; omega⟩, ⟨kr HO_28.out⟩, ⟨bel⟩⟩
                      ·rw [if_neg c83] at H
                       have c83b0 : (t969.toList == t972.toList) = false := beq_eq_false_iff_ne.mpr c83
                       have c83b1 : (t969.toList != t972.toList) = true := bne_iff_ne.mpr c83
                       obtain rfl := Option.some.inj H
                       obtain ⟨hcz127_0, hcz127_1, hcz127_2, hcz127_3, hcz127_4, hcz127_5⟩ := cells6 BK955.out
                       obtain ⟨hfz127_0, hfz127_1, hfz127_2, hfz127_3, hfz127_4, hfz127_5⟩ := froz6 BK955.out
                       obtain ⟨hcz128_0, hcz128_1, hcz128_2, hcz128_3, hcz128_4, hcz128_5⟩ := cells6 BK967.out
                       obtain ⟨hfz128_0, hfz128_1, hfz128_2, hfz128_3, hfz128_4, hfz128_5⟩ := froz6 BK967.out
                       go_wp2_with (first | (go_at_call 19; (with_reducible refine (federationref7_Same.calls k4 t945 t946 t947 t948 _ _ t949 t952 t957 t958 t959 t960 _ _ t961 t964 true _ ?side1 ?side2 ?side3 ?side4 A81.out).mono ?_); (case side1 => repeat (first | exact (Kd.R_reads' HO951.out).2.2 | (with_reducible refine Kd.C_alloc ?_ _) | (with_reducible refine Kd.C_drewN ?_ _) | (with_reducible refine Kd.C_drew ?_))); (case side2 => exact (Kd.R_reads' HO951.out).2.1); (case side3 => repeat (first | exact (Kd.R_reads' HO963.out).2.2 | (with_reducible refine Kd.C_alloc ?_ _) | (with_reducible refine Kd.C_drewN ?_ _) | (with_reducible refine Kd.C_drew ?_))); (case side4 => exact (Kd.R_reads' HO963.out).2.1); rintro e w129 ⟨rfl, hb⟩; have n_ := z6 (Kd.R_below (kr HO_28.out) hb) (Kd.R_below (kr HO951.out) hb) (Kd.R_below (kr HO963.out) hb) (blk_below (bk BK955.out) hb) (blk_below (bk BK967.out) hb) (below_step bel hb); clear HO_28 HO951 HO963 BK955 BK967 HB; obtain ⟨HO_28, HO951, HO963, BK955, BK967, HB⟩ := n_; (try clear hb); (try clear hb2); (try clear hk); (try clear hi)))
                       go_ret
                       exact ⟨er, bel⟩
                     ·replace c82 := Bool.eq_false_iff.mpr c82
                      subst c82
                      have H1 : (some false) = some r := by rw [if_neg (show ¬ (false = true) by decide)] at H; exact H
                      clear H
                      have H := H1
                      clear H1
                      obtain rfl := Option.some.inj H
                      obtain ⟨hcz142_0, hcz142_1, hcz142_2, hcz142_3, hcz142_4, hcz142_5⟩ := cells6 BK955.out
                      obtain ⟨hfz142_0, hfz142_1, hfz142_2, hfz142_3, hfz142_4, hfz142_5⟩ := froz6 BK955.out
                      obtain ⟨hcz143_0, hcz143_1, hcz143_2, hcz143_3, hcz143_4, hcz143_5⟩ := cells6 BK967.out
                      obtain ⟨hfz143_0, hfz143_1, hfz143_2, hfz143_3, hfz143_4, hfz143_5⟩ := froz6 BK967.out
                      go_wp2_with (first | (go_at_call 19; (with_reducible refine (federationref7_Same.calls k4 t945 t946 t947 t948 _ _ t949 t952 t957 t958 t959 t960 _ _ t961 t964 false _ ?side1 ?side2 ?side3 ?side4 A81.out).mono ?_); (case side1 => repeat (first | exact (Kd.R_reads' HO951.out).2.2 | (with_reducible refine Kd.C_alloc ?_ _) | (with_reducible refine Kd.C_drewN ?_ _) | (with_reducible refine Kd.C_drew ?_))); (case side2 => exact (Kd.R_reads' HO951.out).2.1); (case side3 => repeat (first | exact (Kd.R_reads' HO963.out).2.2 | (with_reducible refine Kd.C_alloc ?_ _) | (with_reducible refine Kd.C_drewN ?_ _) | (with_reducible refine Kd.C_drew ?_))); (case side4 => exact (Kd.R_reads' HO963.out).2.1); rintro e w144 ⟨rfl, hb⟩; have n_ := z6 (Kd.R_below (kr HO_28.out) hb) (Kd.R_below (kr HO951.out) hb) (Kd.R_below (kr HO963.out) hb) (blk_below (bk BK955.out) hb) (blk_below (bk BK967.out) hb) (below_step bel hb); clear HO_28 HO951 HO963 BK955 BK967 HB; obtain ⟨HO_28, HO951, HO963, BK955, BK967, HB⟩ := n_; (try clear hb); (try clear hb2); (try clear hk); (try clear hi)))
                      go_ret
                      exact ⟨er, bel⟩
                    ·rw [if_neg c80] at H
                     have c80b0 : (t953 == t965) = false := beq_eq_false_iff_ne.mpr c80
                     have c80b1 : (t953 != t965) = true := bne_iff_ne.mpr c80
                     obtain rfl := Option.some.inj H
                     go_wp2
                     go_ret
                     exact ⟨er, bel⟩
                  ·rw [if_neg c62] at H
                   exact absurd H (by simp)
                 ·rw [if_neg c61] at H
                  have c61b0 : decide (x29_4 < (y941.length : Int)) = false := decide_eq_false c61
                  clear c61
                  obtain rfl := Option.some.inj H
                  obtain ⟨Ao157, co157, eo157⟩ := Kd.R_slice HO_28.out
                  subst eo157
                  go_wp2
                  go_ret
                  exact ⟨er, bel⟩
              ·rw [if_neg c56] at H
               exact absurd H (by simp)
             ·rw [if_neg c55] at H
              exact absurd H (by simp)
            ·rw [if_neg c54] at H
             exact absurd H (by simp)
           ·rw [if_neg c51] at H
            exact absurd H (by simp)
          ·rw [if_neg c48] at H
           exact absurd H (by simp)
         ·rw [if_neg c47] at H
          exact absurd H (by simp)
 ·replace c13 := Bool.eq_false_iff.mpr c13
  subst c13
  have H1 : (some false) = some r := by rw [if_neg (show ¬ (false = true) by decide)] at H; exact H
  clear H
  have H := H1
  clear H1
  obtain rfl := Option.some.inj H
  go_enter Try.func4, Try.ntmps4
  go_wp2_with (first | ((with_reducible refine gate_callee (f := 13) rfl ?_); refine goesL_ (some 40) rfl rfl Try.func13 (by kernel_rfl) rfl #[] rfl ar ?_; (with_reducible refine (federationlaw7_known.calls k  false _ A12.out).mono ?_); rintro e w158 ⟨rfl, hb⟩; refine ⟨_, rfl, ?_⟩; have n0_ := am (below_step bel hb); clear HB; have HB := n0_; clear n0_; (try clear hb); (try clear hb2); (try clear hk); (try clear hi)))
  go_ret
  exact ⟨er, bel⟩
def federationlaw7_CmdReads.Pure : Prop := ∀ (a0 : Int) (a1 : Int) (a2 : Int) (l3 : List Int) (a4 : ByteArray) (a5 : Int) (l6 : List Int) (l7 : List Int) (a8 : Int) (a9 : ByteArray) (a10 : ByteArray), (Lit.int .i64 a0).wf = true → (Lit.int .i64 a1).wf = true → (Lit.int .i64 a2).wf = true → l3.length ≤ maxLen → l3.length * 8 ≤ 140737488351232 → (∀ x ∈ l3, (Lit.int .i64 x).wf = true) → a4.size ≤ 140737488351232 → (Lit.int .i64 a5).wf = true → l6.length ≤ maxLen → l6.length * 8 ≤ 140737488351232 → (∀ x ∈ l6, (Lit.int .i64 x).wf = true) → l7.length ≤ maxLen → l7.length * 1 ≤ 140737488351232 → (∀ x ∈ l7, (Lit.int .u8 x).wf = true) → (Lit.int .i64 a8).wf = true → a9.size ≤ 140737488351232 → a10.size ≤ 140737488351232 → ∃ k, federationlaw7_CmdReads.f k a0 a1 a2 l3 a4 a5 l6 l7 a8 a9 a10 = some true
theorem federationlaw7_CmdReads.walk (P : federationlaw7_CmdReads.Pure) (a0 : Int) (a1 : Int) (a2 : Int) (a3 : Option Addr) (len3 cap3 : Nat) (z3 : List Int) (a4 : ByteArray) (a5 : Int) (a6 : Option Addr) (len6 cap6 : Nat) (z6 : List Int) (a7 : Option Addr) (len7 cap7 : Nat) (z7 : List Int) (a8 : Int) (a9 : ByteArray) (a10 : ByteArray) (w : World) (w0 : (Lit.int .i64 a0).wf = true) (w1 : (Lit.int .i64 a1).wf = true) (w2 : (Lit.int .i64 a2).wf = true) (w3 : (a3 = none ∧ len3 = 0 ∧ cap3 = 0 ∧ z3 = []) ∨ ∃ x, a3 = some x ∧ len3 ≤ cap3 ∧ cap3 ≤ maxLen ∧ z3.length = cap3 ∧ (∀ i, i < z3.length → w.cell? (x.add i) = some (.int .i64 (z3.getD i 0))) ∧ ∀ n ∈ z3, (Lit.int .i64 n).wf = true) (y3 : len3 * 8 ≤ 140737488351232) (w4 : a4.size ≤ 140737488351232) (w5 : (Lit.int .i64 a5).wf = true) (w6 : (a6 = none ∧ len6 = 0 ∧ cap6 = 0 ∧ z6 = []) ∨ ∃ x, a6 = some x ∧ len6 ≤ cap6 ∧ cap6 ≤ maxLen ∧ z6.length = cap6 ∧ (∀ i, i < z6.length → w.cell? (x.add i) = some (.int .i64 (z6.getD i 0))) ∧ ∀ n ∈ z6, (Lit.int .i64 n).wf = true) (y6 : len6 * 8 ≤ 140737488351232) (w7 : (a7 = none ∧ len7 = 0 ∧ cap7 = 0 ∧ z7 = []) ∨ ∃ x, a7 = some x ∧ len7 ≤ cap7 ∧ cap7 ≤ maxLen ∧ z7.length = cap7 ∧ (∀ i, i < z7.length → w.cell? (x.add i) = some (.int .u8 (z7.getD i 0))) ∧ ∀ n ∈ z7, (Lit.int .u8 n).wf = true) (y7 : len7 * 1 ≤ 140737488351232) (w8 : (Lit.int .i64 a8).wf = true) (w9 : a9.size ≤ 140737488351232) (w10 : a10.size ≤ 140737488351232) :
  Calls Try.prog 4 #[.int .i64 a0, .int .i64 a1, .int .i64 a2, .slice a3 len3 cap3, .string a4, .int .i64 a5, .slice a6 len6 cap6, .slice a7 len7 cap7, .int .i64 a8, .string a9, .string a10] w fun e w' => e = .returned (.bool true) ∧ Below w.heap.size w w' := by
 obtain ⟨l3, rfl, hr3, hm3, hw3, hc3⟩ := ReadsInt.ofRowC w3
 obtain ⟨l6, rfl, hr6, hm6, hw6, hc6⟩ := ReadsInt.ofRowC w6
 obtain ⟨l7, rfl, hr7, hm7, hw7, hc7⟩ := ReadsInt.ofRowC w7
 obtain ⟨k, h⟩ := P a0 a1 a2 l3 a4 a5 l6 l7 a8 a9 a10 w0 w1 w2 hm3 y3 hw3 w4 w5 hm6 y6 hw6 hm7 y7 hw7 w8 w9 w10
 refine (federationlaw7_CmdReads.calls k a0 a1 a2 _ _ l3 a4 a5 _ _ l6 _ _ l7 a8 a9 a10 true w (Kd.C_of_reads (d := (0 : Int)) (h1 := fun _ => rfl) hr3) hc3 (Kd.C_of_reads (d := (0 : Int)) (h1 := fun _ => rfl) hr6) hc6 (Kd.C_of_reads (d := (0 : Int)) (h1 := fun _ => rfl) hr7) hc7 h).mono ?_
 rintro e w' ⟨rfl, hd⟩
 exact ⟨rfl, hd⟩
end Go.Proofs.Ytagjmphkfeiiiaa.Q
