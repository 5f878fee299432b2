/- One function's walk, or a law's, by the text that a program of this session prints; what each theorem says stands in it. -/
import Derived.Test.YtagjmphkfeiiiaaQx0
import Derived.Test.YtagjmphkfeiiiaaQx5
import Derived.Test.YtagjmphkfeiiiaaQx8
import Derived.Test.YtagjmphkfeiiiaaQx9
import Derived.Test.YtagjmphkfeiiiaaQx10
import Derived.Test.YtagjmphkfeiiiaaQx13
import Derived.Test.YtagjmphkfeiiiaaQx25
import Derived.Test.YtagjmphkfeiiiaaXs
namespace Go.Proofs.Ytagjmphkfeiiiaa.Q
open Go.RowKit Go.Proofs.YtagjmphkfeiiiaaW.PrintWords Go.Proofs.YtagjmphkfeiiiaaW.PrintLast Go.Proofs.YtagjmphkfeiiiaaW.PrintMore
attribute [local go_sem] max2_int min2_int max_two min_two max_three min_three max_four min_four
set_option linter.unusedVariables false
set_option linter.unusedSimpArgs false
def federationlaw7_CmdBack.j0 : Nat → Int → ByteArray → Bool → Bool → Int → Int → Int → Bool → List (S40) → ByteArray → Option (Bool)
  | 0, _, _, _, _, _, _, _, _, _, _ => none
  | k + 1, x14, x15, x16, x66, x767000, x767001, x767002, x767003, x767004, x767005 => if x66 = true then (some false) else (if x16 = true then ((cmd_Decode.f k x15).bind fun bt772 => (if bt772.2.2.2.2.2.2.2 = true then (if bt772.2.2.2.2.2.2.1 = x14 then ((federationref7_Same.f k x767000 x767001 x767002 x767003 x767004 x767005 bt772.1 bt772.2.1 bt772.2.2.1 bt772.2.2.2.1 bt772.2.2.2.2.1 bt772.2.2.2.2.2.1).bind fun t783 => (some t783)) else (some false)) else (some false))) else (some (x15.toList == ([] : List UInt8))))
def federationlaw7_CmdBack.f (k : Nat) (a0 : Int) (a1 : Int) (a2 : Int) (l3 : List Int) (a4 : ByteArray) (a5 : Int) : Option (Bool) := (federationlaw7_known.f k).bind fun t757 => (if t757 = true then (if (a4.size : Int) > 200 then (some true) else ((federationlaw7_Make.f k a0 a1 a2 l3 a4).bind fun bt758 => ((federationlaw7_within.f a5 2).bind fun t767 => ((cmd_Encode.f k bt758.1 bt758.2.1 bt758.2.2.1 bt758.2.2.2.1 bt758.2.2.2.2.1 bt758.2.2.2.2.2 (wrap64 (1 + t767))).bind fun bt768 => ((federationref7_Encode.f k bt758.1 bt758.2.1 bt758.2.2.1 bt758.2.2.2.1 bt758.2.2.2.2.1 bt758.2.2.2.2.2 (wrap64 (1 + t767))).bind fun bt770 => (if (bt768.2 != bt770.2) = true then (federationlaw7_CmdBack.j0 k (wrap64 (1 + t767)) bt768.1 bt768.2 true bt758.1 bt758.2.1 bt758.2.2.1 bt758.2.2.2.1 bt758.2.2.2.2.1 bt758.2.2.2.2.2) else (if bt768.1.toList = bt770.1.toList then (if (wrap64 (1 + t767)) = 1 then (federationlaw7_CmdBack.j0 k (wrap64 (1 + t767)) bt768.1 bt768.2 (bt768.2 == (bt758.1 == 5)) bt758.1 bt758.2.1 bt758.2.2.1 bt758.2.2.2.1 bt758.2.2.2.2.1 bt758.2.2.2.2.2) else (federationlaw7_CmdBack.j0 k (wrap64 (1 + t767)) bt768.1 bt768.2 (bt768.2 == false) bt758.1 bt758.2.1 bt758.2.2.1 bt758.2.2.2.1 bt758.2.2.2.2.1 bt758.2.2.2.2.2)) else (federationlaw7_CmdBack.j0 k (wrap64 (1 + t767)) bt768.1 bt768.2 true bt758.1 bt758.2.1 bt758.2.2.1 bt758.2.2.2.1 bt758.2.2.2.2.1 bt758.2.2.2.2.2)))))))) else (some false))
theorem federationlaw7_CmdBack.mono_l : ∀ k, (∀ y0 y1 y2 y3 y4 y5 y6 y7 y8 y9, LeO (federationlaw7_CmdBack.j0 k y0 y1 y2 y3 y4 y5 y6 y7 y8 y9) (federationlaw7_CmdBack.j0 (k + 1) y0 y1 y2 y3 y4 y5 y6 y7 y8 y9))
  | 0 => fun _ _ _ _ _ _ _ _ _ _ r h => by simp [federationlaw7_CmdBack.j0] at h
  | k + 1 => by
    have ih0 := federationlaw7_CmdBack.mono_l k
    · intro y0 y1 y2 y3 y4 y5 y6 y7 y8 y9
      unfold federationlaw7_CmdBack.j0
      repeat' first
      | (with_reducible exact ih0 _ _ _ _ _ _ _ _ _ _)
      | (with_reducible exact cmd_Decode.mono _ _)
      | (with_reducible exact cmd_Encode.mono _ _ _ _ _ _ _ _)
      | (with_reducible exact federationlaw7_Make.mono _ _ _ _ _ _)
      | (with_reducible exact federationlaw7_known.mono _)
      | (with_reducible exact federationref7_Encode.mono _ _ _ _ _ _ _ _)
      | (with_reducible exact federationref7_Same.mono _ _ _ _ _ _ _ _ _ _ _ _ _)
      | (with_reducible exact LeO.refl _)
      | (with_reducible exact LeO.none _)
      | (with_reducible refine LeO.ite ?_ ?_)
      | (with_reducible refine LeO.bind ?_ (fun _ => ?_))
theorem federationlaw7_CmdBack.mono : ∀ a0 a1 a2 a3 a4 a5 k, LeO (federationlaw7_CmdBack.f k a0 a1 a2 a3 a4 a5) (federationlaw7_CmdBack.f (k + 1) a0 a1 a2 a3 a4 a5) := by
  intro a0 a1 a2 a3 a4 a5 k
  have ih0 := federationlaw7_CmdBack.mono_l k
  unfold federationlaw7_CmdBack.f
  repeat' first
      | (with_reducible exact ih0 _ _ _ _ _ _ _ _ _ _)
      | (with_reducible exact cmd_Decode.mono _ _)
      | (with_reducible exact cmd_Encode.mono _ _ _ _ _ _ _ _)
      | (with_reducible exact federationlaw7_Make.mono _ _ _ _ _ _)
      | (with_reducible exact federationlaw7_known.mono _)
      | (with_reducible exact federationref7_Encode.mono _ _ _ _ _ _ _ _)
      | (with_reducible exact federationref7_Same.mono _ _ _ _ _ _ _ _ _ _ _ _ _)
      | (with_reducible exact LeO.refl _)
      | (with_reducible exact LeO.none _)
      | (with_reducible refine LeO.ite ?_ ?_)
      | (with_reducible refine LeO.bind ?_ (fun _ => ?_))
set_option maxHeartbeats 8000000 in
set_option maxRecDepth 100000 in
theorem federationlaw7_CmdBack.calls (k : Nat) (a0 : Int) (a1 : Int) (a2 : Int) (A3 : Option Addr) (c3 : Nat) (l3 : List Int) (a4 : ByteArray) (a5 : Int) (r : Bool) (w : World) (hr3 : Kd.C (Kd.int .i64) w A3 l3.length l3) (hc3 : l3.length ≤ c3) (h : federationlaw7_CmdBack.f k a0 a1 a2 l3 a4 a5 = some r) :
  Calls Try.prog 3 #[.int .i64 a0, .int .i64 a1, .int .i64 a2, .slice A3 l3.length c3, .string a4, .int .i64 a5] w fun e w' => e = .returned (.bool r) ∧ Below w.heap.size w w' := by
 have hu26 := Try.underlying26
 have HR3 := am hr3
 have HC3 := am hc3
 clear hr3 hc3
 have HB := am (Below.refl w.heap.size w)
 have H : ((federationlaw7_known.f k).bind fun t757 => (if t757 = true then (if (a4.size : Int) > 200 then (some true) else ((federationlaw7_Make.f k a0 a1 a2 l3 a4).bind fun bt758 => ((federationlaw7_within.f a5 2).bind fun t767 => ((cmd_Encode.f k bt758.1 bt758.2.1 bt758.2.2.1 bt758.2.2.2.1 bt758.2.2.2.2.1 bt758.2.2.2.2.2 (wrap64 (1 + t767))).bind fun bt768 => ((federationref7_Encode.f k bt758.1 bt758.2.1 bt758.2.2.1 bt758.2.2.2.1 bt758.2.2.2.2.1 bt758.2.2.2.2.2 (wrap64 (1 + t767))).bind fun bt770 => (if (bt768.2 != bt770.2) = true then (federationlaw7_CmdBack.j0 k (wrap64 (1 + t767)) bt768.1 bt768.2 true bt758.1 bt758.2.1 bt758.2.2.1 bt758.2.2.2.1 bt758.2.2.2.2.1 bt758.2.2.2.2.2) else (if bt768.1.toList = bt770.1.toList then (if (wrap64 (1 + t767)) = 1 then (federationlaw7_CmdBack.j0 k (wrap64 (1 + t767)) bt768.1 bt768.2 (bt768.2 == (bt758.1 == 5)) bt758.1 bt758.2.1 bt758.2.2.1 bt758.2.2.2.1 bt758.2.2.2.2.1 bt758.2.2.2.2.2) else (federationlaw7_CmdBack.j0 k (wrap64 (1 + t767)) bt768.1 bt768.2 (bt768.2 == false) bt758.1 bt758.2.1 bt758.2.2.1 bt758.2.2.2.1 bt758.2.2.2.2.1 bt758.2.2.2.2.2)) else (federationlaw7_CmdBack.j0 k (wrap64 (1 + t767)) bt768.1 bt768.2 true bt758.1 bt758.2.1 bt758.2.2.1 bt758.2.2.2.1 bt758.2.2.2.2.1 bt758.2.2.2.2.2)))))))) else (some false))) = some r := h
 clear h
 replace H := Option.bind_eq_some_iff.mp H
 obtain ⟨t757, A70, H⟩ := H
 replace H : (if t757 = true then (if (a4.size : Int) > 200 then (some true) else ((federationlaw7_Make.f k a0 a1 a2 l3 a4).bind fun bt758 => ((federationlaw7_within.f a5 2).bind fun t767 => ((cmd_Encode.f k bt758.1 bt758.2.1 bt758.2.2.1 bt758.2.2.2.1 bt758.2.2.2.2.1 bt758.2.2.2.2.2 (wrap64 (1 + t767))).bind fun bt768 => ((federationref7_Encode.f k bt758.1 bt758.2.1 bt758.2.2.1 bt758.2.2.2.1 bt758.2.2.2.2.1 bt758.2.2.2.2.2 (wrap64 (1 + t767))).bind fun bt770 => (if (bt768.2 != bt770.2) = true then (federationlaw7_CmdBack.j0 k (wrap64 (1 + t767)) bt768.1 bt768.2 true bt758.1 bt758.2.1 bt758.2.2.1 bt758.2.2.2.1 bt758.2.2.2.2.1 bt758.2.2.2.2.2) else (if bt768.1.toList = bt770.1.toList then (if (wrap64 (1 + t767)) = 1 then (federationlaw7_CmdBack.j0 k (wrap64 (1 + t767)) bt768.1 bt768.2 (bt768.2 == (bt758.1 == 5)) bt758.1 bt758.2.1 bt758.2.2.1 bt758.2.2.2.1 bt758.2.2.2.2.1 bt758.2.2.2.2.2) else (federationlaw7_CmdBack.j0 k (wrap64 (1 + t767)) bt768.1 bt768.2 (bt768.2 == false) bt758.1 bt758.2.1 bt758.2.2.1 bt758.2.2.2.1 bt758.2.2.2.2.1 bt758.2.2.2.2.2)) else (federationlaw7_CmdBack.j0 k (wrap64 (1 + t767)) bt768.1 bt768.2 true bt758.1 bt758.2.1 bt758.2.2.1 bt758.2.2.2.1 bt758.2.2.2.2.1 bt758.2.2.2.2.2)))))))) else (some false)) = some r := H
 have A7 := am A70
 clear A70
 by_cases c8 : t757 = true
 ·subst c8
  have H1 : (if (a4.size : Int) > 200 then (some true) else ((federationlaw7_Make.f k a0 a1 a2 l3 a4).bind fun bt758 => ((federationlaw7_within.f a5 2).bind fun t767 => ((cmd_Encode.f k bt758.1 bt758.2.1 bt758.2.2.1 bt758.2.2.2.1 bt758.2.2.2.2.1 bt758.2.2.2.2.2 (wrap64 (1 + t767))).bind fun bt768 => ((federationref7_Encode.f k bt758.1 bt758.2.1 bt758.2.2.1 bt758.2.2.2.1 bt758.2.2.2.2.1 bt758.2.2.2.2.2 (wrap64 (1 + t767))).bind fun bt770 => (if (bt768.2 != bt770.2) = true then (federationlaw7_CmdBack.j0 k (wrap64 (1 + t767)) bt768.1 bt768.2 true bt758.1 bt758.2.1 bt758.2.2.1 bt758.2.2.2.1 bt758.2.2.2.2.1 bt758.2.2.2.2.2) else (if bt768.1.toList = bt770.1.toList then (if (wrap64 (1 + t767)) = 1 then (federationlaw7_CmdBack.j0 k (wrap64 (1 + t767)) bt768.1 bt768.2 (bt768.2 == (bt758.1 == 5)) bt758.1 bt758.2.1 bt758.2.2.1 bt758.2.2.2.1 bt758.2.2.2.2.1 bt758.2.2.2.2.2) else (federationlaw7_CmdBack.j0 k (wrap64 (1 + t767)) bt768.1 bt768.2 (bt768.2 == false) bt758.1 bt758.2.1 bt758.2.2.1 bt758.2.2.2.1 bt758.2.2.2.2.1 bt758.2.2.2.2.2)) else (federationlaw7_CmdBack.j0 k (wrap64 (1 + t767)) bt768.1 bt768.2 true bt758.1 bt758.2.1 bt758.2.2.1 bt758.2.2.2.1 bt758.2.2.2.2.1 bt758.2.2.2.2.2)))))))) = some r := by rw [if_pos rfl] at H; exact H
  clear H
  have H := H1
  clear H1
  by_cases c9 : (a4.size : Int) > 200
  ·rw [if_pos c9] at H
   have c9b0 : decide (200 < (a4.size : Int)) = true := decide_eq_true c9
   have c9b1 : decide (200 < a4.size) = true := decide_eq_true (by omega)
   clear c9
   obtain rfl := Option.some.inj H
   go_enter Try.func3, Try.ntmps3
   go_wp2_with (first | ((with_reducible refine gate_callee (f := 13) rfl ?_); refine goesL_ (some 22) rfl rfl Try.func13 (by kernel_rfl) rfl #[] rfl ar ?_; (with_reducible refine (federationlaw7_known.calls k  true _ A7.out).mono ?_); rintro e w10 ⟨rfl, hb⟩; refine ⟨_, rfl, ?_⟩; have n0_ := am (below_step bel hb); clear HB; have HB := n0_; clear n0_; (try clear hb); (try clear hb2); (try clear hk); (try clear hi)))
   go_ret
   exact ⟨er, bel⟩
  ·rw [if_neg c9] at H
   have c9b0 : decide (200 < (a4.size : Int)) = false := decide_eq_false c9
   have c9b1 : decide (200 < a4.size) = false := decide_eq_false (by omega)
   clear c9
   replace H := Option.bind_eq_some_iff.mp H
   obtain ⟨⟨t758, t759, t760, t761, t762, t765⟩, A110, H⟩ := H
   replace H : ((federationlaw7_within.f a5 2).bind fun t767 => ((cmd_Encode.f k t758 t759 t760 t761 t762 t765 (wrap64 (1 + t767))).bind fun bt768 => ((federationref7_Encode.f k t758 t759 t760 t761 t762 t765 (wrap64 (1 + t767))).bind fun bt770 => (if (bt768.2 != bt770.2) = true then (federationlaw7_CmdBack.j0 k (wrap64 (1 + t767)) bt768.1 bt768.2 true t758 t759 t760 t761 t762 t765) else (if bt768.1.toList = bt770.1.toList then (if (wrap64 (1 + t767)) = 1 then (federationlaw7_CmdBack.j0 k (wrap64 (1 + t767)) bt768.1 bt768.2 (bt768.2 == (t758 == 5)) t758 t759 t760 t761 t762 t765) else (federationlaw7_CmdBack.j0 k (wrap64 (1 + t767)) bt768.1 bt768.2 (bt768.2 == false) t758 t759 t760 t761 t762 t765)) else (federationlaw7_CmdBack.j0 k (wrap64 (1 + t767)) bt768.1 bt768.2 true t758 t759 t760 t761 t762 t765)))))) = some r := H
   have A11 := am A110
   clear A110
   replace H := Option.bind_eq_some_iff.mp H
   obtain ⟨t767, A120, H⟩ := H
   replace H : ((cmd_Encode.f k t758 t759 t760 t761 t762 t765 (wrap64 (1 + t767))).bind fun bt768 => ((federationref7_Encode.f k t758 t759 t760 t761 t762 t765 (wrap64 (1 + t767))).bind fun bt770 => (if (bt768.2 != bt770.2) = true then (federationlaw7_CmdBack.j0 k (wrap64 (1 + t767)) bt768.1 bt768.2 true t758 t759 t760 t761 t762 t765) else (if bt768.1.toList = bt770.1.toList then (if (wrap64 (1 + t767)) = 1 then (federationlaw7_CmdBack.j0 k (wrap64 (1 + t767)) bt768.1 bt768.2 (bt768.2 == (t758 == 5)) t758 t759 t760 t761 t762 t765) else (federationlaw7_CmdBack.j0 k (wrap64 (1 + t767)) bt768.1 bt768.2 (bt768.2 == false) t758 t759 t760 t761 t762 t765)) else (federationlaw7_CmdBack.j0 k (wrap64 (1 + t767)) bt768.1 bt768.2 true t758 t759 t760 t761 t762 t765))))) = some r := H
   have A12 := am A120
   clear A120
   replace H := Option.bind_eq_some_iff.mp H
   obtain ⟨⟨t768, t769⟩, A130, H⟩ := H
   replace H : ((federationref7_Encode.f k t758 t759 t760 t761 t762 t765 (wrap64 (1 + t767))).bind fun bt770 => (if (t769 != bt770.2) = true then (federationlaw7_CmdBack.j0 k (wrap64 (1 + t767)) t768 t769 true t758 t759 t760 t761 t762 t765) else (if t768.toList = bt770.1.toList then (if (wrap64 (1 + t767)) = 1 then (federationlaw7_CmdBack.j0 k (wrap64 (1 + t767)) t768 t769 (t769 == (t758 == 5)) t758 t759 t760 t761 t762 t765) else (federationlaw7_CmdBack.j0 k (wrap64 (1 + t767)) t768 t769 (t769 == false) t758 t759 t760 t761 t762 t765)) else (federationlaw7_CmdBack.j0 k (wrap64 (1 + t767)) t768 t769 true t758 t759 t760 t761 t762 t765)))) = some r := H
   have A13 := am A130
   clear A130
   replace H := Option.bind_eq_some_iff.mp H
   obtain ⟨⟨t770, t771⟩, A140, H⟩ := H
   replace H : (if (t769 != t771) = true then (federationlaw7_CmdBack.j0 k (wrap64 (1 + t767)) t768 t769 true t758 t759 t760 t761 t762 t765) else (if t768.toList = t770.toList then (if (wrap64 (1 + t767)) = 1 then (federationlaw7_CmdBack.j0 k (wrap64 (1 + t767)) t768 t769 (t769 == (t758 == 5)) t758 t759 t760 t761 t762 t765) else (federationlaw7_CmdBack.j0 k (wrap64 (1 + t767)) t768 t769 (t769 == false) t758 t759 t760 t761 t762 t765)) else (federationlaw7_CmdBack.j0 k (wrap64 (1 + t767)) t768 t769 true t758 t759 t760 t761 t762 t765))) = some r := H
   have A14 := am A140
   clear A140
   have HC15 := am H
   clear H
   go_enter Try.func3, Try.ntmps3
   go_upto_region 9 with (first | ((with_reducible refine gate_callee (f := 13) rfl ?_); refine goesL_ (some 22) rfl rfl Try.func13 (by kernel_rfl) rfl #[] rfl ar ?_; (with_reducible refine (federationlaw7_known.calls k  true _ A7.out).mono ?_); rintro e w16 ⟨rfl, hb⟩; refine ⟨_, rfl, ?_⟩; have n0_ := am (below_step bel hb); clear HB; have HB := n0_; clear n0_; (try clear hb); (try clear hb2); (try clear hk); (try clear hi)) | ((with_reducible refine gate_callee (f := 14) rfl ?_); refine goesL_ (some 32) rfl rfl Try.func14 (by kernel_rfl) rfl #[.int .i64 a0, .int .i64 a1, .int .i64 a2, .slice A3 l3.length c3, .string a4] rfl ar ?_; (with_reducible refine (federationlaw7_Make.calls k a0 a1 a2 _ _ l3 a4 t758 t759 t760 t761 t762 t765 _ ?side1 ?side2 A11.out).mono ?_); (case side1 => repeat (first | exact (Kd.C_below HR3.out HB.out) | (with_reducible refine Kd.C_alloc ?_ _) | (with_reducible refine Kd.C_drewN ?_ _) | (with_reducible refine Kd.C_drew ?_))); (case side2 => exact HC3.out); rintro e w17 ⟨v763, rfl, ho0, hb⟩; refine ⟨_, rfl, ?_⟩; have n0_ := am (Kd.R_lower ho0 (below_size bel)); have n1_ := am (below_step bel hb); clear HB; have HO764 := n0_; have HB := n1_; clear n0_ n1_; (try clear hb); (try clear hb2); (try clear hk); (try clear hi); (try clear ho0)) | ((with_reducible refine gate_dst (N := 13) rfl ?_); refine bx 13 26 (cs := #[.int .i64 0, .int .i64 0, .int .i64 0, .bool false, .slice none 0 0, .string (⟨#[]⟩ : ByteArray)]) ?_; intro gb766 hg w18 hbox hb; have n0_ := am (Kd.R_below (kr HO764.out) hb); have n1_ := am (below_step bel hb); have n2_ := am (hbox); have n3_ := am ((by rw [hg]; exact (below_size bel) : w.heap.size ≤ gb766)); have n4_ := am ((by rw [hg]; exact (below_size bel) : w.heap.size ≤ gb766)); clear HO764 HB; have HO764 := n0_; have HB := n1_; have BK766 := n2_; have GW766 := n3_; have GE766 := n4_; clear n0_ n1_ n2_ n3_ n4_ hb hbox hg; obtain ⟨hcz19_0, hcz19_1, hcz19_2, hcz19_3, hcz19_4, hcz19_5⟩ := cells6 BK766.out; obtain ⟨hfz19_0, hfz19_1, hfz19_2, hfz19_3, hfz19_4, hfz19_5⟩ := froz6 BK766.out; obtain ⟨Ao20, co20, eo20⟩ := Kd.R_slice HO764.out; subst eo20) | ((with_reducible refine gate_callee (f := 15) rfl ?_); refine goesL_ (some 34) rfl rfl Try.func15 (by kernel_rfl) rfl #[.int .i64 a5, .int .i64 2] rfl ar ?_; (with_reducible refine (federationlaw7_within.calls a5 2 t767 _ A12.out).mono ?_); rintro e w' ⟨rfl, ⟨nd, rfl⟩⟩; refine ⟨_, rfl, ?_⟩) | ((with_reducible refine gate_callee (f := 16) rfl ?_); refine goesL_ (some 39) rfl rfl Try.func16 (by kernel_rfl) rfl #[.agg #[.int .i64 t758, .int .i64 t759, .int .i64 t760, .bool t761, .slice Ao20 t762.length co20, .string t765], .int .i64 (wrap64 (1 + t767))] rfl ar ?_; (with_reducible refine (cmd_Encode.calls k t758 t759 t760 t761 _ _ t762 t765 (wrap64 (1 + t767)) t768 t769 _ ?side1 ?side2 A13.out).mono ?_); (case side1 => refine (Kd.R_reads' (e := 40) (base := w.heap.size) (ok := fun k_ => True) (n := t762.length) (c := co20) ?_).2.2; exact (by (with_reducible repeat (first | apply Kd.R_alloc | apply Kd.R_drewN | apply Kd.R_drew)); exact (Kd.R_mono (Kd.R_far (p := ⟨gb766, 5, none⟩) (Kd.R_far (p := ⟨gb766, 4, none⟩) (Kd.R_far (p := ⟨gb766, 3, none⟩) (Kd.R_far (p := ⟨gb766, 2, none⟩) (Kd.R_far (p := ⟨gb766, 1, none⟩) (Kd.R_far (p := ⟨gb766, 0, none⟩) (Kd.R_types HO764.out BK766.out (by decide)) (fun _ hk => hk.2) (.int .i64 t758)) (fun _ hk => hk.2) (.int .i64 t759)) (fun _ hk => hk.2) (.int .i64 t760)) (fun _ hk => hk.2) (.bool t761)) (fun _ hk => hk.2) (.slice Ao20 t762.length co20)) (fun _ hk => hk.2) (.string t765)) (fun _ h_ => h_.1)))); (case side2 => exact (Kd.R_reads' HO764.out).2.1); rintro e w21 ⟨rfl, hb⟩; refine ⟨_, rfl, ?_⟩; have n0_ := am (Kd.R_below (by (with_reducible repeat (first | apply Kd.R_alloc | apply Kd.R_drewN | apply Kd.R_drew)); exact (Kd.R_mono (Kd.R_far (p := ⟨gb766, 5, none⟩) (Kd.R_far (p := ⟨gb766, 4, none⟩) (Kd.R_far (p := ⟨gb766, 3, none⟩) (Kd.R_far (p := ⟨gb766, 2, none⟩) (Kd.R_far (p := ⟨gb766, 1, none⟩) (Kd.R_far (p := ⟨gb766, 0, none⟩) (Kd.R_types HO764.out BK766.out (by decide)) (fun _ hk => hk.2) (.int .i64 t758)) (fun _ hk => hk.2) (.int .i64 t759)) (fun _ hk => hk.2) (.int .i64 t760)) (fun _ hk => hk.2) (.bool t761)) (fun _ hk => hk.2) (.slice Ao20 t762.length co20)) (fun _ hk => hk.2) (.string t765)) (fun _ h_ => h_.1))) hb); have n1_ := am (blk_below (g := gb766) (o := .cells #[.int .i64 t758, .int .i64 t759, .int .i64 t760, .bool t761, .slice Ao20 t762.length co20, .string t765] 26 (0, 0)) (by (with_reducible repeat (first | apply blk_drewN | apply blk_drew | apply blk_alloc)); refine blk_put (cs := #[.int .i64 t758, .int .i64 t759, .int .i64 t760, .bool t761, .slice Ao20 t762.length co20, .string (⟨#[]⟩ : ByteArray)]) ?_ 5 _ rfl; refine blk_put (cs := #[.int .i64 t758, .int .i64 t759, .int .i64 t760, .bool t761, .slice none 0 0, .string (⟨#[]⟩ : ByteArray)]) ?_ 4 _ rfl; refine blk_put (cs := #[.int .i64 t758, .int .i64 t759, .int .i64 t760, .bool false, .slice none 0 0, .string (⟨#[]⟩ : ByteArray)]) ?_ 3 _ rfl; refine blk_put (cs := #[.int .i64 t758, .int .i64 t759, .int .i64 0, .bool false, .slice none 0 0, .string (⟨#[]⟩ : ByteArray)]) ?_ 2 _ rfl; refine blk_put (cs := #[.int .i64 t758, .int .i64 0, .int .i64 0, .bool false, .slice none 0 0, .string (⟨#[]⟩ : ByteArray)]) ?_ 1 _ rfl; refine blk_put (cs := #[.int .i64 0, .int .i64 0, .int .i64 0, .bool false, .slice none 0 0, .string (⟨#[]⟩ : ByteArray)]) ?_ 0 _ rfl; exact BK766.out) hb); have n2_ := am (below_step bel hb); clear HO764 BK766 HB; have HO764 := n0_; have BK766 := n1_; have HB := n2_; clear n0_ n1_ n2_; (try clear hb); (try clear hb2); (try clear hk); (try clear hi); obtain ⟨hcz22_0, hcz22_1, hcz22_2, hcz22_3, hcz22_4, hcz22_5⟩ := cells6 BK766.out; obtain ⟨hfz22_0, hfz22_1, hfz22_2, hfz22_3, hfz22_4, hfz22_5⟩ := froz6 BK766.out) | ((with_reducible refine gate_callee (f := 17) rfl ?_); refine goesL_ (some 45) rfl rfl Try.func17 (by kernel_rfl) rfl #[.agg #[.int .i64 t758, .int .i64 t759, .int .i64 t760, .bool t761, .slice Ao20 t762.length co20, .string t765], .int .i64 (wrap64 (1 + t767))] rfl ar ?_; (with_reducible refine (federationref7_Encode.calls k t758 t759 t760 t761 _ _ t762 t765 (wrap64 (1 + t767)) t770 t771 _ ?side1 ?side2 A14.out).mono ?_); (case side1 => repeat (first | exact (Kd.R_reads' HO764.out).2.2 | (with_reducible refine Kd.C_alloc ?_ _) | (with_reducible refine Kd.C_drewN ?_ _) | (with_reducible refine Kd.C_drew ?_))); (case side2 => exact (Kd.R_reads' HO764.out).2.1); rintro e w23 ⟨rfl, hb⟩; refine ⟨_, rfl, ?_⟩; have n0_ := am (Kd.R_below (kr HO764.out) hb); have n1_ := am (blk_below (bk BK766.out) hb); have n2_ := am (below_step bel hb); clear HO764 BK766 HB; have HO764 := n0_; have BK766 := n1_; have HB := n2_; clear n0_ n1_ n2_; (try clear hb); (try clear hb2); (try clear hk); (try clear hi)))
   (try simp only [Act.put, List.setIfInBounds_toArray, List.set_cons_zero, List.set_cons_succ])
   go_cut [66] (fun v66 wc => ∃ (kq : Nat) (x66_14 : Bool), v66 = .bool x66_14 ∧ Aside0 (federationlaw7_CmdBack.j0 kq (wrap64 (1 + t767)) t768 t769 x66_14 t758 t759 t760 t761 t762 t765 = some r) ∧ Aside0 (kq ≤ k) ∧ Aside0 (Kd.R k40 40 wc w.heap.size (fun _ => True) (.slice Ao20 t762.length co20) t762) ∧ Aside0 (wc.heap[gb766]? = some (.cells #[.int .i64 t758, .int .i64 t759, .int .i64 t760, .bool t761, (.slice Ao20 t762.length co20), .string t765] 26 (0, 0))) ∧ Aside0 (Below w.heap.size w wc))
   case first =>
    have H := HC15.out
    clear HC15
    by_cases c24 : (t769 != t771) = true
    ·rw [if_pos c24] at H
     have c24b0 : (t769 != t771) = true := c24
     (try (have c24b1 : decide (t769 = t771) = false := by simpa using c24))
     (try (have c24b2 : (t769 == t771) = false := by simpa using c24))
     (try (have c24b3 : ¬ (t769 = t771) := by simpa using c24))
     clear c24
     (first | rw [c24b0] | (simp only [i64_w, i32_w]; rw [c24b0]) | skip)
     have H' := am H
     clear H
     go_wp2
     go_meet
     case rel => exact ⟨_, (true), (by first | rfl | (simp; done) | (simp [*]; done)), H', ⟨by first | omega | exact Nat.le_refl _⟩, ⟨kr HO764.out⟩, ⟨bk BK766.out⟩, ⟨bel⟩⟩
    ·rw [if_neg c24] at H
     have c24b0 : (t769 != t771) = false := by simpa using c24
     (try (have c24b1 : decide (t769 = t771) = true := by simpa using c24))
     (try (have c24b2 : (t769 == t771) = true := by simpa using c24))
     clear c24
     (first | rw [c24b0] | (simp only [i64_w, i32_w]; rw [c24b0]) | skip)
     by_cases c25 : t768.toList = t770.toList
     ·rw [if_pos c25] at H
      have c25b0 : (t768.toList == t770.toList) = true := beq_iff_eq.mpr c25
      have c25b1 : (t768.toList != t770.toList) = false := bne_eq_false_iff_eq.mpr c25
      clear c25
      by_cases c26 : (wrap64 (1 + t767)) = 1
      ·rw [if_pos c26] at H
       have c26b0 : ((wrap64 (1 + t767)) == 1) = true := beq_iff_eq.mpr c26
       have c26b1 : ((wrap64 (1 + t767)) != 1) = false := bne_eq_false_iff_eq.mpr c26
       clear c26
       have H' := am H
       clear H
       obtain ⟨hcz27_0, hcz27_1, hcz27_2, hcz27_3, hcz27_4, hcz27_5⟩ := cells6 BK766.out
       obtain ⟨hfz27_0, hfz27_1, hfz27_2, hfz27_3, hfz27_4, hfz27_5⟩ := froz6 BK766.out
       go_wp2
       go_meet
       case rel => exact ⟨_, ((t769 == (t758 == 5))), (by first | rfl | (simp; done) | (simp [*]; done)), H', ⟨by first | omega | exact Nat.le_refl _⟩, ⟨kr HO764.out⟩, ⟨bk BK766.out⟩, ⟨bel⟩⟩
      ·rw [if_neg c26] at H
       have c26b0 : ((wrap64 (1 + t767)) == 1) = false := beq_eq_false_iff_ne.mpr c26
       have c26b1 : ((wrap64 (1 + t767)) != 1) = true := bne_iff_ne.mpr c26
       have H' := am H
       clear H
       go_wp2
       go_meet
       case rel => exact ⟨_, ((t769 == false)), (by first | rfl | (simp; done) | (simp [*]; done)), H', ⟨by first | omega | exact Nat.le_refl _⟩, ⟨kr HO764.out⟩, ⟨bk BK766.out⟩, ⟨bel⟩⟩
     ·rw [if_neg c25] at H
      have c25b0 : (t768.toList == t770.toList) = false := beq_eq_false_iff_ne.mpr c25
      have c25b1 : (t768.toList != t770.toList) = true := bne_iff_ne.mpr c25
      have H' := am H
      clear H
      go_wp2
      go_meet
      case rel => exact ⟨_, (true), (by first | rfl | (simp; done) | (simp [*]; done)), H', ⟨by first | omega | exact Nat.le_refl _⟩, ⟨kr HO764.out⟩, ⟨bk BK766.out⟩, ⟨bel⟩⟩
   case rest =>
    clear HC15
    try clear c1
    try clear c2
    try clear p2
    try clear c3
    try clear p6
    try clear c8
    try clear c9
    try clear c9b0
    try clear c9b1
    try clear c13
    try clear c14
    try clear c15
    try clear c16
    try clear c17
    try clear c24
    try clear c24b0
    try clear c24b1
    try clear c24b2
    try clear c25
    try clear c25b0
    try clear c25b1
    try clear c26
    try clear c26b0
    try clear c26b1
    try clear hcz19_0
    try clear hcz19_1
    try clear hcz19_2
    try clear hcz19_3
    try clear hcz19_4
    try clear hcz19_5
    try clear hcz22_0
    try clear hcz22_1
    try clear hcz22_2
    try clear hcz22_3
    try clear hcz22_4
    try clear hcz22_5
    try clear hcz27_0
    try clear hcz27_1
    try clear hcz27_2
    try clear hcz27_3
    try clear hcz27_4
    try clear hcz27_5
    try clear hfz19_0
    try clear hfz19_1
    try clear hfz19_2
    try clear hfz19_3
    try clear hfz19_4
    try clear hfz19_5
    try clear hfz22_0
    try clear hfz22_1
    try clear hfz22_2
    try clear hfz22_3
    try clear hfz22_4
    try clear hfz22_5
    try clear hfz27_0
    try clear hfz27_1
    try clear hfz27_2
    try clear hfz27_3
    try clear hfz27_4
    try clear hfz27_5
    obtain ⟨kq, x66_14, rfl, HA, HJ14, HO_767004, BK766, HB⟩ := hcut
    cases kq with
    | zero => exact absurd HA.out (by simp [federationlaw7_CmdBack.j0])
    | succ kj14 =>
     have H := HA.out
     clear HA
     simp only [federationlaw7_CmdBack.j0] at H
     by_cases c28 : x66_14 = true
     ·subst c28
      have H1 : (some false) = some r := by rw [if_pos rfl] at H; exact H
      clear H
      have H := H1
      clear H1
      obtain rfl := Option.some.inj H
      go_wp2
      go_ret
      exact ⟨er, bel⟩
     ·replace c28 := Bool.eq_false_iff.mpr c28
      subst c28
      have H1 : (if t769 = true then ((cmd_Decode.f kj14 t768).bind fun bt772 => (if bt772.2.2.2.2.2.2.2 = true then (if bt772.2.2.2.2.2.2.1 = (wrap64 (1 + t767)) then ((federationref7_Same.f kj14 t758 t759 t760 t761 t762 t765 bt772.1 bt772.2.1 bt772.2.2.1 bt772.2.2.2.1 bt772.2.2.2.2.1 bt772.2.2.2.2.2.1).bind fun t783 => (some t783)) else (some false)) else (some false))) else (some (t768.toList == ([] : List UInt8)))) = some r := by rw [if_neg (show ¬ (false = true) by decide)] at H; exact H
      clear H
      have H := H1
      clear H1
      by_cases c29 : t769 = true
      ·subst c29
       have H1 : ((cmd_Decode.f kj14 t768).bind fun bt772 => (if bt772.2.2.2.2.2.2.2 = true then (if bt772.2.2.2.2.2.2.1 = (wrap64 (1 + t767)) then ((federationref7_Same.f kj14 t758 t759 t760 t761 t762 t765 bt772.1 bt772.2.1 bt772.2.2.1 bt772.2.2.2.1 bt772.2.2.2.2.1 bt772.2.2.2.2.2.1).bind fun t783 => (some t783)) else (some false)) else (some false))) = some r := by rw [if_pos rfl] at H; exact H
       clear H
       have H := H1
       clear H1
       replace H := Option.bind_eq_some_iff.mp H
       obtain ⟨⟨t772, t773, t774, t775, t776, t779, t780, t781⟩, A300, H⟩ := H
       replace H : (if t781 = true then (if t780 = (wrap64 (1 + t767)) then ((federationref7_Same.f kj14 t758 t759 t760 t761 t762 t765 t772 t773 t774 t775 t776 t779).bind fun t783 => (some t783)) else (some false)) else (some false)) = some r := H
       have A30 := am A300
       clear A300
       by_cases c31 : t781 = true
       ·subst c31
        have H1 : (if t780 = (wrap64 (1 + t767)) then ((federationref7_Same.f kj14 t758 t759 t760 t761 t762 t765 t772 t773 t774 t775 t776 t779).bind fun t783 => (some t783)) else (some false)) = some r := by rw [if_pos rfl] at H; exact H
        clear H
        have H := H1
        clear H1
        by_cases c32 : t780 = (wrap64 (1 + t767))
        ·rw [if_pos c32] at H
         have c32b0 : (t780 == (wrap64 (1 + t767))) = true := beq_iff_eq.mpr c32
         have c32b1 : (t780 != (wrap64 (1 + t767))) = false := bne_eq_false_iff_eq.mpr c32
         clear c32
         replace H := Option.bind_eq_some_iff.mp H
         obtain ⟨t783, A330, H⟩ := H
         replace H : (some t783) = some r := H
         have A33 := am A330
         clear A330
         obtain rfl := Option.some.inj H
         go_wp2_with (first | ((with_reducible refine gate_callee (f := 18) rfl ?_); refine goesL_ (some 73) rfl rfl Try.func18 (by kernel_rfl) rfl #[.string t768] rfl ar ?_; (with_reducible refine (cmd_Decode.calls kj14 t768 t772 t773 t774 t775 t776 t779 t780 true _ A30.out).mono ?_); rintro e w34 ⟨v777, rfl, ho0, hb⟩; refine ⟨_, rfl, ?_⟩; have n0_ := am (Kd.R_elder' (kr HO_767004.out) (Kd.R_base ho0) hb); have n1_ := am (Kd.R_lower (Kd.R_new' ho0 (Kd.R_lt (kr HO_767004.out))) (below_size bel)); have n2_ := am (blk_below (bk BK766.out) hb); have n3_ := am (below_step bel hb); clear HO_767004 BK766 HB; have HO_767004 := n0_; have HO778 := n1_; have BK766 := n2_; have HB := n3_; clear n0_ n1_ n2_ n3_; (try clear hb); (try clear hb2); (try clear hk); (try clear hi); (try clear ho0)) | ((with_reducible refine gate_dst (N := 19) rfl ?_); refine bx 19 26 (cs := #[.int .i64 0, .int .i64 0, .int .i64 0, .bool false, .slice none 0 0, .string (⟨#[]⟩ : ByteArray)]) ?_; intro gb782 hg w35 hbox hb; have n0_ := am (Kd.R_below (kr HO_767004.out) hb); have n1_ := am (Kd.R_below (kr HO778.out) hb); have n2_ := am (blk_below (bk BK766.out) hb); have n3_ := am (below_step bel hb); have n4_ := am (hbox); have n5_ := am ((by rw [hg]; exact (below_size bel) : w.heap.size ≤ gb782)); have n6_ := am ((by rw [hg]; exact (below_size bel) : w.heap.size ≤ gb782)); have n7_ := am ((by rw [hg]; exact Nat.ne_of_lt (blk_lt (bk BK766.out)) : gb766 ≠ gb782)); have n8_ := am ((by rw [hg]; exact Nat.ne_of_gt (blk_lt (bk BK766.out)) : gb782 ≠ gb766)); clear HO_767004 HO778 BK766 HB; have HO_767004 := n0_; have HO778 := n1_; have BK766 := n2_; have HB := n3_; have BK782 := n4_; have GW782 := n5_; have GE782 := n6_; have NB766_782 := n7_; have NB782_766 := n8_; clear n0_ n1_ n2_ n3_ n4_ n5_ n6_ n7_ n8_ hb hbox hg; have hnb36 := NB782_766.out; have hnc36 := NB766_782.out; obtain ⟨hcz37_0, hcz37_1, hcz37_2, hcz37_3, hcz37_4, hcz37_5⟩ := cells6 BK782.out; obtain ⟨hfz37_0, hfz37_1, hfz37_2, hfz37_3, hfz37_4, hfz37_5⟩ := froz6 BK782.out; obtain ⟨Ao38, co38, eo38⟩ := Kd.R_slice HO778.out; subst eo38; obtain ⟨hcz39_0, hcz39_1, hcz39_2, hcz39_3, hcz39_4, hcz39_5⟩ := cells6 BK766.out; obtain ⟨hfz39_0, hfz39_1, hfz39_2, hfz39_3, hfz39_4, hfz39_5⟩ := froz6 BK766.out) | (go_at_call 19; (with_reducible refine (federationref7_Same.calls kj14 t758 t759 t760 t761 _ _ t762 t765 t772 t773 t774 t775 _ _ t776 t779 t783 _ ?side1 ?side2 ?side3 ?side4 A33.out).mono ?_); (case side1 => refine (Kd.R_reads' (e := 40) (base := w.heap.size) (ok := fun k_ => (True ∧ some k_ ≠ (.slice Ao38 t776.length co38 : Value).ownBlock)) (n := t762.length) (c := co20) ?_).2.2; exact (by (with_reducible repeat (first | apply Kd.R_alloc | apply Kd.R_drewN | apply Kd.R_drew)); exact (Kd.R_mono (Kd.R_far (p := ⟨gb782, 5, none⟩) (Kd.R_far (p := ⟨gb782, 4, none⟩) (Kd.R_far (p := ⟨gb782, 3, none⟩) (Kd.R_far (p := ⟨gb782, 2, none⟩) (Kd.R_far (p := ⟨gb782, 1, none⟩) (Kd.R_far (p := ⟨gb782, 0, none⟩) (Kd.R_types HO_767004.out BK782.out (by decide)) (fun _ hk => hk.2) (.int .i64 t772)) (fun _ hk => hk.2) (.int .i64 t773)) (fun _ hk => hk.2) (.int .i64 t774)) (fun _ hk => hk.2) (.bool t775)) (fun _ hk => hk.2) (.slice Ao38 t776.length co38)) (fun _ hk => hk.2) (.string t779)) (fun _ h_ => h_.1)))); (case side2 => exact (Kd.R_reads' HO_767004.out).2.1); (case side3 => refine (Kd.R_reads' (e := 40) (base := w.heap.size) (ok := fun k_ => (True ∧ some k_ ≠ (.slice Ao20 t762.length co20 : Value).ownBlock)) (n := t776.length) (c := co38) ?_).2.2; exact (by (with_reducible repeat (first | apply Kd.R_alloc | apply Kd.R_drewN | apply Kd.R_drew)); exact (Kd.R_mono (Kd.R_far (p := ⟨gb782, 5, none⟩) (Kd.R_far (p := ⟨gb782, 4, none⟩) (Kd.R_far (p := ⟨gb782, 3, none⟩) (Kd.R_far (p := ⟨gb782, 2, none⟩) (Kd.R_far (p := ⟨gb782, 1, none⟩) (Kd.R_far (p := ⟨gb782, 0, none⟩) (Kd.R_types HO778.out BK782.out (by decide)) (fun _ hk => hk.2) (.int .i64 t772)) (fun _ hk => hk.2) (.int .i64 t773)) (fun _ hk => hk.2) (.int .i64 t774)) (fun _ hk => hk.2) (.bool t775)) (fun _ hk => hk.2) (.slice Ao38 t776.length co38)) (fun _ hk => hk.2) (.string t779)) (fun _ h_ => h_.1)))); (case side4 => exact (Kd.R_reads' HO778.out).2.1); rintro e w40 ⟨rfl, hb⟩; have n0_ := am (Kd.R_below (by (with_reducible repeat (first | apply Kd.R_alloc | apply Kd.R_drewN | apply Kd.R_drew)); exact (Kd.R_mono (Kd.R_far (p := ⟨gb782, 5, none⟩) (Kd.R_far (p := ⟨gb782, 4, none⟩) (Kd.R_far (p := ⟨gb782, 3, none⟩) (Kd.R_far (p := ⟨gb782, 2, none⟩) (Kd.R_far (p := ⟨gb782, 1, none⟩) (Kd.R_far (p := ⟨gb782, 0, none⟩) (Kd.R_types HO_767004.out BK782.out (by decide)) (fun _ hk => hk.2) (.int .i64 t772)) (fun _ hk => hk.2) (.int .i64 t773)) (fun _ hk => hk.2) (.int .i64 t774)) (fun _ hk => hk.2) (.bool t775)) (fun _ hk => hk.2) (.slice Ao38 t776.length co38)) (fun _ hk => hk.2) (.string t779)) (fun _ h_ => h_.1))) hb); have n1_ := am (Kd.R_below (by (with_reducible repeat (first | apply Kd.R_alloc | apply Kd.R_drewN | apply Kd.R_drew)); exact (Kd.R_mono (Kd.R_far (p := ⟨gb782, 5, none⟩) (Kd.R_far (p := ⟨gb782, 4, none⟩) (Kd.R_far (p := ⟨gb782, 3, none⟩) (Kd.R_far (p := ⟨gb782, 2, none⟩) (Kd.R_far (p := ⟨gb782, 1, none⟩) (Kd.R_far (p := ⟨gb782, 0, none⟩) (Kd.R_types HO778.out BK782.out (by decide)) (fun _ hk => hk.2) (.int .i64 t772)) (fun _ hk => hk.2) (.int .i64 t773)) (fun _ hk => hk.2) (.int .i64 t774)) (fun _ hk => hk.2) (.bool t775)) (fun _ hk => hk.2) (.slice Ao38 t776.length co38)) (fun _ hk => hk.2) (.string t779)) (fun _ h_ => h_.1))) hb); have n2_ := am (blk_below (bk BK766.out) hb); have n3_ := am (blk_below (g := gb782) (o := .cells #[.int .i64 t772, .int .i64 t773, .int .i64 t774, .bool t775, .slice Ao38 t776.length co38, .string t779] 26 (0, 0)) (by (with_reducible repeat (first | apply blk_drewN | apply blk_drew | apply blk_alloc)); refine blk_put (cs := #[.int .i64 t772, .int .i64 t773, .int .i64 t774, .bool t775, .slice Ao38 t776.length co38, .string (⟨#[]⟩ : ByteArray)]) ?_ 5 _ rfl; refine blk_put (cs := #[.int .i64 t772, .int .i64 t773, .int .i64 t774, .bool t775, .slice none 0 0, .string (⟨#[]⟩ : ByteArray)]) ?_ 4 _ rfl; refine blk_put (cs := #[.int .i64 t772, .int .i64 t773, .int .i64 t774, .bool false, .slice none 0 0, .string (⟨#[]⟩ : ByteArray)]) ?_ 3 _ rfl; refine blk_put (cs := #[.int .i64 t772, .int .i64 t773, .int .i64 0, .bool false, .slice none 0 0, .string (⟨#[]⟩ : ByteArray)]) ?_ 2 _ rfl; refine blk_put (cs := #[.int .i64 t772, .int .i64 0, .int .i64 0, .bool false, .slice none 0 0, .string (⟨#[]⟩ : ByteArray)]) ?_ 1 _ rfl; refine blk_put (cs := #[.int .i64 0, .int .i64 0, .int .i64 0, .bool false, .slice none 0 0, .string (⟨#[]⟩ : ByteArray)]) ?_ 0 _ rfl; exact BK782.out) hb); have n4_ := am (below_step bel hb); clear HO_767004 HO778 BK766 BK782 HB; have HO_767004 := n0_; have HO778 := n1_; have BK766 := n2_; have BK782 := n3_; have HB := n4_; clear n0_ n1_ n2_ n3_ n4_; (try clear hb); (try clear hb2); (try clear hk); (try clear hi)))
         go_ret
         exact ⟨er, bel⟩
        ·rw [if_neg c32] at H
         have c32b0 : (t780 == (wrap64 (1 + t767))) = false := beq_eq_false_iff_ne.mpr c32
         have c32b1 : (t780 != (wrap64 (1 + t767))) = true := bne_iff_ne.mpr c32
         obtain rfl := Option.some.inj H
         go_wp2_with (first | ((with_reducible refine gate_callee (f := 18) rfl ?_); refine goesL_ (some 73) rfl rfl Try.func18 (by kernel_rfl) rfl #[.string t768] rfl ar ?_; (with_reducible refine (cmd_Decode.calls kj14 t768 t772 t773 t774 t775 t776 t779 t780 true _ A30.out).mono ?_); rintro e w41 ⟨v777, rfl, ho0, hb⟩; refine ⟨_, rfl, ?_⟩; have n0_ := am (Kd.R_elder' (kr HO_767004.out) (Kd.R_base ho0) hb); have n1_ := am (Kd.R_lower (Kd.R_new' ho0 (Kd.R_lt (kr HO_767004.out))) (below_size bel)); have n2_ := am (blk_below (bk BK766.out) hb); have n3_ := am (below_step bel hb); clear HO_767004 BK766 HB; have HO_767004 := n0_; have HO778 := n1_; have BK766 := n2_; have HB := n3_; clear n0_ n1_ n2_ n3_; (try clear hb); (try clear hb2); (try clear hk); (try clear hi); (try clear ho0)) | ((with_reducible refine gate_dst (N := 19) rfl ?_); refine bx 19 26 (cs := #[.int .i64 0, .int .i64 0, .int .i64 0, .bool false, .slice none 0 0, .string (⟨#[]⟩ : ByteArray)]) ?_; intro gb782 hg w42 hbox hb; have n0_ := am (Kd.R_below (kr HO_767004.out) hb); have n1_ := am (Kd.R_below (kr HO778.out) hb); have n2_ := am (blk_below (bk BK766.out) hb); have n3_ := am (below_step bel hb); have n4_ := am (hbox); have n5_ := am ((by rw [hg]; exact (below_size bel) : w.heap.size ≤ gb782)); have n6_ := am ((by rw [hg]; exact (below_size bel) : w.heap.size ≤ gb782)); have n7_ := am ((by rw [hg]; exact Nat.ne_of_lt (blk_lt (bk BK766.out)) : gb766 ≠ gb782)); have n8_ := am ((by rw [hg]; exact Nat.ne_of_gt (blk_lt (bk BK766.out)) : gb782 ≠ gb766)); clear HO_767004 HO778 BK766 HB; have HO_767004 := n0_; have HO778 := n1_; have BK766 := n2_; have HB := n3_; have BK782 := n4_; have GW782 := n5_; have GE782 := n6_; have NB766_782 := n7_; have NB782_766 := n8_; clear n0_ n1_ n2_ n3_ n4_ n5_ n6_ n7_ n8_ hb hbox hg; have hnb43 := NB782_766.out; have hnc43 := NB766_782.out; obtain ⟨hcz44_0, hcz44_1, hcz44_2, hcz44_3, hcz44_4, hcz44_5⟩ := cells6 BK782.out; obtain ⟨hfz44_0, hfz44_1, hfz44_2, hfz44_3, hfz44_4, hfz44_5⟩ := froz6 BK782.out; obtain ⟨Ao45, co45, eo45⟩ := Kd.R_slice HO778.out; subst eo45))
         go_ret
         exact ⟨er, bel⟩
       ·replace c31 := Bool.eq_false_iff.mpr c31
        subst c31
        have H1 : (some false) = some r := by rw [if_neg (show ¬ (false = true) by decide)] at H; exact H
        clear H
        have H := H1
        clear H1
        obtain rfl := Option.some.inj H
        go_wp2_with (first | ((with_reducible refine gate_callee (f := 18) rfl ?_); refine goesL_ (some 73) rfl rfl Try.func18 (by kernel_rfl) rfl #[.string t768] rfl ar ?_; (with_reducible refine (cmd_Decode.calls kj14 t768 t772 t773 t774 t775 t776 t779 t780 false _ A30.out).mono ?_); rintro e w46 ⟨v777, rfl, ho0, hb⟩; refine ⟨_, rfl, ?_⟩; have n0_ := am (Kd.R_elder' (kr HO_767004.out) (Kd.R_base ho0) hb); have n1_ := am (Kd.R_lower (Kd.R_new' ho0 (Kd.R_lt (kr HO_767004.out))) (below_size bel)); have n2_ := am (blk_below (bk BK766.out) hb); have n3_ := am (below_step bel hb); clear HO_767004 BK766 HB; have HO_767004 := n0_; have HO778 := n1_; have BK766 := n2_; have HB := n3_; clear n0_ n1_ n2_ n3_; (try clear hb); (try clear hb2); (try clear hk); (try clear hi); (try clear ho0)) | ((with_reducible refine gate_dst (N := 19) rfl ?_); refine bx 19 26 (cs := #[.int .i64 0, .int .i64 0, .int .i64 0, .bool false, .slice none 0 0, .string (⟨#[]⟩ : ByteArray)]) ?_; intro gb782 hg w47 hbox hb; have n0_ := am (Kd.R_below (kr HO_767004.out) hb); have n1_ := am (Kd.R_below (kr HO778.out) hb); have n2_ := am (blk_below (bk BK766.out) hb); have n3_ := am (below_step bel hb); have n4_ := am (hbox); have n5_ := am ((by rw [hg]; exact (below_size bel) : w.heap.size ≤ gb782)); have n6_ := am ((by rw [hg]; exact (below_size bel) : w.heap.size ≤ gb782)); have n7_ := am ((by rw [hg]; exact Nat.ne_of_lt (blk_lt (bk BK766.out)) : gb766 ≠ gb782)); have n8_ := am ((by rw [hg]; exact Nat.ne_of_gt (blk_lt (bk BK766.out)) : gb782 ≠ gb766)); clear HO_767004 HO778 BK766 HB; have HO_767004 := n0_; have HO778 := n1_; have BK766 := n2_; have HB := n3_; have BK782 := n4_; have GW782 := n5_; have GE782 := n6_; have NB766_782 := n7_; have NB782_766 := n8_; clear n0_ n1_ n2_ n3_ n4_ n5_ n6_ n7_ n8_ hb hbox hg; have hnb48 := NB782_766.out; have hnc48 := NB766_782.out; obtain ⟨hcz49_0, hcz49_1, hcz49_2, hcz49_3, hcz49_4, hcz49_5⟩ := cells6 BK782.out; obtain ⟨hfz49_0, hfz49_1, hfz49_2, hfz49_3, hfz49_4, hfz49_5⟩ := froz6 BK782.out; obtain ⟨Ao50, co50, eo50⟩ := Kd.R_slice HO778.out; subst eo50))
        go_ret
        exact ⟨er, bel⟩
      ·replace c29 := Bool.eq_false_iff.mpr c29
       subst c29
       have H1 : (some (t768.toList == ([] : List UInt8))) = some r := by rw [if_neg (show ¬ (false = true) by decide)] at H; exact H
       clear H
       have H := H1
       clear H1
       obtain rfl := Option.some.inj H
       go_wp2
       go_ret
       exact ⟨er, bel⟩
 ·replace c8 := Bool.eq_false_iff.mpr c8
  subst c8
  have H1 : (some false) = some r := by rw [if_neg (show ¬ (false = true) by decide)] at H; exact H
  clear H
  have H := H1
  clear H1
  obtain rfl := Option.some.inj H
  go_enter Try.func3, Try.ntmps3
  go_wp2_with (first | ((with_reducible refine gate_callee (f := 13) rfl ?_); refine goesL_ (some 22) rfl rfl Try.func13 (by kernel_rfl) rfl #[] rfl ar ?_; (with_reducible refine (federationlaw7_known.calls k  false _ A7.out).mono ?_); rintro e w51 ⟨rfl, hb⟩; refine ⟨_, rfl, ?_⟩; have n0_ := am (below_step bel hb); clear HB; have HB := n0_; clear n0_; (try clear hb); (try clear hb2); (try clear hk); (try clear hi)))
  go_ret
  exact ⟨er, bel⟩
def federationlaw7_CmdBack.Pure : Prop := ∀ (a0 : Int) (a1 : Int) (a2 : Int) (l3 : List Int) (a4 : ByteArray) (a5 : Int), (Lit.int .i64 a0).wf = true → (Lit.int .i64 a1).wf = true → (Lit.int .i64 a2).wf = true → l3.length ≤ maxLen → l3.length * 8 ≤ 140737488351232 → (∀ x ∈ l3, (Lit.int .i64 x).wf = true) → a4.size ≤ 140737488351232 → (Lit.int .i64 a5).wf = true → ∃ k, federationlaw7_CmdBack.f k a0 a1 a2 l3 a4 a5 = some true
theorem federationlaw7_CmdBack.walk (P : federationlaw7_CmdBack.Pure) (a0 : Int) (a1 : Int) (a2 : Int) (a3 : Option Addr) (len3 cap3 : Nat) (z3 : List Int) (a4 : ByteArray) (a5 : Int) (w : World) (w0 : (Lit.int .i64 a0).wf = true) (w1 : (Lit.int .i64 a1).wf = true) (w2 : (Lit.int .i64 a2).wf = true) (w3 : (a3 = none ∧ len3 = 0 ∧ cap3 = 0 ∧ z3 = []) ∨ ∃ x, a3 = some x ∧ len3 ≤ cap3 ∧ cap3 ≤ maxLen ∧ z3.length = cap3 ∧ (∀ i, i < z3.length → w.cell? (x.add i) = some (.int .i64 (z3.getD i 0))) ∧ ∀ n ∈ z3, (Lit.int .i64 n).wf = true) (y3 : len3 * 8 ≤ 140737488351232) (w4 : a4.size ≤ 140737488351232) (w5 : (Lit.int .i64 a5).wf = true) :
  Calls Try.prog 3 #[.int .i64 a0, .int .i64 a1, .int .i64 a2, .slice a3 len3 cap3, .string a4, .int .i64 a5] w fun e w' => e = .returned (.bool true) ∧ Below w.heap.size w w' := by
 obtain ⟨l3, rfl, hr3, hm3, hw3, hc3⟩ := ReadsInt.ofRowC w3
 obtain ⟨k, h⟩ := P a0 a1 a2 l3 a4 a5 w0 w1 w2 hm3 y3 hw3 w4 w5
 refine (federationlaw7_CmdBack.calls k a0 a1 a2 _ _ l3 a4 a5 true w (Kd.C_of_reads (d := (0 : Int)) (h1 := fun _ => rfl) hr3) hc3 h).mono ?_
 rintro e w' ⟨rfl, hd⟩
 exact ⟨rfl, hd⟩
end Go.Proofs.Ytagjmphkfeiiiaa.Q
