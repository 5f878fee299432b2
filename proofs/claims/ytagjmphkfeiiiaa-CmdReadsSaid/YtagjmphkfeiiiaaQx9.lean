/- One function's walk, or a law's, by the text that a program of this session prints; what each theorem says stands in it. -/
import Derived.Test.YtagjmphkfeiiiaaQx0
import Derived.Test.YtagjmphkfeiiiaaQx5
import Derived.Test.YtagjmphkfeiiiaaQx8
import Derived.Test.YtagjmphkfeiiiaaYi
import Derived.Test.YtagjmphkfeiiiaaXs
namespace Go.Proofs.Ytagjmphkfeiiiaa.Q
open Go.RowKit Go.Proofs.YtagjmphkfeiiiaaW.PrintWords Go.Proofs.YtagjmphkfeiiiaaW.PrintLast Go.Proofs.YtagjmphkfeiiiaaW.PrintMore
attribute [local go_sem] min2_int min_two
set_option linter.unusedVariables false
set_option linter.unusedSimpArgs false
def federationlaw7_known.f (k : Nat)  : Option (Bool) := (cmd_Decode.f k (⟨#[]⟩ : ByteArray)).bind fun bt361 => ((cmd_Encode.f k 1 300 3 false ([] : List (S40)) (⟨#[]⟩ : ByteArray) 1).bind fun bt373 => ((cmd_Up.f k bt373.1).bind fun bt375 => ((cmd_Decode.f k bt375.1).bind fun bt377 => ((cmd_Encode.f k 5 0 0 false ([] : List (S40)) (⟨#[]⟩ : ByteArray) 1).bind fun bt388 => (if bt361.2.2.2.2.2.2.2 = true then (some false) else (if bt373.2 = true then (if (bt373.1.size : Int) = 21 then (if bt375.2 = true then (if bt377.2.2.2.2.2.2.2 = true then (if bt377.2.2.2.2.2.2.1 = 2 then ((federationref7_Same.f k 1 300 3 false ([] : List (S40)) (⟨#[]⟩ : ByteArray) bt377.1 bt377.2.1 bt377.2.2.1 bt377.2.2.2.1 bt377.2.2.2.2.1 bt377.2.2.2.2.2.1).bind fun t390 => (if t390 = true then (some (!bt388.2)) else (some false))) else (some false)) else (some false)) else (some false)) else (some false)) else (some false)))))))
theorem federationlaw7_known.mono : ∀ k, LeO (federationlaw7_known.f k ) (federationlaw7_known.f (k + 1) ) := by
  intro  k
  unfold federationlaw7_known.f
  repeat' first
      | (with_reducible exact cmd_Decode.mono _ _)
      | (with_reducible exact cmd_Encode.mono _ _ _ _ _ _ _ _)
      | (with_reducible exact cmd_Up.mono _ _)
      | (with_reducible exact federationref7_Same.mono _ _ _ _ _ _ _ _ _ _ _ _ _)
      | (with_reducible exact LeO.refl _)
      | (with_reducible exact LeO.none _)
      | (with_reducible refine LeO.ite ?_ ?_)
      | (with_reducible refine LeO.bind ?_ (fun _ => ?_))
set_option maxHeartbeats 8000000 in
set_option maxRecDepth 100000 in
theorem federationlaw7_known.calls (k : Nat)  (r : Bool) (w : World) (h : federationlaw7_known.f k  = some r) :
  Calls Try.prog 13 #[] w fun e w' => e = .returned (.bool r) ∧ Below w.heap.size w w' := by
 have hu26 := Try.underlying26
 have HB := am (Below.refl w.heap.size w)
 have H : ((cmd_Decode.f k (⟨#[]⟩ : ByteArray)).bind fun bt361 => ((cmd_Encode.f k 1 300 3 false ([] : List (S40)) (⟨#[]⟩ : ByteArray) 1).bind fun bt373 => ((cmd_Up.f k bt373.1).bind fun bt375 => ((cmd_Decode.f k bt375.1).bind fun bt377 => ((cmd_Encode.f k 5 0 0 false ([] : List (S40)) (⟨#[]⟩ : ByteArray) 1).bind fun bt388 => (if bt361.2.2.2.2.2.2.2 = true then (some false) else (if bt373.2 = true then (if (bt373.1.size : Int) = 21 then (if bt375.2 = true then (if bt377.2.2.2.2.2.2.2 = true then (if bt377.2.2.2.2.2.2.1 = 2 then ((federationref7_Same.f k 1 300 3 false ([] : List (S40)) (⟨#[]⟩ : ByteArray) bt377.1 bt377.2.1 bt377.2.2.1 bt377.2.2.2.1 bt377.2.2.2.2.1 bt377.2.2.2.2.2.1).bind fun t390 => (if t390 = true then (some (!bt388.2)) else (some false))) else (some false)) else (some false)) else (some false)) else (some false)) else (some false)))))))) = some r := h
 clear h
 replace H := Option.bind_eq_some_iff.mp H
 obtain ⟨⟨t361, t362, t363, t364, t365, t368, t369, t370⟩, A10, H⟩ := H
 replace H : ((cmd_Encode.f k 1 300 3 false ([] : List (S40)) (⟨#[]⟩ : ByteArray) 1).bind fun bt373 => ((cmd_Up.f k bt373.1).bind fun bt375 => ((cmd_Decode.f k bt375.1).bind fun bt377 => ((cmd_Encode.f k 5 0 0 false ([] : List (S40)) (⟨#[]⟩ : ByteArray) 1).bind fun bt388 => (if t370 = true then (some false) else (if bt373.2 = true then (if (bt373.1.size : Int) = 21 then (if bt375.2 = true then (if bt377.2.2.2.2.2.2.2 = true then (if bt377.2.2.2.2.2.2.1 = 2 then ((federationref7_Same.f k 1 300 3 false ([] : List (S40)) (⟨#[]⟩ : ByteArray) bt377.1 bt377.2.1 bt377.2.2.1 bt377.2.2.2.1 bt377.2.2.2.2.1 bt377.2.2.2.2.2.1).bind fun t390 => (if t390 = true then (some (!bt388.2)) else (some false))) else (some false)) else (some false)) else (some false)) else (some false)) else (some false))))))) = some r := H
 have A1 := am A10
 clear A10
 replace H := Option.bind_eq_some_iff.mp H
 obtain ⟨⟨t373, t374⟩, A20, H⟩ := H
 replace H : ((cmd_Up.f k t373).bind fun bt375 => ((cmd_Decode.f k bt375.1).bind fun bt377 => ((cmd_Encode.f k 5 0 0 false ([] : List (S40)) (⟨#[]⟩ : ByteArray) 1).bind fun bt388 => (if t370 = true then (some false) else (if t374 = true then (if (t373.size : Int) = 21 then (if bt375.2 = true then (if bt377.2.2.2.2.2.2.2 = true then (if bt377.2.2.2.2.2.2.1 = 2 then ((federationref7_Same.f k 1 300 3 false ([] : List (S40)) (⟨#[]⟩ : ByteArray) bt377.1 bt377.2.1 bt377.2.2.1 bt377.2.2.2.1 bt377.2.2.2.2.1 bt377.2.2.2.2.2.1).bind fun t390 => (if t390 = true then (some (!bt388.2)) else (some false))) else (some false)) else (some false)) else (some false)) else (some false)) else (some false)))))) = some r := H
 have A2 := am A20
 clear A20
 replace H := Option.bind_eq_some_iff.mp H
 obtain ⟨⟨t375, t376⟩, A30, H⟩ := H
 replace H : ((cmd_Decode.f k t375).bind fun bt377 => ((cmd_Encode.f k 5 0 0 false ([] : List (S40)) (⟨#[]⟩ : ByteArray) 1).bind fun bt388 => (if t370 = true then (some false) else (if t374 = true then (if (t373.size : Int) = 21 then (if t376 = true then (if bt377.2.2.2.2.2.2.2 = true then (if bt377.2.2.2.2.2.2.1 = 2 then ((federationref7_Same.f k 1 300 3 false ([] : List (S40)) (⟨#[]⟩ : ByteArray) bt377.1 bt377.2.1 bt377.2.2.1 bt377.2.2.2.1 bt377.2.2.2.2.1 bt377.2.2.2.2.2.1).bind fun t390 => (if t390 = true then (some (!bt388.2)) else (some false))) else (some false)) else (some false)) else (some false)) else (some false)) else (some false))))) = some r := H
 have A3 := am A30
 clear A30
 replace H := Option.bind_eq_some_iff.mp H
 obtain ⟨⟨t377, t378, t379, t380, t381, t384, t385, t386⟩, A40, H⟩ := H
 replace H : ((cmd_Encode.f k 5 0 0 false ([] : List (S40)) (⟨#[]⟩ : ByteArray) 1).bind fun bt388 => (if t370 = true then (some false) else (if t374 = true then (if (t373.size : Int) = 21 then (if t376 = true then (if t386 = true then (if t385 = 2 then ((federationref7_Same.f k 1 300 3 false ([] : List (S40)) (⟨#[]⟩ : ByteArray) t377 t378 t379 t380 t381 t384).bind fun t390 => (if t390 = true then (some (!bt388.2)) else (some false))) else (some false)) else (some false)) else (some false)) else (some false)) else (some false)))) = some r := H
 have A4 := am A40
 clear A40
 replace H := Option.bind_eq_some_iff.mp H
 obtain ⟨⟨t388, t389⟩, A50, H⟩ := H
 replace H : (if t370 = true then (some false) else (if t374 = true then (if (t373.size : Int) = 21 then (if t376 = true then (if t386 = true then (if t385 = 2 then ((federationref7_Same.f k 1 300 3 false ([] : List (S40)) (⟨#[]⟩ : ByteArray) t377 t378 t379 t380 t381 t384).bind fun t390 => (if t390 = true then (some (!t389)) else (some false))) else (some false)) else (some false)) else (some false)) else (some false)) else (some false))) = some r := H
 have A5 := am A50
 clear A50
 have KV := am (Go.Proofs.Ytagjmphkfeiiiaa.Yi.known_vals k _ _ _ _ _ _ _ _ _ _ _ _ _ _ _ _ _ _ _ _ A1.out A2.out A3.out A4.out)
 by_cases c6 : t370 = true
 ·exact absurd (KV.out.1.symm.trans c6) (by decide)
 ·replace c6 := Bool.eq_false_iff.mpr c6
  subst c6
  have H1 : (if t374 = true then (if (t373.size : Int) = 21 then (if t376 = true then (if t386 = true then (if t385 = 2 then ((federationref7_Same.f k 1 300 3 false ([] : List (S40)) (⟨#[]⟩ : ByteArray) t377 t378 t379 t380 t381 t384).bind fun t390 => (if t390 = true then (some (!t389)) else (some false))) else (some false)) else (some false)) else (some false)) else (some false)) else (some false)) = some r := by rw [if_neg (show ¬ (false = true) by decide)] at H; exact H
  clear H
  have H := H1
  clear H1
  by_cases c23 : t374 = true
  ·subst c23
   have H1 : (if (t373.size : Int) = 21 then (if t376 = true then (if t386 = true then (if t385 = 2 then ((federationref7_Same.f k 1 300 3 false ([] : List (S40)) (⟨#[]⟩ : ByteArray) t377 t378 t379 t380 t381 t384).bind fun t390 => (if t390 = true then (some (!t389)) else (some false))) else (some false)) else (some false)) else (some false)) else (some false)) = some r := by rw [if_pos rfl] at H; exact H
   clear H
   have H := H1
   clear H1
   by_cases c24 : (t373.size : Int) = 21
   ·rw [if_pos c24] at H
    have c24b0 : ((t373.size : Int) == 21) = true := beq_iff_eq.mpr c24
    have c24b1 : ((t373.size : Int) != 21) = false := bne_eq_false_iff_eq.mpr c24
    clear c24
    by_cases c25 : t376 = true
    ·subst c25
     have H1 : (if t386 = true then (if t385 = 2 then ((federationref7_Same.f k 1 300 3 false ([] : List (S40)) (⟨#[]⟩ : ByteArray) t377 t378 t379 t380 t381 t384).bind fun t390 => (if t390 = true then (some (!t389)) else (some false))) else (some false)) else (some false)) = some r := by rw [if_pos rfl] at H; exact H
     clear H
     have H := H1
     clear H1
     by_cases c26 : t386 = true
     ·subst c26
      have H1 : (if t385 = 2 then ((federationref7_Same.f k 1 300 3 false ([] : List (S40)) (⟨#[]⟩ : ByteArray) t377 t378 t379 t380 t381 t384).bind fun t390 => (if t390 = true then (some (!t389)) else (some false))) else (some false)) = some r := by rw [if_pos rfl] at H; exact H
      clear H
      have H := H1
      clear H1
      by_cases c27 : t385 = 2
      ·rw [if_pos c27] at H
       have c27b0 : (t385 == 2) = true := beq_iff_eq.mpr c27
       have c27b1 : (t385 != 2) = false := bne_eq_false_iff_eq.mpr c27
       clear c27
       replace H := Option.bind_eq_some_iff.mp H
       obtain ⟨t390, A280, H⟩ := H
       replace H : (if t390 = true then (some (!t389)) else (some false)) = some r := H
       have A28 := am A280
       clear A280
       have KS := am (Go.Proofs.Ytagjmphkfeiiiaa.Yi.known_same k _ _ _ _ _ _ _ _ _ _ _ _ _ _ _ _ _ _ _ _ _ A1.out A2.out A3.out A4.out A28.out)
       by_cases c29 : t390 = true
       ·subst c29
        have H1 : (some (!t389)) = some r := by rw [if_pos rfl] at H; exact H
        clear H
        have H := H1
        clear H1
        obtain rfl := Option.some.inj H
        go_enter Try.func13, Try.ntmps13
        go_wp2_with (first | ((with_reducible refine gate_callee (f := 18) rfl ?_); refine goesL_ (some 15) rfl rfl Try.func18 (by kernel_rfl) rfl #[.string (⟨#[]⟩ : ByteArray)] rfl ar ?_; (with_reducible refine (cmd_Decode.calls k (⟨#[]⟩ : ByteArray) t361 t362 t363 t364 t365 t368 t369 false _ A1.out).mono ?_); rintro e w30 ⟨v366, rfl, ho0, hb⟩; refine ⟨_, rfl, ?_⟩; have n_ := z2 (Kd.R_lower ho0 (below_size bel)) (below_step bel hb); clear HB; obtain ⟨HO367, HB⟩ := n_; (try clear hb); (try clear hb2); (try clear hk); (try clear hi); (try clear ho0)) | ((with_reducible refine gate_dst (N := 1) rfl ?_); (try (refine gate_guard (by rfl) ?_; dsimp only)); refine bx 1 26 (cs := #[.int .i64 0, .int .i64 0, .int .i64 0, .bool false, .slice none 0 0, .string (⟨#[]⟩ : ByteArray)]) ?_; intro gb371 hg w31 hbox hb; have n_ := z5 (Kd.R_below (kr HO367.out) hb) (below_step bel hb) (hbox) ((by rw [hg]; exact (below_size bel) : w.heap.size ≤ gb371)) ((by rw [hg]; exact (below_size bel) : w.heap.size ≤ gb371)); clear HO367 HB; obtain ⟨HO367, HB, BK371, GW371, GE371⟩ := n_; clear hb hbox hg; obtain ⟨hcz32_0, hcz32_1, hcz32_2, hcz32_3, hcz32_4, hcz32_5⟩ := cells6 BK371.out; obtain ⟨hfz32_0, hfz32_1, hfz32_2, hfz32_3, hfz32_4, hfz32_5⟩ := froz6 BK371.out; obtain ⟨Ao33, co33, eo33⟩ := Kd.R_slice HO367.out; subst eo33) | ((with_reducible refine gate_dst (N := 4) rfl ?_); (try (refine gate_guard (by rfl) ?_; dsimp only)); refine bx 4 26 (cs := #[.int .i64 0, .int .i64 0, .int .i64 0, .bool false, .slice none 0 0, .string (⟨#[]⟩ : ByteArray)]) ?_; intro gb372 hg w34 hbox hb; have n_ := z8 (Kd.R_below (by (with_reducible repeat (first | apply Kd.R_alloc | apply Kd.R_drewN | apply Kd.R_drew)); exact (Kd.R_mono (Kd.R_far (p := ⟨gb371, 5, none⟩) (Kd.R_far (p := ⟨gb371, 4, none⟩) (Kd.R_far (p := ⟨gb371, 3, none⟩) (Kd.R_far (p := ⟨gb371, 2, none⟩) (Kd.R_far (p := ⟨gb371, 1, none⟩) (Kd.R_far (p := ⟨gb371, 0, none⟩) (Kd.R_types HO367.out BK371.out (by decide)) (fun _ hk => hk.2) (.int .i64 t361)) (fun _ hk => hk.2) (.int .i64 t362)) (fun _ hk => hk.2) (.int .i64 t363)) (fun _ hk => hk.2) (.bool t364)) (fun _ hk => hk.2) (.slice Ao33 t365.length co33)) (fun _ hk => hk.2) (.string t368)) (fun _ h_ => h_.1))) hb) (blk_below (g := gb371) (o := .cells #[.int .i64 t361, .int .i64 t362, .int .i64 t363, .bool t364, .slice Ao33 t365.length co33, .string t368] 26 (0, 0)) (bp BK371.out) hb) (below_step bel hb) (hbox) ((by rw [hg]; exact (below_size bel) : w.heap.size ≤ gb372)) ((by rw [hg]; exact (below_size bel) : w.heap.size ≤ gb372)) ((by rw [hg]; exact Nat.ne_of_lt (blk_lt (g := gb371) (o := .cells #[.int .i64 t361, .int .i64 t362, .int .i64 t363, .bool t364, .slice Ao33 t365.length co33, .string t368] 26 (0, 0)) (bp BK371.out)) : gb371 ≠ gb372)) ((by rw [hg]; exact Nat.ne_of_gt (blk_lt (g := gb371) (o := .cells #[.int .i64 t361, .int .i64 t362, .int .i64 t363, .bool t364, .slice Ao33 t365.length co33, .string t368] 26 (0, 0)) (bp BK371.out)) : gb372 ≠ gb371)); clear HO367 BK371 HB; obtain ⟨HO367, BK371, HB, BK372, GW372, GE372, NB371_372, NB372_371⟩ := n_; clear hb hbox hg; have hnb35 := NB372_371.out; have hnc35 := NB371_372.out; obtain ⟨hcz36_0, hcz36_1, hcz36_2, hcz36_3, hcz36_4, hcz36_5⟩ := cells6 BK372.out; obtain ⟨hfz36_0, hfz36_1, hfz36_2, hfz36_3, hfz36_4, hfz36_5⟩ := froz6 BK372.out) | ((with_reducible refine gate_callee (f := 16) rfl ?_); refine goesL_ (some 22) rfl rfl Try.func16 (by kernel_rfl) rfl #[.agg #[.int .i64 1, .int .i64 300, .int .i64 3, .bool false, .slice none 0 0, .string (⟨#[]⟩ : ByteArray)], .int .i64 1] rfl ar ?_; (refine (cmd_Encode.calls k 1 300 3 false _ _ ([] : List (S40)) (⟨#[]⟩ : ByteArray) 1 t373 true _ ?side1 ?side2 A2.out).mono ?_); (case side1 => exact Kd.C_nil _ _); (case side2 => exact Nat.le_refl _); rintro e w37 ⟨rfl, hb⟩; refine ⟨_, rfl, ?_⟩; have n_ := z4 (Kd.R_below (by (with_reducible repeat (first | apply Kd.R_alloc | apply Kd.R_drewN | apply Kd.R_drew)); exact (Kd.R_mono (Kd.R_far (p := ⟨gb372, 5, none⟩) (Kd.R_far (p := ⟨gb372, 4, none⟩) (Kd.R_far (p := ⟨gb372, 3, none⟩) (Kd.R_far (p := ⟨gb372, 2, none⟩) (Kd.R_far (p := ⟨gb372, 1, none⟩) (Kd.R_far (p := ⟨gb372, 0, none⟩) (Kd.R_types HO367.out BK372.out (by decide)) (fun _ hk => hk.2) (.int .i64 1)) (fun _ hk => hk.2) (.int .i64 300)) (fun _ hk => hk.2) (.int .i64 3)) (fun _ hk => hk.2) (.bool false)) (fun _ hk => hk.2) (.slice none 0 0)) (fun _ hk => hk.2) (.string (⟨#[]⟩ : ByteArray))) (fun _ h_ => h_.1))) hb) (blk_below (bk BK371.out) hb) (blk_below (g := gb372) (o := .cells #[.int .i64 1, .int .i64 300, .int .i64 3, .bool false, .slice none 0 0, .string (⟨#[]⟩ : ByteArray)] 26 (0, 0)) (bp BK372.out) hb) (below_step bel hb); clear HO367 BK371 BK372 HB; obtain ⟨HO367, BK371, BK372, HB⟩ := n_; (try clear hb); (try clear hb2); (try clear hk); (try clear hi)) | ((with_reducible refine gate_callee (f := 21) rfl ?_); refine goesL_ (some 27) rfl rfl Try.func21 (by kernel_rfl) rfl #[.string t373] rfl ar ?_; (with_reducible refine (cmd_Up.calls k t373 t375 true _ A3.out).mono ?_); rintro e w38 ⟨rfl, hb⟩; refine ⟨_, rfl, ?_⟩; have n_ := z4 (Kd.R_below (kr HO367.out) hb) (blk_below (bk BK371.out) hb) (blk_below (bk BK372.out) hb) (below_step bel hb); clear HO367 BK371 BK372 HB; obtain ⟨HO367, BK371, BK372, HB⟩ := n_; (try clear hb); (try clear hb2); (try clear hk); (try clear hi)) | ((with_reducible refine gate_callee (f := 18) rfl ?_); refine goesL_ (some 32) rfl rfl Try.func18 (by kernel_rfl) rfl #[.string t375] rfl ar ?_; (with_reducible refine (cmd_Decode.calls k t375 t377 t378 t379 t380 t381 t384 t385 true _ A4.out).mono ?_); rintro e w39 ⟨v382, rfl, ho0, hb⟩; refine ⟨_, rfl, ?_⟩; have n_ := z5 (Kd.R_elder' (kr HO367.out) (Kd.R_base ho0) hb) (Kd.R_lower (Kd.R_new' ho0 (Kd.R_lt (kr HO367.out))) (below_size bel)) (blk_below (bk BK371.out) hb) (blk_below (bk BK372.out) hb) (below_step bel hb); clear HO367 BK371 BK372 HB; obtain ⟨HO367, HO383, BK371, BK372, HB⟩ := n_; (try clear hb); (try clear hb2); (try clear hk); (try clear hi); (try clear ho0)) | ((with_reducible refine gate_dst (N := 9) rfl ?_); (try (refine gate_guard (by rfl) ?_; dsimp only)); refine bx 9 26 (cs := #[.int .i64 0, .int .i64 0, .int .i64 0, .bool false, .slice none 0 0, .string (⟨#[]⟩ : ByteArray)]) ?_; intro gb387 hg w40 hbox hb; have n0_ := am (Kd.R_below (kr HO367.out) hb); have n1_ := am (Kd.R_below (kr HO383.out) hb); have n2_ := am (blk_below (bk BK371.out) hb); have n3_ := am (blk_below (bk BK372.out) hb); have n4_ := am (below_step bel hb); have n5_ := am (hbox); have n6_ := am ((by rw [hg]; exact (below_size bel) : w.heap.size ≤ gb387)); have n7_ := am ((by rw [hg]; exact (below_size bel) : w.heap.size ≤ gb387)); have n8_ := am ((by rw [hg]; exact Nat.ne_of_lt (blk_lt (bk BK371.out)) : gb371 ≠ gb387)); have n9_ := am ((by rw [hg]; exact Nat.ne_of_gt (blk_lt (bk BK371.out)) : gb387 ≠ gb371)); have n10_ := am ((by rw [hg]; exact Nat.ne_of_lt (blk_lt (bk BK372.out)) : gb372 ≠ gb387)); have n11_ := am ((by rw [hg]; exact Nat.ne_of_gt (blk_lt (bk BK372.out)) : gb387 ≠ gb372)); clear HO367 HO383 BK371 BK372 HB; have HO367 := n0_; have HO383 := n1_; have BK371 := n2_; have BK372 := n3_; have HB := n4_; have BK387 := n5_; have GW387 := n6_; have GE387 := n7_; have NB371_387 := n8_; have NB387_371 := n9_; have NB372_387 := n10_; have NB387_372 := n11_; clear n0_ n1_ n2_ n3_ n4_ n5_ n6_ n7_ n8_ n9_ n10_ n11_ hb hbox hg; have hnb41 := NB387_371.out; have hnc41 := NB371_387.out; have hnb42 := NB387_372.out; have hnc42 := NB372_387.out; obtain ⟨hcz43_0, hcz43_1, hcz43_2, hcz43_3, hcz43_4, hcz43_5⟩ := cells6 BK387.out; obtain ⟨hfz43_0, hfz43_1, hfz43_2, hfz43_3, hfz43_4, hfz43_5⟩ := froz6 BK387.out; obtain ⟨Ao44, co44, eo44⟩ := Kd.R_slice HO383.out; subst eo44) | ((with_reducible refine gate_callee (f := 16) rfl ?_); refine goesL_ (some 38) rfl rfl Try.func16 (by kernel_rfl) rfl #[.agg #[.int .i64 5, .int .i64 0, .int .i64 0, .bool false, .slice none 0 0, .string (⟨#[]⟩ : ByteArray)], .int .i64 1] rfl ar ?_; (refine (cmd_Encode.calls k 5 0 0 false _ _ ([] : List (S40)) (⟨#[]⟩ : ByteArray) 1 t388 t389 _ ?side1 ?side2 A5.out).mono ?_); (case side1 => exact Kd.C_nil _ _); (case side2 => exact Nat.le_refl _); rintro e w45 ⟨rfl, hb⟩; refine ⟨_, rfl, ?_⟩; have n_ := z6 (Kd.R_below (by (with_reducible repeat (first | apply Kd.R_alloc | apply Kd.R_drewN | apply Kd.R_drew)); exact (Kd.R_mono (Kd.R_far (p := ⟨gb387, 5, none⟩) (Kd.R_far (p := ⟨gb387, 4, none⟩) (Kd.R_far (p := ⟨gb387, 3, none⟩) (Kd.R_far (p := ⟨gb387, 2, none⟩) (Kd.R_far (p := ⟨gb387, 1, none⟩) (Kd.R_far (p := ⟨gb387, 0, none⟩) (Kd.R_types HO367.out BK387.out (by decide)) (fun _ hk => hk.2) (.int .i64 t377)) (fun _ hk => hk.2) (.int .i64 t378)) (fun _ hk => hk.2) (.int .i64 t379)) (fun _ hk => hk.2) (.bool t380)) (fun _ hk => hk.2) (.slice Ao44 t381.length co44)) (fun _ hk => hk.2) (.string t384)) (fun _ h_ => h_.1))) hb) (Kd.R_below (by (with_reducible repeat (first | apply Kd.R_alloc | apply Kd.R_drewN | apply Kd.R_drew)); exact (Kd.R_mono (Kd.R_far (p := ⟨gb387, 5, none⟩) (Kd.R_far (p := ⟨gb387, 4, none⟩) (Kd.R_far (p := ⟨gb387, 3, none⟩) (Kd.R_far (p := ⟨gb387, 2, none⟩) (Kd.R_far (p := ⟨gb387, 1, none⟩) (Kd.R_far (p := ⟨gb387, 0, none⟩) (Kd.R_types HO383.out BK387.out (by decide)) (fun _ hk => hk.2) (.int .i64 t377)) (fun _ hk => hk.2) (.int .i64 t378)) (fun _ hk => hk.2) (.int .i64 t379)) (fun _ hk => hk.2) (.bool t380)) (fun _ hk => hk.2) (.slice Ao44 t381.length co44)) (fun _ hk => hk.2) (.string t384)) (fun _ h_ => h_.1))) hb) (blk_below (bk BK371.out) hb) (blk_below (bk BK372.out) hb) (blk_below (g := gb387) (o := .cells #[.int .i64 t377, .int .i64 t378, .int .i64 t379, .bool t380, .slice Ao44 t381.length co44, .string t384] 26 (0, 0)) (bp BK387.out) hb) (below_step bel hb); clear HO367 HO383 BK371 BK372 BK387 HB; obtain ⟨HO367, HO383, BK371, BK372, BK387, HB⟩ := n_; (try clear hb); (try clear hb2); (try clear hk); (try clear hi); obtain ⟨hcz46_0, hcz46_1, hcz46_2, hcz46_3, hcz46_4, hcz46_5⟩ := cells6 BK372.out; obtain ⟨hfz46_0, hfz46_1, hfz46_2, hfz46_3, hfz46_4, hfz46_5⟩ := froz6 BK372.out; obtain ⟨hcz47_0, hcz47_1, hcz47_2, hcz47_3, hcz47_4, hcz47_5⟩ := cells6 BK387.out; obtain ⟨hfz47_0, hfz47_1, hfz47_2, hfz47_3, hfz47_4, hfz47_5⟩ := froz6 BK387.out) | (go_at_call 19; (refine (federationref7_Same.calls k 1 300 3 false _ _ ([] : List (S40)) (⟨#[]⟩ : ByteArray) t377 t378 t379 t380 _ _ t381 t384 true _ ?side1 ?side2 ?side3 ?side4 A28.out).mono ?_); (case side1 => exact Kd.C_nil _ _); (case side2 => exact Nat.le_refl _); (case side3 => repeat (first | exact (Kd.R_reads' HO383.out).2.2 | (with_reducible refine Kd.C_alloc ?_ _) | (with_reducible refine Kd.C_drewN ?_ _) | (with_reducible refine Kd.C_drew ?_))); (case side4 => exact (Kd.R_reads' HO383.out).2.1); rintro e w48 ⟨rfl, hb⟩; have n_ := z6 (Kd.R_below (kr HO367.out) hb) (Kd.R_below (kr HO383.out) hb) (blk_below (bk BK371.out) hb) (blk_below (bk BK372.out) hb) (blk_below (bk BK387.out) hb) (below_step bel hb); clear HO367 HO383 BK371 BK372 BK387 HB; obtain ⟨HO367, HO383, BK371, BK372, BK387, HB⟩ := n_; (try clear hb); (try clear hb2); (try clear hk); (try clear hi)))
        go_ret
        exact ⟨er, bel⟩
       ·exact absurd KS.out c29
      ·exact absurd KV.out.2.2.2.2.2 c27
     ·exact absurd KV.out.2.2.2.2.1 c26
    ·exact absurd KV.out.2.2.2.1 c25
   ·exact absurd KV.out.2.2.1 c24
  ·exact absurd KV.out.2.1 c23
end Go.Proofs.Ytagjmphkfeiiiaa.Q
