/- One function's walk, or a law's, by the text that a program of this session prints; what each theorem says stands in it. -/
import Derived.Test.YtagjmphkfeiiiaaQx0
import Derived.Test.YtagjmphkfeiiiaaQx25
import Derived.Test.YtagjmphkfeiiiaaQx27
import Derived.Test.YtagjmphkfeiiiaaXs
namespace Go.Proofs.Ytagjmphkfeiiiaa.Q
open Go.RowKit Go.Proofs.YtagjmphkfeiiiaaW.PrintWords Go.Proofs.YtagjmphkfeiiiaaW.PrintLast Go.Proofs.YtagjmphkfeiiiaaW.PrintMore
attribute [local go_sem] min2_int min_two
set_option linter.unusedVariables false
set_option linter.unusedSimpArgs false
mutual
def federationref7_reader_second.l0 : Nat → Int → Int → ByteArray → Bool → Int → Int → Int → Bool → List (S40) → ByteArray → Option (Int × Int × Int × Bool × (List (S40)) × ByteArray × ByteArray × Bool)
  | 0, _, _, _, _, _, _, _, _, _, _ => none
  | k + 1, x4, x5, x1000, x1001, x828000, x828001, x828002, x828003, x828004, x828005 => if x5 < x4 then (federationref7_reader_second.j1 k x4 x5 (!x1001) x1000 x1001 x828000 x828001 x828002 x828003 x828004 x828005) else (federationref7_reader_second.j1 k x4 x5 false x1000 x1001 x828000 x828001 x828002 x828003 x828004 x828005)
def federationref7_reader_second.j1 : Nat → Int → Int → Bool → ByteArray → Bool → Int → Int → Int → Bool → List (S40) → ByteArray → Option (Int × Int × Int × Bool × (List (S40)) × ByteArray × ByteArray × Bool)
  | 0, _, _, _, _, _, _, _, _, _, _, _ => none
  | k + 1, x4, x5, x31, x1000, x1001, x828000, x828001, x828002, x828003, x828004, x828005 => if x31 = true then ((federationref7_reader_fixed.f k x1000 x1001 1).bind fun bt846 => ((federationref7_reader_free.f k bt846.2.1 bt846.2.2).bind fun bt850 => ((federationref7_reader_text.f bt850.2.1 bt850.2.2 bt850.1).bind fun bt853 => (if bt846.1 = 1 then (if x828004.length < 3518437208883 then (federationref7_reader_second.l0 k x4 (wrap64 (x5 + 1)) bt853.2.1 bt853.2.2 x828000 x828001 x828002 x828003 (x828004 ++ [(⟨bt853.1, (⟨#[]⟩ : ByteArray), (bt846.1 == 1)⟩ : S40)]) x828005) else (none)) else ((federationref7_reader_free.f k bt853.2.1 bt853.2.2).bind fun bt859 => ((federationref7_reader_text.f bt859.2.1 bt859.2.2 bt859.1).bind fun bt862 => (if x828004.length < 3518437208883 then (federationref7_reader_second.l0 k x4 (wrap64 (x5 + 1)) bt862.2.1 bt862.2.2 x828000 x828001 x828002 x828003 (x828004 ++ [(⟨bt853.1, bt862.1, (bt846.1 == 1)⟩ : S40)]) x828005) else (none)))))))) else ((federationref7_reader_free.f k x1000 x1001).bind fun bt840 => ((federationref7_reader_text.f bt840.2.1 bt840.2.2 bt840.1).bind fun bt843 => (some (x828000, x828001, x828002, x828003, x828004, bt843.1, bt843.2.1, bt843.2.2))))
end
def federationref7_reader_second.f (k : Nat) (s0_0 : ByteArray) (s0_1 : Bool) : Option (Int × Int × Int × Bool × (List (S40)) × ByteArray × ByteArray × Bool) := (federationref7_reader_fixed.f k s0_0 s0_1 1).bind fun bt824 => ((federationref7_reader_free.f k bt824.2.1 bt824.2.2).bind fun bt828 => ((federationref7_reader_free.f k bt828.2.1 bt828.2.2).bind fun bt831 => ((federationref7_reader_fixed.f k bt831.2.1 bt831.2.2 1).bind fun bt834 => ((federationref7_reader_free.f k bt834.2.1 bt834.2.2).bind fun bt837 => (federationref7_reader_second.l0 k bt837.1 0 bt837.2.1 bt837.2.2 bt824.1 bt828.1 bt831.1 (bt834.1 == 1) ([] : List (S40)) (⟨#[]⟩ : ByteArray))))))
theorem federationref7_reader_second.mono_l : ∀ k, (∀ y0 y1 y2 y3 y4 y5 y6 y7 y8 y9, LeO (federationref7_reader_second.l0 k y0 y1 y2 y3 y4 y5 y6 y7 y8 y9) (federationref7_reader_second.l0 (k + 1) y0 y1 y2 y3 y4 y5 y6 y7 y8 y9)) ∧ (∀ y0 y1 y2 y3 y4 y5 y6 y7 y8 y9 y10, LeO (federationref7_reader_second.j1 k y0 y1 y2 y3 y4 y5 y6 y7 y8 y9 y10) (federationref7_reader_second.j1 (k + 1) y0 y1 y2 y3 y4 y5 y6 y7 y8 y9 y10))
  | 0 => ⟨fun _ _ _ _ _ _ _ _ _ _ r h => by simp [federationref7_reader_second.l0] at h, fun _ _ _ _ _ _ _ _ _ _ _ r h => by simp [federationref7_reader_second.j1] at h⟩
  | k + 1 => by
    obtain ⟨ih0, ih1⟩ := federationref7_reader_second.mono_l k
    refine ⟨?_, ?_⟩
    · intro y0 y1 y2 y3 y4 y5 y6 y7 y8 y9
      unfold federationref7_reader_second.l0
      repeat' first
      | (with_reducible exact ih0 _ _ _ _ _ _ _ _ _ _)
      | (with_reducible exact ih1 _ _ _ _ _ _ _ _ _ _ _)
      | (with_reducible exact federationref7_reader_fixed.mono _ _ _ _)
      | (with_reducible exact federationref7_reader_free.mono _ _ _)
      | (with_reducible exact LeO.refl _)
      | (with_reducible exact LeO.none _)
      | (with_reducible refine LeO.ite ?_ ?_)
      | (with_reducible refine LeO.bind ?_ (fun _ => ?_))
    · intro y0 y1 y2 y3 y4 y5 y6 y7 y8 y9 y10
      unfold federationref7_reader_second.j1
      repeat' first
      | (with_reducible exact ih0 _ _ _ _ _ _ _ _ _ _)
      | (with_reducible exact ih1 _ _ _ _ _ _ _ _ _ _ _)
      | (with_reducible exact federationref7_reader_fixed.mono _ _ _ _)
      | (with_reducible exact federationref7_reader_free.mono _ _ _)
      | (with_reducible exact LeO.refl _)
      | (with_reducible exact LeO.none _)
      | (with_reducible refine LeO.ite ?_ ?_)
      | (with_reducible refine LeO.bind ?_ (fun _ => ?_))
theorem federationref7_reader_second.mono : ∀ a0 a1 k, LeO (federationref7_reader_second.f k a0 a1) (federationref7_reader_second.f (k + 1) a0 a1) := by
  intro a0 a1 k
  obtain ⟨ih0, ih1⟩ := federationref7_reader_second.mono_l k
  unfold federationref7_reader_second.f
  repeat' first
      | (with_reducible exact ih0 _ _ _ _ _ _ _ _ _ _)
      | (with_reducible exact ih1 _ _ _ _ _ _ _ _ _ _ _)
      | (with_reducible exact federationref7_reader_fixed.mono _ _ _ _)
      | (with_reducible exact federationref7_reader_free.mono _ _ _)
      | (with_reducible exact LeO.refl _)
      | (with_reducible exact LeO.none _)
      | (with_reducible refine LeO.ite ?_ ?_)
      | (with_reducible refine LeO.bind ?_ (fun _ => ?_))
set_option maxHeartbeats 8000000 in
set_option maxRecDepth 100000 in
theorem federationref7_reader_second.calls (k : Nat) (g : Nat) (s0_0 : ByteArray) (s0_1 : Bool) (r1 : Int) (r2 : Int) (r3 : Int) (r4 : Bool) (r5 : List (S40)) (r6 : ByteArray) (r7 : ByteArray) (r8 : Bool) (w0 w : World) (hI : IsS65 w0 w g s0_0 s0_1) (hB : Below w0.heap.size w0 w) (h : federationref7_reader_second.f k s0_0 s0_1 = some (r1, r2, r3, r4, r5, r6, r7, r8)) :
  Calls Try.prog 34 #[.pointer (some ⟨g, 0, none⟩)] w fun e w' => ∃ v4_ : Value, e = .returned (.agg #[.int .i64 r1, .int .i64 r2, .int .i64 r3, .bool r4, v4_, .string r6]) ∧ Kd.R k40 40 w' w.heap.size (fun _ => True) v4_ r5 ∧ IsS65 w0 w' g r7 r8 ∧ Below w0.heap.size w0 w' ∧ KeepBut w w' g none := by
 have hu26 := Try.underlying26
 have hu40 := Try.underlying40
 have HI0 := am hI
 have HK := am (KeepBut.refl w g none)
 have HL := am hB.size
 clear hI
 have HW0 := am hB.size
 have HB := am hB
 clear hB
 have H : ((federationref7_reader_fixed.f k s0_0 s0_1 1).bind fun bt824 => ((federationref7_reader_free.f k bt824.2.1 bt824.2.2).bind fun bt828 => ((federationref7_reader_free.f k bt828.2.1 bt828.2.2).bind fun bt831 => ((federationref7_reader_fixed.f k bt831.2.1 bt831.2.2 1).bind fun bt834 => ((federationref7_reader_free.f k bt834.2.1 bt834.2.2).bind fun bt837 => (federationref7_reader_second.l0 k bt837.1 0 bt837.2.1 bt837.2.2 bt824.1 bt828.1 bt831.1 (bt834.1 == 1) ([] : List (S40)) (⟨#[]⟩ : ByteArray))))))) = some (r1, r2, r3, r4, r5, r6, r7, r8) := h
 clear h
 replace H := Option.bind_eq_some_iff.mp H
 obtain ⟨⟨t824, t825, t826⟩, A20, H⟩ := H
 replace H : ((federationref7_reader_free.f k t825 t826).bind fun bt828 => ((federationref7_reader_free.f k bt828.2.1 bt828.2.2).bind fun bt831 => ((federationref7_reader_fixed.f k bt831.2.1 bt831.2.2 1).bind fun bt834 => ((federationref7_reader_free.f k bt834.2.1 bt834.2.2).bind fun bt837 => (federationref7_reader_second.l0 k bt837.1 0 bt837.2.1 bt837.2.2 t824 bt828.1 bt831.1 (bt834.1 == 1) ([] : List (S40)) (⟨#[]⟩ : ByteArray)))))) = some (r1, r2, r3, r4, r5, r6, r7, r8) := H
 have A2 := am A20
 clear A20
 replace H := Option.bind_eq_some_iff.mp H
 obtain ⟨⟨t828, t829, t830⟩, A30, H⟩ := H
 replace H : ((federationref7_reader_free.f k t829 t830).bind fun bt831 => ((federationref7_reader_fixed.f k bt831.2.1 bt831.2.2 1).bind fun bt834 => ((federationref7_reader_free.f k bt834.2.1 bt834.2.2).bind fun bt837 => (federationref7_reader_second.l0 k bt837.1 0 bt837.2.1 bt837.2.2 t824 t828 bt831.1 (bt834.1 == 1) ([] : List (S40)) (⟨#[]⟩ : ByteArray))))) = some (r1, r2, r3, r4, r5, r6, r7, r8) := H
 have A3 := am A30
 clear A30
 replace H := Option.bind_eq_some_iff.mp H
 obtain ⟨⟨t831, t832, t833⟩, A40, H⟩ := H
 replace H : ((federationref7_reader_fixed.f k t832 t833 1).bind fun bt834 => ((federationref7_reader_free.f k bt834.2.1 bt834.2.2).bind fun bt837 => (federationref7_reader_second.l0 k bt837.1 0 bt837.2.1 bt837.2.2 t824 t828 t831 (bt834.1 == 1) ([] : List (S40)) (⟨#[]⟩ : ByteArray)))) = some (r1, r2, r3, r4, r5, r6, r7, r8) := H
 have A4 := am A40
 clear A40
 replace H := Option.bind_eq_some_iff.mp H
 obtain ⟨⟨t834, t835, t836⟩, A50, H⟩ := H
 replace H : ((federationref7_reader_free.f k t835 t836).bind fun bt837 => (federationref7_reader_second.l0 k bt837.1 0 bt837.2.1 bt837.2.2 t824 t828 t831 (t834 == 1) ([] : List (S40)) (⟨#[]⟩ : ByteArray))) = some (r1, r2, r3, r4, r5, r6, r7, r8) := H
 have A5 := am A50
 clear A50
 replace H := Option.bind_eq_some_iff.mp H
 obtain ⟨⟨t837, t838, t839⟩, A60, H⟩ := H
 replace H : (federationref7_reader_second.l0 k t837 0 t838 t839 t824 t828 t831 (t834 == 1) ([] : List (S40)) (⟨#[]⟩ : ByteArray)) = some (r1, r2, r3, r4, r5, r6, r7, r8) := H
 have A6 := am A60
 clear A60
 have H' := am H
 clear H
 go_enter Try.func34, Try.ntmps34
 go_wp2_with (first | ((with_reducible refine gate_dst (N := 2) rfl ?_); refine bx 2 26 (cs := #[.int .i64 0, .int .i64 0, .int .i64 0, .bool false, .slice none 0 0, .string (⟨#[]⟩ : ByteArray)]) ?_; intro gb823 hg w7 hbox hb; have n_ := z8 (IsS65.below iy hb) (KeepBut.trans kp (KeepBut.of_below hb g none) (.inl rfl)) (below_step bel hb) (hbox) ((by rw [hg]; exact (keep_size (w := w) (g := g) (row := none) kp) : w.heap.size ≤ gb823)) ((Nat.le_trans HW0.out (by rw [hg]; exact (keep_size (w := w) (g := g) (row := none) kp) : w.heap.size ≤ gb823) : w0.heap.size ≤ gb823)) ((by rw [hg]; exact Nat.ne_of_lt (IsS65.lt (show IsS65 w0 _ g s0_0 s0_1 from iy)) : g ≠ gb823)) ((by rw [hg]; exact Nat.ne_of_gt (IsS65.lt (show IsS65 w0 _ g s0_0 s0_1 from iy)) : gb823 ≠ g)); clear HI0 HK HB; obtain ⟨HI0, HK, HB, BK823, GW823, GE823, NB0_823, NB823_0⟩ := n_; clear hb hbox hg) | ((with_reducible refine gate_callee (f := 55) rfl ?_); refine goesL_ (some 8) rfl rfl Try.func55 (by kernel_rfl) rfl #[.pointer (some ⟨g, 0, none⟩), .int .i64 1] rfl ar ?_; (with_reducible refine (federationref7_reader_fixed.calls k g s0_0 s0_1 1 t824 t825 t826 w0 _ ?side1 ?side2 A2.out).mono ?_); (case side1 => exact iy); (case side2 => exact bel); rintro e w8 ⟨rfl, hi, hb, hk⟩; refine ⟨_, rfl, ?_⟩; have n_ := z4 (KeepBut.blk hk (g' := gb823) (o := .cells #[.int .i64 0, .int .i64 0, .int .i64 0, .bool false, .slice none 0 0, .string (⟨#[]⟩ : ByteArray)] 26 (0, 0)) (bk BK823.out) NB823_0.out (by simp)) (KeepBut.trans kp hk (.inl rfl)) (hb) (hi); clear BK823 HK HB HI0; obtain ⟨BK823, HK, HB, HI0⟩ := n_; (try clear hb); (try clear hb2); (try clear hk); (try clear hi)) | ((with_reducible refine gate_dst (N := 3) rfl ?_); refine bx 3 26 (cs := #[.int .i64 0, .int .i64 0, .int .i64 0, .bool false, .slice none 0 0, .string (⟨#[]⟩ : ByteArray)]) ?_; intro gb827 hg w9 hbox hb; have n_ := z11 (IsS65.below iy hb) (blk_below (bk BK823.out) hb) (KeepBut.trans kp (KeepBut.of_below hb g none) (.inl rfl)) (below_step bel hb) (hbox) ((by rw [hg]; exact (keep_size (w := w) (g := g) (row := none) kp) : w.heap.size ≤ gb827)) ((Nat.le_trans HW0.out (by rw [hg]; exact (keep_size (w := w) (g := g) (row := none) kp) : w.heap.size ≤ gb827) : w0.heap.size ≤ gb827)) ((by rw [hg]; exact Nat.ne_of_lt (blk_lt (bk BK823.out)) : gb823 ≠ gb827)) ((by rw [hg]; exact Nat.ne_of_gt (blk_lt (bk BK823.out)) : gb827 ≠ gb823)) ((by rw [hg]; exact Nat.ne_of_lt (IsS65.lt (show IsS65 w0 _ g t825 t826 from iy)) : g ≠ gb827)) ((by rw [hg]; exact Nat.ne_of_gt (IsS65.lt (show IsS65 w0 _ g t825 t826 from iy)) : gb827 ≠ g)); clear HI0 BK823 HK HB; obtain ⟨HI0, BK823, HK, HB, BK827, GW827, GE827, NB823_827, NB827_823, NB0_827, NB827_0⟩ := n_; clear hb hbox hg; have hnb10 := NB827_823.out; have hnc10 := NB823_827.out; have hnb11 := NB827_0.out; have hnc11 := NB0_827.out; obtain ⟨hcz12_0, hcz12_1, hcz12_2, hcz12_3, hcz12_4, hcz12_5⟩ := cells6 BK827.out; obtain ⟨hfz12_0, hfz12_1, hfz12_2, hfz12_3, hfz12_4, hfz12_5⟩ := froz6 BK827.out) | ((with_reducible refine gate_callee (f := 57) rfl ?_); refine goesL_ (some 11) rfl rfl Try.func57 (by kernel_rfl) rfl #[.pointer (some ⟨g, 0, none⟩)] rfl ar ?_; (with_reducible refine (federationref7_reader_free.calls k g t825 t826 t828 t829 t830 w0 _ ?side1 ?side2 A3.out).mono ?_); (case side1 => exact iy); (case side2 => exact bel); rintro e w13 ⟨rfl, hi, hb, hk⟩; refine ⟨_, rfl, ?_⟩; have n_ := z5 (KeepBut.blk hk (g' := gb823) (o := .cells #[.int .i64 0, .int .i64 0, .int .i64 0, .bool false, .slice none 0 0, .string (⟨#[]⟩ : ByteArray)] 26 (0, 0)) (bk BK823.out) NB823_0.out (by simp)) (KeepBut.blk hk (g' := gb827) (o := .cells #[.int .i64 t824, .int .i64 0, .int .i64 0, .bool false, .slice none 0 0, .string (⟨#[]⟩ : ByteArray)] 26 (0, 0)) (bp BK827.out) NB827_0.out (by simp)) (KeepBut.trans kp hk (.inl rfl)) (hb) (hi); clear BK823 BK827 HK HB HI0; obtain ⟨BK823, BK827, HK, HB, HI0⟩ := n_; (try clear hb); (try clear hb2); (try clear hk); (try clear hi); obtain ⟨hcz14_0, hcz14_1, hcz14_2, hcz14_3, hcz14_4, hcz14_5⟩ := cells6 BK827.out; obtain ⟨hfz14_0, hfz14_1, hfz14_2, hfz14_3, hfz14_4, hfz14_5⟩ := froz6 BK827.out) | ((with_reducible refine gate_callee (f := 57) rfl ?_); refine goesL_ (some 14) rfl rfl Try.func57 (by kernel_rfl) rfl #[.pointer (some ⟨g, 0, none⟩)] rfl ar ?_; (with_reducible refine (federationref7_reader_free.calls k g t829 t830 t831 t832 t833 w0 _ ?side1 ?side2 A4.out).mono ?_); (case side1 => exact iy); (case side2 => exact bel); rintro e w15 ⟨rfl, hi, hb, hk⟩; refine ⟨_, rfl, ?_⟩; have n_ := z5 (KeepBut.blk hk (g' := gb823) (o := .cells #[.int .i64 0, .int .i64 0, .int .i64 0, .bool false, .slice none 0 0, .string (⟨#[]⟩ : ByteArray)] 26 (0, 0)) (bk BK823.out) NB823_0.out (by simp)) (KeepBut.blk hk (g' := gb827) (o := .cells #[.int .i64 t824, .int .i64 t828, .int .i64 0, .bool false, .slice none 0 0, .string (⟨#[]⟩ : ByteArray)] 26 (0, 0)) (bp BK827.out) NB827_0.out (by simp)) (KeepBut.trans kp hk (.inl rfl)) (hb) (hi); clear BK823 BK827 HK HB HI0; obtain ⟨BK823, BK827, HK, HB, HI0⟩ := n_; (try clear hb); (try clear hb2); (try clear hk); (try clear hi); obtain ⟨hcz16_0, hcz16_1, hcz16_2, hcz16_3, hcz16_4, hcz16_5⟩ := cells6 BK827.out; obtain ⟨hfz16_0, hfz16_1, hfz16_2, hfz16_3, hfz16_4, hfz16_5⟩ := froz6 BK827.out) | ((with_reducible refine gate_callee (f := 55) rfl ?_); refine goesL_ (some 17) rfl rfl Try.func55 (by kernel_rfl) rfl #[.pointer (some ⟨g, 0, none⟩), .int .i64 1] rfl ar ?_; (with_reducible refine (federationref7_reader_fixed.calls k g t832 t833 1 t834 t835 t836 w0 _ ?side1 ?side2 A5.out).mono ?_); (case side1 => exact iy); (case side2 => exact bel); rintro e w17 ⟨rfl, hi, hb, hk⟩; refine ⟨_, rfl, ?_⟩; have n_ := z5 (KeepBut.blk hk (g' := gb823) (o := .cells #[.int .i64 0, .int .i64 0, .int .i64 0, .bool false, .slice none 0 0, .string (⟨#[]⟩ : ByteArray)] 26 (0, 0)) (bk BK823.out) NB823_0.out (by simp)) (KeepBut.blk hk (g' := gb827) (o := .cells #[.int .i64 t824, .int .i64 t828, .int .i64 t831, .bool false, .slice none 0 0, .string (⟨#[]⟩ : ByteArray)] 26 (0, 0)) (bp BK827.out) NB827_0.out (by simp)) (KeepBut.trans kp hk (.inl rfl)) (hb) (hi); clear BK823 BK827 HK HB HI0; obtain ⟨BK823, BK827, HK, HB, HI0⟩ := n_; (try clear hb); (try clear hb2); (try clear hk); (try clear hi); obtain ⟨hcz18_0, hcz18_1, hcz18_2, hcz18_3, hcz18_4, hcz18_5⟩ := cells6 BK827.out; obtain ⟨hfz18_0, hfz18_1, hfz18_2, hfz18_3, hfz18_4, hfz18_5⟩ := froz6 BK827.out) | ((with_reducible refine gate_callee (f := 57) rfl ?_); refine goesL_ (some 21) rfl rfl Try.func57 (by kernel_rfl) rfl #[.pointer (some ⟨g, 0, none⟩)] rfl ar ?_; (with_reducible refine (federationref7_reader_free.calls k g t835 t836 t837 t838 t839 w0 _ ?side1 ?side2 A6.out).mono ?_); (case side1 => exact iy); (case side2 => exact bel); rintro e w19 ⟨rfl, hi, hb, hk⟩; refine ⟨_, rfl, ?_⟩; have n_ := z5 (KeepBut.blk hk (g' := gb823) (o := .cells #[.int .i64 0, .int .i64 0, .int .i64 0, .bool false, .slice none 0 0, .string (⟨#[]⟩ : ByteArray)] 26 (0, 0)) (bk BK823.out) NB823_0.out (by simp)) (KeepBut.blk hk (g' := gb827) (o := .cells #[.int .i64 t824, .int .i64 t828, .int .i64 t831, .bool (t834 == 1), .slice none 0 0, .string (⟨#[]⟩ : ByteArray)] 26 (0, 0)) (bp BK827.out) NB827_0.out (by simp)) (KeepBut.trans kp hk (.inl rfl)) (hb) (hi); clear BK823 BK827 HK HB HI0; obtain ⟨BK823, BK827, HK, HB, HI0⟩ := n_; (try clear hb); (try clear hb2); (try clear hk); (try clear hi)))
 go_loopg [5] k (fun kq v5 w' => ∃ (x5_1 : Int) (x1000_1 : ByteArray) (x1001_1 : Bool) (x828004_1 : List (S40)) (u828004 : Value), v5 = .int .i64 x5_1 ∧ Aside0 (federationref7_reader_second.l0 kq t837 x5_1 x1000_1 x1001_1 t824 t828 t831 (t834 == 1) x828004_1 (⟨#[]⟩ : ByteArray) = some (r1, r2, r3, r4, r5, r6, r7, r8)) ∧ Aside0 (kq ≤ k) ∧ Aside0 (Kd.R k40 40 w' w.heap.size (fun _ => True) u828004 x828004_1) ∧ Aside0 (w'.heap[gb823]? = some (.cells #[.int .i64 0, .int .i64 0, .int .i64 0, .bool false, (.slice none 0 0), .string (⟨#[]⟩ : ByteArray)] 26 (0, 0))) ∧ Aside0 (w'.heap[gb827]? = some (.cells #[.int .i64 t824, .int .i64 t828, .int .i64 t831, .bool (t834 == 1), u828004, .string (⟨#[]⟩ : ByteArray)] 26 (0, 0))) ∧ Aside0 (IsS65 w0 w' g x1000_1 x1001_1) ∧ Aside0 (KeepBut w w' g none) ∧ Aside0 (Below w0.heap.size w0 w'))
 case atStart => exact ⟨(0), (t838), (t839), (([] : List (S40))), (.slice none 0 0), (by first | rfl | (simp; done) | (simp [*]; done)), H', ⟨Nat.le_refl _⟩, ⟨by first | exact Kd.R_nil _ _ _ _ _ | exact Kd.N_nil _ _ _ _ _ | exact Kd.V_nil _ _ _ _ _ | exact Kd.Q_nil _ _ _ _ _ | exact Kd.S_nil _ _ _ _ _⟩, ⟨bk BK823.out⟩, ⟨bk BK827.out⟩, ⟨iy⟩, ⟨kp⟩, ⟨bel⟩⟩
 case round =>
  clear H'
  try clear c1
  try clear p2
  try clear c3
  try clear c5
  try clear c10
  try clear c11
  try clear hcz12_0 hcz12_1 hcz12_2 hcz12_3 hcz12_4 hcz12_5
  try clear hcz14_0 hcz14_1 hcz14_2 hcz14_3 hcz14_4 hcz14_5
  try clear hcz16_0 hcz16_1 hcz16_2 hcz16_3 hcz16_4 hcz16_5
  try clear hcz18_0 hcz18_1 hcz18_2 hcz18_3 hcz18_4 hcz18_5
  try clear hfz12_0 hfz12_1 hfz12_2 hfz12_3 hfz12_4 hfz12_5
  try clear hfz14_0 hfz14_1 hfz14_2 hfz14_3 hfz14_4 hfz14_5
  try clear hfz16_0 hfz16_1 hfz16_2 hfz16_3 hfz16_4 hfz16_5
  try clear hfz18_0 hfz18_1 hfz18_2 hfz18_3 hfz18_4 hfz18_5
  obtain ⟨x5_1, x1000_1, x1001_1, x828004_1, u828004, rfl, HA, HK1, HO_828004, BK823, BK827, HI0, HK, HB⟩ := hrel
  cases gk with
  | zero => exact absurd HA.out (by simp [federationref7_reader_second.l0])
  | succ k1 =>
   have H := HA.out
   clear HA
   simp only [federationref7_reader_second.l0] at H
   have HC20 := am H
   clear H
   go_upto_region 7 with (fail)
   go_cut [31] (fun v31 wc => ∃ (kq : Nat) (x31_19 : Bool), v31 = .bool x31_19 ∧ Aside0 (federationref7_reader_second.j1 kq t837 x5_1 x31_19 x1000_1 x1001_1 t824 t828 t831 (t834 == 1) x828004_1 (⟨#[]⟩ : ByteArray) = some (r1, r2, r3, r4, r5, r6, r7, r8)) ∧ Aside0 (kq ≤ k1) ∧ Aside0 (Kd.R k40 40 wc w.heap.size (fun _ => True) u828004 x828004_1) ∧ Aside0 (wc.heap[gb823]? = some (.cells #[.int .i64 0, .int .i64 0, .int .i64 0, .bool false, (.slice none 0 0), .string (⟨#[]⟩ : ByteArray)] 26 (0, 0))) ∧ Aside0 (wc.heap[gb827]? = some (.cells #[.int .i64 t824, .int .i64 t828, .int .i64 t831, .bool (t834 == 1), u828004, .string (⟨#[]⟩ : ByteArray)] 26 (0, 0))) ∧ Aside0 (IsS65 w0 wc g x1000_1 x1001_1) ∧ Aside0 (KeepBut w wc g none) ∧ Aside0 (Below w0.heap.size w0 wc))
   case first =>
    have H := HC20.out
    clear HC20
    by_cases c21 : x5_1 < t837
    ·rw [if_pos c21] at H
     have c21b0 : decide (x5_1 < t837) = true := decide_eq_true c21
     clear c21
     (first | rw [c21b0] | (simp only [i64_w, i32_w]; rw [c21b0]) | skip)
     have H' := am H
     clear H
     obtain ⟨HGz22, hgz22⟩ := HI0.out
     have hcz22_0 := cellS65_0 HGz22
     have hcz22_1 := cellS65_1 HGz22
     have hfz22_0 := blk_frozen HGz22 0
     have hfz22_1 := blk_frozen HGz22 1
     clear HGz22 hgz22
     go_wp2
     go_meet
     case rel => exact ⟨_, (!x1001_1), (by first | rfl | (simp; done) | (simp [*]; done)), H', ⟨by have := HK1.out; first | omega | exact Nat.le_refl _⟩, ⟨kr HO_828004.out⟩, ⟨bk BK823.out⟩, ⟨bk BK827.out⟩, ⟨iy⟩, ⟨kp⟩, ⟨bel⟩⟩
    ·rw [if_neg c21] at H
     have c21b0 : decide (x5_1 < t837) = false := decide_eq_false c21
     clear c21
     (first | rw [c21b0] | (simp only [i64_w, i32_w]; rw [c21b0]) | skip)
     have H' := am H
     clear H
     go_wp2
     go_meet
     case rel => exact ⟨_, (false), (by first | rfl | (simp; done) | (simp [*]; done)), H', ⟨by have := HK1.out; first | omega | exact Nat.le_refl _⟩, ⟨kr HO_828004.out⟩, ⟨bk BK823.out⟩, ⟨bk BK827.out⟩, ⟨iy⟩, ⟨kp⟩, ⟨bel⟩⟩
   case rest =>
    clear HC20
    try clear c1
    try clear c2
    try clear p2
    try clear c3
    try clear c5
    try clear c10
    try clear c11
    try clear c21
    try clear c21b0
    try clear hcz12_0 hcz12_1 hcz12_2 hcz12_3 hcz12_4 hcz12_5
    try clear hcz14_0 hcz14_1 hcz14_2 hcz14_3 hcz14_4 hcz14_5
    try clear hcz16_0 hcz16_1 hcz16_2 hcz16_3 hcz16_4 hcz16_5
    try clear hcz18_0 hcz18_1 hcz18_2 hcz18_3 hcz18_4 hcz18_5
    try clear hcz22_0 hcz22_1
    try clear hfz12_0 hfz12_1 hfz12_2 hfz12_3 hfz12_4 hfz12_5
    try clear hfz14_0 hfz14_1 hfz14_2 hfz14_3 hfz14_4 hfz14_5
    try clear hfz16_0 hfz16_1 hfz16_2 hfz16_3 hfz16_4 hfz16_5
    try clear hfz18_0 hfz18_1 hfz18_2 hfz18_3 hfz18_4 hfz18_5
    try clear hfz22_0 hfz22_1
    try clear p2
    obtain ⟨kq, x31_19, rfl, HA, HJ19, HO_828004, BK823, BK827, HI0, HK, HB⟩ := hcut
    cases kq with
    | zero => exact absurd HA.out (by simp [federationref7_reader_second.j1])
    | succ kj19 =>
     have H := HA.out
     clear HA
     simp only [federationref7_reader_second.j1] at H
     by_cases c23 : x31_19 = true
     ·subst c23
      have H1 : ((federationref7_reader_fixed.f kj19 x1000_1 x1001_1 1).bind fun bt846 => ((federationref7_reader_free.f kj19 bt846.2.1 bt846.2.2).bind fun bt850 => ((federationref7_reader_text.f bt850.2.1 bt850.2.2 bt850.1).bind fun bt853 => (if bt846.1 = 1 then (if x828004_1.length < 3518437208883 then (federationref7_reader_second.l0 kj19 t837 (wrap64 (x5_1 + 1)) bt853.2.1 bt853.2.2 t824 t828 t831 (t834 == 1) (x828004_1 ++ [(⟨bt853.1, (⟨#[]⟩ : ByteArray), (bt846.1 == 1)⟩ : S40)]) (⟨#[]⟩ : ByteArray)) else (none)) else ((federationref7_reader_free.f kj19 bt853.2.1 bt853.2.2).bind fun bt859 => ((federationref7_reader_text.f bt859.2.1 bt859.2.2 bt859.1).bind fun bt862 => (if x828004_1.length < 3518437208883 then (federationref7_reader_second.l0 kj19 t837 (wrap64 (x5_1 + 1)) bt862.2.1 bt862.2.2 t824 t828 t831 (t834 == 1) (x828004_1 ++ [(⟨bt853.1, bt862.1, (bt846.1 == 1)⟩ : S40)]) (⟨#[]⟩ : ByteArray)) else (none)))))))) = some (r1, r2, r3, r4, r5, r6, r7, r8) := by rw [if_pos rfl] at H; exact H
      clear H
      have H := H1
      clear H1
      replace H := Option.bind_eq_some_iff.mp H
      obtain ⟨⟨t846, t847, t848⟩, A240, H⟩ := H
      replace H : ((federationref7_reader_free.f kj19 t847 t848).bind fun bt850 => ((federationref7_reader_text.f bt850.2.1 bt850.2.2 bt850.1).bind fun bt853 => (if t846 = 1 then (if x828004_1.length < 3518437208883 then (federationref7_reader_second.l0 kj19 t837 (wrap64 (x5_1 + 1)) bt853.2.1 bt853.2.2 t824 t828 t831 (t834 == 1) (x828004_1 ++ [(⟨bt853.1, (⟨#[]⟩ : ByteArray), (t846 == 1)⟩ : S40)]) (⟨#[]⟩ : ByteArray)) else (none)) else ((federationref7_reader_free.f kj19 bt853.2.1 bt853.2.2).bind fun bt859 => ((federationref7_reader_text.f bt859.2.1 bt859.2.2 bt859.1).bind fun bt862 => (if x828004_1.length < 3518437208883 then (federationref7_reader_second.l0 kj19 t837 (wrap64 (x5_1 + 1)) bt862.2.1 bt862.2.2 t824 t828 t831 (t834 == 1) (x828004_1 ++ [(⟨bt853.1, bt862.1, (t846 == 1)⟩ : S40)]) (⟨#[]⟩ : ByteArray)) else (none))))))) = some (r1, r2, r3, r4, r5, r6, r7, r8) := H
      have A24 := am A240
      clear A240
      replace H := Option.bind_eq_some_iff.mp H
      obtain ⟨⟨t850, t851, t852⟩, A250, H⟩ := H
      replace H : ((federationref7_reader_text.f t851 t852 t850).bind fun bt853 => (if t846 = 1 then (if x828004_1.length < 3518437208883 then (federationref7_reader_second.l0 kj19 t837 (wrap64 (x5_1 + 1)) bt853.2.1 bt853.2.2 t824 t828 t831 (t834 == 1) (x828004_1 ++ [(⟨bt853.1, (⟨#[]⟩ : ByteArray), (t846 == 1)⟩ : S40)]) (⟨#[]⟩ : ByteArray)) else (none)) else ((federationref7_reader_free.f kj19 bt853.2.1 bt853.2.2).bind fun bt859 => ((federationref7_reader_text.f bt859.2.1 bt859.2.2 bt859.1).bind fun bt862 => (if x828004_1.length < 3518437208883 then (federationref7_reader_second.l0 kj19 t837 (wrap64 (x5_1 + 1)) bt862.2.1 bt862.2.2 t824 t828 t831 (t834 == 1) (x828004_1 ++ [(⟨bt853.1, bt862.1, (t846 == 1)⟩ : S40)]) (⟨#[]⟩ : ByteArray)) else (none)))))) = some (r1, r2, r3, r4, r5, r6, r7, r8) := H
      have A25 := am A250
      clear A250
      replace H := Option.bind_eq_some_iff.mp H
      obtain ⟨⟨t853, t854, t855⟩, A260, H⟩ := H
      replace H : (if t846 = 1 then (if x828004_1.length < 3518437208883 then (federationref7_reader_second.l0 kj19 t837 (wrap64 (x5_1 + 1)) t854 t855 t824 t828 t831 (t834 == 1) (x828004_1 ++ [(⟨t853, (⟨#[]⟩ : ByteArray), (t846 == 1)⟩ : S40)]) (⟨#[]⟩ : ByteArray)) else (none)) else ((federationref7_reader_free.f kj19 t854 t855).bind fun bt859 => ((federationref7_reader_text.f bt859.2.1 bt859.2.2 bt859.1).bind fun bt862 => (if x828004_1.length < 3518437208883 then (federationref7_reader_second.l0 kj19 t837 (wrap64 (x5_1 + 1)) bt862.2.1 bt862.2.2 t824 t828 t831 (t834 == 1) (x828004_1 ++ [(⟨t853, bt862.1, (t846 == 1)⟩ : S40)]) (⟨#[]⟩ : ByteArray)) else (none))))) = some (r1, r2, r3, r4, r5, r6, r7, r8) := H
      have A26 := am A260
      clear A260
      by_cases c27 : t846 = 1
      ·rw [if_pos c27] at H
       have c27b0 : (t846 == 1) = true := beq_iff_eq.mpr c27
       have c27b1 : (t846 != 1) = false := bne_eq_false_iff_eq.mpr c27
       clear c27
       by_cases c28 : x828004_1.length < 3518437208883
       ·rw [if_pos c28] at H
        have LMc28 := am c28
        clear c28
        rw [c27b0] at H
        obtain ⟨y856, hy856⟩ : ∃ y_ : List (S40), y_ = (x828004_1 ++ [(⟨t853, (⟨#[]⟩ : ByteArray), true⟩ : S40)]) := ⟨_, rfl⟩
        replace H : (federationref7_reader_second.l0 kj19 t837 (wrap64 (x5_1 + 1)) t854 t855 t824 t828 t831 (t834 == 1) y856 (⟨#[]⟩ : ByteArray)) = some (r1, r2, r3, r4, r5, r6, r7, r8) := by first | (rw [hy856]; with_reducible exact H) | (have H2_ := (Option.bind_some _ _).symm.trans H; rw [hy856]; with_reducible exact H2_) | (have H2_ := (Option.bind_some _ _).symm.trans H; with_reducible exact H2_) | with_reducible exact H | (rw [hy856]; exact H) | exact H
        have Ny856 := am hy856
        clear hy856
        have H' := am H
        clear H
        go_wp2_with (first | ((with_reducible refine gate_callee (f := 55) rfl ?_); refine goesL_ (some 35) rfl rfl Try.func55 (by kernel_rfl) rfl #[.pointer (some ⟨g, 0, none⟩), .int .i64 1] rfl ar ?_; (with_reducible refine (federationref7_reader_fixed.calls kj19 g x1000_1 x1001_1 1 t846 t847 t848 w0 _ ?side1 ?side2 A24.out).mono ?_); (case side1 => exact iy); (case side2 => exact bel); rintro e w29 ⟨rfl, hi, hb, hk⟩; refine ⟨_, rfl, ?_⟩; have n_ := z6 (Kd.R_mono (Kd.R_keep (IsS65.apart (show IsS65 w0 _ g x1000_1 x1001_1 from iy) (kr HO_828004.out) (by decide)) hk (fun _ h => h.2)) (fun _ h => h.1)) (KeepBut.blk hk (g' := gb823) (o := .cells #[.int .i64 0, .int .i64 0, .int .i64 0, .bool false, .slice none 0 0, .string (⟨#[]⟩ : ByteArray)] 26 (0, 0)) (bk BK823.out) NB823_0.out (by simp)) (KeepBut.blk hk (g' := gb827) (o := .cells #[.int .i64 t824, .int .i64 t828, .int .i64 t831, .bool (t834 == 1), u828004, .string (⟨#[]⟩ : ByteArray)] 26 (0, 0)) (bk BK827.out) NB827_0.out (by simp)) (KeepBut.trans kp hk (.inl rfl)) (hb) (hi); clear HO_828004 BK823 BK827 HK HB HI0; obtain ⟨HO_828004, BK823, BK827, HK, HB, HI0⟩ := n_; (try clear hb); (try clear hb2); (try clear hk); (try clear hi)) | ((with_reducible refine gate_dst (N := 6) rfl ?_); refine bx 6 40 (cs := #[.string (⟨#[]⟩ : ByteArray), .string (⟨#[]⟩ : ByteArray), .bool false]) ?_; intro gb849 hg w30 hbox hb; have n0_ := am (Kd.R_below (Kd.R_elderB (kr HO_828004.out) gb849 (Nat.le_of_eq hg.symm)) hb); have n1_ := am (blk_below (bk BK823.out) hb); have n2_ := am (blk_below (bk BK827.out) hb); have n3_ := am (IsS65.below iy hb); have n4_ := am (KeepBut.trans kp (KeepBut.of_below hb g none) (.inl rfl)); have n5_ := am (below_step bel hb); have n6_ := am (hbox); have n7_ := am ((by rw [hg]; exact (keep_size (w := w) (g := g) (row := none) kp) : w.heap.size ≤ gb849)); have n8_ := am ((Nat.le_trans HW0.out (by rw [hg]; exact (keep_size (w := w) (g := g) (row := none) kp) : w.heap.size ≤ gb849) : w0.heap.size ≤ gb849)); have n9_ := am ((by rw [hg]; exact Nat.ne_of_lt (blk_lt (bk BK823.out)) : gb823 ≠ gb849)); have n10_ := am ((by rw [hg]; exact Nat.ne_of_gt (blk_lt (bk BK823.out)) : gb849 ≠ gb823)); have n11_ := am ((by rw [hg]; exact Nat.ne_of_lt (blk_lt (bk BK827.out)) : gb827 ≠ gb849)); have n12_ := am ((by rw [hg]; exact Nat.ne_of_gt (blk_lt (bk BK827.out)) : gb849 ≠ gb827)); have n13_ := am ((by rw [hg]; exact Nat.ne_of_lt (IsS65.lt (show IsS65 w0 _ g t847 t848 from iy)) : g ≠ gb849)); have n14_ := am ((by rw [hg]; exact Nat.ne_of_gt (IsS65.lt (show IsS65 w0 _ g t847 t848 from iy)) : gb849 ≠ g)); clear HO_828004 BK823 BK827 HI0 HK HB; have HO_828004 := n0_; have BK823 := n1_; have BK827 := n2_; have HI0 := n3_; have HK := n4_; have HB := n5_; have BK849 := n6_; have GW849 := n7_; have GE849 := n8_; have NB823_849 := n9_; have NB849_823 := n10_; have NB827_849 := n11_; have NB849_827 := n12_; have NB0_849 := n13_; have NB849_0 := n14_; clear n0_ n1_ n2_ n3_ n4_ n5_ n6_ n7_ n8_ n9_ n10_ n11_ n12_ n13_ n14_ hb hbox hg; have hnb31 := NB849_823.out; have hnc31 := NB823_849.out; have hnb32 := NB849_827.out; have hnc32 := NB827_849.out; have hnb33 := NB849_0.out; have hnc33 := NB0_849.out; obtain ⟨hcz34_0, hcz34_1, hcz34_2⟩ := cells3 BK849.out; obtain ⟨hfz34_0, hfz34_1, hfz34_2⟩ := froz3 BK849.out) | ((with_reducible refine gate_callee (f := 57) rfl ?_); refine goesL_ (some 40) rfl rfl Try.func57 (by kernel_rfl) rfl #[.pointer (some ⟨g, 0, none⟩)] rfl ar ?_; (with_reducible refine (federationref7_reader_free.calls kj19 g t847 t848 t850 t851 t852 w0 _ ?side1 ?side2 A25.out).mono ?_); (case side1 => exact iy); (case side2 => exact bel); rintro e w35 ⟨rfl, hi, hb, hk⟩; refine ⟨_, rfl, ?_⟩; have n_ := z7 (Kd.R_mono (Kd.R_keep (IsS65.apart (show IsS65 w0 _ g t847 t848 from iy) (by (with_reducible repeat (first | apply Kd.R_alloc | apply Kd.R_drewN | apply Kd.R_drew)); exact (Kd.R_mono (Kd.R_far (p := ⟨gb849, 2, none⟩) (Kd.R_far (p := ⟨gb849, 1, none⟩) (Kd.R_far (p := ⟨gb849, 0, none⟩) (Kd.R_mono HO_828004.out (fun k_ hk => (⟨hk, hk.2⟩ : _ ∧ k_ ≠ gb849))) (fun _ hk => hk.2) (.string (⟨#[]⟩ : ByteArray))) (fun _ hk => hk.2) (.string (⟨#[]⟩ : ByteArray))) (fun _ hk => hk.2) (.bool true)) (fun _ h_ => h_.1))) (by decide)) hk (fun _ h => h.2)) (fun _ h => h.1)) (KeepBut.blk hk (g' := gb823) (o := .cells #[.int .i64 0, .int .i64 0, .int .i64 0, .bool false, .slice none 0 0, .string (⟨#[]⟩ : ByteArray)] 26 (0, 0)) (bk BK823.out) NB823_0.out (by simp)) (KeepBut.blk hk (g' := gb827) (o := .cells #[.int .i64 t824, .int .i64 t828, .int .i64 t831, .bool (t834 == 1), u828004, .string (⟨#[]⟩ : ByteArray)] 26 (0, 0)) (bk BK827.out) NB827_0.out (by simp)) (KeepBut.blk hk (g' := gb849) (o := .cells #[.string (⟨#[]⟩ : ByteArray), .string (⟨#[]⟩ : ByteArray), .bool true] 40 (0, 0)) (bp BK849.out) NB849_0.out (by simp)) (KeepBut.trans kp hk (.inl rfl)) (hb) (hi); clear HO_828004 BK823 BK827 BK849 HK HB HI0; obtain ⟨HO_828004, BK823, BK827, BK849, HK, HB, HI0⟩ := n_; (try clear hb); (try clear hb2); (try clear hk); (try clear hi)) | ((with_reducible refine gate_callee (f := 56) rfl ?_); refine goesL_ (some 41) rfl rfl Try.func56 (by kernel_rfl) rfl #[.pointer (some ⟨g, 0, none⟩), .int .i64 t850] rfl ar ?_; (with_reducible refine (federationref7_reader_text.calls g t851 t852 t850 t853 t854 t855 w0 _ ?side1 ?side2 A26.out).mono ?_); (case side1 => exact iy); (case side2 => exact bel); rintro e w36 ⟨rfl, hi, hb, hk⟩; refine ⟨_, rfl, ?_⟩; have n_ := z7 (Kd.R_mono (Kd.R_keep (IsS65.apart (show IsS65 w0 _ g t851 t852 from iy) (kr HO_828004.out) (by decide)) hk (fun _ h => h.2)) (fun _ h => h.1)) (KeepBut.blk hk (g' := gb823) (o := .cells #[.int .i64 0, .int .i64 0, .int .i64 0, .bool false, .slice none 0 0, .string (⟨#[]⟩ : ByteArray)] 26 (0, 0)) (bk BK823.out) NB823_0.out (by simp)) (KeepBut.blk hk (g' := gb827) (o := .cells #[.int .i64 t824, .int .i64 t828, .int .i64 t831, .bool (t834 == 1), u828004, .string (⟨#[]⟩ : ByteArray)] 26 (0, 0)) (bk BK827.out) NB827_0.out (by simp)) (KeepBut.blk hk (g' := gb849) (o := .cells #[.string (⟨#[]⟩ : ByteArray), .string (⟨#[]⟩ : ByteArray), .bool true] 40 (0, 0)) (bk BK849.out) NB849_0.out (by simp)) (KeepBut.trans kp hk (.inl rfl)) (hb) (hi); clear HO_828004 BK823 BK827 BK849 HK HB HI0; obtain ⟨HO_828004, BK823, BK827, BK849, HK, HB, HI0⟩ := n_; (try clear hb); (try clear hb2); (try clear hk); (try clear hi); obtain ⟨hcz37_0, hcz37_1, hcz37_2⟩ := cells3 BK849.out; obtain ⟨hfz37_0, hfz37_1, hfz37_2⟩ := froz3 BK849.out; have hnb38 := NB827_823.out; have hnc38 := NB823_827.out; have hnb39 := NB827_0.out; have hnc39 := NB0_827.out; obtain ⟨hcz40_0, hcz40_1, hcz40_2, hcz40_3, hcz40_4, hcz40_5⟩ := cells6 BK827.out; obtain ⟨hfz40_0, hfz40_1, hfz40_2, hfz40_3, hfz40_4, hfz40_5⟩ := froz6 BK827.out) | ((with_reducible refine gate_builtin (b := .append) (xs := #[.tmp 52, .tmp 54]) rfl ?_); at_builtin; refine Kd.R_append k40 w.heap.size rfl (.tmp 52) (.tmp 54) 24 40 (.agg #[(.string ⟨#[]⟩), (.string ⟨#[]⟩), (.bool false)]) 40 rfl Try.underlying24 info40 rfl (by decide) (by omega) u828004 x828004_1 (⟨t853, (⟨#[]⟩ : ByteArray), true⟩ : S40) [.string t853, .string (⟨#[]⟩ : ByteArray), .bool true] (fun k_ => k_ ≠ gb849) (fun _ => False) rfl (by first | (go_simp; done) | (go_simp; rfl)) ?aP (fun _ hk => hk.elim) ?aF ?aO (Below.refl _ _) ?aS ?aL ?_; (case aP => exact k40_mkM _ _ _ (⟨t853, (⟨#[]⟩ : ByteArray), true⟩ : S40)); (case aF => exact (fun k_ hk => Kd.freshB (g := gb849) (o := .cells #[.string t853, .string (⟨#[]⟩ : ByteArray), .bool true] 40 (0, 0)) (bp BK849.out) k_ hk)); (case aO => exact (by (with_reducible repeat (first | apply Kd.R_alloc | apply Kd.R_drewN | apply Kd.R_drew)); exact Kd.R_mono (Kd.R_far (p := ⟨gb849, 0, none⟩) (Kd.R_mono HO_828004.out (fun k_ hk => (⟨hk, hk.2⟩ : _ ∧ k_ ≠ gb849))) (fun _ hk => hk.2) (.string t853)) (fun _ hk => hk.1.2))); (case aS => exact (keep_size (w := w) (g := g) (row := none) kp)); (case aL => have := LMc28.out; omega); intro v857 w41 ho hb hg hat; rw [← Ny856.out] at ho; have n_ := z7 (blk_grown (bk BK823.out) hg (Kd.R_ne HO_828004.out BK823.out (by decide))) (blk_grown (bk BK827.out) hg (Kd.R_ne HO_828004.out BK827.out (by decide))) (IsS65.grown (IsS65.from_ HI0.out iy) hg (IsS65.own_ne HI0.out HO_828004.out (by decide))) (blk_grown (g := gb849) (o := .cells #[.string t853, .string (⟨#[]⟩ : ByteArray), .bool true] 40 (0, 0)) (bp BK849.out) hg (Kd.R_away HO_828004.out (fun _ hk => hk.2))) (below_weaken bel HL.out hb) (KeepBut.trans kp (KeepBut.of_grown hg g) (Kd.R_base2 HO_828004.out)) (ho); clear BK823 BK827 HI0 BK849 HB HK HO_828004; obtain ⟨BK823, BK827, HI0, BK849, HB, HK, HO858⟩ := n_; clear ho hb hg hat; obtain ⟨Ao42, co42, eo42⟩ := Kd.R_slice HO858.out; subst eo42; obtain ⟨hcz43_0, hcz43_1, hcz43_2, hcz43_3, hcz43_4, hcz43_5⟩ := cells6 BK827.out; obtain ⟨hfz43_0, hfz43_1, hfz43_2, hfz43_3, hfz43_4, hfz43_5⟩ := froz6 BK827.out))
        go_roundg kj19
        case measure => have := HK1.out; have := HJ19.out; omega
        case rel => exact ⟨(wrap64 (x5_1 + 1)), (t854), (t855), (y856), (.slice Ao42 y856.length co42), (by first | rfl | (simp; done) | (simp [*]; done)), H', ⟨by have := HK1.out; have := HJ19.out; omega⟩, ⟨by (with_reducible repeat (first | apply Kd.R_alloc | apply Kd.R_drewN | apply Kd.R_drew)); exact Kd.R_mono (Kd.R_far (p := ⟨gb827, 4, none⟩) (Kd.R_types HO858.out BK827.out (by decide)) (fun _ hk => hk.2) (.slice Ao42 y856.length co42)) (fun _ hk => trivial)⟩, ⟨bk BK823.out⟩, ⟨bp BK827.out⟩, ⟨iy⟩, ⟨kp⟩, ⟨bel⟩⟩
       ·rw [if_neg c28] at H
        exact absurd H (by simp)
      ·rw [if_neg c27] at H
       have c27b0 : (t846 == 1) = false := beq_eq_false_iff_ne.mpr c27
       have c27b1 : (t846 != 1) = true := bne_iff_ne.mpr c27
       replace H := Option.bind_eq_some_iff.mp H
       obtain ⟨⟨t859, t860, t861⟩, A440, H⟩ := H
       replace H : ((federationref7_reader_text.f t860 t861 t859).bind fun bt862 => (if x828004_1.length < 3518437208883 then (federationref7_reader_second.l0 kj19 t837 (wrap64 (x5_1 + 1)) bt862.2.1 bt862.2.2 t824 t828 t831 (t834 == 1) (x828004_1 ++ [(⟨t853, bt862.1, (t846 == 1)⟩ : S40)]) (⟨#[]⟩ : ByteArray)) else (none))) = some (r1, r2, r3, r4, r5, r6, r7, r8) := H
       have A44 := am A440
       clear A440
       replace H := Option.bind_eq_some_iff.mp H
       obtain ⟨⟨t862, t863, t864⟩, A450, H⟩ := H
       replace H : (if x828004_1.length < 3518437208883 then (federationref7_reader_second.l0 kj19 t837 (wrap64 (x5_1 + 1)) t863 t864 t824 t828 t831 (t834 == 1) (x828004_1 ++ [(⟨t853, t862, (t846 == 1)⟩ : S40)]) (⟨#[]⟩ : ByteArray)) else (none)) = some (r1, r2, r3, r4, r5, r6, r7, r8) := H
       have A45 := am A450
       clear A450
       by_cases c46 : x828004_1.length < 3518437208883
       ·rw [if_pos c46] at H
        have LMc46 := am c46
        clear c46
        rw [c27b0] at H
        obtain ⟨y865, hy865⟩ : ∃ y_ : List (S40), y_ = (x828004_1 ++ [(⟨t853, t862, false⟩ : S40)]) := ⟨_, rfl⟩
        replace H : (federationref7_reader_second.l0 kj19 t837 (wrap64 (x5_1 + 1)) t863 t864 t824 t828 t831 (t834 == 1) y865 (⟨#[]⟩ : ByteArray)) = some (r1, r2, r3, r4, r5, r6, r7, r8) := by first | (rw [hy865]; with_reducible exact H) | (have H2_ := (Option.bind_some _ _).symm.trans H; rw [hy865]; with_reducible exact H2_) | (have H2_ := (Option.bind_some _ _).symm.trans H; with_reducible exact H2_) | with_reducible exact H | (rw [hy865]; exact H) | exact H
        have Ny865 := am hy865
        clear hy865
        have H' := am H
        clear H
        go_wp2_with (first | ((with_reducible refine gate_callee (f := 55) rfl ?_); refine goesL_ (some 35) rfl rfl Try.func55 (by kernel_rfl) rfl #[.pointer (some ⟨g, 0, none⟩), .int .i64 1] rfl ar ?_; (with_reducible refine (federationref7_reader_fixed.calls kj19 g x1000_1 x1001_1 1 t846 t847 t848 w0 _ ?side1 ?side2 A24.out).mono ?_); (case side1 => exact iy); (case side2 => exact bel); rintro e w47 ⟨rfl, hi, hb, hk⟩; refine ⟨_, rfl, ?_⟩; have n_ := z6 (Kd.R_mono (Kd.R_keep (IsS65.apart (show IsS65 w0 _ g x1000_1 x1001_1 from iy) (kr HO_828004.out) (by decide)) hk (fun _ h => h.2)) (fun _ h => h.1)) (KeepBut.blk hk (g' := gb823) (o := .cells #[.int .i64 0, .int .i64 0, .int .i64 0, .bool false, .slice none 0 0, .string (⟨#[]⟩ : ByteArray)] 26 (0, 0)) (bk BK823.out) NB823_0.out (by simp)) (KeepBut.blk hk (g' := gb827) (o := .cells #[.int .i64 t824, .int .i64 t828, .int .i64 t831, .bool (t834 == 1), u828004, .string (⟨#[]⟩ : ByteArray)] 26 (0, 0)) (bk BK827.out) NB827_0.out (by simp)) (KeepBut.trans kp hk (.inl rfl)) (hb) (hi); clear HO_828004 BK823 BK827 HK HB HI0; obtain ⟨HO_828004, BK823, BK827, HK, HB, HI0⟩ := n_; (try clear hb); (try clear hb2); (try clear hk); (try clear hi)) | ((with_reducible refine gate_dst (N := 6) rfl ?_); refine bx 6 40 (cs := #[.string (⟨#[]⟩ : ByteArray), .string (⟨#[]⟩ : ByteArray), .bool false]) ?_; intro gb849 hg w48 hbox hb; have n0_ := am (Kd.R_below (Kd.R_elderB (kr HO_828004.out) gb849 (Nat.le_of_eq hg.symm)) hb); have n1_ := am (blk_below (bk BK823.out) hb); have n2_ := am (blk_below (bk BK827.out) hb); have n3_ := am (IsS65.below iy hb); have n4_ := am (KeepBut.trans kp (KeepBut.of_below hb g none) (.inl rfl)); have n5_ := am (below_step bel hb); have n6_ := am (hbox); have n7_ := am ((by rw [hg]; exact (keep_size (w := w) (g := g) (row := none) kp) : w.heap.size ≤ gb849)); have n8_ := am ((Nat.le_trans HW0.out (by rw [hg]; exact (keep_size (w := w) (g := g) (row := none) kp) : w.heap.size ≤ gb849) : w0.heap.size ≤ gb849)); have n9_ := am ((by rw [hg]; exact Nat.ne_of_lt (blk_lt (bk BK823.out)) : gb823 ≠ gb849)); have n10_ := am ((by rw [hg]; exact Nat.ne_of_gt (blk_lt (bk BK823.out)) : gb849 ≠ gb823)); have n11_ := am ((by rw [hg]; exact Nat.ne_of_lt (blk_lt (bk BK827.out)) : gb827 ≠ gb849)); have n12_ := am ((by rw [hg]; exact Nat.ne_of_gt (blk_lt (bk BK827.out)) : gb849 ≠ gb827)); have n13_ := am ((by rw [hg]; exact Nat.ne_of_lt (IsS65.lt (show IsS65 w0 _ g t847 t848 from iy)) : g ≠ gb849)); have n14_ := am ((by rw [hg]; exact Nat.ne_of_gt (IsS65.lt (show IsS65 w0 _ g t847 t848 from iy)) : gb849 ≠ g)); clear HO_828004 BK823 BK827 HI0 HK HB; have HO_828004 := n0_; have BK823 := n1_; have BK827 := n2_; have HI0 := n3_; have HK := n4_; have HB := n5_; have BK849 := n6_; have GW849 := n7_; have GE849 := n8_; have NB823_849 := n9_; have NB849_823 := n10_; have NB827_849 := n11_; have NB849_827 := n12_; have NB0_849 := n13_; have NB849_0 := n14_; clear n0_ n1_ n2_ n3_ n4_ n5_ n6_ n7_ n8_ n9_ n10_ n11_ n12_ n13_ n14_ hb hbox hg; have hnb49 := NB849_823.out; have hnc49 := NB823_849.out; have hnb50 := NB849_827.out; have hnc50 := NB827_849.out; have hnb51 := NB849_0.out; have hnc51 := NB0_849.out; obtain ⟨hcz52_0, hcz52_1, hcz52_2⟩ := cells3 BK849.out; obtain ⟨hfz52_0, hfz52_1, hfz52_2⟩ := froz3 BK849.out) | ((with_reducible refine gate_callee (f := 57) rfl ?_); refine goesL_ (some 40) rfl rfl Try.func57 (by kernel_rfl) rfl #[.pointer (some ⟨g, 0, none⟩)] rfl ar ?_; (with_reducible refine (federationref7_reader_free.calls kj19 g t847 t848 t850 t851 t852 w0 _ ?side1 ?side2 A25.out).mono ?_); (case side1 => exact iy); (case side2 => exact bel); rintro e w53 ⟨rfl, hi, hb, hk⟩; refine ⟨_, rfl, ?_⟩; have n_ := z7 (Kd.R_mono (Kd.R_keep (IsS65.apart (show IsS65 w0 _ g t847 t848 from iy) (by (with_reducible repeat (first | apply Kd.R_alloc | apply Kd.R_drewN | apply Kd.R_drew)); exact (Kd.R_mono (Kd.R_far (p := ⟨gb849, 2, none⟩) (Kd.R_far (p := ⟨gb849, 1, none⟩) (Kd.R_far (p := ⟨gb849, 0, none⟩) (Kd.R_mono HO_828004.out (fun k_ hk => (⟨hk, hk.2⟩ : _ ∧ k_ ≠ gb849))) (fun _ hk => hk.2) (.string (⟨#[]⟩ : ByteArray))) (fun _ hk => hk.2) (.string (⟨#[]⟩ : ByteArray))) (fun _ hk => hk.2) (.bool false)) (fun _ h_ => h_.1))) (by decide)) hk (fun _ h => h.2)) (fun _ h => h.1)) (KeepBut.blk hk (g' := gb823) (o := .cells #[.int .i64 0, .int .i64 0, .int .i64 0, .bool false, .slice none 0 0, .string (⟨#[]⟩ : ByteArray)] 26 (0, 0)) (bk BK823.out) NB823_0.out (by simp)) (KeepBut.blk hk (g' := gb827) (o := .cells #[.int .i64 t824, .int .i64 t828, .int .i64 t831, .bool (t834 == 1), u828004, .string (⟨#[]⟩ : ByteArray)] 26 (0, 0)) (bk BK827.out) NB827_0.out (by simp)) (KeepBut.blk hk (g' := gb849) (o := .cells #[.string (⟨#[]⟩ : ByteArray), .string (⟨#[]⟩ : ByteArray), .bool false] 40 (0, 0)) (bp BK849.out) NB849_0.out (by simp)) (KeepBut.trans kp hk (.inl rfl)) (hb) (hi); clear HO_828004 BK823 BK827 BK849 HK HB HI0; obtain ⟨HO_828004, BK823, BK827, BK849, HK, HB, HI0⟩ := n_; (try clear hb); (try clear hb2); (try clear hk); (try clear hi)) | ((with_reducible refine gate_callee (f := 56) rfl ?_); refine goesL_ (some 41) rfl rfl Try.func56 (by kernel_rfl) rfl #[.pointer (some ⟨g, 0, none⟩), .int .i64 t850] rfl ar ?_; (with_reducible refine (federationref7_reader_text.calls g t851 t852 t850 t853 t854 t855 w0 _ ?side1 ?side2 A26.out).mono ?_); (case side1 => exact iy); (case side2 => exact bel); rintro e w54 ⟨rfl, hi, hb, hk⟩; refine ⟨_, rfl, ?_⟩; have n_ := z7 (Kd.R_mono (Kd.R_keep (IsS65.apart (show IsS65 w0 _ g t851 t852 from iy) (kr HO_828004.out) (by decide)) hk (fun _ h => h.2)) (fun _ h => h.1)) (KeepBut.blk hk (g' := gb823) (o := .cells #[.int .i64 0, .int .i64 0, .int .i64 0, .bool false, .slice none 0 0, .string (⟨#[]⟩ : ByteArray)] 26 (0, 0)) (bk BK823.out) NB823_0.out (by simp)) (KeepBut.blk hk (g' := gb827) (o := .cells #[.int .i64 t824, .int .i64 t828, .int .i64 t831, .bool (t834 == 1), u828004, .string (⟨#[]⟩ : ByteArray)] 26 (0, 0)) (bk BK827.out) NB827_0.out (by simp)) (KeepBut.blk hk (g' := gb849) (o := .cells #[.string (⟨#[]⟩ : ByteArray), .string (⟨#[]⟩ : ByteArray), .bool false] 40 (0, 0)) (bk BK849.out) NB849_0.out (by simp)) (KeepBut.trans kp hk (.inl rfl)) (hb) (hi); clear HO_828004 BK823 BK827 BK849 HK HB HI0; obtain ⟨HO_828004, BK823, BK827, BK849, HK, HB, HI0⟩ := n_; (try clear hb); (try clear hb2); (try clear hk); (try clear hi); obtain ⟨hcz55_0, hcz55_1, hcz55_2⟩ := cells3 BK849.out; obtain ⟨hfz55_0, hfz55_1, hfz55_2⟩ := froz3 BK849.out) | ((with_reducible refine gate_callee (f := 57) rfl ?_); refine goesL_ (some 48) rfl rfl Try.func57 (by kernel_rfl) rfl #[.pointer (some ⟨g, 0, none⟩)] rfl ar ?_; (with_reducible refine (federationref7_reader_free.calls kj19 g t854 t855 t859 t860 t861 w0 _ ?side1 ?side2 A44.out).mono ?_); (case side1 => exact iy); (case side2 => exact bel); rintro e w56 ⟨rfl, hi, hb, hk⟩; refine ⟨_, rfl, ?_⟩; have n_ := z7 (Kd.R_mono (Kd.R_keep (IsS65.apart (show IsS65 w0 _ g t854 t855 from iy) (by (with_reducible repeat (first | apply Kd.R_alloc | apply Kd.R_drewN | apply Kd.R_drew)); exact (Kd.R_mono (Kd.R_far (p := ⟨gb849, 0, none⟩) (Kd.R_mono HO_828004.out (fun k_ hk => (⟨hk, hk.2⟩ : _ ∧ k_ ≠ gb849))) (fun _ hk => hk.2) (.string t853)) (fun _ h_ => h_.1))) (by decide)) hk (fun _ h => h.2)) (fun _ h => h.1)) (KeepBut.blk hk (g' := gb823) (o := .cells #[.int .i64 0, .int .i64 0, .int .i64 0, .bool false, .slice none 0 0, .string (⟨#[]⟩ : ByteArray)] 26 (0, 0)) (bk BK823.out) NB823_0.out (by simp)) (KeepBut.blk hk (g' := gb827) (o := .cells #[.int .i64 t824, .int .i64 t828, .int .i64 t831, .bool (t834 == 1), u828004, .string (⟨#[]⟩ : ByteArray)] 26 (0, 0)) (bk BK827.out) NB827_0.out (by simp)) (KeepBut.blk hk (g' := gb849) (o := .cells #[.string t853, .string (⟨#[]⟩ : ByteArray), .bool false] 40 (0, 0)) (bp BK849.out) NB849_0.out (by simp)) (KeepBut.trans kp hk (.inl rfl)) (hb) (hi); clear HO_828004 BK823 BK827 BK849 HK HB HI0; obtain ⟨HO_828004, BK823, BK827, BK849, HK, HB, HI0⟩ := n_; (try clear hb); (try clear hb2); (try clear hk); (try clear hi)) | ((with_reducible refine gate_callee (f := 56) rfl ?_); refine goesL_ (some 49) rfl rfl Try.func56 (by kernel_rfl) rfl #[.pointer (some ⟨g, 0, none⟩), .int .i64 t859] rfl ar ?_; (with_reducible refine (federationref7_reader_text.calls g t860 t861 t859 t862 t863 t864 w0 _ ?side1 ?side2 A45.out).mono ?_); (case side1 => exact iy); (case side2 => exact bel); rintro e w57 ⟨rfl, hi, hb, hk⟩; refine ⟨_, rfl, ?_⟩; have n_ := z7 (Kd.R_mono (Kd.R_keep (IsS65.apart (show IsS65 w0 _ g t860 t861 from iy) (kr HO_828004.out) (by decide)) hk (fun _ h => h.2)) (fun _ h => h.1)) (KeepBut.blk hk (g' := gb823) (o := .cells #[.int .i64 0, .int .i64 0, .int .i64 0, .bool false, .slice none 0 0, .string (⟨#[]⟩ : ByteArray)] 26 (0, 0)) (bk BK823.out) NB823_0.out (by simp)) (KeepBut.blk hk (g' := gb827) (o := .cells #[.int .i64 t824, .int .i64 t828, .int .i64 t831, .bool (t834 == 1), u828004, .string (⟨#[]⟩ : ByteArray)] 26 (0, 0)) (bk BK827.out) NB827_0.out (by simp)) (KeepBut.blk hk (g' := gb849) (o := .cells #[.string t853, .string (⟨#[]⟩ : ByteArray), .bool false] 40 (0, 0)) (bk BK849.out) NB849_0.out (by simp)) (KeepBut.trans kp hk (.inl rfl)) (hb) (hi); clear HO_828004 BK823 BK827 BK849 HK HB HI0; obtain ⟨HO_828004, BK823, BK827, BK849, HK, HB, HI0⟩ := n_; (try clear hb); (try clear hb2); (try clear hk); (try clear hi); obtain ⟨hcz58_0, hcz58_1, hcz58_2⟩ := cells3 BK849.out; obtain ⟨hfz58_0, hfz58_1, hfz58_2⟩ := froz3 BK849.out; have hnb59 := NB827_823.out; have hnc59 := NB823_827.out; have hnb60 := NB827_0.out; have hnc60 := NB0_827.out; obtain ⟨hcz61_0, hcz61_1, hcz61_2, hcz61_3, hcz61_4, hcz61_5⟩ := cells6 BK827.out; obtain ⟨hfz61_0, hfz61_1, hfz61_2, hfz61_3, hfz61_4, hfz61_5⟩ := froz6 BK827.out) | ((with_reducible refine gate_builtin (b := .append) (xs := #[.tmp 52, .tmp 54]) rfl ?_); at_builtin; refine Kd.R_append k40 w.heap.size rfl (.tmp 52) (.tmp 54) 24 40 (.agg #[(.string ⟨#[]⟩), (.string ⟨#[]⟩), (.bool false)]) 40 rfl Try.underlying24 info40 rfl (by decide) (by omega) u828004 x828004_1 (⟨t853, t862, false⟩ : S40) [.string t853, .string t862, .bool false] (fun k_ => k_ ≠ gb849) (fun _ => False) rfl (by first | (go_simp; done) | (go_simp; rfl)) ?aP (fun _ hk => hk.elim) ?aF ?aO (Below.refl _ _) ?aS ?aL ?_; (case aP => exact k40_mkM _ _ _ (⟨t853, t862, false⟩ : S40)); (case aF => exact (fun k_ hk => Kd.freshB (g := gb849) (o := .cells #[.string t853, .string t862, .bool false] 40 (0, 0)) (bp BK849.out) k_ hk)); (case aO => exact (by (with_reducible repeat (first | apply Kd.R_alloc | apply Kd.R_drewN | apply Kd.R_drew)); exact Kd.R_mono (Kd.R_far (p := ⟨gb849, 1, none⟩) (Kd.R_mono HO_828004.out (fun k_ hk => (⟨hk, hk.2⟩ : _ ∧ k_ ≠ gb849))) (fun _ hk => hk.2) (.string t862)) (fun _ hk => hk.1.2))); (case aS => exact (keep_size (w := w) (g := g) (row := none) kp)); (case aL => have := LMc46.out; omega); intro v866 w62 ho hb hg hat; rw [← Ny865.out] at ho; have n_ := z7 (blk_grown (bk BK823.out) hg (Kd.R_ne HO_828004.out BK823.out (by decide))) (blk_grown (bk BK827.out) hg (Kd.R_ne HO_828004.out BK827.out (by decide))) (IsS65.grown (IsS65.from_ HI0.out iy) hg (IsS65.own_ne HI0.out HO_828004.out (by decide))) (blk_grown (g := gb849) (o := .cells #[.string t853, .string t862, .bool false] 40 (0, 0)) (bp BK849.out) hg (Kd.R_away HO_828004.out (fun _ hk => hk.2))) (below_weaken bel HL.out hb) (KeepBut.trans kp (KeepBut.of_grown hg g) (Kd.R_base2 HO_828004.out)) (ho); clear BK823 BK827 HI0 BK849 HB HK HO_828004; obtain ⟨BK823, BK827, HI0, BK849, HB, HK, HO867⟩ := n_; clear ho hb hg hat; obtain ⟨Ao63, co63, eo63⟩ := Kd.R_slice HO867.out; subst eo63; obtain ⟨hcz64_0, hcz64_1, hcz64_2, hcz64_3, hcz64_4, hcz64_5⟩ := cells6 BK827.out; obtain ⟨hfz64_0, hfz64_1, hfz64_2, hfz64_3, hfz64_4, hfz64_5⟩ := froz6 BK827.out))
        go_roundg kj19
        case measure => have := HK1.out; have := HJ19.out; omega
        case rel => exact ⟨(wrap64 (x5_1 + 1)), (t863), (t864), (y865), (.slice Ao63 y865.length co63), (by first | rfl | (simp; done) | (simp [*]; done)), H', ⟨by have := HK1.out; have := HJ19.out; omega⟩, ⟨by (with_reducible repeat (first | apply Kd.R_alloc | apply Kd.R_drewN | apply Kd.R_drew)); exact Kd.R_mono (Kd.R_far (p := ⟨gb827, 4, none⟩) (Kd.R_types HO867.out BK827.out (by decide)) (fun _ hk => hk.2) (.slice Ao63 y865.length co63)) (fun _ hk => trivial)⟩, ⟨bk BK823.out⟩, ⟨bp BK827.out⟩, ⟨iy⟩, ⟨kp⟩, ⟨bel⟩⟩
       ·rw [if_neg c46] at H
        exact absurd H (by simp)
     ·replace c23 := Bool.eq_false_iff.mpr c23
      subst c23
      have H1 : ((federationref7_reader_free.f kj19 x1000_1 x1001_1).bind fun bt840 => ((federationref7_reader_text.f bt840.2.1 bt840.2.2 bt840.1).bind fun bt843 => (some (t824, t828, t831, (t834 == 1), x828004_1, bt843.1, bt843.2.1, bt843.2.2)))) = some (r1, r2, r3, r4, r5, r6, r7, r8) := by rw [if_neg (show ¬ (false = true) by decide)] at H; exact H
      clear H
      have H := H1
      clear H1
      replace H := Option.bind_eq_some_iff.mp H
      obtain ⟨⟨t840, t841, t842⟩, A650, H⟩ := H
      replace H : ((federationref7_reader_text.f t841 t842 t840).bind fun bt843 => (some (t824, t828, t831, (t834 == 1), x828004_1, bt843.1, bt843.2.1, bt843.2.2))) = some (r1, r2, r3, r4, r5, r6, r7, r8) := H
      have A65 := am A650
      clear A650
      replace H := Option.bind_eq_some_iff.mp H
      obtain ⟨⟨t843, t844, t845⟩, A660, H⟩ := H
      replace H : (some (t824, t828, t831, (t834 == 1), x828004_1, t843, t844, t845)) = some (r1, r2, r3, r4, r5, r6, r7, r8) := H
      have A66 := am A660
      clear A660
      simp only [Option.some.injEq, Prod.mk.injEq] at H
      obtain ⟨rfl, rfl, rfl, rfl, rfl, rfl, rfl, rfl⟩ := H
      go_wp2_with (first | ((with_reducible refine gate_callee (f := 57) rfl ?_); refine goesL_ (some 59) rfl rfl Try.func57 (by kernel_rfl) rfl #[.pointer (some ⟨g, 0, none⟩)] rfl ar ?_; (with_reducible refine (federationref7_reader_free.calls kj19 g x1000_1 x1001_1 t840 t841 t842 w0 _ ?side1 ?side2 A65.out).mono ?_); (case side1 => exact iy); (case side2 => exact bel); rintro e w67 ⟨rfl, hi, hb, hk⟩; refine ⟨_, rfl, ?_⟩; have n_ := z6 (Kd.R_mono (Kd.R_keep (IsS65.apart (show IsS65 w0 _ g x1000_1 x1001_1 from iy) (kr HO_828004.out) (by decide)) hk (fun _ h => h.2)) (fun _ h => h.1)) (KeepBut.blk hk (g' := gb823) (o := .cells #[.int .i64 0, .int .i64 0, .int .i64 0, .bool false, .slice none 0 0, .string (⟨#[]⟩ : ByteArray)] 26 (0, 0)) (bk BK823.out) NB823_0.out (by simp)) (KeepBut.blk hk (g' := gb827) (o := .cells #[.int .i64 t824, .int .i64 t828, .int .i64 t831, .bool (t834 == 1), u828004, .string (⟨#[]⟩ : ByteArray)] 26 (0, 0)) (bk BK827.out) NB827_0.out (by simp)) (KeepBut.trans kp hk (.inl rfl)) (hb) (hi); clear HO_828004 BK823 BK827 HK HB HI0; obtain ⟨HO_828004, BK823, BK827, HK, HB, HI0⟩ := n_; (try clear hb); (try clear hb2); (try clear hk); (try clear hi)) | ((with_reducible refine gate_callee (f := 56) rfl ?_); refine goesL_ (some 60) rfl rfl Try.func56 (by kernel_rfl) rfl #[.pointer (some ⟨g, 0, none⟩), .int .i64 t840] rfl ar ?_; (with_reducible refine (federationref7_reader_text.calls g t841 t842 t840 t843 t844 t845 w0 _ ?side1 ?side2 A66.out).mono ?_); (case side1 => exact iy); (case side2 => exact bel); rintro e w68 ⟨rfl, hi, hb, hk⟩; refine ⟨_, rfl, ?_⟩; have n_ := z6 (Kd.R_mono (Kd.R_keep (IsS65.apart (show IsS65 w0 _ g t841 t842 from iy) (kr HO_828004.out) (by decide)) hk (fun _ h => h.2)) (fun _ h => h.1)) (KeepBut.blk hk (g' := gb823) (o := .cells #[.int .i64 0, .int .i64 0, .int .i64 0, .bool false, .slice none 0 0, .string (⟨#[]⟩ : ByteArray)] 26 (0, 0)) (bk BK823.out) NB823_0.out (by simp)) (KeepBut.blk hk (g' := gb827) (o := .cells #[.int .i64 t824, .int .i64 t828, .int .i64 t831, .bool (t834 == 1), u828004, .string (⟨#[]⟩ : ByteArray)] 26 (0, 0)) (bk BK827.out) NB827_0.out (by simp)) (KeepBut.trans kp hk (.inl rfl)) (hb) (hi); clear HO_828004 BK823 BK827 HK HB HI0; obtain ⟨HO_828004, BK823, BK827, HK, HB, HI0⟩ := n_; (try clear hb); (try clear hb2); (try clear hk); (try clear hi); have hnb69 := NB827_823.out; have hnc69 := NB823_827.out; have hnb70 := NB827_0.out; have hnc70 := NB0_827.out; obtain ⟨hcz71_0, hcz71_1, hcz71_2, hcz71_3, hcz71_4, hcz71_5⟩ := cells6 BK827.out; obtain ⟨hfz71_0, hfz71_1, hfz71_2, hfz71_3, hfz71_4, hfz71_5⟩ := froz6 BK827.out; have hnb72 := NB823_0.out; have hnc72 := NB0_823.out; obtain ⟨hcz73_0, hcz73_1, hcz73_2, hcz73_3, hcz73_4, hcz73_5⟩ := cells6 BK823.out; obtain ⟨hfz73_0, hfz73_1, hfz73_2, hfz73_3, hfz73_4, hfz73_5⟩ := froz6 BK823.out; obtain ⟨Ao74, co74, eo74⟩ := Kd.R_slice HO_828004.out; subst eo74))
      refine bodyPost_ret (results_cell_row rfl _ _ gb823 26 #[.int .i64 t824, .int .i64 t828, .int .i64 t831, .bool (t834 == 1), .slice Ao74 x828004_1.length co74, .string t843] (0, 0) _ rfl (bp BK823.out) Try.underlying26 rfl (by kernel_rfl)) rfl ?_
      exact ⟨_, er, by (with_reducible repeat (first | apply Kd.R_alloc | apply Kd.R_drewN | apply Kd.R_drew)); exact Kd.R_mono (Kd.R_far (p := ⟨gb823, 5, none⟩) (Kd.R_far (p := ⟨gb823, 4, none⟩) (Kd.R_far (p := ⟨gb823, 3, none⟩) (Kd.R_far (p := ⟨gb823, 2, none⟩) (Kd.R_far (p := ⟨gb823, 1, none⟩) (Kd.R_far (p := ⟨gb823, 0, none⟩) (Kd.R_far (p := ⟨gb827, 5, none⟩) (Kd.R_types (Kd.R_types HO_828004.out BK827.out (by decide)) BK823.out (by decide)) (fun _ hk => hk.1.2) (.string t843)) (fun _ hk => hk.2) (.int .i64 t824)) (fun _ hk => hk.2) (.int .i64 t828)) (fun _ hk => hk.2) (.int .i64 t831)) (fun _ hk => hk.2) (.bool (t834 == 1))) (fun _ hk => hk.2) (.slice Ao74 x828004_1.length co74)) (fun _ hk => hk.2) (.string t843)) (fun _ hk => trivial), iy, bel, kp⟩
def own_new65.f (a0 : ByteArray) (a1 : Bool) : Option (ByteArray × Bool) := some (a0, a1)
def federationref7_Decode.j0 : Nat → ByteArray → Bool → Option (Int × Int × Int × Bool × (List (S40)) × ByteArray × Int × Bool)
  | 0, _, _ => none
  | k + 1, x0, x22 => if x22 = true then (some (0, 0, 0, false, ([] : List (S40)), (⟨#[]⟩ : ByteArray), 0, false)) else (if 0 < (x0.size : Int) then (if 1 ≤ (x0.size : Int) then ((own_new65.f (x0.extract 1 x0.size) false).bind fun bt869 => (if (((bt x0 0) - 48) % 256) = 1 then ((federationref7_reader_first.f k bt869.1 bt869.2).bind fun bt873 => ((federationref7_Encode.f k bt873.1 bt873.2.1 bt873.2.2.1 bt873.2.2.2.1 bt873.2.2.2.2.1 bt873.2.2.2.2.2.1 (((bt x0 0) - 48) % 256)).bind fun bt883 => (if bt873.2.2.2.2.2.2.2 = true then (some (0, 0, 0, false, ([] : List (S40)), (⟨#[]⟩ : ByteArray), 0, false)) else (if bt883.2 = true then (if bt883.1.toList = x0.toList then (some (bt873.1, bt873.2.1, bt873.2.2.1, bt873.2.2.2.1, bt873.2.2.2.2.1, bt873.2.2.2.2.2.1, ((bt x0 0) - 48) % 256, true)) else (some (0, 0, 0, false, ([] : List (S40)), (⟨#[]⟩ : ByteArray), 0, false))) else (some (0, 0, 0, false, ([] : List (S40)), (⟨#[]⟩ : ByteArray), 0, false)))))) else ((federationref7_reader_second.f k bt869.1 bt869.2).bind fun bt885 => ((federationref7_Encode.f k bt885.1 bt885.2.1 bt885.2.2.1 bt885.2.2.2.1 bt885.2.2.2.2.1 bt885.2.2.2.2.2.1 (((bt x0 0) - 48) % 256)).bind fun bt895 => (if bt885.2.2.2.2.2.2.2 = true then (some (0, 0, 0, false, ([] : List (S40)), (⟨#[]⟩ : ByteArray), 0, false)) else (if bt895.2 = true then (if bt895.1.toList = x0.toList then (some (bt885.1, bt885.2.1, bt885.2.2.1, bt885.2.2.2.1, bt885.2.2.2.2.1, bt885.2.2.2.2.2.1, ((bt x0 0) - 48) % 256, true)) else (some (0, 0, 0, false, ([] : List (S40)), (⟨#[]⟩ : ByteArray), 0, false))) else (some (0, 0, 0, false, ([] : List (S40)), (⟨#[]⟩ : ByteArray), 0, false)))))))) else (none)) else (none))
def federationref7_Decode.f (k : Nat) (a0 : ByteArray) : Option (Int × Int × Int × Bool × (List (S40)) × ByteArray × Int × Bool) := if (a0.size : Int) = 0 then (federationref7_Decode.j0 k a0 true) else (if 0 < (a0.size : Int) then (if (bt a0 0) = 49 then (federationref7_Decode.j0 k a0 false) else (federationref7_Decode.j0 k a0 ((bt a0 0) != 50))) else (none))
theorem federationref7_Decode.mono_l : ∀ k, (∀ y0 y1, LeO (federationref7_Decode.j0 k y0 y1) (federationref7_Decode.j0 (k + 1) y0 y1))
  | 0 => fun _ _ r h => by simp [federationref7_Decode.j0] at h
  | k + 1 => by
    have ih0 := federationref7_Decode.mono_l k
    · intro y0 y1
      unfold federationref7_Decode.j0
      repeat' first
      | (with_reducible exact ih0 _ _)
      | (with_reducible exact federationref7_Encode.mono _ _ _ _ _ _ _ _)
      | (with_reducible exact federationref7_reader_first.mono _ _ _)
      | (with_reducible exact federationref7_reader_second.mono _ _ _)
      | (with_reducible exact LeO.refl _)
      | (with_reducible exact LeO.none _)
      | (with_reducible refine LeO.ite ?_ ?_)
      | (with_reducible refine LeO.bind ?_ (fun _ => ?_))
theorem federationref7_Decode.mono : ∀ a0 k, LeO (federationref7_Decode.f k a0) (federationref7_Decode.f (k + 1) a0) := by
  intro a0 k
  have ih0 := federationref7_Decode.mono_l k
  unfold federationref7_Decode.f
  repeat' first
      | (with_reducible exact ih0 _ _)
      | (with_reducible exact federationref7_Encode.mono _ _ _ _ _ _ _ _)
      | (with_reducible exact federationref7_reader_first.mono _ _ _)
      | (with_reducible exact federationref7_reader_second.mono _ _ _)
      | (with_reducible exact LeO.refl _)
      | (with_reducible exact LeO.none _)
      | (with_reducible refine LeO.ite ?_ ?_)
      | (with_reducible refine LeO.bind ?_ (fun _ => ?_))
set_option maxHeartbeats 8000000 in
set_option maxRecDepth 100000 in
theorem federationref7_Decode.calls (k : Nat) (a0 : ByteArray) (r1 : Int) (r2 : Int) (r3 : Int) (r4 : Bool) (r5 : List (S40)) (r6 : ByteArray) (r7 : Int) (r8 : Bool) (w : World) (h : federationref7_Decode.f k a0 = some (r1, r2, r3, r4, r5, r6, r7, r8)) :
  Calls Try.prog 20 #[.string a0] w fun e w' => ∃ v4_ : Value, e = .returned (.tuple #[.agg #[.int .i64 r1, .int .i64 r2, .int .i64 r3, .bool r4, v4_, .string r6], .int .i64 r7, .bool r8]) ∧ Kd.R k40 40 w' w.heap.size (fun _ => True) v4_ r5 ∧ Below w.heap.size w w' := by
 have hu26 := Try.underlying26
 have HB := am (Below.refl w.heap.size w)
 have H : (if (a0.size : Int) = 0 then (federationref7_Decode.j0 k a0 true) else (if 0 < (a0.size : Int) then (if (bt a0 0) = 49 then (federationref7_Decode.j0 k a0 false) else (federationref7_Decode.j0 k a0 ((bt a0 0) != 50))) else (none))) = some (r1, r2, r3, r4, r5, r6, r7, r8) := h
 clear h
 have HC2 := am H
 clear H
 go_enter Try.func20, Try.ntmps20
 go_upto_region 1 with (first | ((with_reducible refine gate_dst (N := 2) rfl ?_); refine bx 2 26 (cs := #[.int .i64 0, .int .i64 0, .int .i64 0, .bool false, .slice none 0 0, .string (⟨#[]⟩ : ByteArray)]) ?_; intro gb868 hg w3 hbox hb; have n_ := z4 (below_step bel hb) (hbox) ((by rw [hg]; exact (below_size bel) : w.heap.size ≤ gb868)) ((by rw [hg]; exact (below_size bel) : w.heap.size ≤ gb868)); clear HB; obtain ⟨HB, BK868, GW868, GE868⟩ := n_; clear hb hbox hg))
 (try simp only [Act.put, List.setIfInBounds_toArray, List.set_cons_zero, List.set_cons_succ])
 go_cut [22] (fun v22 wc => ∃ (kq : Nat) (x22_1 : Bool), v22 = .bool x22_1 ∧ Aside0 (federationref7_Decode.j0 kq a0 x22_1 = some (r1, r2, r3, r4, r5, r6, r7, r8)) ∧ Aside0 (kq ≤ k) ∧ Aside0 (wc.heap[gb868]? = some (.cells #[.int .i64 0, .int .i64 0, .int .i64 0, .bool false, (.slice none 0 0), .string (⟨#[]⟩ : ByteArray)] 26 (0, 0))) ∧ Aside0 (Below w.heap.size w wc))
 case first =>
  have H := HC2.out
  clear HC2
  by_cases c4 : (a0.size : Int) = 0
  ·rw [if_pos c4] at H
   have c4b0 : ((a0.size : Int) == 0) = true := beq_iff_eq.mpr c4
   have c4b1 : ((a0.size : Int) != 0) = false := bne_eq_false_iff_eq.mpr c4
   clear c4
   (first | rw [c4b0] | (simp only [i64_w, i32_w]; rw [c4b0]) | skip)
   have H' := am H
   clear H
   go_wp2
   go_meet
   case rel => exact ⟨_, (true), (by first | rfl | (simp; done) | (simp [*]; done)), H', ⟨by first | omega | exact Nat.le_refl _⟩, ⟨bk BK868.out⟩, ⟨bel⟩⟩
  ·rw [if_neg c4] at H
   have c4b0 : ((a0.size : Int) == 0) = false := beq_eq_false_iff_ne.mpr c4
   have c4b1 : ((a0.size : Int) != 0) = true := bne_iff_ne.mpr c4
   (first | rw [c4b0] | (simp only [i64_w, i32_w]; rw [c4b0]) | skip)
   by_cases c5 : 0 < (a0.size : Int)
   ·rw [if_pos c5] at H
    have c5b0 : decide (0 < (a0.size : Int)) = true := decide_eq_true c5
    have c5b1 : decide (0 < a0.size) = true := decide_eq_true (by omega)
    clear c5
    by_cases c7 : (bt a0 0) = 49
    ·rw [if_pos c7] at H
     have c7b0 : ((bt a0 0) == 49) = true := beq_iff_eq.mpr c7
     have c7b1 : ((bt a0 0) != 49) = false := bne_eq_false_iff_eq.mpr c7
     clear c7
     have H' := am H
     clear H
     have p6 : 0 ≤ (0 : Int) := (by omega)
     have q6 : 0 < a0.size := (by have : (0 : Int) < (a0.size : Int) := of_decide_eq_true (by first | (with_reducible assumption) | assumption); omega)
     have hx6 : ∀ h : 0 < a0.size, ((a0[0]'h).toNat : Int) = bt a0 0 := bt_at a0 0
     clear p6
     have qi6 : (0 < (a0.size : Int)) = True := eq_true (of_decide_eq_true (by first | (with_reducible assumption) | assumption))
     replace q6 := eq_true q6
     go_wp2
     go_meet
     case rel => exact ⟨_, (false), (by first | rfl | (simp; done) | (simp [*]; done)), H', ⟨by first | omega | exact Nat.le_refl _⟩, ⟨bk BK868.out⟩, ⟨bel⟩⟩
    ·rw [if_neg c7] at H
     have c7b0 : ((bt a0 0) == 49) = false := beq_eq_false_iff_ne.mpr c7
     have c7b1 : ((bt a0 0) != 49) = true := bne_iff_ne.mpr c7
     have H' := am H
     clear H
     have p6 : 0 ≤ (0 : Int) := (by omega)
     have q6 : 0 < a0.size := (by have : (0 : Int) < (a0.size : Int) := of_decide_eq_true (by first | (with_reducible assumption) | assumption); omega)
     have hx6 : ∀ h : 0 < a0.size, ((a0[0]'h).toNat : Int) = bt a0 0 := bt_at a0 0
     clear p6
     have qi6 : (0 < (a0.size : Int)) = True := eq_true (of_decide_eq_true (by first | (with_reducible assumption) | assumption))
     replace q6 := eq_true q6
     have p8 : 0 ≤ (0 : Int) := (by omega)
     have q8 : 0 < a0.size := (by have : (0 : Int) < (a0.size : Int) := of_decide_eq_true (by first | (with_reducible assumption) | assumption); omega)
     have hx8 : ∀ h : 0 < a0.size, ((a0[0]'h).toNat : Int) = bt a0 0 := bt_at a0 0
     clear p8
     have qi8 : (0 < (a0.size : Int)) = True := eq_true (of_decide_eq_true (by first | (with_reducible assumption) | assumption))
     replace q8 := eq_true q8
     go_wp2
     go_meet
     case rel => exact ⟨_, (((bt a0 0) != 50)), (by first | rfl | (simp; done) | (simp [*]; done)), H', ⟨by first | omega | exact Nat.le_refl _⟩, ⟨bk BK868.out⟩, ⟨bel⟩⟩
   ·rw [if_neg c5] at H
    exact absurd H (by simp)
 case rest =>
  clear HC2
  try clear c2
  try clear p2
  try clear c4
  try clear c4b0
  try clear c4b1
  try clear c5
  try clear c5b0
  try clear c5b1
  try clear p6
  try clear q6
  try clear hx6
  try clear qi6
  try clear c7
  try clear c7b0
  try clear c7b1
  try clear p8
  try clear q8
  try clear hx8
  try clear qi8
  try clear p6
  try clear p8
  try clear q6
  try clear q8
  obtain ⟨kq, x22_1, rfl, HA, HJ1, BK868, HB⟩ := hcut
  cases kq with
  | zero => exact absurd HA.out (by simp [federationref7_Decode.j0])
  | succ kj1 =>
   have H := HA.out
   clear HA
   simp only [federationref7_Decode.j0] at H
   by_cases c9 : x22_1 = true
   ·subst c9
    have H1 : (some (0, 0, 0, false, ([] : List (S40)), (⟨#[]⟩ : ByteArray), 0, false)) = some (r1, r2, r3, r4, r5, r6, r7, r8) := by rw [if_pos rfl] at H; exact H
    clear H
    have H := H1
    clear H1
    simp only [Option.some.injEq, Prod.mk.injEq] at H
    obtain ⟨rfl, rfl, rfl, rfl, rfl, rfl, rfl, rfl⟩ := H
    obtain ⟨hcz10_0, hcz10_1, hcz10_2, hcz10_3, hcz10_4, hcz10_5⟩ := cells6 BK868.out
    obtain ⟨hfz10_0, hfz10_1, hfz10_2, hfz10_3, hfz10_4, hfz10_5⟩ := froz6 BK868.out
    go_wp2
    refine bodyPost_ret (results_ctt rfl _ _ gb868 26 #[.int .i64 0, .int .i64 0, .int .i64 0, .bool false, .slice none 0 0, .string (⟨#[]⟩ : ByteArray)] (0, 0) _ rfl (bp BK868.out) Try.underlying26 rfl (by kernel_rfl)) rfl ?_
    exact ⟨_, er, by first | exact Kd.R_nil _ _ _ _ _ | exact Kd.N_nil _ _ _ _ _ | exact Kd.V_nil _ _ _ _ _ | exact Kd.Q_nil _ _ _ _ _ | exact Kd.S_nil _ _ _ _ _, bel⟩
   ·replace c9 := Bool.eq_false_iff.mpr c9
    subst c9
    have H1 : (if 0 < (a0.size : Int) then (if 1 ≤ (a0.size : Int) then ((own_new65.f (a0.extract 1 a0.size) false).bind fun bt869 => (if (((bt a0 0) - 48) % 256) = 1 then ((federationref7_reader_first.f kj1 bt869.1 bt869.2).bind fun bt873 => ((federationref7_Encode.f kj1 bt873.1 bt873.2.1 bt873.2.2.1 bt873.2.2.2.1 bt873.2.2.2.2.1 bt873.2.2.2.2.2.1 (((bt a0 0) - 48) % 256)).bind fun bt883 => (if bt873.2.2.2.2.2.2.2 = true then (some (0, 0, 0, false, ([] : List (S40)), (⟨#[]⟩ : ByteArray), 0, false)) else (if bt883.2 = true then (if bt883.1.toList = a0.toList then (some (bt873.1, bt873.2.1, bt873.2.2.1, bt873.2.2.2.1, bt873.2.2.2.2.1, bt873.2.2.2.2.2.1, ((bt a0 0) - 48) % 256, true)) else (some (0, 0, 0, false, ([] : List (S40)), (⟨#[]⟩ : ByteArray), 0, false))) else (some (0, 0, 0, false, ([] : List (S40)), (⟨#[]⟩ : ByteArray), 0, false)))))) else ((federationref7_reader_second.f kj1 bt869.1 bt869.2).bind fun bt885 => ((federationref7_Encode.f kj1 bt885.1 bt885.2.1 bt885.2.2.1 bt885.2.2.2.1 bt885.2.2.2.2.1 bt885.2.2.2.2.2.1 (((bt a0 0) - 48) % 256)).bind fun bt895 => (if bt885.2.2.2.2.2.2.2 = true then (some (0, 0, 0, false, ([] : List (S40)), (⟨#[]⟩ : ByteArray), 0, false)) else (if bt895.2 = true then (if bt895.1.toList = a0.toList then (some (bt885.1, bt885.2.1, bt885.2.2.1, bt885.2.2.2.1, bt885.2.2.2.2.1, bt885.2.2.2.2.2.1, ((bt a0 0) - 48) % 256, true)) else (some (0, 0, 0, false, ([] : List (S40)), (⟨#[]⟩ : ByteArray), 0, false))) else (some (0, 0, 0, false, ([] : List (S40)), (⟨#[]⟩ : ByteArray), 0, false)))))))) else (none)) else (none)) = some (r1, r2, r3, r4, r5, r6, r7, r8) := by rw [if_neg (show ¬ (false = true) by decide)] at H; exact H
    clear H
    have H := H1
    clear H1
    by_cases c11 : 0 < (a0.size : Int)
    ·rw [if_pos c11] at H
     have c11b0 : decide (0 < (a0.size : Int)) = true := decide_eq_true c11
     have c11b1 : decide (0 < a0.size) = true := decide_eq_true (by omega)
     clear c11
     by_cases c13 : 1 ≤ (a0.size : Int)
     ·rw [if_pos c13] at H
      have c13b0 := eq_true c13
      have c13b1 : decide (1 ≤ (a0.size : Int)) = true := decide_eq_true c13
      clear c13
      replace H := Option.bind_eq_some_iff.mp H
      obtain ⟨⟨t869, t870⟩, A140, H⟩ := H
      replace H : (if (((bt a0 0) - 48) % 256) = 1 then ((federationref7_reader_first.f kj1 t869 t870).bind fun bt873 => ((federationref7_Encode.f kj1 bt873.1 bt873.2.1 bt873.2.2.1 bt873.2.2.2.1 bt873.2.2.2.2.1 bt873.2.2.2.2.2.1 (((bt a0 0) - 48) % 256)).bind fun bt883 => (if bt873.2.2.2.2.2.2.2 = true then (some (0, 0, 0, false, ([] : List (S40)), (⟨#[]⟩ : ByteArray), 0, false)) else (if bt883.2 = true then (if bt883.1.toList = a0.toList then (some (bt873.1, bt873.2.1, bt873.2.2.1, bt873.2.2.2.1, bt873.2.2.2.2.1, bt873.2.2.2.2.2.1, ((bt a0 0) - 48) % 256, true)) else (some (0, 0, 0, false, ([] : List (S40)), (⟨#[]⟩ : ByteArray), 0, false))) else (some (0, 0, 0, false, ([] : List (S40)), (⟨#[]⟩ : ByteArray), 0, false)))))) else ((federationref7_reader_second.f kj1 t869 t870).bind fun bt885 => ((federationref7_Encode.f kj1 bt885.1 bt885.2.1 bt885.2.2.1 bt885.2.2.2.1 bt885.2.2.2.2.1 bt885.2.2.2.2.2.1 (((bt a0 0) - 48) % 256)).bind fun bt895 => (if bt885.2.2.2.2.2.2.2 = true then (some (0, 0, 0, false, ([] : List (S40)), (⟨#[]⟩ : ByteArray), 0, false)) else (if bt895.2 = true then (if bt895.1.toList = a0.toList then (some (bt885.1, bt885.2.1, bt885.2.2.1, bt885.2.2.2.1, bt885.2.2.2.2.1, bt885.2.2.2.2.2.1, ((bt a0 0) - 48) % 256, true)) else (some (0, 0, 0, false, ([] : List (S40)), (⟨#[]⟩ : ByteArray), 0, false))) else (some (0, 0, 0, false, ([] : List (S40)), (⟨#[]⟩ : ByteArray), 0, false))))))) = some (r1, r2, r3, r4, r5, r6, r7, r8) := H
      have A14 := am A140
      clear A140
      by_cases c15 : (((bt a0 0) - 48) % 256) = 1
      ·rw [if_pos c15] at H
       have c15b0 : ((((bt a0 0) - 48) % 256) == 1) = true := beq_iff_eq.mpr c15
       have c15b1 : ((((bt a0 0) - 48) % 256) != 1) = false := bne_eq_false_iff_eq.mpr c15
       clear c15
       replace H := Option.bind_eq_some_iff.mp H
       obtain ⟨⟨t873, t874, t875, t876, t877, t880, t881, t882⟩, A160, H⟩ := H
       replace H : ((federationref7_Encode.f kj1 t873 t874 t875 t876 t877 t880 (((bt a0 0) - 48) % 256)).bind fun bt883 => (if t882 = true then (some (0, 0, 0, false, ([] : List (S40)), (⟨#[]⟩ : ByteArray), 0, false)) else (if bt883.2 = true then (if bt883.1.toList = a0.toList then (some (t873, t874, t875, t876, t877, t880, ((bt a0 0) - 48) % 256, true)) else (some (0, 0, 0, false, ([] : List (S40)), (⟨#[]⟩ : ByteArray), 0, false))) else (some (0, 0, 0, false, ([] : List (S40)), (⟨#[]⟩ : ByteArray), 0, false))))) = some (r1, r2, r3, r4, r5, r6, r7, r8) := H
       have A16 := am A160
       clear A160
       replace H := Option.bind_eq_some_iff.mp H
       obtain ⟨⟨t883, t884⟩, A170, H⟩ := H
       replace H : (if t882 = true then (some (0, 0, 0, false, ([] : List (S40)), (⟨#[]⟩ : ByteArray), 0, false)) else (if t884 = true then (if t883.toList = a0.toList then (some (t873, t874, t875, t876, t877, t880, ((bt a0 0) - 48) % 256, true)) else (some (0, 0, 0, false, ([] : List (S40)), (⟨#[]⟩ : ByteArray), 0, false))) else (some (0, 0, 0, false, ([] : List (S40)), (⟨#[]⟩ : ByteArray), 0, false)))) = some (r1, r2, r3, r4, r5, r6, r7, r8) := H
       have A17 := am A170
       clear A170
       have p12 : 0 ≤ (0 : Int) := (by omega)
       have q12 : 0 < a0.size := (by have : (0 : Int) < (a0.size : Int) := of_decide_eq_true (by first | (with_reducible assumption) | assumption); omega)
       have hx12 : ∀ h : 0 < a0.size, ((a0[0]'h).toNat : Int) = bt a0 0 := bt_at a0 0
       clear p12
       have qi12 : (0 < (a0.size : Int)) = True := eq_true (of_decide_eq_true (by first | (with_reducible assumption) | assumption))
       replace q12 := eq_true q12
       go_upto_region 10 with (first | ((with_reducible refine gate_dst (N := 31) rfl ?_); refine bx 31 65 (cs := #[.string (a0.extract 1 a0.size), .bool false]) ?_; intro g871 hg_ w19 hbox_ hb2; have hb := below_step bel hb2; have hi : IsS65 w _ g871 t869 t870 := (by have ea_ := A14.out; simp only [own_new65.f, Option.some.injEq, Prod.mk.injEq] at ea_; rw [← ea_.1, ← ea_.2]; exact ⟨hbox_, by rw [hg_]; exact below_size bel⟩); clear hg_ hbox_; have n_ := z5 (blk_below (bk BK868.out) hb2) (hb) (hi) (IsS65.ne_blk hi (blk_below (bk BK868.out) hb2) (by decide)) (Ne.symm (IsS65.ne_blk hi (blk_below (bk BK868.out) hb2) (by decide))); clear BK868 HB; obtain ⟨BK868, HB, HI871, NB871_868, NB868_871⟩ := n_; (try clear hb); (try clear hb2); (try clear hk); (try clear hi)) | ((with_reducible refine gate_dst (N := 7) rfl ?_); refine bx 7 26 (cs := #[.int .i64 0, .int .i64 0, .int .i64 0, .bool false, .slice none 0 0, .string (⟨#[]⟩ : ByteArray)]) ?_; intro gb872 hg w20 hbox hb; have n_ := z10 (blk_below (bk BK868.out) hb) (IsS65.below (by repeat (first | (with_reducible first | exact HI871.out | apply IsS65.alloc | apply IsS65.drewN | apply IsS65.drew | apply IsS65.set_0 | apply IsS65.set_1 | refine IsS65.far ?_ NB871_868.out _) | exact HI871.out)) hb) (below_step (by repeat (first | (with_reducible first | exact HB.out | apply below_alloc | apply pw_below_drewN | apply below_drew1 | refine below_set ?_ (IsS65.ge HI871.out) | refine below_set ?_ GE868.out) | exact HB.out)) hb) (hbox) ((by rw [hg]; exact (below_size (by repeat (first | (with_reducible first | exact HB.out | apply below_alloc | apply pw_below_drewN | apply below_drew1 | refine below_set ?_ (IsS65.ge HI871.out) | refine below_set ?_ GE868.out) | exact HB.out))) : w.heap.size ≤ gb872)) ((by rw [hg]; exact (below_size (by repeat (first | (with_reducible first | exact HB.out | apply below_alloc | apply pw_below_drewN | apply below_drew1 | refine below_set ?_ (IsS65.ge HI871.out) | refine below_set ?_ GE868.out) | exact HB.out))) : w.heap.size ≤ gb872)) ((by rw [hg]; exact Nat.ne_of_lt (blk_lt (bk BK868.out)) : gb868 ≠ gb872)) ((by rw [hg]; exact Nat.ne_of_gt (blk_lt (bk BK868.out)) : gb872 ≠ gb868)) ((by rw [hg]; exact Nat.ne_of_lt (IsS65.lt (show IsS65 w _ g871 t869 t870 from by repeat (first | (with_reducible first | exact HI871.out | apply IsS65.alloc | apply IsS65.drewN | apply IsS65.drew | apply IsS65.set_0 | apply IsS65.set_1 | refine IsS65.far ?_ NB871_868.out _) | exact HI871.out))) : g871 ≠ gb872)) ((by rw [hg]; exact Nat.ne_of_gt (IsS65.lt (show IsS65 w _ g871 t869 t870 from by repeat (first | (with_reducible first | exact HI871.out | apply IsS65.alloc | apply IsS65.drewN | apply IsS65.drew | apply IsS65.set_0 | apply IsS65.set_1 | refine IsS65.far ?_ NB871_868.out _) | exact HI871.out))) : gb872 ≠ g871)); clear BK868 HI871 HB; obtain ⟨BK868, HI871, HB, BK872, GW872, GE872, NB868_872, NB872_868, NB871_872, NB872_871⟩ := n_; clear hb hbox hg) | ((with_reducible refine gate_callee (f := 33) rfl ?_); refine goesL_ (some 35) rfl rfl Try.func33 (by kernel_rfl) rfl #[.pointer (some ⟨g871, 0, none⟩)] rfl ar ?_; (with_reducible refine (federationref7_reader_first.calls kj1 g871 t869 t870 t873 t874 t875 t876 t877 t880 t881 t882 w _ ?side1 ?side2 A16.out).mono ?_); (case side1 => repeat (first | (with_reducible first | exact HI871.out | apply IsS65.alloc | apply IsS65.drewN | apply IsS65.drew | apply IsS65.set_0 | apply IsS65.set_1 | refine IsS65.far ?_ NB871_868.out _ | refine IsS65.far ?_ NB871_872.out _) | exact HI871.out)); (case side2 => repeat (first | (with_reducible first | exact HB.out | apply below_alloc | apply pw_below_drewN | apply below_drew1 | refine below_set ?_ (IsS65.ge HI871.out) | refine below_set ?_ GE868.out | refine below_set ?_ GE872.out) | exact HB.out)); rintro e w21 ⟨v878, rfl, ho0, hi, hb, hk⟩; refine ⟨_, rfl, ?_⟩; have n_ := z5 (KeepBut.blk hk (g' := gb868) (o := .cells #[.int .i64 0, .int .i64 0, .int .i64 0, .bool false, .slice none 0 0, .string (⟨#[]⟩ : ByteArray)] 26 (0, 0)) (bk BK868.out) NB868_871.out (by simp)) (KeepBut.blk hk (g' := gb872) (o := .cells #[.int .i64 0, .int .i64 0, .int .i64 0, .bool false, .slice none 0 0, .string (⟨#[]⟩ : ByteArray)] 26 (0, 0)) (bk BK872.out) NB872_871.out (by simp)) (Kd.R_lower ho0 (below_size (by repeat (first | (with_reducible first | exact HB.out | apply below_alloc | apply pw_below_drewN | apply below_drew1 | refine below_set ?_ (IsS65.ge HI871.out) | refine below_set ?_ GE868.out | refine below_set ?_ GE872.out) | exact HB.out)))) (hb) (hi); clear BK868 BK872 HB HI871; obtain ⟨BK868, BK872, HO879, HB, HI871⟩ := n_; (try clear hb); (try clear hb2); (try clear hk); (try clear hi); (try clear ho0); have hnb22 := NB872_868.out; have hnc22 := NB868_872.out; have hnb23 := NB872_871.out; have hnc23 := NB871_872.out; obtain ⟨hcz24_0, hcz24_1, hcz24_2, hcz24_3, hcz24_4, hcz24_5⟩ := cells6 BK872.out; obtain ⟨hfz24_0, hfz24_1, hfz24_2, hfz24_3, hfz24_4, hfz24_5⟩ := froz6 BK872.out; obtain ⟨Ao25, co25, eo25⟩ := Kd.R_slice HO879.out; subst eo25) | ((with_reducible refine gate_callee (f := 17) rfl ?_); refine goesL_ (some 41) rfl rfl Try.func17 (by kernel_rfl) rfl #[.agg #[.int .i64 t873, .int .i64 t874, .int .i64 t875, .bool t876, .slice Ao25 t877.length co25, .string t880], .int .i64 (((bt a0 0) - 48) % 256)] rfl ar ?_; (with_reducible refine (federationref7_Encode.calls kj1 t873 t874 t875 t876 _ _ t877 t880 (((bt a0 0) - 48) % 256) t883 t884 _ ?side1 ?side2 A17.out).mono ?_); (case side1 => refine (Kd.R_reads' (e := 40) (base := w.heap.size) (ok := fun k_ => True) (n := t877.length) (c := co25) ?_).2.2; exact (by (with_reducible repeat (first | apply Kd.R_alloc | apply Kd.R_drewN | apply Kd.R_drew)); exact (Kd.R_mono (Kd.R_far (p := ⟨gb872, 5, none⟩) (Kd.R_far (p := ⟨gb872, 4, none⟩) (Kd.R_far (p := ⟨gb872, 3, none⟩) (Kd.R_far (p := ⟨gb872, 2, none⟩) (Kd.R_far (p := ⟨gb872, 1, none⟩) (Kd.R_far (p := ⟨gb872, 0, none⟩) (Kd.R_types HO879.out BK872.out (by decide)) (fun _ hk => hk.2) (.int .i64 t873)) (fun _ hk => hk.2) (.int .i64 t874)) (fun _ hk => hk.2) (.int .i64 t875)) (fun _ hk => hk.2) (.bool t876)) (fun _ hk => hk.2) (.slice Ao25 t877.length co25)) (fun _ hk => hk.2) (.string t880)) (fun _ h_ => h_.1)))); (case side2 => exact (Kd.R_reads' HO879.out).2.1); rintro e w26 ⟨rfl, hb⟩; refine ⟨_, rfl, ?_⟩; have n_ := z5 (Kd.R_below (by (with_reducible repeat (first | apply Kd.R_alloc | apply Kd.R_drewN | apply Kd.R_drew)); exact (Kd.R_mono (Kd.R_far (p := ⟨gb872, 5, none⟩) (Kd.R_far (p := ⟨gb872, 4, none⟩) (Kd.R_far (p := ⟨gb872, 3, none⟩) (Kd.R_far (p := ⟨gb872, 2, none⟩) (Kd.R_far (p := ⟨gb872, 1, none⟩) (Kd.R_far (p := ⟨gb872, 0, none⟩) (Kd.R_types HO879.out BK872.out (by decide)) (fun _ hk => hk.2) (.int .i64 t873)) (fun _ hk => hk.2) (.int .i64 t874)) (fun _ hk => hk.2) (.int .i64 t875)) (fun _ hk => hk.2) (.bool t876)) (fun _ hk => hk.2) (.slice Ao25 t877.length co25)) (fun _ hk => hk.2) (.string t880)) (fun _ h_ => h_.1))) hb) (blk_below (bk BK868.out) hb) (IsS65.below (show IsS65 w ((((((w21.setCell ⟨gb872, 0, none⟩ (.int .i64 t873)).setCell ⟨gb872, 1, none⟩ (.int .i64 t874)).setCell ⟨gb872, 2, none⟩ (.int .i64 t875)).setCell ⟨gb872, 3, none⟩ (.bool t876)).setCell ⟨gb872, 4, none⟩ (.slice Ao25 t877.length co25)).setCell ⟨gb872, 5, none⟩ (.string t880)) g871 t881 t882 from by repeat (first | (with_reducible first | exact HI871.out | apply IsS65.alloc | apply IsS65.drewN | apply IsS65.drew | apply IsS65.set_0 | apply IsS65.set_1 | refine IsS65.far ?_ NB871_868.out _ | refine IsS65.far ?_ NB871_872.out _) | exact HI871.out)) hb) (blk_below (g := gb872) (o := .cells #[.int .i64 t873, .int .i64 t874, .int .i64 t875, .bool t876, .slice Ao25 t877.length co25, .string t880] 26 (0, 0)) (bp BK872.out) hb) (below_step (by repeat (first | (with_reducible first | exact HB.out | apply below_alloc | apply pw_below_drewN | apply below_drew1 | refine below_set ?_ (IsS65.ge HI871.out) | refine below_set ?_ GE868.out | refine below_set ?_ GE872.out) | exact HB.out)) hb); clear HO879 BK868 HI871 BK872 HB; obtain ⟨HO879, BK868, HI871, BK872, HB⟩ := n_; (try clear hb); (try clear hb2); (try clear hk); (try clear hi); obtain ⟨HGz27, hgz27⟩ := HI871.out; have hcz27_0 := cellS65_0 HGz27; have hcz27_1 := cellS65_1 HGz27; have hfz27_0 := blk_frozen HGz27 0; have hfz27_1 := blk_frozen HGz27 1; clear HGz27 hgz27))
       by_cases c18 : t882 = true
       ·subst c18
        have H1 : (some (0, 0, 0, false, ([] : List (S40)), (⟨#[]⟩ : ByteArray), 0, false)) = some (r1, r2, r3, r4, r5, r6, r7, r8) := by rw [if_pos rfl] at H; exact H
        clear H
        have H := H1
        clear H1
        simp only [Option.some.injEq, Prod.mk.injEq] at H
        obtain ⟨rfl, rfl, rfl, rfl, rfl, rfl, rfl, rfl⟩ := H
        have hnb28 := NB868_871.out
        have hnc28 := NB871_868.out
        obtain ⟨hcz29_0, hcz29_1, hcz29_2, hcz29_3, hcz29_4, hcz29_5⟩ := cells6 BK868.out
        obtain ⟨hfz29_0, hfz29_1, hfz29_2, hfz29_3, hfz29_4, hfz29_5⟩ := froz6 BK868.out
        go_wp2
        refine bodyPost_ret (results_ctt rfl _ _ gb868 26 #[.int .i64 0, .int .i64 0, .int .i64 0, .bool false, .slice none 0 0, .string (⟨#[]⟩ : ByteArray)] (0, 0) _ rfl (bp BK868.out) Try.underlying26 rfl (by kernel_rfl)) rfl ?_
        exact ⟨_, er, by first | exact Kd.R_nil _ _ _ _ _ | exact Kd.N_nil _ _ _ _ _ | exact Kd.V_nil _ _ _ _ _ | exact Kd.Q_nil _ _ _ _ _ | exact Kd.S_nil _ _ _ _ _, by repeat (first | (with_reducible first | exact HB.out | apply below_alloc | apply pw_below_drewN | apply below_drew1 | refine below_set ?_ (IsS65.ge HI871.out) | refine below_set ?_ GE868.out | refine below_set ?_ GE872.out) | exact HB.out)⟩
       ·replace c18 := Bool.eq_false_iff.mpr c18
        subst c18
        have H1 : (if t884 = true then (if t883.toList = a0.toList then (some (t873, t874, t875, t876, t877, t880, ((bt a0 0) - 48) % 256, true)) else (some (0, 0, 0, false, ([] : List (S40)), (⟨#[]⟩ : ByteArray), 0, false))) else (some (0, 0, 0, false, ([] : List (S40)), (⟨#[]⟩ : ByteArray), 0, false))) = some (r1, r2, r3, r4, r5, r6, r7, r8) := by rw [if_neg (show ¬ (false = true) by decide)] at H; exact H
        clear H
        have H := H1
        clear H1
        by_cases c30 : t884 = true
        ·subst c30
         have H1 : (if t883.toList = a0.toList then (some (t873, t874, t875, t876, t877, t880, ((bt a0 0) - 48) % 256, true)) else (some (0, 0, 0, false, ([] : List (S40)), (⟨#[]⟩ : ByteArray), 0, false))) = some (r1, r2, r3, r4, r5, r6, r7, r8) := by rw [if_pos rfl] at H; exact H
         clear H
         have H := H1
         clear H1
         by_cases c31 : t883.toList = a0.toList
         ·rw [if_pos c31] at H
          have c31b0 : (t883.toList == a0.toList) = true := beq_iff_eq.mpr c31
          have c31b1 : (t883.toList != a0.toList) = false := bne_eq_false_iff_eq.mpr c31
          clear c31
          simp only [Option.some.injEq, Prod.mk.injEq] at H
          obtain ⟨rfl, rfl, rfl, rfl, rfl, rfl, rfl, rfl⟩ := H
          obtain ⟨hcz41_0, hcz41_1, hcz41_2, hcz41_3, hcz41_4, hcz41_5⟩ := cells6 BK872.out
          obtain ⟨hfz41_0, hfz41_1, hfz41_2, hfz41_3, hfz41_4, hfz41_5⟩ := froz6 BK872.out
          have hnb42 := NB868_871.out
          have hnc42 := NB871_868.out
          obtain ⟨hcz43_0, hcz43_1, hcz43_2, hcz43_3, hcz43_4, hcz43_5⟩ := cells6 BK868.out
          obtain ⟨hfz43_0, hfz43_1, hfz43_2, hfz43_3, hfz43_4, hfz43_5⟩ := froz6 BK868.out
          go_wp2
          refine bodyPost_ret (results_ctt rfl _ _ gb868 26 #[.int .i64 t873, .int .i64 t874, .int .i64 t875, .bool t876, .slice Ao25 t877.length co25, .string t880] (0, 0) _ rfl (bp BK868.out) Try.underlying26 rfl (by kernel_rfl)) rfl ?_
          exact ⟨_, er, by (with_reducible repeat (first | apply Kd.R_alloc | apply Kd.R_drewN | apply Kd.R_drew)); exact Kd.R_mono (Kd.R_far (p := ⟨gb868, 5, none⟩) (Kd.R_far (p := ⟨gb868, 4, none⟩) (Kd.R_far (p := ⟨gb868, 3, none⟩) (Kd.R_far (p := ⟨gb868, 2, none⟩) (Kd.R_far (p := ⟨gb868, 1, none⟩) (Kd.R_far (p := ⟨gb868, 0, none⟩) (Kd.R_types HO879.out BK868.out (by decide)) (fun _ hk => hk.2) (.int .i64 t873)) (fun _ hk => hk.2) (.int .i64 t874)) (fun _ hk => hk.2) (.int .i64 t875)) (fun _ hk => hk.2) (.bool t876)) (fun _ hk => hk.2) (.slice Ao25 t877.length co25)) (fun _ hk => hk.2) (.string t880)) (fun _ hk => trivial), by repeat (first | (with_reducible first | exact HB.out | apply below_alloc | apply pw_below_drewN | apply below_drew1 | refine below_set ?_ (IsS65.ge HI871.out) | refine below_set ?_ GE868.out | refine below_set ?_ GE872.out) | exact HB.out)⟩
         ·rw [if_neg c31] at H
          have c31b0 : (t883.toList == a0.toList) = false := beq_eq_false_iff_ne.mpr c31
          have c31b1 : (t883.toList != a0.toList) = true := bne_iff_ne.mpr c31
          simp only [Option.some.injEq, Prod.mk.injEq] at H
          obtain ⟨rfl, rfl, rfl, rfl, rfl, rfl, rfl, rfl⟩ := H
          have hnb53 := NB868_871.out
          have hnc53 := NB871_868.out
          obtain ⟨hcz54_0, hcz54_1, hcz54_2, hcz54_3, hcz54_4, hcz54_5⟩ := cells6 BK868.out
          obtain ⟨hfz54_0, hfz54_1, hfz54_2, hfz54_3, hfz54_4, hfz54_5⟩ := froz6 BK868.out
          go_wp2
          refine bodyPost_ret (results_ctt rfl _ _ gb868 26 #[.int .i64 0, .int .i64 0, .int .i64 0, .bool false, .slice none 0 0, .string (⟨#[]⟩ : ByteArray)] (0, 0) _ rfl (bp BK868.out) Try.underlying26 rfl (by kernel_rfl)) rfl ?_
          exact ⟨_, er, by first | exact Kd.R_nil _ _ _ _ _ | exact Kd.N_nil _ _ _ _ _ | exact Kd.V_nil _ _ _ _ _ | exact Kd.Q_nil _ _ _ _ _ | exact Kd.S_nil _ _ _ _ _, by repeat (first | (with_reducible first | exact HB.out | apply below_alloc | apply pw_below_drewN | apply below_drew1 | refine below_set ?_ (IsS65.ge HI871.out) | refine below_set ?_ GE868.out | refine below_set ?_ GE872.out) | exact HB.out)⟩
        ·replace c30 := Bool.eq_false_iff.mpr c30
         subst c30
         have H1 : (some (0, 0, 0, false, ([] : List (S40)), (⟨#[]⟩ : ByteArray), 0, false)) = some (r1, r2, r3, r4, r5, r6, r7, r8) := by rw [if_neg (show ¬ (false = true) by decide)] at H; exact H
         clear H
         have H := H1
         clear H1
         simp only [Option.some.injEq, Prod.mk.injEq] at H
         obtain ⟨rfl, rfl, rfl, rfl, rfl, rfl, rfl, rfl⟩ := H
         have hnb64 := NB868_871.out
         have hnc64 := NB871_868.out
         obtain ⟨hcz65_0, hcz65_1, hcz65_2, hcz65_3, hcz65_4, hcz65_5⟩ := cells6 BK868.out
         obtain ⟨hfz65_0, hfz65_1, hfz65_2, hfz65_3, hfz65_4, hfz65_5⟩ := froz6 BK868.out
         go_wp2
         refine bodyPost_ret (results_ctt rfl _ _ gb868 26 #[.int .i64 0, .int .i64 0, .int .i64 0, .bool false, .slice none 0 0, .string (⟨#[]⟩ : ByteArray)] (0, 0) _ rfl (bp BK868.out) Try.underlying26 rfl (by kernel_rfl)) rfl ?_
         exact ⟨_, er, by first | exact Kd.R_nil _ _ _ _ _ | exact Kd.N_nil _ _ _ _ _ | exact Kd.V_nil _ _ _ _ _ | exact Kd.Q_nil _ _ _ _ _ | exact Kd.S_nil _ _ _ _ _, by repeat (first | (with_reducible first | exact HB.out | apply below_alloc | apply pw_below_drewN | apply below_drew1 | refine below_set ?_ (IsS65.ge HI871.out) | refine below_set ?_ GE868.out | refine below_set ?_ GE872.out) | exact HB.out)⟩
      ·rw [if_neg c15] at H
       have c15b0 : ((((bt a0 0) - 48) % 256) == 1) = false := beq_eq_false_iff_ne.mpr c15
       have c15b1 : ((((bt a0 0) - 48) % 256) != 1) = true := bne_iff_ne.mpr c15
       replace H := Option.bind_eq_some_iff.mp H
       obtain ⟨⟨t885, t886, t887, t888, t889, t892, t893, t894⟩, A660, H⟩ := H
       replace H : ((federationref7_Encode.f kj1 t885 t886 t887 t888 t889 t892 (((bt a0 0) - 48) % 256)).bind fun bt895 => (if t894 = true then (some (0, 0, 0, false, ([] : List (S40)), (⟨#[]⟩ : ByteArray), 0, false)) else (if bt895.2 = true then (if bt895.1.toList = a0.toList then (some (t885, t886, t887, t888, t889, t892, ((bt a0 0) - 48) % 256, true)) else (some (0, 0, 0, false, ([] : List (S40)), (⟨#[]⟩ : ByteArray), 0, false))) else (some (0, 0, 0, false, ([] : List (S40)), (⟨#[]⟩ : ByteArray), 0, false))))) = some (r1, r2, r3, r4, r5, r6, r7, r8) := H
       have A66 := am A660
       clear A660
       replace H := Option.bind_eq_some_iff.mp H
       obtain ⟨⟨t895, t896⟩, A670, H⟩ := H
       replace H : (if t894 = true then (some (0, 0, 0, false, ([] : List (S40)), (⟨#[]⟩ : ByteArray), 0, false)) else (if t896 = true then (if t895.toList = a0.toList then (some (t885, t886, t887, t888, t889, t892, ((bt a0 0) - 48) % 256, true)) else (some (0, 0, 0, false, ([] : List (S40)), (⟨#[]⟩ : ByteArray), 0, false))) else (some (0, 0, 0, false, ([] : List (S40)), (⟨#[]⟩ : ByteArray), 0, false)))) = some (r1, r2, r3, r4, r5, r6, r7, r8) := H
       have A67 := am A670
       clear A670
       have p12 : 0 ≤ (0 : Int) := (by omega)
       have q12 : 0 < a0.size := (by have : (0 : Int) < (a0.size : Int) := of_decide_eq_true (by first | (with_reducible assumption) | assumption); omega)
       have hx12 : ∀ h : 0 < a0.size, ((a0[0]'h).toNat : Int) = bt a0 0 := bt_at a0 0
       clear p12
       have qi12 : (0 < (a0.size : Int)) = True := eq_true (of_decide_eq_true (by first | (with_reducible assumption) | assumption))
       replace q12 := eq_true q12
       go_upto_region 10 with (first | ((with_reducible refine gate_dst (N := 31) rfl ?_); refine bx 31 65 (cs := #[.string (a0.extract 1 a0.size), .bool false]) ?_; intro g871 hg_ w69 hbox_ hb2; have hb := below_step bel hb2; have hi : IsS65 w _ g871 t869 t870 := (by have ea_ := A14.out; simp only [own_new65.f, Option.some.injEq, Prod.mk.injEq] at ea_; rw [← ea_.1, ← ea_.2]; exact ⟨hbox_, by rw [hg_]; exact below_size bel⟩); clear hg_ hbox_; have n_ := z5 (blk_below (bk BK868.out) hb2) (hb) (hi) (IsS65.ne_blk hi (blk_below (bk BK868.out) hb2) (by decide)) (Ne.symm (IsS65.ne_blk hi (blk_below (bk BK868.out) hb2) (by decide))); clear BK868 HB; obtain ⟨BK868, HB, HI871, NB871_868, NB868_871⟩ := n_; (try clear hb); (try clear hb2); (try clear hk); (try clear hi)) | ((with_reducible refine gate_dst (N := 7) rfl ?_); refine bx 7 26 (cs := #[.int .i64 0, .int .i64 0, .int .i64 0, .bool false, .slice none 0 0, .string (⟨#[]⟩ : ByteArray)]) ?_; intro gb872 hg w70 hbox hb; have n_ := z10 (blk_below (bk BK868.out) hb) (IsS65.below (by repeat (first | (with_reducible first | exact HI871.out | apply IsS65.alloc | apply IsS65.drewN | apply IsS65.drew | apply IsS65.set_0 | apply IsS65.set_1 | refine IsS65.far ?_ NB871_868.out _) | exact HI871.out)) hb) (below_step (by repeat (first | (with_reducible first | exact HB.out | apply below_alloc | apply pw_below_drewN | apply below_drew1 | refine below_set ?_ (IsS65.ge HI871.out) | refine below_set ?_ GE868.out) | exact HB.out)) hb) (hbox) ((by rw [hg]; exact (below_size (by repeat (first | (with_reducible first | exact HB.out | apply below_alloc | apply pw_below_drewN | apply below_drew1 | refine below_set ?_ (IsS65.ge HI871.out) | refine below_set ?_ GE868.out) | exact HB.out))) : w.heap.size ≤ gb872)) ((by rw [hg]; exact (below_size (by repeat (first | (with_reducible first | exact HB.out | apply below_alloc | apply pw_below_drewN | apply below_drew1 | refine below_set ?_ (IsS65.ge HI871.out) | refine below_set ?_ GE868.out) | exact HB.out))) : w.heap.size ≤ gb872)) ((by rw [hg]; exact Nat.ne_of_lt (blk_lt (bk BK868.out)) : gb868 ≠ gb872)) ((by rw [hg]; exact Nat.ne_of_gt (blk_lt (bk BK868.out)) : gb872 ≠ gb868)) ((by rw [hg]; exact Nat.ne_of_lt (IsS65.lt (show IsS65 w _ g871 t869 t870 from by repeat (first | (with_reducible first | exact HI871.out | apply IsS65.alloc | apply IsS65.drewN | apply IsS65.drew | apply IsS65.set_0 | apply IsS65.set_1 | refine IsS65.far ?_ NB871_868.out _) | exact HI871.out))) : g871 ≠ gb872)) ((by rw [hg]; exact Nat.ne_of_gt (IsS65.lt (show IsS65 w _ g871 t869 t870 from by repeat (first | (with_reducible first | exact HI871.out | apply IsS65.alloc | apply IsS65.drewN | apply IsS65.drew | apply IsS65.set_0 | apply IsS65.set_1 | refine IsS65.far ?_ NB871_868.out _) | exact HI871.out))) : gb872 ≠ g871)); clear BK868 HI871 HB; obtain ⟨BK868, HI871, HB, BK872, GW872, GE872, NB868_872, NB872_868, NB871_872, NB872_871⟩ := n_; clear hb hbox hg) | ((with_reducible refine gate_callee (f := 34) rfl ?_); refine goesL_ (some 37) rfl rfl Try.func34 (by kernel_rfl) rfl #[.pointer (some ⟨g871, 0, none⟩)] rfl ar ?_; (with_reducible refine (federationref7_reader_second.calls kj1 g871 t869 t870 t885 t886 t887 t888 t889 t892 t893 t894 w _ ?side1 ?side2 A66.out).mono ?_); (case side1 => repeat (first | (with_reducible first | exact HI871.out | apply IsS65.alloc | apply IsS65.drewN | apply IsS65.drew | apply IsS65.set_0 | apply IsS65.set_1 | refine IsS65.far ?_ NB871_868.out _ | refine IsS65.far ?_ NB871_872.out _) | exact HI871.out)); (case side2 => repeat (first | (with_reducible first | exact HB.out | apply below_alloc | apply pw_below_drewN | apply below_drew1 | refine below_set ?_ (IsS65.ge HI871.out) | refine below_set ?_ GE868.out | refine below_set ?_ GE872.out) | exact HB.out)); rintro e w71 ⟨v890, rfl, ho0, hi, hb, hk⟩; refine ⟨_, rfl, ?_⟩; have n_ := z5 (KeepBut.blk hk (g' := gb868) (o := .cells #[.int .i64 0, .int .i64 0, .int .i64 0, .bool false, .slice none 0 0, .string (⟨#[]⟩ : ByteArray)] 26 (0, 0)) (bk BK868.out) NB868_871.out (by simp)) (KeepBut.blk hk (g' := gb872) (o := .cells #[.int .i64 0, .int .i64 0, .int .i64 0, .bool false, .slice none 0 0, .string (⟨#[]⟩ : ByteArray)] 26 (0, 0)) (bk BK872.out) NB872_871.out (by simp)) (Kd.R_lower ho0 (below_size (by repeat (first | (with_reducible first | exact HB.out | apply below_alloc | apply pw_below_drewN | apply below_drew1 | refine below_set ?_ (IsS65.ge HI871.out) | refine below_set ?_ GE868.out | refine below_set ?_ GE872.out) | exact HB.out)))) (hb) (hi); clear BK868 BK872 HB HI871; obtain ⟨BK868, BK872, HO891, HB, HI871⟩ := n_; (try clear hb); (try clear hb2); (try clear hk); (try clear hi); (try clear ho0); have hnb72 := NB872_868.out; have hnc72 := NB868_872.out; have hnb73 := NB872_871.out; have hnc73 := NB871_872.out; obtain ⟨hcz74_0, hcz74_1, hcz74_2, hcz74_3, hcz74_4, hcz74_5⟩ := cells6 BK872.out; obtain ⟨hfz74_0, hfz74_1, hfz74_2, hfz74_3, hfz74_4, hfz74_5⟩ := froz6 BK872.out; obtain ⟨Ao75, co75, eo75⟩ := Kd.R_slice HO891.out; subst eo75) | ((with_reducible refine gate_callee (f := 17) rfl ?_); refine goesL_ (some 41) rfl rfl Try.func17 (by kernel_rfl) rfl #[.agg #[.int .i64 t885, .int .i64 t886, .int .i64 t887, .bool t888, .slice Ao75 t889.length co75, .string t892], .int .i64 (((bt a0 0) - 48) % 256)] rfl ar ?_; (with_reducible refine (federationref7_Encode.calls kj1 t885 t886 t887 t888 _ _ t889 t892 (((bt a0 0) - 48) % 256) t895 t896 _ ?side1 ?side2 A67.out).mono ?_); (case side1 => refine (Kd.R_reads' (e := 40) (base := w.heap.size) (ok := fun k_ => True) (n := t889.length) (c := co75) ?_).2.2; exact (by (with_reducible repeat (first | apply Kd.R_alloc | apply Kd.R_drewN | apply Kd.R_drew)); exact (Kd.R_mono (Kd.R_far (p := ⟨gb872, 5, none⟩) (Kd.R_far (p := ⟨gb872, 4, none⟩) (Kd.R_far (p := ⟨gb872, 3, none⟩) (Kd.R_far (p := ⟨gb872, 2, none⟩) (Kd.R_far (p := ⟨gb872, 1, none⟩) (Kd.R_far (p := ⟨gb872, 0, none⟩) (Kd.R_types HO891.out BK872.out (by decide)) (fun _ hk => hk.2) (.int .i64 t885)) (fun _ hk => hk.2) (.int .i64 t886)) (fun _ hk => hk.2) (.int .i64 t887)) (fun _ hk => hk.2) (.bool t888)) (fun _ hk => hk.2) (.slice Ao75 t889.length co75)) (fun _ hk => hk.2) (.string t892)) (fun _ h_ => h_.1)))); (case side2 => exact (Kd.R_reads' HO891.out).2.1); rintro e w76 ⟨rfl, hb⟩; refine ⟨_, rfl, ?_⟩; have n_ := z5 (Kd.R_below (by (with_reducible repeat (first | apply Kd.R_alloc | apply Kd.R_drewN | apply Kd.R_drew)); exact (Kd.R_mono (Kd.R_far (p := ⟨gb872, 5, none⟩) (Kd.R_far (p := ⟨gb872, 4, none⟩) (Kd.R_far (p := ⟨gb872, 3, none⟩) (Kd.R_far (p := ⟨gb872, 2, none⟩) (Kd.R_far (p := ⟨gb872, 1, none⟩) (Kd.R_far (p := ⟨gb872, 0, none⟩) (Kd.R_types HO891.out BK872.out (by decide)) (fun _ hk => hk.2) (.int .i64 t885)) (fun _ hk => hk.2) (.int .i64 t886)) (fun _ hk => hk.2) (.int .i64 t887)) (fun _ hk => hk.2) (.bool t888)) (fun _ hk => hk.2) (.slice Ao75 t889.length co75)) (fun _ hk => hk.2) (.string t892)) (fun _ h_ => h_.1))) hb) (blk_below (bk BK868.out) hb) (IsS65.below (show IsS65 w ((((((w71.setCell ⟨gb872, 0, none⟩ (.int .i64 t885)).setCell ⟨gb872, 1, none⟩ (.int .i64 t886)).setCell ⟨gb872, 2, none⟩ (.int .i64 t887)).setCell ⟨gb872, 3, none⟩ (.bool t888)).setCell ⟨gb872, 4, none⟩ (.slice Ao75 t889.length co75)).setCell ⟨gb872, 5, none⟩ (.string t892)) g871 t893 t894 from by repeat (first | (with_reducible first | exact HI871.out | apply IsS65.alloc | apply IsS65.drewN | apply IsS65.drew | apply IsS65.set_0 | apply IsS65.set_1 | refine IsS65.far ?_ NB871_868.out _ | refine IsS65.far ?_ NB871_872.out _) | exact HI871.out)) hb) (blk_below (g := gb872) (o := .cells #[.int .i64 t885, .int .i64 t886, .int .i64 t887, .bool t888, .slice Ao75 t889.length co75, .string t892] 26 (0, 0)) (bp BK872.out) hb) (below_step (by repeat (first | (with_reducible first | exact HB.out | apply below_alloc | apply pw_below_drewN | apply below_drew1 | refine below_set ?_ (IsS65.ge HI871.out) | refine below_set ?_ GE868.out | refine below_set ?_ GE872.out) | exact HB.out)) hb); clear HO891 BK868 HI871 BK872 HB; obtain ⟨HO891, BK868, HI871, BK872, HB⟩ := n_; (try clear hb); (try clear hb2); (try clear hk); (try clear hi); obtain ⟨HGz77, hgz77⟩ := HI871.out; have hcz77_0 := cellS65_0 HGz77; have hcz77_1 := cellS65_1 HGz77; have hfz77_0 := blk_frozen HGz77 0; have hfz77_1 := blk_frozen HGz77 1; clear HGz77 hgz77))
       by_cases c68 : t894 = true
       ·subst c68
        have H1 : (some (0, 0, 0, false, ([] : List (S40)), (⟨#[]⟩ : ByteArray), 0, false)) = some (r1, r2, r3, r4, r5, r6, r7, r8) := by rw [if_pos rfl] at H; exact H
        clear H
        have H := H1
        clear H1
        simp only [Option.some.injEq, Prod.mk.injEq] at H
        obtain ⟨rfl, rfl, rfl, rfl, rfl, rfl, rfl, rfl⟩ := H
        have hnb78 := NB868_871.out
        have hnc78 := NB871_868.out
        obtain ⟨hcz79_0, hcz79_1, hcz79_2, hcz79_3, hcz79_4, hcz79_5⟩ := cells6 BK868.out
        obtain ⟨hfz79_0, hfz79_1, hfz79_2, hfz79_3, hfz79_4, hfz79_5⟩ := froz6 BK868.out
        go_wp2
        refine bodyPost_ret (results_ctt rfl _ _ gb868 26 #[.int .i64 0, .int .i64 0, .int .i64 0, .bool false, .slice none 0 0, .string (⟨#[]⟩ : ByteArray)] (0, 0) _ rfl (bp BK868.out) Try.underlying26 rfl (by kernel_rfl)) rfl ?_
        exact ⟨_, er, by first | exact Kd.R_nil _ _ _ _ _ | exact Kd.N_nil _ _ _ _ _ | exact Kd.V_nil _ _ _ _ _ | exact Kd.Q_nil _ _ _ _ _ | exact Kd.S_nil _ _ _ _ _, by repeat (first | (with_reducible first | exact HB.out | apply below_alloc | apply pw_below_drewN | apply below_drew1 | refine below_set ?_ (IsS65.ge HI871.out) | refine below_set ?_ GE868.out | refine below_set ?_ GE872.out) | exact HB.out)⟩
       ·replace c68 := Bool.eq_false_iff.mpr c68
        subst c68
        have H1 : (if t896 = true then (if t895.toList = a0.toList then (some (t885, t886, t887, t888, t889, t892, ((bt a0 0) - 48) % 256, true)) else (some (0, 0, 0, false, ([] : List (S40)), (⟨#[]⟩ : ByteArray), 0, false))) else (some (0, 0, 0, false, ([] : List (S40)), (⟨#[]⟩ : ByteArray), 0, false))) = some (r1, r2, r3, r4, r5, r6, r7, r8) := by rw [if_neg (show ¬ (false = true) by decide)] at H; exact H
        clear H
        have H := H1
        clear H1
        by_cases c80 : t896 = true
        ·subst c80
         have H1 : (if t895.toList = a0.toList then (some (t885, t886, t887, t888, t889, t892, ((bt a0 0) - 48) % 256, true)) else (some (0, 0, 0, false, ([] : List (S40)), (⟨#[]⟩ : ByteArray), 0, false))) = some (r1, r2, r3, r4, r5, r6, r7, r8) := by rw [if_pos rfl] at H; exact H
         clear H
         have H := H1
         clear H1
         by_cases c81 : t895.toList = a0.toList
         ·rw [if_pos c81] at H
          have c81b0 : (t895.toList == a0.toList) = true := beq_iff_eq.mpr c81
          have c81b1 : (t895.toList != a0.toList) = false := bne_eq_false_iff_eq.mpr c81
          clear c81
          simp only [Option.some.injEq, Prod.mk.injEq] at H
          obtain ⟨rfl, rfl, rfl, rfl, rfl, rfl, rfl, rfl⟩ := H
          obtain ⟨hcz91_0, hcz91_1, hcz91_2, hcz91_3, hcz91_4, hcz91_5⟩ := cells6 BK872.out
          obtain ⟨hfz91_0, hfz91_1, hfz91_2, hfz91_3, hfz91_4, hfz91_5⟩ := froz6 BK872.out
          have hnb92 := NB868_871.out
          have hnc92 := NB871_868.out
          obtain ⟨hcz93_0, hcz93_1, hcz93_2, hcz93_3, hcz93_4, hcz93_5⟩ := cells6 BK868.out
          obtain ⟨hfz93_0, hfz93_1, hfz93_2, hfz93_3, hfz93_4, hfz93_5⟩ := froz6 BK868.out
          go_wp2
          refine bodyPost_ret (results_ctt rfl _ _ gb868 26 #[.int .i64 t885, .int .i64 t886, .int .i64 t887, .bool t888, .slice Ao75 t889.length co75, .string t892] (0, 0) _ rfl (bp BK868.out) Try.underlying26 rfl (by kernel_rfl)) rfl ?_
          exact ⟨_, er, by (with_reducible repeat (first | apply Kd.R_alloc | apply Kd.R_drewN | apply Kd.R_drew)); exact Kd.R_mono (Kd.R_far (p := ⟨gb868, 5, none⟩) (Kd.R_far (p := ⟨gb868, 4, none⟩) (Kd.R_far (p := ⟨gb868, 3, none⟩) (Kd.R_far (p := ⟨gb868, 2, none⟩) (Kd.R_far (p := ⟨gb868, 1, none⟩) (Kd.R_far (p := ⟨gb868, 0, none⟩) (Kd.R_types HO891.out BK868.out (by decide)) (fun _ hk => hk.2) (.int .i64 t885)) (fun _ hk => hk.2) (.int .i64 t886)) (fun _ hk => hk.2) (.int .i64 t887)) (fun _ hk => hk.2) (.bool t888)) (fun _ hk => hk.2) (.slice Ao75 t889.length co75)) (fun _ hk => hk.2) (.string t892)) (fun _ hk => trivial), by repeat (first | (with_reducible first | exact HB.out | apply below_alloc | apply pw_below_drewN | apply below_drew1 | refine below_set ?_ (IsS65.ge HI871.out) | refine below_set ?_ GE868.out | refine below_set ?_ GE872.out) | exact HB.out)⟩
         ·rw [if_neg c81] at H
          have c81b0 : (t895.toList == a0.toList) = false := beq_eq_false_iff_ne.mpr c81
          have c81b1 : (t895.toList != a0.toList) = true := bne_iff_ne.mpr c81
          simp only [Option.some.injEq, Prod.mk.injEq] at H
          obtain ⟨rfl, rfl, rfl, rfl, rfl, rfl, rfl, rfl⟩ := H
          have hnb103 := NB868_871.out
          have hnc103 := NB871_868.out
          obtain ⟨hcz104_0, hcz104_1, hcz104_2, hcz104_3, hcz104_4, hcz104_5⟩ := cells6 BK868.out
          obtain ⟨hfz104_0, hfz104_1, hfz104_2, hfz104_3, hfz104_4, hfz104_5⟩ := froz6 BK868.out
          go_wp2
          refine bodyPost_ret (results_ctt rfl _ _ gb868 26 #[.int .i64 0, .int .i64 0, .int .i64 0, .bool false, .slice none 0 0, .string (⟨#[]⟩ : ByteArray)] (0, 0) _ rfl (bp BK868.out) Try.underlying26 rfl (by kernel_rfl)) rfl ?_
          exact ⟨_, er, by first | exact Kd.R_nil _ _ _ _ _ | exact Kd.N_nil _ _ _ _ _ | exact Kd.V_nil _ _ _ _ _ | exact Kd.Q_nil _ _ _ _ _ | exact Kd.S_nil _ _ _ _ _, by repeat (first | (with_reducible first | exact HB.out | apply below_alloc | apply pw_below_drewN | apply below_drew1 | refine below_set ?_ (IsS65.ge HI871.out) | refine below_set ?_ GE868.out | refine below_set ?_ GE872.out) | exact HB.out)⟩
        ·replace c80 := Bool.eq_false_iff.mpr c80
         subst c80
         have H1 : (some (0, 0, 0, false, ([] : List (S40)), (⟨#[]⟩ : ByteArray), 0, false)) = some (r1, r2, r3, r4, r5, r6, r7, r8) := by rw [if_neg (show ¬ (false = true) by decide)] at H; exact H
         clear H
         have H := H1
         clear H1
         simp only [Option.some.injEq, Prod.mk.injEq] at H
         obtain ⟨rfl, rfl, rfl, rfl, rfl, rfl, rfl, rfl⟩ := H
         have hnb114 := NB868_871.out
         have hnc114 := NB871_868.out
         obtain ⟨hcz115_0, hcz115_1, hcz115_2, hcz115_3, hcz115_4, hcz115_5⟩ := cells6 BK868.out
         obtain ⟨hfz115_0, hfz115_1, hfz115_2, hfz115_3, hfz115_4, hfz115_5⟩ := froz6 BK868.out
         go_wp2
         refine bodyPost_ret (results_ctt rfl _ _ gb868 26 #[.int .i64 0, .int .i64 0, .int .i64 0, .bool false, .slice none 0 0, .string (⟨#[]⟩ : ByteArray)] (0, 0) _ rfl (bp BK868.out) Try.underlying26 rfl (by kernel_rfl)) rfl ?_
         exact ⟨_, er, by first | exact Kd.R_nil _ _ _ _ _ | exact Kd.N_nil _ _ _ _ _ | exact Kd.V_nil _ _ _ _ _ | exact Kd.Q_nil _ _ _ _ _ | exact Kd.S_nil _ _ _ _ _, by repeat (first | (with_reducible first | exact HB.out | apply below_alloc | apply pw_below_drewN | apply below_drew1 | refine below_set ?_ (IsS65.ge HI871.out) | refine below_set ?_ GE868.out | refine below_set ?_ GE872.out) | exact HB.out)⟩
     ·rw [if_neg c13] at H
      exact absurd H (by simp)
    ·rw [if_neg c11] at H
     exact absurd H (by simp)
def federationref7_Up.f (k : Nat) (a0 : ByteArray) : Option (ByteArray × Bool) := (federationref7_Decode.f k a0).bind fun bt897 => (if bt897.2.2.2.2.2.2.2 = true then ((federationref7_Encode.f k bt897.1 bt897.2.1 bt897.2.2.1 bt897.2.2.2.1 bt897.2.2.2.2.1 bt897.2.2.2.2.2.1 2).bind fun bt908 => (some (bt908.1, bt908.2))) else (some ((⟨#[]⟩ : ByteArray), false)))
theorem federationref7_Up.mono : ∀ a0 k, LeO (federationref7_Up.f k a0) (federationref7_Up.f (k + 1) a0) := by
  intro a0 k
  unfold federationref7_Up.f
  repeat' first
      | (with_reducible exact federationref7_Decode.mono _ _)
      | (with_reducible exact federationref7_Encode.mono _ _ _ _ _ _ _ _)
      | (with_reducible exact LeO.refl _)
      | (with_reducible exact LeO.none _)
      | (with_reducible refine LeO.ite ?_ ?_)
      | (with_reducible refine LeO.bind ?_ (fun _ => ?_))
set_option maxHeartbeats 8000000 in
set_option maxRecDepth 100000 in
theorem federationref7_Up.calls (k : Nat) (a0 : ByteArray) (r1 : ByteArray) (r2 : Bool) (w : World) (h : federationref7_Up.f k a0 = some (r1, r2)) :
  Calls Try.prog 22 #[.string a0] w fun e w' => e = .returned (.tuple #[.string r1, .bool r2]) ∧ Below w.heap.size w w' := by
 have hu26 := Try.underlying26
 have HB := am (Below.refl w.heap.size w)
 have H : ((federationref7_Decode.f k a0).bind fun bt897 => (if bt897.2.2.2.2.2.2.2 = true then ((federationref7_Encode.f k bt897.1 bt897.2.1 bt897.2.2.1 bt897.2.2.2.1 bt897.2.2.2.2.1 bt897.2.2.2.2.2.1 2).bind fun bt908 => (some (bt908.1, bt908.2))) else (some ((⟨#[]⟩ : ByteArray), false)))) = some (r1, r2) := h
 clear h
 replace H := Option.bind_eq_some_iff.mp H
 obtain ⟨⟨t897, t898, t899, t900, t901, t904, t905, t906⟩, A20, H⟩ := H
 replace H : (if t906 = true then ((federationref7_Encode.f k t897 t898 t899 t900 t901 t904 2).bind fun bt908 => (some (bt908.1, bt908.2))) else (some ((⟨#[]⟩ : ByteArray), false))) = some (r1, r2) := H
 have A2 := am A20
 clear A20
 go_enter Try.func22, Try.ntmps22
 go_upto_region 2 with (first | ((with_reducible refine gate_callee (f := 20) rfl ?_); refine goesL_ (some 9) rfl rfl Try.func20 (by kernel_rfl) rfl #[.string a0] rfl ar ?_; (with_reducible refine (federationref7_Decode.calls k a0 t897 t898 t899 t900 t901 t904 t905 t906 _ A2.out).mono ?_); rintro e w5 ⟨v902, rfl, ho0, hb⟩; refine ⟨_, rfl, ?_⟩; have n_ := z2 (Kd.R_lower ho0 (below_size bel)) (below_step bel hb); clear HB; obtain ⟨HO903, HB⟩ := n_; (try clear hb); (try clear hb2); (try clear hk); (try clear hi); (try clear ho0)) | ((with_reducible refine gate_dst (N := 4) rfl ?_); refine bx 4 26 (cs := #[.int .i64 0, .int .i64 0, .int .i64 0, .bool false, .slice none 0 0, .string (⟨#[]⟩ : ByteArray)]) ?_; intro gb907 hg w6 hbox hb; have n_ := z5 (Kd.R_below (kr HO903.out) hb) (below_step bel hb) (hbox) ((by rw [hg]; exact (below_size bel) : w.heap.size ≤ gb907)) ((by rw [hg]; exact (below_size bel) : w.heap.size ≤ gb907)); clear HO903 HB; obtain ⟨HO903, HB, BK907, GW907, GE907⟩ := n_; clear hb hbox hg; obtain ⟨hcz7_0, hcz7_1, hcz7_2, hcz7_3, hcz7_4, hcz7_5⟩ := cells6 BK907.out; obtain ⟨hfz7_0, hfz7_1, hfz7_2, hfz7_3, hfz7_4, hfz7_5⟩ := froz6 BK907.out; obtain ⟨Ao8, co8, eo8⟩ := Kd.R_slice HO903.out; subst eo8))
 by_cases c3 : t906 = true
 ·subst c3
  have H1 : ((federationref7_Encode.f k t897 t898 t899 t900 t901 t904 2).bind fun bt908 => (some (bt908.1, bt908.2))) = some (r1, r2) := by rw [if_pos rfl] at H; exact H
  clear H
  have H := H1
  clear H1
  replace H := Option.bind_eq_some_iff.mp H
  obtain ⟨⟨t908, t909⟩, A40, H⟩ := H
  replace H : (some (t908, t909)) = some (r1, r2) := H
  have A4 := am A40
  clear A40
  simp only [Option.some.injEq, Prod.mk.injEq] at H
  obtain ⟨rfl, rfl⟩ := H
  go_wp2_with (first | ((with_reducible refine gate_callee (f := 17) rfl ?_); refine goesL_ (some 16) rfl rfl Try.func17 (by kernel_rfl) rfl #[.agg #[.int .i64 t897, .int .i64 t898, .int .i64 t899, .bool t900, .slice Ao8 t901.length co8, .string t904], .int .i64 2] rfl ar ?_; (with_reducible refine (federationref7_Encode.calls k t897 t898 t899 t900 _ _ t901 t904 2 t908 t909 _ ?side1 ?side2 A4.out).mono ?_); (case side1 => refine (Kd.R_reads' (e := 40) (base := w.heap.size) (ok := fun k_ => True) (n := t901.length) (c := co8) ?_).2.2; exact (by (with_reducible repeat (first | apply Kd.R_alloc | apply Kd.R_drewN | apply Kd.R_drew)); exact (Kd.R_mono (Kd.R_far (p := ⟨gb907, 5, none⟩) (Kd.R_far (p := ⟨gb907, 4, none⟩) (Kd.R_far (p := ⟨gb907, 3, none⟩) (Kd.R_far (p := ⟨gb907, 2, none⟩) (Kd.R_far (p := ⟨gb907, 1, none⟩) (Kd.R_far (p := ⟨gb907, 0, none⟩) (Kd.R_types HO903.out BK907.out (by decide)) (fun _ hk => hk.2) (.int .i64 t897)) (fun _ hk => hk.2) (.int .i64 t898)) (fun _ hk => hk.2) (.int .i64 t899)) (fun _ hk => hk.2) (.bool t900)) (fun _ hk => hk.2) (.slice Ao8 t901.length co8)) (fun _ hk => hk.2) (.string t904)) (fun _ h_ => h_.1)))); (case side2 => exact (Kd.R_reads' HO903.out).2.1); rintro e w9 ⟨rfl, hb⟩; refine ⟨_, rfl, ?_⟩; have n_ := z3 (Kd.R_below (by (with_reducible repeat (first | apply Kd.R_alloc | apply Kd.R_drewN | apply Kd.R_drew)); exact (Kd.R_mono (Kd.R_far (p := ⟨gb907, 5, none⟩) (Kd.R_far (p := ⟨gb907, 4, none⟩) (Kd.R_far (p := ⟨gb907, 3, none⟩) (Kd.R_far (p := ⟨gb907, 2, none⟩) (Kd.R_far (p := ⟨gb907, 1, none⟩) (Kd.R_far (p := ⟨gb907, 0, none⟩) (Kd.R_types HO903.out BK907.out (by decide)) (fun _ hk => hk.2) (.int .i64 t897)) (fun _ hk => hk.2) (.int .i64 t898)) (fun _ hk => hk.2) (.int .i64 t899)) (fun _ hk => hk.2) (.bool t900)) (fun _ hk => hk.2) (.slice Ao8 t901.length co8)) (fun _ hk => hk.2) (.string t904)) (fun _ h_ => h_.1))) hb) (blk_below (g := gb907) (o := .cells #[.int .i64 t897, .int .i64 t898, .int .i64 t899, .bool t900, .slice Ao8 t901.length co8, .string t904] 26 (0, 0)) (bp BK907.out) hb) (below_step bel hb); clear HO903 BK907 HB; obtain ⟨HO903, BK907, HB⟩ := n_; (try clear hb); (try clear hb2); (try clear hk); (try clear hi)))
  go_ret2
  exact ⟨er, bel⟩
 ·replace c3 := Bool.eq_false_iff.mpr c3
  subst c3
  have H1 : (some ((⟨#[]⟩ : ByteArray), false)) = some (r1, r2) := by rw [if_neg (show ¬ (false = true) by decide)] at H; exact H
  clear H
  have H := H1
  clear H1
  simp only [Option.some.injEq, Prod.mk.injEq] at H
  obtain ⟨rfl, rfl⟩ := H
  go_wp2
  go_ret2
  exact ⟨er, bel⟩
end Go.Proofs.Ytagjmphkfeiiiaa.Q
