/- One function's walk, or a law's, by the text that a program of this session prints; what each theorem says stands in it. -/
import Derived.Test.YtagjmphkfeiiiaaQx0
import Derived.Test.YtagjmphkfeiiiaaQx6
import Derived.Test.YtagjmphkfeiiiaaXs
namespace Go.Proofs.Ytagjmphkfeiiiaa.Q
open Go.RowKit Go.Proofs.YtagjmphkfeiiiaaW.PrintWords Go.Proofs.YtagjmphkfeiiiaaW.PrintLast Go.Proofs.YtagjmphkfeiiiaaW.PrintMore
attribute [local go_sem] min2_int min_two
set_option linter.unusedVariables false
set_option linter.unusedSimpArgs false
mutual
def cmd_reader_command1.j1 : Nat → ByteArray → Bool → Int → Int → Int → Bool → List (S40) → ByteArray → Option (Int × Int × Int × Bool × (List (S40)) × ByteArray × ByteArray × Bool)
  | 0, _, _, _, _, _, _, _, _ => none
  | k + 1, x1000, x1001, x270000, x270001, x270002, x270003, x270004, x270005 => some (x270000, x270001, x270002, x270003, x270004, x270005, x1000, x1001)
def cmd_reader_command1.l0 : Nat → Int → ByteArray → Bool → Int → Int → Int → Bool → List (S40) → ByteArray → Option (Int × Int × Int × Bool × (List (S40)) × ByteArray × ByteArray × Bool)
  | 0, _, _, _, _, _, _, _, _, _ => none
  | k + 1, x9, x1000, x1001, x270000, x270001, x270002, x270003, x270004, x270005 => if x9 > 0 then (if x1001 = true then (cmd_reader_command1.j1 k x1000 x1001 x270000 x270001 x270002 x270003 x270004 x270005) else ((cmd_reader_older.f k x1000 x1001).bind fun bt282 => (if x270004.length < 3518437208883 then (cmd_reader_command1.l0 k (wrap64 (x9 - 1)) bt282.2.2.2.1 bt282.2.2.2.2 x270000 x270001 x270002 x270003 (x270004 ++ [(⟨bt282.1, bt282.2.1, bt282.2.2.1⟩ : S40)]) x270005) else (none)))) else (cmd_reader_command1.j1 k x1000 x1001 x270000 x270001 x270002 x270003 x270004 x270005)
end
def cmd_reader_command1.f (k : Nat) (s0_0 : ByteArray) (s0_1 : Bool) (a1 : Int) : Option (Int × Int × Int × Bool × (List (S40)) × ByteArray × ByteArray × Bool) := (cmd_reader_fixed.f k s0_0 s0_1 1).bind fun bt266 => ((cmd_reader_fixed.f k bt266.2.1 bt266.2.2 8).bind fun bt270 => ((cmd_reader_fixed.f k bt270.2.1 bt270.2.2 8).bind fun bt273 => ((cmd_reader_flag.f bt273.2.1 bt273.2.2).bind fun bt276 => ((cmd_reader_fixed.f k bt276.2.1 bt276.2.2 2).bind fun bt279 => (cmd_reader_command1.l0 k bt279.1 bt279.2.1 bt279.2.2 bt266.1 bt270.1 bt273.1 bt276.1 ([] : List (S40)) (⟨#[]⟩ : ByteArray))))))
theorem cmd_reader_command1.mono_l : ∀ k, (∀ y0 y1 y2 y3 y4 y5 y6 y7, LeO (cmd_reader_command1.j1 k y0 y1 y2 y3 y4 y5 y6 y7) (cmd_reader_command1.j1 (k + 1) y0 y1 y2 y3 y4 y5 y6 y7)) ∧ (∀ y0 y1 y2 y3 y4 y5 y6 y7 y8, LeO (cmd_reader_command1.l0 k y0 y1 y2 y3 y4 y5 y6 y7 y8) (cmd_reader_command1.l0 (k + 1) y0 y1 y2 y3 y4 y5 y6 y7 y8))
  | 0 => ⟨fun _ _ _ _ _ _ _ _ r h => by simp [cmd_reader_command1.j1] at h, fun _ _ _ _ _ _ _ _ _ r h => by simp [cmd_reader_command1.l0] at h⟩
  | k + 1 => by
    obtain ⟨ih0, ih1⟩ := cmd_reader_command1.mono_l k
    refine ⟨?_, ?_⟩
    · intro y0 y1 y2 y3 y4 y5 y6 y7
      unfold cmd_reader_command1.j1
      repeat' first
      | (with_reducible exact ih0 _ _ _ _ _ _ _ _)
      | (with_reducible exact ih1 _ _ _ _ _ _ _ _ _)
      | (with_reducible exact cmd_reader_fixed.mono _ _ _ _)
      | (with_reducible exact cmd_reader_older.mono _ _ _)
      | (with_reducible exact LeO.refl _)
      | (with_reducible exact LeO.none _)
      | (with_reducible refine LeO.ite ?_ ?_)
      | (with_reducible refine LeO.bind ?_ (fun _ => ?_))
    · intro y0 y1 y2 y3 y4 y5 y6 y7 y8
      unfold cmd_reader_command1.l0
      repeat' first
      | (with_reducible exact ih0 _ _ _ _ _ _ _ _)
      | (with_reducible exact ih1 _ _ _ _ _ _ _ _ _)
      | (with_reducible exact cmd_reader_fixed.mono _ _ _ _)
      | (with_reducible exact cmd_reader_older.mono _ _ _)
      | (with_reducible exact LeO.refl _)
      | (with_reducible exact LeO.none _)
      | (with_reducible refine LeO.ite ?_ ?_)
      | (with_reducible refine LeO.bind ?_ (fun _ => ?_))
theorem cmd_reader_command1.mono : ∀ a0 a1 a2 k, LeO (cmd_reader_command1.f k a0 a1 a2) (cmd_reader_command1.f (k + 1) a0 a1 a2) := by
  intro a0 a1 a2 k
  obtain ⟨ih0, ih1⟩ := cmd_reader_command1.mono_l k
  unfold cmd_reader_command1.f
  repeat' first
      | (with_reducible exact ih0 _ _ _ _ _ _ _ _)
      | (with_reducible exact ih1 _ _ _ _ _ _ _ _ _)
      | (with_reducible exact cmd_reader_fixed.mono _ _ _ _)
      | (with_reducible exact cmd_reader_older.mono _ _ _)
      | (with_reducible exact LeO.refl _)
      | (with_reducible exact LeO.none _)
      | (with_reducible refine LeO.ite ?_ ?_)
      | (with_reducible refine LeO.bind ?_ (fun _ => ?_))
theorem cmd_reader_command_d49.calls (k gr g : Nat) (s0 : ByteArray) (s1 : Bool) (r1 : Int) (r2 : ByteArray) (r3 : Bool) (w0 w : World) (hbx : w.heap[gr]? = some (.cells #[.pointer (some ⟨g, 0, none⟩)] 58 (0, 0))) (hI : IsS60 w0 w g s0 s1) (hB : Below w0.heap.size w0 w) (h : cmd_reader_fixed.f k s0 s1 8 = some (r1, r2, r3)) :
  Calls Try.prog 49 #[.pointer (some ⟨gr, 0, none⟩)] w fun e w' => e = .returned (.int .i64 r1) ∧ IsS60 w0 w' g r2 r3 ∧ Below w0.heap.size w0 w' ∧ KeepBut w w' g none := by
 have hc : w.cell? ⟨gr, 0, none⟩ = some (.pointer (some ⟨g, 0, none⟩)) := (blk_cell hbx 0).trans rfl
 have HI := am hI
 have HB := am hB
 have H := am h
 clear hI hB h hbx
 go_enter Try.func49, Try.ntmps49
 go_wp2_with (go_at_call 50; refine (cmd_reader_fixed.calls k g s0 s1 8 r1 r2 r3 w0 _ HI.out HB.out H.out).mono ?_; rintro e w' ⟨rfl, hi, hb, hk⟩; have h1 := am hi; have h2 := am hb; have h3 := am hk; clear hi hb hk)
 go_ret
 exact ⟨rfl, h1.out, h2.out, h3.out⟩
theorem cmd_reader_command_d51.calls (k gr g : Nat) (s0 : ByteArray) (s1 : Bool) (r1 : Int) (r2 : ByteArray) (r3 : Bool) (w0 w : World) (hbx : w.heap[gr]? = some (.cells #[.pointer (some ⟨g, 0, none⟩)] 58 (0, 0))) (hI : IsS60 w0 w g s0 s1) (hB : Below w0.heap.size w0 w) (h : cmd_reader_fixed.f k s0 s1 2 = some (r1, r2, r3)) :
  Calls Try.prog 51 #[.pointer (some ⟨gr, 0, none⟩)] w fun e w' => e = .returned (.int .i64 r1) ∧ IsS60 w0 w' g r2 r3 ∧ Below w0.heap.size w0 w' ∧ KeepBut w w' g none := by
 have hc : w.cell? ⟨gr, 0, none⟩ = some (.pointer (some ⟨g, 0, none⟩)) := (blk_cell hbx 0).trans rfl
 have HI := am hI
 have HB := am hB
 have H := am h
 clear hI hB h hbx
 go_enter Try.func51, Try.ntmps51
 go_wp2_with (go_at_call 50; refine (cmd_reader_fixed.calls k g s0 s1 2 r1 r2 r3 w0 _ HI.out HB.out H.out).mono ?_; rintro e w' ⟨rfl, hi, hb, hk⟩; have h1 := am hi; have h2 := am hb; have h3 := am hk; clear hi hb hk)
 go_ret
 exact ⟨rfl, h1.out, h2.out, h3.out⟩
def cmd_reader_command1.T1 : Bool × List (List Nat × List Nat) := (true, [([], []), ([0], [0]), ([], []), ([2], [2]), ([], []), ([4], [4]), ([1, 0, 1], [1]), ([3, 6, 0, 1, 2, 3, 6], [3]), ([5, 7, 0, 1, 2, 3, 4, 5, 6, 7], [5])])
def cmd_reader_command1.B1 : List Nat := [0, 1, 0, 4, 0, 16, 3, 79, 255]
theorem cmd_reader_command1.tab1 : rtab .any (opsOf Try.f31 1) = cmd_reader_command1.T1 := by kernel_rfl
theorem cmd_reader_command1.bits1 : waitsOk cmd_reader_command1.T1.2 cmd_reader_command1.B1 = true := by kernel_rfl
def cmd_reader_command1.T11 : Bool × List (List Nat × List Nat) := (true, [([], []), ([0], [0]), ([], []), ([2], [2]), ([3], [3]), ([1, 4, 3], [1, 4]), ([0, 1, 2, 3, 4, 5], []), ([6, 5, 5, 0, 1, 2, 3, 4, 5], [5, 6])])
def cmd_reader_command1.B11 : List Nat := [0, 1, 0, 4, 12, 31, 63, 127]
theorem cmd_reader_command1.tab11 : rtab .any (opsOf Try.f31 11) = cmd_reader_command1.T11 := by kernel_rfl
theorem cmd_reader_command1.bits11 : waitsOk cmd_reader_command1.T11.2 cmd_reader_command1.B11 = true := by kernel_rfl
set_option maxHeartbeats 8000000 in
set_option maxRecDepth 100000 in
theorem cmd_reader_command1.calls (k : Nat) (g : Nat) (s0_0 : ByteArray) (s0_1 : Bool) (a1 : Int) (r1 : Int) (r2 : Int) (r3 : Int) (r4 : Bool) (r5 : List (S40)) (r6 : ByteArray) (r7 : ByteArray) (r8 : Bool) (w0 w : World) (hI : IsS60 w0 w g s0_0 s0_1) (hB : Below w0.heap.size w0 w) (h : cmd_reader_command1.f k s0_0 s0_1 a1 = some (r1, r2, r3, r4, r5, r6, r7, r8)) :
  Calls Try.prog 31 #[.pointer (some ⟨g, 0, none⟩), .int .i64 1] w fun e w' => ∃ v4_ : Value, e = .returned (.agg #[.int .i64 r1, .int .i64 r2, .int .i64 r3, .bool r4, v4_, .string r6]) ∧ Kd.R k40 40 w' w.heap.size (fun _ => True) v4_ r5 ∧ IsS60 w0 w' g r7 r8 ∧ Below w0.heap.size w0 w' ∧ KeepBut w w' g none := by
 have hu26 := Try.underlying26
 have HI0 := am hI
 have HK := am (KeepBut.refl w g none)
 have HL := am hB.size
 clear hI
 have HW0 := am hB.size
 have HB := am hB
 clear hB
 have H : ((cmd_reader_fixed.f k s0_0 s0_1 1).bind fun bt266 => ((cmd_reader_fixed.f k bt266.2.1 bt266.2.2 8).bind fun bt270 => ((cmd_reader_fixed.f k bt270.2.1 bt270.2.2 8).bind fun bt273 => ((cmd_reader_flag.f bt273.2.1 bt273.2.2).bind fun bt276 => ((cmd_reader_fixed.f k bt276.2.1 bt276.2.2 2).bind fun bt279 => (cmd_reader_command1.l0 k bt279.1 bt279.2.1 bt279.2.2 bt266.1 bt270.1 bt273.1 bt276.1 ([] : List (S40)) (⟨#[]⟩ : ByteArray))))))) = some (r1, r2, r3, r4, r5, r6, r7, r8) := h
 clear h
 replace H := Option.bind_eq_some_iff.mp H
 obtain ⟨⟨t266, t267, t268⟩, A30, H⟩ := H
 replace H : ((cmd_reader_fixed.f k t267 t268 8).bind fun bt270 => ((cmd_reader_fixed.f k bt270.2.1 bt270.2.2 8).bind fun bt273 => ((cmd_reader_flag.f bt273.2.1 bt273.2.2).bind fun bt276 => ((cmd_reader_fixed.f k bt276.2.1 bt276.2.2 2).bind fun bt279 => (cmd_reader_command1.l0 k bt279.1 bt279.2.1 bt279.2.2 t266 bt270.1 bt273.1 bt276.1 ([] : List (S40)) (⟨#[]⟩ : ByteArray)))))) = some (r1, r2, r3, r4, r5, r6, r7, r8) := H
 have A3 := am A30
 clear A30
 replace H := Option.bind_eq_some_iff.mp H
 obtain ⟨⟨t270, t271, t272⟩, A40, H⟩ := H
 replace H : ((cmd_reader_fixed.f k t271 t272 8).bind fun bt273 => ((cmd_reader_flag.f bt273.2.1 bt273.2.2).bind fun bt276 => ((cmd_reader_fixed.f k bt276.2.1 bt276.2.2 2).bind fun bt279 => (cmd_reader_command1.l0 k bt279.1 bt279.2.1 bt279.2.2 t266 t270 bt273.1 bt276.1 ([] : List (S40)) (⟨#[]⟩ : ByteArray))))) = some (r1, r2, r3, r4, r5, r6, r7, r8) := H
 have A4 := am A40
 clear A40
 replace H := Option.bind_eq_some_iff.mp H
 obtain ⟨⟨t273, t274, t275⟩, A50, H⟩ := H
 replace H : ((cmd_reader_flag.f t274 t275).bind fun bt276 => ((cmd_reader_fixed.f k bt276.2.1 bt276.2.2 2).bind fun bt279 => (cmd_reader_command1.l0 k bt279.1 bt279.2.1 bt279.2.2 t266 t270 t273 bt276.1 ([] : List (S40)) (⟨#[]⟩ : ByteArray)))) = some (r1, r2, r3, r4, r5, r6, r7, r8) := H
 have A5 := am A50
 clear A50
 replace H := Option.bind_eq_some_iff.mp H
 obtain ⟨⟨t276, t277, t278⟩, A60, H⟩ := H
 replace H : ((cmd_reader_fixed.f k t277 t278 2).bind fun bt279 => (cmd_reader_command1.l0 k bt279.1 bt279.2.1 bt279.2.2 t266 t270 t273 t276 ([] : List (S40)) (⟨#[]⟩ : ByteArray))) = some (r1, r2, r3, r4, r5, r6, r7, r8) := H
 have A6 := am A60
 clear A60
 replace H := Option.bind_eq_some_iff.mp H
 obtain ⟨⟨t279, t280, t281⟩, A70, H⟩ := H
 replace H : (cmd_reader_command1.l0 k t279 t280 t281 t266 t270 t273 t276 ([] : List (S40)) (⟨#[]⟩ : ByteArray)) = some (r1, r2, r3, r4, r5, r6, r7, r8) := H
 have A7 := am A70
 clear A70
 have HC8 := am H
 clear H
 go_enter Try.func31, Try.ntmps31
 try go_wp2_with (first | ((with_reducible refine gate_dst (N := 2) rfl ?_); refine bx 2 58 (cs := #[.pointer (some ⟨g, 0, none⟩)]) ?_; intro gb264 hg w9 hbox hb; have n_ := z8 (IsS60.below iz hb) (KeepBut.trans kp (KeepBut.of_below hb g none) (.inl rfl)) (below_step bel hb) (hbox) ((by rw [hg]; exact (keep_size (w := w) (g := g) (row := none) kp) : w.heap.size ≤ gb264)) ((Nat.le_trans HW0.out (by rw [hg]; exact (keep_size (w := w) (g := g) (row := none) kp) : w.heap.size ≤ gb264) : w0.heap.size ≤ gb264)) ((by rw [hg]; exact Nat.ne_of_lt (IsS60.lt (show IsS60 w0 _ g s0_0 s0_1 from iz)) : g ≠ gb264)) ((by rw [hg]; exact Nat.ne_of_gt (IsS60.lt (show IsS60 w0 _ g s0_0 s0_1 from iz)) : gb264 ≠ g)); clear HI0 HK HB; obtain ⟨HI0, HK, HB, BK264, GW264, GE264, NB0_264, NB264_0⟩ := n_; clear hb hbox hg) | ((with_reducible refine gate_dst (N := 4) rfl ?_); refine bx 4 26 (cs := #[.int .i64 0, .int .i64 0, .int .i64 0, .bool false, .slice none 0 0, .string (⟨#[]⟩ : ByteArray)]) ?_; intro gb265 hg w10 hbox hb; have n_ := z11 (IsS60.below iz hb) (blk_below (bk BK264.out) hb) (KeepBut.trans kp (KeepBut.of_below hb g none) (.inl rfl)) (below_step bel hb) (hbox) ((by rw [hg]; exact (keep_size (w := w) (g := g) (row := none) kp) : w.heap.size ≤ gb265)) ((Nat.le_trans HW0.out (by rw [hg]; exact (keep_size (w := w) (g := g) (row := none) kp) : w.heap.size ≤ gb265) : w0.heap.size ≤ gb265)) ((by rw [hg]; exact Nat.ne_of_lt (blk_lt (bk BK264.out)) : gb264 ≠ gb265)) ((by rw [hg]; exact Nat.ne_of_gt (blk_lt (bk BK264.out)) : gb265 ≠ gb264)) ((by rw [hg]; exact Nat.ne_of_lt (IsS60.lt (show IsS60 w0 _ g s0_0 s0_1 from iz)) : g ≠ gb265)) ((by rw [hg]; exact Nat.ne_of_gt (IsS60.lt (show IsS60 w0 _ g s0_0 s0_1 from iz)) : gb265 ≠ g)); clear HI0 BK264 HK HB; obtain ⟨HI0, BK264, HK, HB, BK265, GW265, GE265, NB264_265, NB265_264, NB0_265, NB265_0⟩ := n_; clear hb hbox hg))
 have n_ := z5 (blk_drew BK264.out) (blk_drew BK265.out) (IsS60.drew HI0.out) (keep_drew HK.out) (below_drew1 HB.out)
 clear BK264 BK265 HI0 HK HB
 obtain ⟨BK264, BK265, HI0, HK, HB⟩ := n_
 refine start_ (n := 9) (S := fun w' => w'.cell? ⟨gb264, 0, none⟩ = some (.pointer (some ⟨g, 0, none⟩))) (ds := []) #[false, false, false, false, false, false, false, false, false] (by kernel_rfl) rfl rfl ((blk_cell BK264.out 0).trans rfl) (fun hHeld => ?_); refine with_tabW cmd_reader_command1.tab1 cmd_reader_command1.bits1 (fun HT_ HW_ => ?_)
 generalize w10.drew = w11 at BK264 BK265 HI0 HK HB hHeld ⊢
 refine take_ (i := 0) (N := some 10) (v := ?_) (a' := ?_) #[true, false, false, false, false, false, false, false, false] rfl rfl (take_ofW HT_.out HW_.out (by kernel_rfl)) (fun _ _ _ h => h) (Or.inl ⟨by rfl, ?_⟩) hHeld ?_ ?_
 rotate_left
 ·intro w' s0
  go_simp
  with_reducible rfl
 rotate_left
 ·simp only [Act.put, List.setIfInBounds_toArray, List.set_cons_zero, List.set_cons_succ, i64_w, i32_w]
  rfl
 refine pu 1 (some 11) #[true, true, false, false, false, false, false, false, false] ?_
 refine pu 6 (some 5) #[true, true, false, false, false, false, true, false, false] ?_
 refine take_ (i := 2) (N := some 12) (v := ?_) (a' := ?_) #[true, true, true, false, false, false, true, false, false] rfl rfl (take_ofW HT_.out HW_.out (by kernel_rfl)) (fun _ _ _ h => h) (Or.inl ⟨by rfl, ?_⟩) hHeld ?_ ?_
 rotate_left
 ·intro w' s0
  go_simp
  with_reducible rfl
 rotate_left
 ·simp only [Act.put, List.setIfInBounds_toArray, List.set_cons_zero, List.set_cons_succ, i64_w, i32_w]
  rfl
 refine pu 3 (some 13) #[true, true, true, true, false, false, true, false, false] ?_
 refine pu 7 (some 6) #[true, true, true, true, false, false, true, true, false] ?_
 refine take_ (i := 4) (N := some 14) (v := ?_) (a' := ?_) #[true, true, true, true, true, false, true, true, false] rfl rfl (take_ofW HT_.out HW_.out (by kernel_rfl)) (fun _ _ _ h => h) (Or.inl ⟨by rfl, ?_⟩) hHeld ?_ ?_
 rotate_left
 ·intro w' s0
  go_simp
  with_reducible rfl
 rotate_left
 ·simp only [Act.put, List.setIfInBounds_toArray, List.set_cons_zero, List.set_cons_succ, i64_w, i32_w]
  rfl
 refine pu 5 (some 15) #[true, true, true, true, true, true, true, true, false] ?_
 refine pu 8 (some 7) #[true, true, true, true, true, true, true, true, true] ?_
 refine done_ (done_of HT_.out (by kernel_rfl)) ?_
 try go_wp2
 have n_ := z5 (blk_drew BK264.out) (blk_drew BK265.out) (IsS60.drew HI0.out) (keep_drew HK.out) (below_drew1 HB.out)
 clear BK264 BK265 HI0 HK HB
 obtain ⟨BK264, BK265, HI0, HK, HB⟩ := n_
 refine start_ (n := 7) (S := fun w' => w'.cell? ⟨gb264, 0, none⟩ = some (.pointer (some ⟨g, 0, none⟩))) (ds := []) #[false, false, false, false, false, false, false] (by kernel_rfl) rfl rfl ((blk_cell BK264.out 0).trans rfl) (fun hHeld => ?_)
 generalize w11.drew = w12 at BK264 BK265 HI0 HK HB hHeld ⊢
 refine pure_ (i := 0) (N := some 18) (v := ?_) (a' := ?_) #[true, false, false, false, false, false, false] rfl rfl (by kernel_rfl) (fun _ _ _ h => h) (Or.inl ⟨by rfl, ?_⟩) ?_ ?_
 rotate_left
 ·intro w'
  go_simp
  with_reducible rfl
 rotate_left
 ·simp only [Act.put, List.setIfInBounds_toArray, List.set_cons_zero, List.set_cons_succ, i64_w, i32_w]
  rfl
 refine pure_ (i := 1) (N := some 19) (v := ?_) (a' := ?_) #[true, true, false, false, false, false, false] rfl rfl (by kernel_rfl) (fun _ _ _ h => h) (Or.inl ⟨by rfl, ?_⟩) ?_ ?_
 rotate_left
 ·intro w'
  go_simp
  with_reducible rfl
 rotate_left
 ·simp only [Act.put, List.setIfInBounds_toArray, List.set_cons_zero, List.set_cons_succ, i64_w, i32_w]
  rfl
 refine pure_ (i := 4) (N := some 5) (v := ?_) (a' := ?_) #[true, true, false, false, true, false, false] rfl rfl (by kernel_rfl) (fun _ _ _ h => h) (Or.inl ⟨by rfl, ?_⟩) ?_ ?_
 rotate_left
 ·intro w'
  go_simp
  with_reducible rfl
 rotate_left
 ·simp only [Act.put, List.setIfInBounds_toArray, List.set_cons_zero, List.set_cons_succ, i64_w, i32_w]
  rfl
 refine pure_ (i := 5) (N := some 6) (v := ?_) (a' := ?_) #[true, true, false, false, true, true, false] rfl rfl (by kernel_rfl) (fun _ _ _ h => h) (Or.inl ⟨by rfl, ?_⟩) ?_ ?_
 rotate_left
 ·intro w'
  go_simp
  with_reducible rfl
 rotate_left
 ·simp only [Act.put, List.setIfInBounds_toArray, List.set_cons_zero, List.set_cons_succ, i64_w, i32_w]
  rfl
 refine take_ (i := 2) (N := some 20) (v := ?_) (a' := ?_) #[true, true, true, false, true, true, false] rfl rfl (by kernel_rfl) (fun _ _ _ h => h) (Or.inl ⟨by rfl, ?_⟩) hHeld ?_ ?_
 rotate_left
 ·intro w' s0
  go_simp
  with_reducible rfl
 rotate_left
 ·simp only [Act.put, List.setIfInBounds_toArray, List.set_cons_zero, List.set_cons_succ, i64_w, i32_w]
  rfl
 refine pure_ (i := 3) (N := some 21) (v := ?_) (a' := ?_) #[true, true, true, true, true, true, false] rfl rfl (by kernel_rfl) (fun _ _ _ h => h) (Or.inl ⟨by rfl, ?_⟩) ?_ ?_
 rotate_left
 ·intro w'
  go_simp
  with_reducible rfl
 rotate_left
 ·simp only [Act.put, List.setIfInBounds_toArray, List.set_cons_zero, List.set_cons_succ, i64_w, i32_w]
  rfl
 refine pure_ (i := 6) (N := some 7) (v := ?_) (a' := ?_) #[true, true, true, true, true, true, true] rfl rfl (by kernel_rfl) (fun _ _ _ h => h) (Or.inl ⟨by rfl, ?_⟩) ?_ ?_
 rotate_left
 ·intro w'
  go_simp
  with_reducible rfl
 rotate_left
 ·simp only [Act.put, List.setIfInBounds_toArray, List.set_cons_zero, List.set_cons_succ, i64_w, i32_w]
  rfl
 refine done_ (by kernel_rfl) ?_
 have hnb13 := NB264_265.out
 have hnc13 := NB265_264.out
 have hnb14 := NB264_0.out
 have hnc14 := NB0_264.out
 have hcz15_0 : w12.cell? ⟨gb264, 0, none⟩ = some (.pointer (some ⟨g, 0, none⟩)) := (blk_cell BK264.out 0).trans rfl
 have hfz15_0 := blk_frozen BK264.out 0
 go_upto_block 0 with (first | ((with_reducible refine gate_callee (f := 50) rfl ?_); refine goesL_ (some 23) rfl rfl Try.func50 (by kernel_rfl) rfl #[.pointer (some ⟨g, 0, none⟩), .int .i64 1] rfl ar ?_; (with_reducible refine (cmd_reader_fixed.calls k g s0_0 s0_1 1 t266 t267 t268 w0 _ ?side1 ?side2 A3.out).mono ?_); (case side1 => exact iz); (case side2 => exact bel); rintro e w16 ⟨rfl, hi, hb, hk⟩; refine ⟨_, rfl, ?_⟩; have n_ := z5 (KeepBut.blk hk (g' := gb264) (o := .cells #[.pointer (some ⟨g, 0, none⟩)] 58 (0, 0)) (bk BK264.out) NB264_0.out (by simp)) (KeepBut.blk hk (g' := gb265) (o := .cells #[.int .i64 0, .int .i64 0, .int .i64 0, .bool false, .slice none 0 0, .string (⟨#[]⟩ : ByteArray)] 26 (0, 0)) (bk BK265.out) NB265_0.out (by simp)) (KeepBut.trans kp hk (.inl rfl)) (hb) (hi); clear BK264 BK265 HK HB HI0; obtain ⟨BK264, BK265, HK, HB, HI0⟩ := n_; (try clear hb); (try clear hb2); (try clear hk); (try clear hi)) | ((with_reducible refine gate_dst (N := 8) rfl ?_); refine bx 8 26 (cs := #[.int .i64 0, .int .i64 0, .int .i64 0, .bool false, .slice none 0 0, .string (⟨#[]⟩ : ByteArray)]) ?_; intro gb269 hg w17 hbox hb; have n0_ := am (IsS60.below iz hb); have n1_ := am (blk_below (bk BK264.out) hb); have n2_ := am (blk_below (bk BK265.out) hb); have n3_ := am (KeepBut.trans kp (KeepBut.of_below hb g none) (.inl rfl)); have n4_ := am (below_step bel hb); have n5_ := am (hbox); have n6_ := am ((by rw [hg]; exact (keep_size (w := w) (g := g) (row := none) kp) : w.heap.size ≤ gb269)); have n7_ := am ((Nat.le_trans HW0.out (by rw [hg]; exact (keep_size (w := w) (g := g) (row := none) kp) : w.heap.size ≤ gb269) : w0.heap.size ≤ gb269)); have n8_ := am ((by rw [hg]; exact Nat.ne_of_lt (blk_lt (bk BK264.out)) : gb264 ≠ gb269)); have n9_ := am ((by rw [hg]; exact Nat.ne_of_gt (blk_lt (bk BK264.out)) : gb269 ≠ gb264)); have n10_ := am ((by rw [hg]; exact Nat.ne_of_lt (blk_lt (bk BK265.out)) : gb265 ≠ gb269)); have n11_ := am ((by rw [hg]; exact Nat.ne_of_gt (blk_lt (bk BK265.out)) : gb269 ≠ gb265)); have n12_ := am ((by rw [hg]; exact Nat.ne_of_lt (IsS60.lt (show IsS60 w0 _ g t267 t268 from iz)) : g ≠ gb269)); have n13_ := am ((by rw [hg]; exact Nat.ne_of_gt (IsS60.lt (show IsS60 w0 _ g t267 t268 from iz)) : gb269 ≠ g)); clear HI0 BK264 BK265 HK HB; have HI0 := n0_; have BK264 := n1_; have BK265 := n2_; have HK := n3_; have HB := n4_; have BK269 := n5_; have GW269 := n6_; have GE269 := n7_; have NB264_269 := n8_; have NB269_264 := n9_; have NB265_269 := n10_; have NB269_265 := n11_; have NB0_269 := n12_; have NB269_0 := n13_; clear n0_ n1_ n2_ n3_ n4_ n5_ n6_ n7_ n8_ n9_ n10_ n11_ n12_ n13_ hb hbox hg; have hnb18 := NB269_264.out; have hnc18 := NB264_269.out; have hnb19 := NB269_265.out; have hnc19 := NB265_269.out; have hnb20 := NB269_0.out; have hnc20 := NB0_269.out; obtain ⟨hcz21_0, hcz21_1, hcz21_2, hcz21_3, hcz21_4, hcz21_5⟩ := cells6 BK269.out; obtain ⟨hfz21_0, hfz21_1, hfz21_2, hfz21_3, hfz21_4, hfz21_5⟩ := froz6 BK269.out) | ((with_reducible refine gate_dst (N := 26) rfl ?_); refine goesLV_ (some 26) rfl rfl Try.func49 (by kernel_rfl) rfl #[.pointer (some ⟨gb264, 0, none⟩)] rfl rfl ar ?_; (with_reducible refine (cmd_reader_command_d49.calls k gb264 g t267 t268 t270 t271 t272 w0 _ (by repeat (first | (with_reducible exact BK264.out) | apply blk_drewN | apply blk_drew | apply blk_alloc | refine blk_far ?_ (by first | exact NB264_0.out | exact NB264_265.out | exact NB264_269.out) _)) ?side1 ?side2 A4.out).mono ?_); (case side1 => exact iz); (case side2 => exact bel); rintro e w22 ⟨rfl, hi, hb, hk⟩; refine ⟨_, rfl, ?_⟩; have n_ := z6 (KeepBut.blk hk (g' := gb264) (o := .cells #[.pointer (some ⟨g, 0, none⟩)] 58 (0, 0)) (bk BK264.out) NB264_0.out (by simp)) (KeepBut.blk hk (g' := gb265) (o := .cells #[.int .i64 0, .int .i64 0, .int .i64 0, .bool false, .slice none 0 0, .string (⟨#[]⟩ : ByteArray)] 26 (0, 0)) (bk BK265.out) NB265_0.out (by simp)) (KeepBut.blk hk (g' := gb269) (o := .cells #[.int .i64 t266, .int .i64 0, .int .i64 0, .bool false, .slice none 0 0, .string (⟨#[]⟩ : ByteArray)] 26 (0, 0)) (bp BK269.out) NB269_0.out (by simp)) (KeepBut.trans kp hk (.inl rfl)) (hb) (hi); clear BK264 BK265 BK269 HK HB HI0; obtain ⟨BK264, BK265, BK269, HK, HB, HI0⟩ := n_; (try clear hb); (try clear hb2); (try clear hk); (try clear hi); obtain ⟨hcz23_0, hcz23_1, hcz23_2, hcz23_3, hcz23_4, hcz23_5⟩ := cells6 BK269.out; obtain ⟨hfz23_0, hfz23_1, hfz23_2, hfz23_3, hfz23_4, hfz23_5⟩ := froz6 BK269.out) | ((with_reducible refine gate_dst (N := 29) rfl ?_); refine goesLV_ (some 29) rfl rfl Try.func49 (by kernel_rfl) rfl #[.pointer (some ⟨gb264, 0, none⟩)] rfl rfl ar ?_; (with_reducible refine (cmd_reader_command_d49.calls k gb264 g t271 t272 t273 t274 t275 w0 _ (by repeat (first | (with_reducible exact BK264.out) | apply blk_drewN | apply blk_drew | apply blk_alloc | refine blk_far ?_ (by first | exact NB264_0.out | exact NB264_265.out | exact NB264_269.out) _)) ?side1 ?side2 A5.out).mono ?_); (case side1 => exact iz); (case side2 => exact bel); rintro e w24 ⟨rfl, hi, hb, hk⟩; refine ⟨_, rfl, ?_⟩; have n_ := z6 (KeepBut.blk hk (g' := gb264) (o := .cells #[.pointer (some ⟨g, 0, none⟩)] 58 (0, 0)) (bk BK264.out) NB264_0.out (by simp)) (KeepBut.blk hk (g' := gb265) (o := .cells #[.int .i64 0, .int .i64 0, .int .i64 0, .bool false, .slice none 0 0, .string (⟨#[]⟩ : ByteArray)] 26 (0, 0)) (bk BK265.out) NB265_0.out (by simp)) (KeepBut.blk hk (g' := gb269) (o := .cells #[.int .i64 t266, .int .i64 t270, .int .i64 0, .bool false, .slice none 0 0, .string (⟨#[]⟩ : ByteArray)] 26 (0, 0)) (bp BK269.out) NB269_0.out (by simp)) (KeepBut.trans kp hk (.inl rfl)) (hb) (hi); clear BK264 BK265 BK269 HK HB HI0; obtain ⟨BK264, BK265, BK269, HK, HB, HI0⟩ := n_; (try clear hb); (try clear hb2); (try clear hk); (try clear hi); obtain ⟨hcz25_0, hcz25_1, hcz25_2, hcz25_3, hcz25_4, hcz25_5⟩ := cells6 BK269.out; obtain ⟨hfz25_0, hfz25_1, hfz25_2, hfz25_3, hfz25_4, hfz25_5⟩ := froz6 BK269.out; have hcz26_0 : w24.cell? ⟨gb264, 0, none⟩ = some (.pointer (some ⟨g, 0, none⟩)) := (blk_cell BK264.out 0).trans rfl; have hfz26_0 := blk_frozen BK264.out 0) | ((with_reducible refine gate_callee (f := 53) rfl ?_); refine goesL_ (some 32) rfl rfl Try.func53 (by kernel_rfl) rfl #[.pointer (some ⟨g, 0, none⟩)] rfl ar ?_; (with_reducible refine (cmd_reader_flag.calls g t274 t275 t276 t277 t278 w0 _ ?side1 ?side2 A6.out).mono ?_); (case side1 => exact iz); (case side2 => exact bel); rintro e w27 ⟨rfl, hi, hb, hk⟩; refine ⟨_, rfl, ?_⟩; have n_ := z6 (KeepBut.blk hk (g' := gb264) (o := .cells #[.pointer (some ⟨g, 0, none⟩)] 58 (0, 0)) (bk BK264.out) NB264_0.out (by simp)) (KeepBut.blk hk (g' := gb265) (o := .cells #[.int .i64 0, .int .i64 0, .int .i64 0, .bool false, .slice none 0 0, .string (⟨#[]⟩ : ByteArray)] 26 (0, 0)) (bk BK265.out) NB265_0.out (by simp)) (KeepBut.blk hk (g' := gb269) (o := .cells #[.int .i64 t266, .int .i64 t270, .int .i64 t273, .bool false, .slice none 0 0, .string (⟨#[]⟩ : ByteArray)] 26 (0, 0)) (bp BK269.out) NB269_0.out (by simp)) (KeepBut.trans kp hk (.inl rfl)) (hb) (hi); clear BK264 BK265 BK269 HK HB HI0; obtain ⟨BK264, BK265, BK269, HK, HB, HI0⟩ := n_; (try clear hb); (try clear hb2); (try clear hk); (try clear hi); obtain ⟨hcz28_0, hcz28_1, hcz28_2, hcz28_3, hcz28_4, hcz28_5⟩ := cells6 BK269.out; obtain ⟨hfz28_0, hfz28_1, hfz28_2, hfz28_3, hfz28_4, hfz28_5⟩ := froz6 BK269.out) | ((with_reducible refine gate_dst (N := 35) rfl ?_); refine goesLV_ (some 35) rfl rfl Try.func51 (by kernel_rfl) rfl #[.pointer (some ⟨gb264, 0, none⟩)] rfl rfl ar ?_; (with_reducible refine (cmd_reader_command_d51.calls k gb264 g t277 t278 t279 t280 t281 w0 _ (by repeat (first | (with_reducible exact BK264.out) | apply blk_drewN | apply blk_drew | apply blk_alloc | refine blk_far ?_ (by first | exact NB264_0.out | exact NB264_265.out | exact NB264_269.out) _)) ?side1 ?side2 A7.out).mono ?_); (case side1 => exact iz); (case side2 => exact bel); rintro e w29 ⟨rfl, hi, hb, hk⟩; refine ⟨_, rfl, ?_⟩; have n_ := z6 (KeepBut.blk hk (g' := gb264) (o := .cells #[.pointer (some ⟨g, 0, none⟩)] 58 (0, 0)) (bk BK264.out) NB264_0.out (by simp)) (KeepBut.blk hk (g' := gb265) (o := .cells #[.int .i64 0, .int .i64 0, .int .i64 0, .bool false, .slice none 0 0, .string (⟨#[]⟩ : ByteArray)] 26 (0, 0)) (bk BK265.out) NB265_0.out (by simp)) (KeepBut.blk hk (g' := gb269) (o := .cells #[.int .i64 t266, .int .i64 t270, .int .i64 t273, .bool t276, .slice none 0 0, .string (⟨#[]⟩ : ByteArray)] 26 (0, 0)) (bp BK269.out) NB269_0.out (by simp)) (KeepBut.trans kp hk (.inl rfl)) (hb) (hi); clear BK264 BK265 BK269 HK HB HI0; obtain ⟨BK264, BK265, BK269, HK, HB, HI0⟩ := n_; (try clear hb); (try clear hb2); (try clear hk); (try clear hi)))
 (try simp only [Act.put, List.setIfInBounds_toArray, List.set_cons_zero, List.set_cons_succ])
 go_cut [] (fun wc => ∃ (kq : Nat) (x1000_7 : ByteArray) (x1001_7 : Bool) (x270004_7 : List (S40)) (u270004 : Value), Aside0 (cmd_reader_command1.j1 kq x1000_7 x1001_7 t266 t270 t273 t276 x270004_7 (⟨#[]⟩ : ByteArray) = some (r1, r2, r3, r4, r5, r6, r7, r8)) ∧ Aside0 (kq ≤ k) ∧ Aside0 (Kd.R k40 40 wc w.heap.size (fun _ => True) u270004 x270004_7) ∧ Aside0 (wc.heap[gb264]? = some (.cells #[.pointer (some ⟨g, 0, none⟩)] 58 (0, 0))) ∧ Aside0 (wc.heap[gb265]? = some (.cells #[.int .i64 0, .int .i64 0, .int .i64 0, .bool false, (.slice none 0 0), .string (⟨#[]⟩ : ByteArray)] 26 (0, 0))) ∧ Aside0 (wc.heap[gb269]? = some (.cells #[.int .i64 t266, .int .i64 t270, .int .i64 t273, .bool t276, u270004, .string (⟨#[]⟩ : ByteArray)] 26 (0, 0))) ∧ Aside0 (IsS60 w0 wc g x1000_7 x1001_7) ∧ Aside0 (KeepBut w wc g none) ∧ Aside0 (Below w0.heap.size w0 wc))
 case first =>
  have H := HC8.out
  clear HC8
  have H' := am H
  clear H
  go_wp2
  go_loopg [9] k (fun kq v9 w' => ∃ (x9_1 : Int) (x1000_1 : ByteArray) (x1001_1 : Bool) (x270004_1 : List (S40)) (u270004 : Value), v9 = .int .i64 x9_1 ∧ Aside0 (cmd_reader_command1.l0 kq x9_1 x1000_1 x1001_1 t266 t270 t273 t276 x270004_1 (⟨#[]⟩ : ByteArray) = some (r1, r2, r3, r4, r5, r6, r7, r8)) ∧ Aside0 (kq ≤ k) ∧ Aside0 (Kd.R k40 40 w' w.heap.size (fun _ => True) u270004 x270004_1) ∧ Aside0 (w'.heap[gb264]? = some (.cells #[.pointer (some ⟨g, 0, none⟩)] 58 (0, 0))) ∧ Aside0 (w'.heap[gb265]? = some (.cells #[.int .i64 0, .int .i64 0, .int .i64 0, .bool false, (.slice none 0 0), .string (⟨#[]⟩ : ByteArray)] 26 (0, 0))) ∧ Aside0 (w'.heap[gb269]? = some (.cells #[.int .i64 t266, .int .i64 t270, .int .i64 t273, .bool t276, u270004, .string (⟨#[]⟩ : ByteArray)] 26 (0, 0))) ∧ Aside0 (IsS60 w0 w' g x1000_1 x1001_1) ∧ Aside0 (KeepBut w w' g none) ∧ Aside0 (Below w0.heap.size w0 w'))
  case atStart => exact ⟨(t279), (t280), (t281), (([] : List (S40))), (.slice none 0 0), (by first | rfl | (simp; done) | (simp [*]; done)), H', ⟨Nat.le_refl _⟩, ⟨by first | exact Kd.R_nil _ _ _ _ _ | exact Kd.N_nil _ _ _ _ _ | exact Kd.V_nil _ _ _ _ _ | exact Kd.Q_nil _ _ _ _ _ | exact Kd.S_nil _ _ _ _ _⟩, ⟨bk BK264.out⟩, ⟨bk BK265.out⟩, ⟨bk BK269.out⟩, ⟨iz⟩, ⟨kp⟩, ⟨bel⟩⟩
  case round =>
   clear H'
   try clear c1
   try clear c2
   try clear p2
   try clear c3
   try clear c5
   try clear c13
   try clear c14
   try clear c18
   try clear c19
   try clear c20
   try clear hcz15_0
   try clear hcz21_0 hcz21_1 hcz21_2 hcz21_3 hcz21_4 hcz21_5
   try clear hcz23_0 hcz23_1 hcz23_2 hcz23_3 hcz23_4 hcz23_5
   try clear hcz25_0 hcz25_1 hcz25_2 hcz25_3 hcz25_4 hcz25_5
   try clear hcz26_0
   try clear hcz28_0 hcz28_1 hcz28_2 hcz28_3 hcz28_4 hcz28_5
   try clear hfz15_0
   try clear hfz21_0 hfz21_1 hfz21_2 hfz21_3 hfz21_4 hfz21_5
   try clear hfz23_0 hfz23_1 hfz23_2 hfz23_3 hfz23_4 hfz23_5
   try clear hfz25_0 hfz25_1 hfz25_2 hfz25_3 hfz25_4 hfz25_5
   try clear hfz26_0
   try clear hfz28_0 hfz28_1 hfz28_2 hfz28_3 hfz28_4 hfz28_5
   obtain ⟨x9_1, x1000_1, x1001_1, x270004_1, u270004, rfl, HA, HK1, HO_270004, BK264, BK265, BK269, HI0, HK, HB⟩ := hrel
   cases gk with
   | zero => exact absurd HA.out (by simp [cmd_reader_command1.l0])
   | succ k1 =>
    have H := HA.out
    clear HA
    simp only [cmd_reader_command1.l0] at H
    by_cases c30 : x9_1 > 0
    ·rw [if_pos c30] at H
     have c30b0 : decide (0 < x9_1) = true := decide_eq_true c30
     clear c30
     (first | rw [c30b0] | (simp only [i64_w, i32_w]; rw [c30b0]) | skip)
     by_cases c31 : x1001_1 = true
     ·subst c31
      have H1 : (cmd_reader_command1.j1 k1 x1000_1 true t266 t270 t273 t276 x270004_1 (⟨#[]⟩ : ByteArray)) = some (r1, r2, r3, r4, r5, r6, r7, r8) := by rw [if_pos rfl] at H; exact H
      clear H
      have H := H1
      clear H1
      have H' := am H
      clear H
      have hnb32 := NB264_265.out
      have hnc32 := NB265_264.out
      have hnb33 := NB264_269.out
      have hnc33 := NB269_264.out
      have hnb34 := NB264_0.out
      have hnc34 := NB0_264.out
      have hcz35_0 : wr.cell? ⟨gb264, 0, none⟩ = some (.pointer (some ⟨g, 0, none⟩)) := (blk_cell BK264.out 0).trans rfl
      have hfz35_0 := blk_frozen BK264.out 0
      obtain ⟨HGz36, hgz36⟩ := HI0.out
      have hcz36_0 := cellS60_0 HGz36
      have hcz36_1 := cellS60_1 HGz36
      have hfz36_0 := blk_frozen HGz36 0
      have hfz36_1 := blk_frozen HGz36 1
      clear HGz36 hgz36
      go_wp2
      go_meet
      case rel => exact ⟨_, (x1000_1), (true), (x270004_1), (u270004), H', ⟨by have := HK1.out; first | omega | exact Nat.le_refl _⟩, ⟨kr HO_270004.out⟩, ⟨bk BK264.out⟩, ⟨bk BK265.out⟩, ⟨bk BK269.out⟩, ⟨iz⟩, ⟨kp⟩, ⟨bel⟩⟩
     ·replace c31 := Bool.eq_false_iff.mpr c31
      subst c31
      have H1 : ((cmd_reader_older.f k1 x1000_1 false).bind fun bt282 => (if x270004_1.length < 3518437208883 then (cmd_reader_command1.l0 k1 (wrap64 (x9_1 - 1)) bt282.2.2.2.1 bt282.2.2.2.2 t266 t270 t273 t276 (x270004_1 ++ [(⟨bt282.1, bt282.2.1, bt282.2.2.1⟩ : S40)]) (⟨#[]⟩ : ByteArray)) else (none))) = some (r1, r2, r3, r4, r5, r6, r7, r8) := by rw [if_neg (show ¬ (false = true) by decide)] at H; exact H
      clear H
      have H := H1
      clear H1
      replace H := Option.bind_eq_some_iff.mp H
      obtain ⟨⟨t282, t283, t284, t285, t286⟩, A370, H⟩ := H
      replace H : (if x270004_1.length < 3518437208883 then (cmd_reader_command1.l0 k1 (wrap64 (x9_1 - 1)) t285 t286 t266 t270 t273 t276 (x270004_1 ++ [(⟨t282, t283, t284⟩ : S40)]) (⟨#[]⟩ : ByteArray)) else (none)) = some (r1, r2, r3, r4, r5, r6, r7, r8) := H
      have A37 := am A370
      clear A370
      by_cases c38 : x270004_1.length < 3518437208883
      ·rw [if_pos c38] at H
       have LMc38 := am c38
       clear c38
       obtain ⟨y287, hy287⟩ : ∃ y_ : List (S40), y_ = (x270004_1 ++ [(⟨t282, t283, t284⟩ : S40)]) := ⟨_, rfl⟩
       replace H : (cmd_reader_command1.l0 k1 (wrap64 (x9_1 - 1)) t285 t286 t266 t270 t273 t276 y287 (⟨#[]⟩ : ByteArray)) = some (r1, r2, r3, r4, r5, r6, r7, r8) := by first | (rw [hy287]; with_reducible exact H) | (have H2_ := (Option.bind_some _ _).symm.trans H; rw [hy287]; with_reducible exact H2_) | (have H2_ := (Option.bind_some _ _).symm.trans H; with_reducible exact H2_) | with_reducible exact H | (rw [hy287]; exact H) | exact H
       have Ny287 := am hy287
       clear hy287
       have H' := am H
       clear H
       have hnb39 := NB264_265.out
       have hnc39 := NB265_264.out
       have hnb40 := NB264_269.out
       have hnc40 := NB269_264.out
       have hnb41 := NB264_0.out
       have hnc41 := NB0_264.out
       have hcz42_0 : wr.cell? ⟨gb264, 0, none⟩ = some (.pointer (some ⟨g, 0, none⟩)) := (blk_cell BK264.out 0).trans rfl
       have hfz42_0 := blk_frozen BK264.out 0
       obtain ⟨HGz43, hgz43⟩ := HI0.out
       have hcz43_0 := cellS60_0 HGz43
       have hcz43_1 := cellS60_1 HGz43
       have hfz43_0 := blk_frozen HGz43 0
       have hfz43_1 := blk_frozen HGz43 1
       clear HGz43 hgz43
       try go_wp2
       have n_ := z7 (Kd.R_drew HO_270004.out) (blk_drew BK264.out) (blk_drew BK265.out) (blk_drew BK269.out) (IsS60.drew HI0.out) (keep_drew HK.out) (below_drew1 HB.out)
       clear HO_270004 BK264 BK265 BK269 HI0 HK HB
       obtain ⟨HO_270004, BK264, BK265, BK269, HI0, HK, HB⟩ := n_
       refine start_ (n := 8) (S := fun w' => w'.cell? ⟨gb269, 0, none⟩ = some (.int .i64 t266) ∧ w'.cell? ⟨gb269, 1, none⟩ = some (.int .i64 t270) ∧ w'.cell? ⟨gb269, 2, none⟩ = some (.int .i64 t273) ∧ w'.cell? ⟨gb269, 3, none⟩ = some (.bool t276) ∧ w'.cell? ⟨gb269, 4, none⟩ = some (u270004) ∧ w'.cell? ⟨gb269, 5, none⟩ = some (.string (⟨#[]⟩ : ByteArray))) (ds := [7]) #[false, false, false, false, false, false, false, false] (by kernel_rfl) rfl rfl ⟨(blk_cell BK269.out 0).trans rfl, (blk_cell BK269.out 1).trans rfl, (blk_cell BK269.out 2).trans rfl, (blk_cell BK269.out 3).trans rfl, (blk_cell BK269.out 4).trans rfl, (blk_cell BK269.out 5).trans rfl⟩ (fun hHeld => ?_); refine with_tabW cmd_reader_command1.tab11 cmd_reader_command1.bits11 (fun HT_ HW_ => ?_)
       generalize wr.drew = w44 at HO_270004 BK264 BK265 BK269 HI0 HK HB hHeld ⊢
       refine pu 0 (some 47) #[true, false, false, false, false, false, false, false] ?_
       refine pu 2 (some 49) #[true, false, true, false, false, false, false, false] ?_
       refine ta 1 (some 48) #[true, true, true, false, false, false, false, false] ?_
       refine on 3 (some 50) #[true, true, true, true, false, false, false, false] (fun K hK => ?_)
       refine goesV_ Try.func52 (by kernel_rfl) rfl #[.pointer (some ⟨g, 0, none⟩)] (by rfl) rfl rfl rfl ar ?_
       with_reducible refine (cmd_reader_older.calls k1 g x1000_1 false t282 t283 t284 t285 t286 w0 _ ?side1 ?side2 A37.out).mono ?_
       (case side1 => exact iz)
       (case side2 => exact bel)
       rintro e w45 ⟨rfl, hi, hb, hk⟩
       refine ⟨_, rfl, ?_⟩
       have n_ := z7 (Kd.R_mono (Kd.R_keep (IsS60.apart (show IsS60 w0 _ g x1000_1 false from iz) (kr HO_270004.out) (by decide)) hk (fun _ h => h.2)) (fun _ h => h.1)) (KeepBut.blk hk (g' := gb264) (o := .cells #[.pointer (some ⟨g, 0, none⟩)] 58 (0, 0)) (bk BK264.out) NB264_0.out (by simp)) (KeepBut.blk hk (g' := gb265) (o := .cells #[.int .i64 0, .int .i64 0, .int .i64 0, .bool false, .slice none 0 0, .string (⟨#[]⟩ : ByteArray)] 26 (0, 0)) (bk BK265.out) NB265_0.out (by simp)) (KeepBut.blk hk (g' := gb269) (o := .cells #[.int .i64 t266, .int .i64 t270, .int .i64 t273, .bool t276, u270004, .string (⟨#[]⟩ : ByteArray)] 26 (0, 0)) (bk BK269.out) NB269_0.out (by simp)) (KeepBut.trans kp hk (.inl rfl)) (hb) (hi)
       clear HO_270004 BK264 BK265 BK269 HK HB HI0
       obtain ⟨HO_270004, BK264, BK265, BK269, HK, HB, HI0⟩ := n_
       (try clear hb)
       (try clear hb2)
       (try clear hk)
       (try clear hi)
       refine hK.out _ _ ⟨(blk_cell BK269.out 0).trans rfl, (blk_cell BK269.out 1).trans rfl, (blk_cell BK269.out 2).trans rfl, (blk_cell BK269.out 3).trans rfl, (blk_cell BK269.out 4).trans rfl, (blk_cell BK269.out 5).trans rfl⟩ (fun hHeld => ?_)
       clear hK K
       refine no 50 ?_
       refine on 4 (some 51) #[true, true, true, true, true, false, false, false] (fun K hK => ?_)
       refine value_ (w1 := ?_) (v := ?_) (by rfl) rfl ?_ ?_
       rotate_left 2
       ·go_simp
        constructor
        ·rfl
        ·rfl
       refine hK.out _ _ ⟨(blk_cell (blk_alloc BK269.out _) 0).trans rfl, (blk_cell (blk_alloc BK269.out _) 1).trans rfl, (blk_cell (blk_alloc BK269.out _) 2).trans rfl, (blk_cell (blk_alloc BK269.out _) 3).trans rfl, (blk_cell (blk_alloc BK269.out _) 4).trans rfl, (blk_cell (blk_alloc BK269.out _) 5).trans rfl⟩ (fun hHeld => ?_)
       clear hK K
       refine no 51 ?_
       refine on 5 (some 52) #[true, true, true, true, true, true, false, false] (fun K hK => ?_)
       refine Kd.R_append_step k40 w.heap.size (by rfl) (.tmp 48) (.tmp 51) 24 40 (.agg #[(.string ⟨#[]⟩), (.string ⟨#[]⟩), (.bool false)]) 40 rfl Try.underlying24 info40 rfl (by decide) (by omega) u270004 x270004_1 (⟨t282, t283, t284⟩ : S40) [.string t282, .string t283, .bool t284] (fun _ => True) (fun _ => False) rfl rfl ?aP (fun _ hk => hk.elim) ?aF ?aO (Below.refl _ _) ?aS ?aL ?_
       (case aP => exact k40_mkM _ _ _ (⟨t282, t283, t284⟩ : S40))
       (case aF => exact (fun _ _ => trivial))
       (case aO => exact (kr HO_270004.out))
       (case aS => exact (keep_size (w := w) (g := g) (row := none) kp))
       (case aL => have := LMc38.out; omega)
       intro v288 w46 ho hb hg hat
       rw [← Ny287.out] at ho
       have n_ := z7 (blk_grown (bk BK264.out) hg (Kd.R_ne HO_270004.out BK264.out (by decide))) (blk_grown (bk BK265.out) hg (Kd.R_ne HO_270004.out BK265.out (by decide))) (blk_grown (bk BK269.out) hg (Kd.R_ne HO_270004.out BK269.out (by decide))) (IsS60.grown iz hg (IsS60.own_ne HI0.out HO_270004.out (by decide))) (below_weaken bel HL.out hb) (KeepBut.trans kp (KeepBut.of_grown hg g) (Kd.R_base2 HO_270004.out)) (ho)
       clear BK264 BK265 BK269 HI0 HB HK HO_270004
       obtain ⟨BK264, BK265, BK269, HI0, HB, HK, HO289⟩ := n_
       clear ho hb hg hat
       obtain ⟨Ao47, co47, eo47⟩ := Kd.R_slice HO289.out
       (first | subst eo47 | (injection eo47 with f1_ f2_ f3_; have f4_ := f1_.symm; have f5_ := f3_.symm; clear f1_ f2_ f3_; subst f4_; subst f5_))
       refine hK.out _ _ ⟨(blk_cell BK269.out 0).trans rfl, (blk_cell BK269.out 1).trans rfl, (blk_cell BK269.out 2).trans rfl, (blk_cell BK269.out 3).trans rfl, (blk_cell BK269.out 4).trans rfl, (blk_cell BK269.out 5).trans rfl⟩ (fun hHeld => ?_)
       clear hK K
       refine no 52 ?_
       refine pu 6 (some 53) #[true, true, true, true, true, true, true, false] ?_
       refine last_ (i := 7) (N := none) #[true, true, true, true, true, true, true, true] rfl rfl (one_of HT_.out (by kernel_rfl)) (by decide) (fun K hK => ?_)
       have hs48 : w46.cell? ⟨gb269, 4, none⟩ = some (u270004) := (blk_cell BK269.out 4).trans rfl
       have hfs48 := blk_frozen BK269.out 4
       have hns48_0 := NB264_269.out
       have hns48_1 := NB265_269.out
       have hms48_0 := NB269_264.out
       have hms48_1 := NB269_265.out
       refine skip_ (w1 := ?_) (by rfl) rfl ?_ ?_
       rotate_left
       ·go_simp
        rfl
       refine hK.out _ _ ?_
       clear hK K
       refine done_ (done_of HT_.out (by kernel_rfl)) ?_
       try go_wp2
       go_roundg k1
       case measure => have := HK1.out; omega
       case rel => exact ⟨(wrap64 (x9_1 - 1)), (t285), (t286), (y287), (.slice Ao47 y287.length co47), (by first | rfl | (simp; done) | (simp [*]; done)), H', ⟨by have := HK1.out; omega⟩, ⟨by (with_reducible repeat (first | apply Kd.R_alloc | apply Kd.R_drewN | apply Kd.R_drew)); exact Kd.R_mono (Kd.R_far (p := ⟨gb269, 4, none⟩) (Kd.R_types HO289.out BK269.out (by decide)) (fun _ hk => hk.2) (.slice Ao47 y287.length co47)) (fun _ hk => trivial)⟩, ⟨bk BK264.out⟩, ⟨bk BK265.out⟩, ⟨bp BK269.out⟩, ⟨iz⟩, ⟨kp⟩, ⟨bel⟩⟩
      ·rw [if_neg c38] at H
       exact absurd H (by simp)
    ·rw [if_neg c30] at H
     have c30b0 : decide (0 < x9_1) = false := decide_eq_false c30
     clear c30
     (first | rw [c30b0] | (simp only [i64_w, i32_w]; rw [c30b0]) | skip)
     have H' := am H
     clear H
     go_wp2
     go_meet
     case rel => exact ⟨_, (x1000_1), (x1001_1), (x270004_1), (u270004), H', ⟨by have := HK1.out; first | omega | exact Nat.le_refl _⟩, ⟨kr HO_270004.out⟩, ⟨bk BK264.out⟩, ⟨bk BK265.out⟩, ⟨bk BK269.out⟩, ⟨iz⟩, ⟨kp⟩, ⟨bel⟩⟩
 case rest =>
  clear HC8
  try clear c1
  try clear c2
  try clear p2
  try clear c3
  try clear c4
  try clear c5
  try clear p6
  try clear c13
  try clear c14
  try clear c18
  try clear c19
  try clear c20
  try clear c30
  try clear c30b0
  try clear c31
  try clear c32
  try clear c33
  try clear c34
  try clear c38
  try clear c39
  try clear c40
  try clear c41
  try clear hcz15_0
  try clear hcz21_0 hcz21_1 hcz21_2 hcz21_3 hcz21_4 hcz21_5
  try clear hcz23_0 hcz23_1 hcz23_2 hcz23_3 hcz23_4 hcz23_5
  try clear hcz25_0 hcz25_1 hcz25_2 hcz25_3 hcz25_4 hcz25_5
  try clear hcz26_0
  try clear hcz28_0 hcz28_1 hcz28_2 hcz28_3 hcz28_4 hcz28_5
  try clear hcz35_0
  try clear hcz36_0 hcz36_1
  try clear hcz42_0
  try clear hcz43_0 hcz43_1
  try clear hfz15_0
  try clear hfz21_0 hfz21_1 hfz21_2 hfz21_3 hfz21_4 hfz21_5
  try clear hfz23_0 hfz23_1 hfz23_2 hfz23_3 hfz23_4 hfz23_5
  try clear hfz25_0 hfz25_1 hfz25_2 hfz25_3 hfz25_4 hfz25_5
  try clear hfz26_0
  try clear hfz28_0 hfz28_1 hfz28_2 hfz28_3 hfz28_4 hfz28_5
  try clear hfz35_0
  try clear hfz36_0 hfz36_1
  try clear hfz42_0
  try clear hfz43_0 hfz43_1
  try clear p2
  obtain ⟨kq, x1000_7, x1001_7, x270004_7, u270004, HA, HJ7, HO_270004, BK264, BK265, BK269, HI0, HK, HB⟩ := hcut
  cases kq with
  | zero => exact absurd HA.out (by simp [cmd_reader_command1.j1])
  | succ kj7 =>
   have H := HA.out
   clear HA
   simp only [cmd_reader_command1.j1] at H
   simp only [Option.some.injEq, Prod.mk.injEq] at H
   obtain ⟨rfl, rfl, rfl, rfl, rfl, rfl, rfl, rfl⟩ := H
   have hnb49 := NB269_264.out
   have hnc49 := NB264_269.out
   have hnb50 := NB269_265.out
   have hnc50 := NB265_269.out
   have hnb51 := NB269_0.out
   have hnc51 := NB0_269.out
   obtain ⟨hcz52_0, hcz52_1, hcz52_2, hcz52_3, hcz52_4, hcz52_5⟩ := cells6 BK269.out
   obtain ⟨hfz52_0, hfz52_1, hfz52_2, hfz52_3, hfz52_4, hfz52_5⟩ := froz6 BK269.out
   have hnb53 := NB265_264.out
   have hnc53 := NB264_265.out
   have hnb54 := NB265_0.out
   have hnc54 := NB0_265.out
   obtain ⟨hcz55_0, hcz55_1, hcz55_2, hcz55_3, hcz55_4, hcz55_5⟩ := cells6 BK265.out
   obtain ⟨hfz55_0, hfz55_1, hfz55_2, hfz55_3, hfz55_4, hfz55_5⟩ := froz6 BK265.out
   obtain ⟨Ao56, co56, eo56⟩ := Kd.R_slice HO_270004.out
   subst eo56
   go_wp2
   refine bodyPost_ret (results_cell_row rfl _ _ gb265 26 #[.int .i64 t266, .int .i64 t270, .int .i64 t273, .bool t276, .slice Ao56 x270004_7.length co56, .string (⟨#[]⟩ : ByteArray)] (0, 0) _ rfl (bp BK265.out) Try.underlying26 rfl (by kernel_rfl)) rfl ?_
   exact ⟨_, er, by (with_reducible repeat (first | apply Kd.R_alloc | apply Kd.R_drewN | apply Kd.R_drew)); exact Kd.R_mono (Kd.R_far (p := ⟨gb265, 5, none⟩) (Kd.R_far (p := ⟨gb265, 4, none⟩) (Kd.R_far (p := ⟨gb265, 3, none⟩) (Kd.R_far (p := ⟨gb265, 2, none⟩) (Kd.R_far (p := ⟨gb265, 1, none⟩) (Kd.R_far (p := ⟨gb265, 0, none⟩) (Kd.R_types HO_270004.out BK265.out (by decide)) (fun _ hk => hk.2) (.int .i64 t266)) (fun _ hk => hk.2) (.int .i64 t270)) (fun _ hk => hk.2) (.int .i64 t273)) (fun _ hk => hk.2) (.bool t276)) (fun _ hk => hk.2) (.slice Ao56 x270004_7.length co56)) (fun _ hk => hk.2) (.string (⟨#[]⟩ : ByteArray))) (fun _ hk => trivial), iz, bel, kp⟩
mutual
def cmd_reader_command2.j1 : Nat → ByteArray → Bool → Int → Int → Int → Bool → List (S40) → ByteArray → Option (Int × Int × Int × Bool × (List (S40)) × ByteArray × ByteArray × Bool)
 | 0, _, _, _, _, _, _, _, _ => none
 | k + 1, x1000, x1001, x296000, x296001, x296002, x296003, x296004, x296005 => (cmd_reader_short.f k x1000 x1001).bind fun bt316 => ((cmd_reader_bytes.f bt316.2.1 bt316.2.2 bt316.1).bind fun bt319 => (some (x296000, x296001, x296002, x296003, x296004, bt319.1, bt319.2.1, bt319.2.2)))
def cmd_reader_command2.l0 : Nat → Int → ByteArray → Bool → Int → Int → Int → Bool → List (S40) → ByteArray → Option (Int × Int × Int × Bool × (List (S40)) × ByteArray × ByteArray × Bool)
 | 0, _, _, _, _, _, _, _, _, _ => none
 | k + 1, x9, x1000, x1001, x296000, x296001, x296002, x296003, x296004, x296005 => if x9 > 0 then (if x1001 = true then (cmd_reader_command2.j1 k x1000 x1001 x296000 x296001 x296002 x296003 x296004 x296005) else ((cmd_reader_newer.f k x1000 x1001).bind fun bt308 => (if x296004.length < 3518437208883 then (cmd_reader_command2.l0 k (wrap64 (x9 - 1)) bt308.2.2.2.1 bt308.2.2.2.2 x296000 x296001 x296002 x296003 (x296004 ++ [(⟨bt308.1, bt308.2.1, bt308.2.2.1⟩ : S40)]) x296005) else (none)))) else (cmd_reader_command2.j1 k x1000 x1001 x296000 x296001 x296002 x296003 x296004 x296005)
end
def cmd_reader_command2.f (k : Nat) (s0_0 : ByteArray) (s0_1 : Bool) (a1 : Int) : Option (Int × Int × Int × Bool × (List (S40)) × ByteArray × ByteArray × Bool) := (cmd_reader_fixed.f k s0_0 s0_1 1).bind fun bt292 => ((cmd_reader_short.f k bt292.2.1 bt292.2.2).bind fun bt296 => ((cmd_reader_short.f k bt296.2.1 bt296.2.2).bind fun bt299 => ((cmd_reader_flag.f bt299.2.1 bt299.2.2).bind fun bt302 => ((cmd_reader_short.f k bt302.2.1 bt302.2.2).bind fun bt305 => (cmd_reader_command2.l0 k bt305.1 bt305.2.1 bt305.2.2 bt292.1 bt296.1 bt299.1 bt302.1 ([] : List (S40)) (⟨#[]⟩ : ByteArray))))))
theorem cmd_reader_command2.mono_l : ∀ k, (∀ y0 y1 y2 y3 y4 y5 y6 y7, LeO (cmd_reader_command2.j1 k y0 y1 y2 y3 y4 y5 y6 y7) (cmd_reader_command2.j1 (k + 1) y0 y1 y2 y3 y4 y5 y6 y7)) ∧ (∀ y0 y1 y2 y3 y4 y5 y6 y7 y8, LeO (cmd_reader_command2.l0 k y0 y1 y2 y3 y4 y5 y6 y7 y8) (cmd_reader_command2.l0 (k + 1) y0 y1 y2 y3 y4 y5 y6 y7 y8))
 | 0 => ⟨fun _ _ _ _ _ _ _ _ r h => by simp [cmd_reader_command2.j1] at h, fun _ _ _ _ _ _ _ _ _ r h => by simp [cmd_reader_command2.l0] at h⟩
 | k + 1 => by
  obtain ⟨ih0, ih1⟩ := cmd_reader_command2.mono_l k
  refine ⟨?_, ?_⟩
  ·intro y0 y1 y2 y3 y4 y5 y6 y7
   unfold cmd_reader_command2.j1
   repeat' first
   | (with_reducible exact ih0 _ _ _ _ _ _ _ _)
   | (with_reducible exact ih1 _ _ _ _ _ _ _ _ _)
   | (with_reducible exact cmd_reader_fixed.mono _ _ _ _)
   | (with_reducible exact cmd_reader_newer.mono _ _ _)
   | (with_reducible exact cmd_reader_short.mono _ _ _)
   | (with_reducible exact LeO.refl _)
   | (with_reducible exact LeO.none _)
   | (with_reducible refine LeO.ite ?_ ?_)
   | (with_reducible refine LeO.bind ?_ (fun _ => ?_))
  ·intro y0 y1 y2 y3 y4 y5 y6 y7 y8
   unfold cmd_reader_command2.l0
   repeat' first
   | (with_reducible exact ih0 _ _ _ _ _ _ _ _)
   | (with_reducible exact ih1 _ _ _ _ _ _ _ _ _)
   | (with_reducible exact cmd_reader_fixed.mono _ _ _ _)
   | (with_reducible exact cmd_reader_newer.mono _ _ _)
   | (with_reducible exact cmd_reader_short.mono _ _ _)
   | (with_reducible exact LeO.refl _)
   | (with_reducible exact LeO.none _)
   | (with_reducible refine LeO.ite ?_ ?_)
   | (with_reducible refine LeO.bind ?_ (fun _ => ?_))
theorem cmd_reader_command2.mono : ∀ a0 a1 a2 k, LeO (cmd_reader_command2.f k a0 a1 a2) (cmd_reader_command2.f (k + 1) a0 a1 a2) := by
 intro a0 a1 a2 k
 obtain ⟨ih0, ih1⟩ := cmd_reader_command2.mono_l k
 unfold cmd_reader_command2.f
 repeat' first
   | (with_reducible exact ih0 _ _ _ _ _ _ _ _)
   | (with_reducible exact ih1 _ _ _ _ _ _ _ _ _)
   | (with_reducible exact cmd_reader_fixed.mono _ _ _ _)
   | (with_reducible exact cmd_reader_newer.mono _ _ _)
   | (with_reducible exact cmd_reader_short.mono _ _ _)
   | (with_reducible exact LeO.refl _)
   | (with_reducible exact LeO.none _)
   | (with_reducible refine LeO.ite ?_ ?_)
   | (with_reducible refine LeO.bind ?_ (fun _ => ?_))
def cmd_reader_command2.T1 : Bool × List (List Nat × List Nat) := (true, [([], []), ([0], [0]), ([], []), ([2], [2]), ([], []), ([4], [4]), ([1, 0, 1], [1]), ([3, 6, 0, 1, 2, 3, 6], [3]), ([5, 7, 0, 1, 2, 3, 4, 5, 6, 7], [5])])
def cmd_reader_command2.B1 : List Nat := [0, 1, 0, 4, 0, 16, 3, 79, 255]
theorem cmd_reader_command2.tab1 : rtab .any (opsOf Try.f31 1) = cmd_reader_command2.T1 := by kernel_rfl
theorem cmd_reader_command2.bits1 : waitsOk cmd_reader_command2.T1.2 cmd_reader_command2.B1 = true := by kernel_rfl
def cmd_reader_command2.T11 : Bool × List (List Nat × List Nat) := (true, [([], []), ([0], [0]), ([], []), ([2], [2]), ([3], [3]), ([1, 4, 3], [1, 4]), ([0, 1, 2, 3, 4, 5], []), ([6, 5, 5, 0, 1, 2, 3, 4, 5], [5, 6])])
def cmd_reader_command2.B11 : List Nat := [0, 1, 0, 4, 12, 31, 63, 127]
theorem cmd_reader_command2.tab11 : rtab .any (opsOf Try.f31 11) = cmd_reader_command2.T11 := by kernel_rfl
theorem cmd_reader_command2.bits11 : waitsOk cmd_reader_command2.T11.2 cmd_reader_command2.B11 = true := by kernel_rfl
set_option maxHeartbeats 8000000 in
set_option maxRecDepth 100000 in
theorem cmd_reader_command2.calls (k : Nat) (g : Nat) (s0_0 : ByteArray) (s0_1 : Bool) (a1 : Int) (r1 : Int) (r2 : Int) (r3 : Int) (r4 : Bool) (r5 : List (S40)) (r6 : ByteArray) (r7 : ByteArray) (r8 : Bool) (w0 w : World) (hI : IsS60 w0 w g s0_0 s0_1) (hB : Below w0.heap.size w0 w) (h : cmd_reader_command2.f k s0_0 s0_1 a1 = some (r1, r2, r3, r4, r5, r6, r7, r8)) :
  Calls Try.prog 31 #[.pointer (some ⟨g, 0, none⟩), .int .i64 2] w fun e w' => ∃ v4_ : Value, e = .returned (.agg #[.int .i64 r1, .int .i64 r2, .int .i64 r3, .bool r4, v4_, .string r6]) ∧ Kd.R k40 40 w' w.heap.size (fun _ => True) v4_ r5 ∧ IsS60 w0 w' g r7 r8 ∧ Below w0.heap.size w0 w' ∧ KeepBut w w' g none := by
 have hu26 := Try.underlying26
 have HI0 := am hI
 have HK := am (KeepBut.refl w g none)
 have HL := am hB.size
 clear hI
 have HW0 := am hB.size
 have HB := am hB
 clear hB
 have H : ((cmd_reader_fixed.f k s0_0 s0_1 1).bind fun bt292 => ((cmd_reader_short.f k bt292.2.1 bt292.2.2).bind fun bt296 => ((cmd_reader_short.f k bt296.2.1 bt296.2.2).bind fun bt299 => ((cmd_reader_flag.f bt299.2.1 bt299.2.2).bind fun bt302 => ((cmd_reader_short.f k bt302.2.1 bt302.2.2).bind fun bt305 => (cmd_reader_command2.l0 k bt305.1 bt305.2.1 bt305.2.2 bt292.1 bt296.1 bt299.1 bt302.1 ([] : List (S40)) (⟨#[]⟩ : ByteArray))))))) = some (r1, r2, r3, r4, r5, r6, r7, r8) := h
 clear h
 replace H := Option.bind_eq_some_iff.mp H
 obtain ⟨⟨t292, t293, t294⟩, A30, H⟩ := H
 replace H : ((cmd_reader_short.f k t293 t294).bind fun bt296 => ((cmd_reader_short.f k bt296.2.1 bt296.2.2).bind fun bt299 => ((cmd_reader_flag.f bt299.2.1 bt299.2.2).bind fun bt302 => ((cmd_reader_short.f k bt302.2.1 bt302.2.2).bind fun bt305 => (cmd_reader_command2.l0 k bt305.1 bt305.2.1 bt305.2.2 t292 bt296.1 bt299.1 bt302.1 ([] : List (S40)) (⟨#[]⟩ : ByteArray)))))) = some (r1, r2, r3, r4, r5, r6, r7, r8) := H
 have A3 := am A30
 clear A30
 replace H := Option.bind_eq_some_iff.mp H
 obtain ⟨⟨t296, t297, t298⟩, A40, H⟩ := H
 replace H : ((cmd_reader_short.f k t297 t298).bind fun bt299 => ((cmd_reader_flag.f bt299.2.1 bt299.2.2).bind fun bt302 => ((cmd_reader_short.f k bt302.2.1 bt302.2.2).bind fun bt305 => (cmd_reader_command2.l0 k bt305.1 bt305.2.1 bt305.2.2 t292 t296 bt299.1 bt302.1 ([] : List (S40)) (⟨#[]⟩ : ByteArray))))) = some (r1, r2, r3, r4, r5, r6, r7, r8) := H
 have A4 := am A40
 clear A40
 replace H := Option.bind_eq_some_iff.mp H
 obtain ⟨⟨t299, t300, t301⟩, A50, H⟩ := H
 replace H : ((cmd_reader_flag.f t300 t301).bind fun bt302 => ((cmd_reader_short.f k bt302.2.1 bt302.2.2).bind fun bt305 => (cmd_reader_command2.l0 k bt305.1 bt305.2.1 bt305.2.2 t292 t296 t299 bt302.1 ([] : List (S40)) (⟨#[]⟩ : ByteArray)))) = some (r1, r2, r3, r4, r5, r6, r7, r8) := H
 have A5 := am A50
 clear A50
 replace H := Option.bind_eq_some_iff.mp H
 obtain ⟨⟨t302, t303, t304⟩, A60, H⟩ := H
 replace H : ((cmd_reader_short.f k t303 t304).bind fun bt305 => (cmd_reader_command2.l0 k bt305.1 bt305.2.1 bt305.2.2 t292 t296 t299 t302 ([] : List (S40)) (⟨#[]⟩ : ByteArray))) = some (r1, r2, r3, r4, r5, r6, r7, r8) := H
 have A6 := am A60
 clear A60
 replace H := Option.bind_eq_some_iff.mp H
 obtain ⟨⟨t305, t306, t307⟩, A70, H⟩ := H
 replace H : (cmd_reader_command2.l0 k t305 t306 t307 t292 t296 t299 t302 ([] : List (S40)) (⟨#[]⟩ : ByteArray)) = some (r1, r2, r3, r4, r5, r6, r7, r8) := H
 have A7 := am A70
 clear A70
 have HC8 := am H
 clear H
 go_enter Try.func31, Try.ntmps31
 try go_wp2_with (first | ((with_reducible refine gate_dst (N := 2) rfl ?_); refine bx 2 58 (cs := #[.pointer (some ⟨g, 0, none⟩)]) ?_; intro gb290 hg w9 hbox hb; have n_ := z8 (IsS60.below iz hb) (KeepBut.trans kp (KeepBut.of_below hb g none) (.inl rfl)) (below_step bel hb) (hbox) ((by rw [hg]; exact (keep_size (w := w) (g := g) (row := none) kp) : w.heap.size ≤ gb290)) ((Nat.le_trans HW0.out (by rw [hg]; exact (keep_size (w := w) (g := g) (row := none) kp) : w.heap.size ≤ gb290) : w0.heap.size ≤ gb290)) ((by rw [hg]; exact Nat.ne_of_lt (IsS60.lt (show IsS60 w0 _ g s0_0 s0_1 from iz)) : g ≠ gb290)) ((by rw [hg]; exact Nat.ne_of_gt (IsS60.lt (show IsS60 w0 _ g s0_0 s0_1 from iz)) : gb290 ≠ g)); clear HI0 HK HB; obtain ⟨HI0, HK, HB, BK290, GW290, GE290, NB0_290, NB290_0⟩ := n_; clear hb hbox hg) | ((with_reducible refine gate_dst (N := 4) rfl ?_); refine bx 4 26 (cs := #[.int .i64 0, .int .i64 0, .int .i64 0, .bool false, .slice none 0 0, .string (⟨#[]⟩ : ByteArray)]) ?_; intro gb291 hg w10 hbox hb; have n_ := z11 (IsS60.below iz hb) (blk_below (bk BK290.out) hb) (KeepBut.trans kp (KeepBut.of_below hb g none) (.inl rfl)) (below_step bel hb) (hbox) ((by rw [hg]; exact (keep_size (w := w) (g := g) (row := none) kp) : w.heap.size ≤ gb291)) ((Nat.le_trans HW0.out (by rw [hg]; exact (keep_size (w := w) (g := g) (row := none) kp) : w.heap.size ≤ gb291) : w0.heap.size ≤ gb291)) ((by rw [hg]; exact Nat.ne_of_lt (blk_lt (bk BK290.out)) : gb290 ≠ gb291)) ((by rw [hg]; exact Nat.ne_of_gt (blk_lt (bk BK290.out)) : gb291 ≠ gb290)) ((by rw [hg]; exact Nat.ne_of_lt (IsS60.lt (show IsS60 w0 _ g s0_0 s0_1 from iz)) : g ≠ gb291)) ((by rw [hg]; exact Nat.ne_of_gt (IsS60.lt (show IsS60 w0 _ g s0_0 s0_1 from iz)) : gb291 ≠ g)); clear HI0 BK290 HK HB; obtain ⟨HI0, BK290, HK, HB, BK291, GW291, GE291, NB290_291, NB291_290, NB0_291, NB291_0⟩ := n_; clear hb hbox hg))
 have n_ := z5 (blk_drew BK290.out) (blk_drew BK291.out) (IsS60.drew HI0.out) (keep_drew HK.out) (below_drew1 HB.out)
 clear BK290 BK291 HI0 HK HB
 obtain ⟨BK290, BK291, HI0, HK, HB⟩ := n_
 refine start_ (n := 9) (S := fun w' => w'.cell? ⟨gb290, 0, none⟩ = some (.pointer (some ⟨g, 0, none⟩))) (ds := []) #[false, false, false, false, false, false, false, false, false] (by kernel_rfl) rfl rfl ((blk_cell BK290.out 0).trans rfl) (fun hHeld => ?_); refine with_tabW cmd_reader_command2.tab1 cmd_reader_command2.bits1 (fun HT_ HW_ => ?_)
 generalize w10.drew = w11 at BK290 BK291 HI0 HK HB hHeld ⊢
 refine take_ (i := 0) (N := some 10) (v := ?_) (a' := ?_) #[true, false, false, false, false, false, false, false, false] rfl rfl (take_ofW HT_.out HW_.out (by kernel_rfl)) (fun _ _ _ h => h) (Or.inl ⟨by rfl, ?_⟩) hHeld ?_ ?_
 rotate_left
 ·intro w' s0
  go_simp
  with_reducible rfl
 rotate_left
 ·simp only [Act.put, List.setIfInBounds_toArray, List.set_cons_zero, List.set_cons_succ, i64_w, i32_w]
  rfl
 refine pu 1 (some 11) #[true, true, false, false, false, false, false, false, false] ?_
 refine pu 6 (some 5) #[true, true, false, false, false, false, true, false, false] ?_
 refine take_ (i := 2) (N := some 12) (v := ?_) (a' := ?_) #[true, true, true, false, false, false, true, false, false] rfl rfl (take_ofW HT_.out HW_.out (by kernel_rfl)) (fun _ _ _ h => h) (Or.inl ⟨by rfl, ?_⟩) hHeld ?_ ?_
 rotate_left
 ·intro w' s0
  go_simp
  with_reducible rfl
 rotate_left
 ·simp only [Act.put, List.setIfInBounds_toArray, List.set_cons_zero, List.set_cons_succ, i64_w, i32_w]
  rfl
 refine pu 3 (some 13) #[true, true, true, true, false, false, true, false, false] ?_
 refine pu 7 (some 6) #[true, true, true, true, false, false, true, true, false] ?_
 refine take_ (i := 4) (N := some 14) (v := ?_) (a' := ?_) #[true, true, true, true, true, false, true, true, false] rfl rfl (take_ofW HT_.out HW_.out (by kernel_rfl)) (fun _ _ _ h => h) (Or.inl ⟨by rfl, ?_⟩) hHeld ?_ ?_
 rotate_left
 ·intro w' s0
  go_simp
  with_reducible rfl
 rotate_left
 ·simp only [Act.put, List.setIfInBounds_toArray, List.set_cons_zero, List.set_cons_succ, i64_w, i32_w]
  rfl
 refine pu 5 (some 15) #[true, true, true, true, true, true, true, true, false] ?_
 refine pu 8 (some 7) #[true, true, true, true, true, true, true, true, true] ?_
 refine done_ (done_of HT_.out (by kernel_rfl)) ?_
 have hnb12 := NB290_291.out
 have hnc12 := NB291_290.out
 have hnb13 := NB290_0.out
 have hnc13 := NB0_290.out
 have hcz14_0 : w11.cell? ⟨gb290, 0, none⟩ = some (.pointer (some ⟨g, 0, none⟩)) := (blk_cell BK290.out 0).trans rfl
 have hfz14_0 := blk_frozen BK290.out 0
 go_upto_block 0 with (first | ((with_reducible refine gate_callee (f := 50) rfl ?_); refine goesL_ (some 23) rfl rfl Try.func50 (by kernel_rfl) rfl #[.pointer (some ⟨g, 0, none⟩), .int .i64 1] rfl ar ?_; (with_reducible refine (cmd_reader_fixed.calls k g s0_0 s0_1 1 t292 t293 t294 w0 _ ?side1 ?side2 A3.out).mono ?_); (case side1 => exact iz); (case side2 => exact bel); rintro e w15 ⟨rfl, hi, hb, hk⟩; refine ⟨_, rfl, ?_⟩; have n_ := z5 (KeepBut.blk hk (g' := gb290) (o := .cells #[.pointer (some ⟨g, 0, none⟩)] 58 (0, 0)) (bk BK290.out) NB290_0.out (by simp)) (KeepBut.blk hk (g' := gb291) (o := .cells #[.int .i64 0, .int .i64 0, .int .i64 0, .bool false, .slice none 0 0, .string (⟨#[]⟩ : ByteArray)] 26 (0, 0)) (bk BK291.out) NB291_0.out (by simp)) (KeepBut.trans kp hk (.inl rfl)) (hb) (hi); clear BK290 BK291 HK HB HI0; obtain ⟨BK290, BK291, HK, HB, HI0⟩ := n_; (try clear hb); (try clear hb2); (try clear hk); (try clear hi)) | ((with_reducible refine gate_dst (N := 8) rfl ?_); refine bx 8 26 (cs := #[.int .i64 0, .int .i64 0, .int .i64 0, .bool false, .slice none 0 0, .string (⟨#[]⟩ : ByteArray)]) ?_; intro gb295 hg w16 hbox hb; have n0_ := am (IsS60.below iz hb); have n1_ := am (blk_below (bk BK290.out) hb); have n2_ := am (blk_below (bk BK291.out) hb); have n3_ := am (KeepBut.trans kp (KeepBut.of_below hb g none) (.inl rfl)); have n4_ := am (below_step bel hb); have n5_ := am (hbox); have n6_ := am ((by rw [hg]; exact (keep_size (w := w) (g := g) (row := none) kp) : w.heap.size ≤ gb295)); have n7_ := am ((Nat.le_trans HW0.out (by rw [hg]; exact (keep_size (w := w) (g := g) (row := none) kp) : w.heap.size ≤ gb295) : w0.heap.size ≤ gb295)); have n8_ := am ((by rw [hg]; exact Nat.ne_of_lt (blk_lt (bk BK290.out)) : gb290 ≠ gb295)); have n9_ := am ((by rw [hg]; exact Nat.ne_of_gt (blk_lt (bk BK290.out)) : gb295 ≠ gb290)); have n10_ := am ((by rw [hg]; exact Nat.ne_of_lt (blk_lt (bk BK291.out)) : gb291 ≠ gb295)); have n11_ := am ((by rw [hg]; exact Nat.ne_of_gt (blk_lt (bk BK291.out)) : gb295 ≠ gb291)); have n12_ := am ((by rw [hg]; exact Nat.ne_of_lt (IsS60.lt (show IsS60 w0 _ g t293 t294 from iz)) : g ≠ gb295)); have n13_ := am ((by rw [hg]; exact Nat.ne_of_gt (IsS60.lt (show IsS60 w0 _ g t293 t294 from iz)) : gb295 ≠ g)); clear HI0 BK290 BK291 HK HB; have HI0 := n0_; have BK290 := n1_; have BK291 := n2_; have HK := n3_; have HB := n4_; have BK295 := n5_; have GW295 := n6_; have GE295 := n7_; have NB290_295 := n8_; have NB295_290 := n9_; have NB291_295 := n10_; have NB295_291 := n11_; have NB0_295 := n12_; have NB295_0 := n13_; clear n0_ n1_ n2_ n3_ n4_ n5_ n6_ n7_ n8_ n9_ n10_ n11_ n12_ n13_ hb hbox hg; have hnb17 := NB295_290.out; have hnc17 := NB290_295.out; have hnb18 := NB295_291.out; have hnc18 := NB291_295.out; have hnb19 := NB295_0.out; have hnc19 := NB0_295.out; obtain ⟨hcz20_0, hcz20_1, hcz20_2, hcz20_3, hcz20_4, hcz20_5⟩ := cells6 BK295.out; obtain ⟨hfz20_0, hfz20_1, hfz20_2, hfz20_3, hfz20_4, hfz20_5⟩ := froz6 BK295.out) | ((with_reducible refine gate_dst (N := 26) rfl ?_); refine goesLV_ (some 26) rfl rfl Try.func47 (by kernel_rfl) rfl #[.pointer (some ⟨g, 0, none⟩)] rfl rfl ar ?_; (with_reducible refine (cmd_reader_short.calls k g t293 t294 t296 t297 t298 w0 _ ?side1 ?side2 A4.out).mono ?_); (case side1 => exact iz); (case side2 => exact bel); rintro e w21 ⟨rfl, hi, hb, hk⟩; refine ⟨_, rfl, ?_⟩; have n_ := z6 (KeepBut.blk hk (g' := gb290) (o := .cells #[.pointer (some ⟨g, 0, none⟩)] 58 (0, 0)) (bk BK290.out) NB290_0.out (by simp)) (KeepBut.blk hk (g' := gb291) (o := .cells #[.int .i64 0, .int .i64 0, .int .i64 0, .bool false, .slice none 0 0, .string (⟨#[]⟩ : ByteArray)] 26 (0, 0)) (bk BK291.out) NB291_0.out (by simp)) (KeepBut.blk hk (g' := gb295) (o := .cells #[.int .i64 t292, .int .i64 0, .int .i64 0, .bool false, .slice none 0 0, .string (⟨#[]⟩ : ByteArray)] 26 (0, 0)) (bp BK295.out) NB295_0.out (by simp)) (KeepBut.trans kp hk (.inl rfl)) (hb) (hi); clear BK290 BK291 BK295 HK HB HI0; obtain ⟨BK290, BK291, BK295, HK, HB, HI0⟩ := n_; (try clear hb); (try clear hb2); (try clear hk); (try clear hi); obtain ⟨hcz22_0, hcz22_1, hcz22_2, hcz22_3, hcz22_4, hcz22_5⟩ := cells6 BK295.out; obtain ⟨hfz22_0, hfz22_1, hfz22_2, hfz22_3, hfz22_4, hfz22_5⟩ := froz6 BK295.out) | ((with_reducible refine gate_dst (N := 29) rfl ?_); refine goesLV_ (some 29) rfl rfl Try.func47 (by kernel_rfl) rfl #[.pointer (some ⟨g, 0, none⟩)] rfl rfl ar ?_; (with_reducible refine (cmd_reader_short.calls k g t297 t298 t299 t300 t301 w0 _ ?side1 ?side2 A5.out).mono ?_); (case side1 => exact iz); (case side2 => exact bel); rintro e w23 ⟨rfl, hi, hb, hk⟩; refine ⟨_, rfl, ?_⟩; have n_ := z6 (KeepBut.blk hk (g' := gb290) (o := .cells #[.pointer (some ⟨g, 0, none⟩)] 58 (0, 0)) (bk BK290.out) NB290_0.out (by simp)) (KeepBut.blk hk (g' := gb291) (o := .cells #[.int .i64 0, .int .i64 0, .int .i64 0, .bool false, .slice none 0 0, .string (⟨#[]⟩ : ByteArray)] 26 (0, 0)) (bk BK291.out) NB291_0.out (by simp)) (KeepBut.blk hk (g' := gb295) (o := .cells #[.int .i64 t292, .int .i64 t296, .int .i64 0, .bool false, .slice none 0 0, .string (⟨#[]⟩ : ByteArray)] 26 (0, 0)) (bp BK295.out) NB295_0.out (by simp)) (KeepBut.trans kp hk (.inl rfl)) (hb) (hi); clear BK290 BK291 BK295 HK HB HI0; obtain ⟨BK290, BK291, BK295, HK, HB, HI0⟩ := n_; (try clear hb); (try clear hb2); (try clear hk); (try clear hi); obtain ⟨hcz24_0, hcz24_1, hcz24_2, hcz24_3, hcz24_4, hcz24_5⟩ := cells6 BK295.out; obtain ⟨hfz24_0, hfz24_1, hfz24_2, hfz24_3, hfz24_4, hfz24_5⟩ := froz6 BK295.out; have hcz25_0 : w23.cell? ⟨gb290, 0, none⟩ = some (.pointer (some ⟨g, 0, none⟩)) := (blk_cell BK290.out 0).trans rfl; have hfz25_0 := blk_frozen BK290.out 0) | ((with_reducible refine gate_callee (f := 53) rfl ?_); refine goesL_ (some 32) rfl rfl Try.func53 (by kernel_rfl) rfl #[.pointer (some ⟨g, 0, none⟩)] rfl ar ?_; (with_reducible refine (cmd_reader_flag.calls g t300 t301 t302 t303 t304 w0 _ ?side1 ?side2 A6.out).mono ?_); (case side1 => exact iz); (case side2 => exact bel); rintro e w26 ⟨rfl, hi, hb, hk⟩; refine ⟨_, rfl, ?_⟩; have n_ := z6 (KeepBut.blk hk (g' := gb290) (o := .cells #[.pointer (some ⟨g, 0, none⟩)] 58 (0, 0)) (bk BK290.out) NB290_0.out (by simp)) (KeepBut.blk hk (g' := gb291) (o := .cells #[.int .i64 0, .int .i64 0, .int .i64 0, .bool false, .slice none 0 0, .string (⟨#[]⟩ : ByteArray)] 26 (0, 0)) (bk BK291.out) NB291_0.out (by simp)) (KeepBut.blk hk (g' := gb295) (o := .cells #[.int .i64 t292, .int .i64 t296, .int .i64 t299, .bool false, .slice none 0 0, .string (⟨#[]⟩ : ByteArray)] 26 (0, 0)) (bp BK295.out) NB295_0.out (by simp)) (KeepBut.trans kp hk (.inl rfl)) (hb) (hi); clear BK290 BK291 BK295 HK HB HI0; obtain ⟨BK290, BK291, BK295, HK, HB, HI0⟩ := n_; (try clear hb); (try clear hb2); (try clear hk); (try clear hi); obtain ⟨hcz27_0, hcz27_1, hcz27_2, hcz27_3, hcz27_4, hcz27_5⟩ := cells6 BK295.out; obtain ⟨hfz27_0, hfz27_1, hfz27_2, hfz27_3, hfz27_4, hfz27_5⟩ := froz6 BK295.out) | ((with_reducible refine gate_dst (N := 35) rfl ?_); refine goesLV_ (some 35) rfl rfl Try.func47 (by kernel_rfl) rfl #[.pointer (some ⟨g, 0, none⟩)] rfl rfl ar ?_; (with_reducible refine (cmd_reader_short.calls k g t303 t304 t305 t306 t307 w0 _ ?side1 ?side2 A7.out).mono ?_); (case side1 => exact iz); (case side2 => exact bel); rintro e w28 ⟨rfl, hi, hb, hk⟩; refine ⟨_, rfl, ?_⟩; have n_ := z6 (KeepBut.blk hk (g' := gb290) (o := .cells #[.pointer (some ⟨g, 0, none⟩)] 58 (0, 0)) (bk BK290.out) NB290_0.out (by simp)) (KeepBut.blk hk (g' := gb291) (o := .cells #[.int .i64 0, .int .i64 0, .int .i64 0, .bool false, .slice none 0 0, .string (⟨#[]⟩ : ByteArray)] 26 (0, 0)) (bk BK291.out) NB291_0.out (by simp)) (KeepBut.blk hk (g' := gb295) (o := .cells #[.int .i64 t292, .int .i64 t296, .int .i64 t299, .bool t302, .slice none 0 0, .string (⟨#[]⟩ : ByteArray)] 26 (0, 0)) (bp BK295.out) NB295_0.out (by simp)) (KeepBut.trans kp hk (.inl rfl)) (hb) (hi); clear BK290 BK291 BK295 HK HB HI0; obtain ⟨BK290, BK291, BK295, HK, HB, HI0⟩ := n_; (try clear hb); (try clear hb2); (try clear hk); (try clear hi)))
 (try simp only [Act.put, List.setIfInBounds_toArray, List.set_cons_zero, List.set_cons_succ])
 go_cut [] (fun wc => ∃ (kq : Nat) (x1000_7 : ByteArray) (x1001_7 : Bool) (x296004_7 : List (S40)) (u296004 : Value), Aside0 (cmd_reader_command2.j1 kq x1000_7 x1001_7 t292 t296 t299 t302 x296004_7 (⟨#[]⟩ : ByteArray) = some (r1, r2, r3, r4, r5, r6, r7, r8)) ∧ Aside0 (kq ≤ k) ∧ Aside0 (Kd.R k40 40 wc w.heap.size (fun _ => True) u296004 x296004_7) ∧ Aside0 (wc.heap[gb290]? = some (.cells #[.pointer (some ⟨g, 0, none⟩)] 58 (0, 0))) ∧ Aside0 (wc.heap[gb291]? = some (.cells #[.int .i64 0, .int .i64 0, .int .i64 0, .bool false, (.slice none 0 0), .string (⟨#[]⟩ : ByteArray)] 26 (0, 0))) ∧ Aside0 (wc.heap[gb295]? = some (.cells #[.int .i64 t292, .int .i64 t296, .int .i64 t299, .bool t302, u296004, .string (⟨#[]⟩ : ByteArray)] 26 (0, 0))) ∧ Aside0 (IsS60 w0 wc g x1000_7 x1001_7) ∧ Aside0 (KeepBut w wc g none) ∧ Aside0 (Below w0.heap.size w0 wc))
 case first =>
  have H := HC8.out
  clear HC8
  have H' := am H
  clear H
  go_wp2
  go_loopg [9] k (fun kq v9 w' => ∃ (x9_1 : Int) (x1000_1 : ByteArray) (x1001_1 : Bool) (x296004_1 : List (S40)) (u296004 : Value), v9 = .int .i64 x9_1 ∧ Aside0 (cmd_reader_command2.l0 kq x9_1 x1000_1 x1001_1 t292 t296 t299 t302 x296004_1 (⟨#[]⟩ : ByteArray) = some (r1, r2, r3, r4, r5, r6, r7, r8)) ∧ Aside0 (kq ≤ k) ∧ Aside0 (Kd.R k40 40 w' w.heap.size (fun _ => True) u296004 x296004_1) ∧ Aside0 (w'.heap[gb290]? = some (.cells #[.pointer (some ⟨g, 0, none⟩)] 58 (0, 0))) ∧ Aside0 (w'.heap[gb291]? = some (.cells #[.int .i64 0, .int .i64 0, .int .i64 0, .bool false, (.slice none 0 0), .string (⟨#[]⟩ : ByteArray)] 26 (0, 0))) ∧ Aside0 (w'.heap[gb295]? = some (.cells #[.int .i64 t292, .int .i64 t296, .int .i64 t299, .bool t302, u296004, .string (⟨#[]⟩ : ByteArray)] 26 (0, 0))) ∧ Aside0 (IsS60 w0 w' g x1000_1 x1001_1) ∧ Aside0 (KeepBut w w' g none) ∧ Aside0 (Below w0.heap.size w0 w'))
  case atStart => exact ⟨(t305), (t306), (t307), (([] : List (S40))), (.slice none 0 0), (by first | rfl | (simp; done) | (simp [*]; done)), H', ⟨Nat.le_refl _⟩, ⟨by first | exact Kd.R_nil _ _ _ _ _ | exact Kd.N_nil _ _ _ _ _ | exact Kd.V_nil _ _ _ _ _ | exact Kd.Q_nil _ _ _ _ _ | exact Kd.S_nil _ _ _ _ _⟩, ⟨bk BK290.out⟩, ⟨bk BK291.out⟩, ⟨bk BK295.out⟩, ⟨iz⟩, ⟨kp⟩, ⟨bel⟩⟩
  case round =>
   clear H'
   try clear c1
   try clear p2
   try clear c3
   try clear c4
   try clear c5
   try clear c12
   try clear c13
   try clear c17
   try clear c18
   try clear c19
   try clear hcz14_0
   try clear hcz20_0 hcz20_1 hcz20_2 hcz20_3 hcz20_4 hcz20_5
   try clear hcz22_0 hcz22_1 hcz22_2 hcz22_3 hcz22_4 hcz22_5
   try clear hcz24_0 hcz24_1 hcz24_2 hcz24_3 hcz24_4 hcz24_5
   try clear hcz25_0
   try clear hcz27_0 hcz27_1 hcz27_2 hcz27_3 hcz27_4 hcz27_5
   try clear hfz14_0
   try clear hfz20_0 hfz20_1 hfz20_2 hfz20_3 hfz20_4 hfz20_5
   try clear hfz22_0 hfz22_1 hfz22_2 hfz22_3 hfz22_4 hfz22_5
   try clear hfz24_0 hfz24_1 hfz24_2 hfz24_3 hfz24_4 hfz24_5
   try clear hfz25_0
   try clear hfz27_0 hfz27_1 hfz27_2 hfz27_3 hfz27_4 hfz27_5
   obtain ⟨x9_1, x1000_1, x1001_1, x296004_1, u296004, rfl, HA, HK1, HO_296004, BK290, BK291, BK295, HI0, HK, HB⟩ := hrel
   cases gk with
   | zero => exact absurd HA.out (by simp [cmd_reader_command2.l0])
   | succ k1 =>
    have H := HA.out
    clear HA
    simp only [cmd_reader_command2.l0] at H
    by_cases c29 : x9_1 > 0
    ·rw [if_pos c29] at H
     have c29b0 : decide (0 < x9_1) = true := decide_eq_true c29
     clear c29
     (first | rw [c29b0] | (simp only [i64_w, i32_w]; rw [c29b0]) | skip)
     by_cases c30 : x1001_1 = true
     ·subst c30
      have H1 : (cmd_reader_command2.j1 k1 x1000_1 true t292 t296 t299 t302 x296004_1 (⟨#[]⟩ : ByteArray)) = some (r1, r2, r3, r4, r5, r6, r7, r8) := by rw [if_pos rfl] at H; exact H
      clear H
      have H := H1
      clear H1
      have H' := am H
      clear H
      have hnb31 := NB290_291.out
      have hnc31 := NB291_290.out
      have hnb32 := NB290_295.out
      have hnc32 := NB295_290.out
      have hnb33 := NB290_0.out
      have hnc33 := NB0_290.out
      have hcz34_0 : wr.cell? ⟨gb290, 0, none⟩ = some (.pointer (some ⟨g, 0, none⟩)) := (blk_cell BK290.out 0).trans rfl
      have hfz34_0 := blk_frozen BK290.out 0
      obtain ⟨HGz35, hgz35⟩ := HI0.out
      have hcz35_0 := cellS60_0 HGz35
      have hcz35_1 := cellS60_1 HGz35
      have hfz35_0 := blk_frozen HGz35 0
      have hfz35_1 := blk_frozen HGz35 1
      clear HGz35 hgz35
      go_wp2
      go_meet
      case rel => exact ⟨_, (x1000_1), (true), (x296004_1), (u296004), H', ⟨by have := HK1.out; first | omega | exact Nat.le_refl _⟩, ⟨kr HO_296004.out⟩, ⟨bk BK290.out⟩, ⟨bk BK291.out⟩, ⟨bk BK295.out⟩, ⟨iz⟩, ⟨kp⟩, ⟨bel⟩⟩
     ·replace c30 := Bool.eq_false_iff.mpr c30
      subst c30
      have H1 : ((cmd_reader_newer.f k1 x1000_1 false).bind fun bt308 => (if x296004_1.length < 3518437208883 then (cmd_reader_command2.l0 k1 (wrap64 (x9_1 - 1)) bt308.2.2.2.1 bt308.2.2.2.2 t292 t296 t299 t302 (x296004_1 ++ [(⟨bt308.1, bt308.2.1, bt308.2.2.1⟩ : S40)]) (⟨#[]⟩ : ByteArray)) else (none))) = some (r1, r2, r3, r4, r5, r6, r7, r8) := by rw [if_neg (show ¬ (false = true) by decide)] at H; exact H
      clear H
      have H := H1
      clear H1
      replace H := Option.bind_eq_some_iff.mp H
      obtain ⟨⟨t308, t309, t310, t311, t312⟩, A360, H⟩ := H
      replace H : (if x296004_1.length < 3518437208883 then (cmd_reader_command2.l0 k1 (wrap64 (x9_1 - 1)) t311 t312 t292 t296 t299 t302 (x296004_1 ++ [(⟨t308, t309, t310⟩ : S40)]) (⟨#[]⟩ : ByteArray)) else (none)) = some (r1, r2, r3, r4, r5, r6, r7, r8) := H
      have A36 := am A360
      clear A360
      by_cases c37 : x296004_1.length < 3518437208883
      ·rw [if_pos c37] at H
       have LMc37 := am c37
       clear c37
       obtain ⟨y313, hy313⟩ : ∃ y_ : List (S40), y_ = (x296004_1 ++ [(⟨t308, t309, t310⟩ : S40)]) := ⟨_, rfl⟩
       replace H : (cmd_reader_command2.l0 k1 (wrap64 (x9_1 - 1)) t311 t312 t292 t296 t299 t302 y313 (⟨#[]⟩ : ByteArray)) = some (r1, r2, r3, r4, r5, r6, r7, r8) := by first | (rw [hy313]; with_reducible exact H) | (have H2_ := (Option.bind_some _ _).symm.trans H; rw [hy313]; with_reducible exact H2_) | (have H2_ := (Option.bind_some _ _).symm.trans H; with_reducible exact H2_) | with_reducible exact H | (rw [hy313]; exact H) | exact H
       have Ny313 := am hy313
       clear hy313
       have H' := am H
       clear H
       have hnb38 := NB290_291.out
       have hnc38 := NB291_290.out
       have hnb39 := NB290_295.out
       have hnc39 := NB295_290.out
       have hnb40 := NB290_0.out
       have hnc40 := NB0_290.out
       have hcz41_0 : wr.cell? ⟨gb290, 0, none⟩ = some (.pointer (some ⟨g, 0, none⟩)) := (blk_cell BK290.out 0).trans rfl
       have hfz41_0 := blk_frozen BK290.out 0
       obtain ⟨HGz42, hgz42⟩ := HI0.out
       have hcz42_0 := cellS60_0 HGz42
       have hcz42_1 := cellS60_1 HGz42
       have hfz42_0 := blk_frozen HGz42 0
       have hfz42_1 := blk_frozen HGz42 1
       clear HGz42 hgz42
       try go_wp2
       have n_ := z7 (Kd.R_drew HO_296004.out) (blk_drew BK290.out) (blk_drew BK291.out) (blk_drew BK295.out) (IsS60.drew HI0.out) (keep_drew HK.out) (below_drew1 HB.out)
       clear HO_296004 BK290 BK291 BK295 HI0 HK HB
       obtain ⟨HO_296004, BK290, BK291, BK295, HI0, HK, HB⟩ := n_
       refine start_ (n := 8) (S := fun w' => w'.cell? ⟨gb295, 0, none⟩ = some (.int .i64 t292) ∧ w'.cell? ⟨gb295, 1, none⟩ = some (.int .i64 t296) ∧ w'.cell? ⟨gb295, 2, none⟩ = some (.int .i64 t299) ∧ w'.cell? ⟨gb295, 3, none⟩ = some (.bool t302) ∧ w'.cell? ⟨gb295, 4, none⟩ = some (u296004) ∧ w'.cell? ⟨gb295, 5, none⟩ = some (.string (⟨#[]⟩ : ByteArray))) (ds := [7]) #[false, false, false, false, false, false, false, false] (by kernel_rfl) rfl rfl ⟨(blk_cell BK295.out 0).trans rfl, (blk_cell BK295.out 1).trans rfl, (blk_cell BK295.out 2).trans rfl, (blk_cell BK295.out 3).trans rfl, (blk_cell BK295.out 4).trans rfl, (blk_cell BK295.out 5).trans rfl⟩ (fun hHeld => ?_); refine with_tabW cmd_reader_command2.tab11 cmd_reader_command2.bits11 (fun HT_ HW_ => ?_)
       generalize wr.drew = w43 at HO_296004 BK290 BK291 BK295 HI0 HK HB hHeld ⊢
       refine pu 0 (some 47) #[true, false, false, false, false, false, false, false] ?_
       refine pu 2 (some 49) #[true, false, true, false, false, false, false, false] ?_
       refine ta 1 (some 48) #[true, true, true, false, false, false, false, false] ?_
       refine on 3 (some 50) #[true, true, true, true, false, false, false, false] (fun K hK => ?_)
       refine goesV_ Try.func48 (by kernel_rfl) rfl #[.pointer (some ⟨g, 0, none⟩)] (by rfl) rfl rfl rfl ar ?_
       with_reducible refine (cmd_reader_newer.calls k1 g x1000_1 false t308 t309 t310 t311 t312 w0 _ ?side1 ?side2 A36.out).mono ?_
       (case side1 => exact iz)
       (case side2 => exact bel)
       rintro e w44 ⟨rfl, hi, hb, hk⟩
       refine ⟨_, rfl, ?_⟩
       have n_ := z7 (Kd.R_mono (Kd.R_keep (IsS60.apart (show IsS60 w0 _ g x1000_1 false from iz) (kr HO_296004.out) (by decide)) hk (fun _ h => h.2)) (fun _ h => h.1)) (KeepBut.blk hk (g' := gb290) (o := .cells #[.pointer (some ⟨g, 0, none⟩)] 58 (0, 0)) (bk BK290.out) NB290_0.out (by simp)) (KeepBut.blk hk (g' := gb291) (o := .cells #[.int .i64 0, .int .i64 0, .int .i64 0, .bool false, .slice none 0 0, .string (⟨#[]⟩ : ByteArray)] 26 (0, 0)) (bk BK291.out) NB291_0.out (by simp)) (KeepBut.blk hk (g' := gb295) (o := .cells #[.int .i64 t292, .int .i64 t296, .int .i64 t299, .bool t302, u296004, .string (⟨#[]⟩ : ByteArray)] 26 (0, 0)) (bk BK295.out) NB295_0.out (by simp)) (KeepBut.trans kp hk (.inl rfl)) (hb) (hi)
       clear HO_296004 BK290 BK291 BK295 HK HB HI0
       obtain ⟨HO_296004, BK290, BK291, BK295, HK, HB, HI0⟩ := n_
       (try clear hb)
       (try clear hb2)
       (try clear hk)
       (try clear hi)
       refine hK.out _ _ ⟨(blk_cell BK295.out 0).trans rfl, (blk_cell BK295.out 1).trans rfl, (blk_cell BK295.out 2).trans rfl, (blk_cell BK295.out 3).trans rfl, (blk_cell BK295.out 4).trans rfl, (blk_cell BK295.out 5).trans rfl⟩ (fun hHeld => ?_)
       clear hK K
       refine no 50 ?_
       refine on 4 (some 51) #[true, true, true, true, true, false, false, false] (fun K hK => ?_)
       refine value_ (w1 := ?_) (v := ?_) (by rfl) rfl ?_ ?_
       rotate_left 2
       ·go_simp
        constructor
        ·rfl
        ·rfl
       refine hK.out _ _ ⟨(blk_cell (blk_alloc BK295.out _) 0).trans rfl, (blk_cell (blk_alloc BK295.out _) 1).trans rfl, (blk_cell (blk_alloc BK295.out _) 2).trans rfl, (blk_cell (blk_alloc BK295.out _) 3).trans rfl, (blk_cell (blk_alloc BK295.out _) 4).trans rfl, (blk_cell (blk_alloc BK295.out _) 5).trans rfl⟩ (fun hHeld => ?_)
       clear hK K
       refine no 51 ?_
       refine on 5 (some 52) #[true, true, true, true, true, true, false, false] (fun K hK => ?_)
       refine Kd.R_append_step k40 w.heap.size (by rfl) (.tmp 48) (.tmp 51) 24 40 (.agg #[(.string ⟨#[]⟩), (.string ⟨#[]⟩), (.bool false)]) 40 rfl Try.underlying24 info40 rfl (by decide) (by omega) u296004 x296004_1 (⟨t308, t309, t310⟩ : S40) [.string t308, .string t309, .bool t310] (fun _ => True) (fun _ => False) rfl rfl ?aP (fun _ hk => hk.elim) ?aF ?aO (Below.refl _ _) ?aS ?aL ?_
       (case aP => exact k40_mkM _ _ _ (⟨t308, t309, t310⟩ : S40))
       (case aF => exact (fun _ _ => trivial))
       (case aO => exact (kr HO_296004.out))
       (case aS => exact (keep_size (w := w) (g := g) (row := none) kp))
       (case aL => have := LMc37.out; omega)
       intro v314 w45 ho hb hg hat
       rw [← Ny313.out] at ho
       have n_ := z7 (blk_grown (bk BK290.out) hg (Kd.R_ne HO_296004.out BK290.out (by decide))) (blk_grown (bk BK291.out) hg (Kd.R_ne HO_296004.out BK291.out (by decide))) (blk_grown (bk BK295.out) hg (Kd.R_ne HO_296004.out BK295.out (by decide))) (IsS60.grown iz hg (IsS60.own_ne HI0.out HO_296004.out (by decide))) (below_weaken bel HL.out hb) (KeepBut.trans kp (KeepBut.of_grown hg g) (Kd.R_base2 HO_296004.out)) (ho)
       clear BK290 BK291 BK295 HI0 HB HK HO_296004
       obtain ⟨BK290, BK291, BK295, HI0, HB, HK, HO315⟩ := n_
       clear ho hb hg hat
       obtain ⟨Ao46, co46, eo46⟩ := Kd.R_slice HO315.out
       (first | subst eo46 | (injection eo46 with f1_ f2_ f3_; have f4_ := f1_.symm; have f5_ := f3_.symm; clear f1_ f2_ f3_; subst f4_; subst f5_))
       refine hK.out _ _ ⟨(blk_cell BK295.out 0).trans rfl, (blk_cell BK295.out 1).trans rfl, (blk_cell BK295.out 2).trans rfl, (blk_cell BK295.out 3).trans rfl, (blk_cell BK295.out 4).trans rfl, (blk_cell BK295.out 5).trans rfl⟩ (fun hHeld => ?_)
       clear hK K
       refine no 52 ?_
       refine pu 6 (some 53) #[true, true, true, true, true, true, true, false] ?_
       refine last_ (i := 7) (N := none) #[true, true, true, true, true, true, true, true] rfl rfl (one_of HT_.out (by kernel_rfl)) (by decide) (fun K hK => ?_)
       have hs47 : w45.cell? ⟨gb295, 4, none⟩ = some (u296004) := (blk_cell BK295.out 4).trans rfl
       have hfs47 := blk_frozen BK295.out 4
       have hns47_0 := NB290_295.out
       have hns47_1 := NB291_295.out
       have hms47_0 := NB295_290.out
       have hms47_1 := NB295_291.out
       refine skip_ (w1 := ?_) (by rfl) rfl ?_ ?_
       rotate_left
       ·go_simp
        rfl
       refine hK.out _ _ ?_
       clear hK K
       refine done_ (done_of HT_.out (by kernel_rfl)) ?_
       try go_wp2
       go_roundg k1
       case measure => have := HK1.out; omega
       case rel => exact ⟨(wrap64 (x9_1 - 1)), (t311), (t312), (y313), (.slice Ao46 y313.length co46), (by first | rfl | (simp; done) | (simp [*]; done)), H', ⟨by have := HK1.out; omega⟩, ⟨by (with_reducible repeat (first | apply Kd.R_alloc | apply Kd.R_drewN | apply Kd.R_drew)); exact Kd.R_mono (Kd.R_far (p := ⟨gb295, 4, none⟩) (Kd.R_types HO315.out BK295.out (by decide)) (fun _ hk => hk.2) (.slice Ao46 y313.length co46)) (fun _ hk => trivial)⟩, ⟨bk BK290.out⟩, ⟨bk BK291.out⟩, ⟨bp BK295.out⟩, ⟨iz⟩, ⟨kp⟩, ⟨bel⟩⟩
      ·rw [if_neg c37] at H
       exact absurd H (by simp)
    ·rw [if_neg c29] at H
     have c29b0 : decide (0 < x9_1) = false := decide_eq_false c29
     clear c29
     (first | rw [c29b0] | (simp only [i64_w, i32_w]; rw [c29b0]) | skip)
     have H' := am H
     clear H
     go_wp2
     go_meet
     case rel => exact ⟨_, (x1000_1), (x1001_1), (x296004_1), (u296004), H', ⟨by have := HK1.out; first | omega | exact Nat.le_refl _⟩, ⟨kr HO_296004.out⟩, ⟨bk BK290.out⟩, ⟨bk BK291.out⟩, ⟨bk BK295.out⟩, ⟨iz⟩, ⟨kp⟩, ⟨bel⟩⟩
 case rest =>
  clear HC8
  try clear c1
  try clear c2
  try clear p2
  try clear c3
  try clear c4
  try clear c5
  try clear p6
  try clear c12
  try clear c13
  try clear c17
  try clear c18
  try clear c19
  try clear c29
  try clear c29b0
  try clear c30
  try clear c31
  try clear c32
  try clear c33
  try clear c37
  try clear c38
  try clear c39
  try clear c40
  try clear c47
  try clear hcz14_0
  try clear hcz20_0 hcz20_1 hcz20_2 hcz20_3 hcz20_4 hcz20_5
  try clear hcz22_0 hcz22_1 hcz22_2 hcz22_3 hcz22_4 hcz22_5
  try clear hcz24_0 hcz24_1 hcz24_2 hcz24_3 hcz24_4 hcz24_5
  try clear hcz25_0
  try clear hcz27_0 hcz27_1 hcz27_2 hcz27_3 hcz27_4 hcz27_5
  try clear hcz34_0
  try clear hcz35_0 hcz35_1
  try clear hcz41_0
  try clear hcz42_0 hcz42_1
  try clear hfz14_0
  try clear hfz20_0 hfz20_1 hfz20_2 hfz20_3 hfz20_4 hfz20_5
  try clear hfz22_0 hfz22_1 hfz22_2 hfz22_3 hfz22_4 hfz22_5
  try clear hfz24_0 hfz24_1 hfz24_2 hfz24_3 hfz24_4 hfz24_5
  try clear hfz25_0
  try clear hfz27_0 hfz27_1 hfz27_2 hfz27_3 hfz27_4 hfz27_5
  try clear hfz34_0
  try clear hfz35_0 hfz35_1
  try clear hfz41_0
  try clear hfz42_0 hfz42_1
  try clear p2
  obtain ⟨kq, x1000_7, x1001_7, x296004_7, u296004, HA, HJ7, HO_296004, BK290, BK291, BK295, HI0, HK, HB⟩ := hcut
  cases kq with
  | zero => exact absurd HA.out (by simp [cmd_reader_command2.j1])
  | succ kj7 =>
   have H := HA.out
   clear HA
   simp only [cmd_reader_command2.j1] at H
   replace H := Option.bind_eq_some_iff.mp H
   obtain ⟨⟨t316, t317, t318⟩, A480, H⟩ := H
   replace H : ((cmd_reader_bytes.f t317 t318 t316).bind fun bt319 => (some (t292, t296, t299, t302, x296004_7, bt319.1, bt319.2.1, bt319.2.2))) = some (r1, r2, r3, r4, r5, r6, r7, r8) := H
   have A48 := am A480
   clear A480
   replace H := Option.bind_eq_some_iff.mp H
   obtain ⟨⟨t319, t320, t321⟩, A490, H⟩ := H
   replace H : (some (t292, t296, t299, t302, x296004_7, t319, t320, t321)) = some (r1, r2, r3, r4, r5, r6, r7, r8) := H
   have A49 := am A490
   clear A490
   simp only [Option.some.injEq, Prod.mk.injEq] at H
   obtain ⟨rfl, rfl, rfl, rfl, rfl, rfl, rfl, rfl⟩ := H
   try go_wp2
   have n_ := z7 (Kd.R_drew HO_296004.out) (blk_drew BK290.out) (blk_drew BK291.out) (blk_drew BK295.out) (IsS60.drew HI0.out) (keep_drew HK.out) (below_drew1 HB.out)
   clear HO_296004 BK290 BK291 BK295 HI0 HK HB
   obtain ⟨HO_296004, BK290, BK291, BK295, HI0, HK, HB⟩ := n_
   refine start_ (n := 6) (S := fun w' => w'.cell? ⟨gb290, 0, none⟩ = some (.pointer (some ⟨g, 0, none⟩))) (ds := []) #[false, false, false, false, false, false] (by kernel_rfl) rfl rfl ((blk_cell BK290.out 0).trans rfl) (fun hHeld => ?_)
   generalize wc.drew = w50 at HO_296004 BK290 BK291 BK295 HI0 HK HB hHeld ⊢
   refine take_ (i := 0) (N := some 56) (v := ?_) (a' := ?_) #[true, false, false, false, false, false] rfl rfl (by kernel_rfl) (fun _ _ _ h => h) (Or.inl ⟨by rfl, ?_⟩) hHeld ?_ ?_
   rotate_left
   ·intro w' s0
    go_simp
    with_reducible rfl
   rotate_left
   ·simp only [Act.put, List.setIfInBounds_toArray, List.set_cons_zero, List.set_cons_succ, i64_w, i32_w]
    rfl
   refine take_ (i := 1) (N := some 57) (v := ?_) (a' := ?_) #[true, true, false, false, false, false] rfl rfl (by kernel_rfl) (fun _ _ _ h => h) (Or.inl ⟨by rfl, ?_⟩) hHeld ?_ ?_
   rotate_left
   ·intro w' s0
    go_simp
    with_reducible rfl
   rotate_left
   ·simp only [Act.put, List.setIfInBounds_toArray, List.set_cons_zero, List.set_cons_succ, i64_w, i32_w]
    rfl
   refine one_ (i := 2) (N := some 58) #[true, true, true, false, false, false] rfl rfl (by kernel_rfl) (by decide) (fun K hK => ?_)
   refine goes_ Try.func47 (by kernel_rfl) rfl #[.pointer (some ⟨g, 0, none⟩)] (by rfl) rfl rfl ar ?_
   with_reducible refine (cmd_reader_short.calls kj7 g x1000_7 x1001_7 t316 t317 t318 w0 _ ?side1 ?side2 A48.out).mono ?_
   (case side1 => exact iz)
   (case side2 => exact bel)
   rintro e w51 ⟨rfl, hi, hb, hk⟩
   refine ⟨_, rfl, ?_⟩
   have n_ := z7 (Kd.R_mono (Kd.R_keep (IsS60.apart (show IsS60 w0 _ g x1000_7 x1001_7 from iz) (kr HO_296004.out) (by decide)) hk (fun _ h => h.2)) (fun _ h => h.1)) (KeepBut.blk hk (g' := gb290) (o := .cells #[.pointer (some ⟨g, 0, none⟩)] 58 (0, 0)) (bk BK290.out) NB290_0.out (by simp)) (KeepBut.blk hk (g' := gb291) (o := .cells #[.int .i64 0, .int .i64 0, .int .i64 0, .bool false, .slice none 0 0, .string (⟨#[]⟩ : ByteArray)] 26 (0, 0)) (bk BK291.out) NB291_0.out (by simp)) (KeepBut.blk hk (g' := gb295) (o := .cells #[.int .i64 t292, .int .i64 t296, .int .i64 t299, .bool t302, u296004, .string (⟨#[]⟩ : ByteArray)] 26 (0, 0)) (bk BK295.out) NB295_0.out (by simp)) (KeepBut.trans kp hk (.inl rfl)) (hb) (hi)
   clear HO_296004 BK290 BK291 BK295 HK HB HI0
   obtain ⟨HO_296004, BK290, BK291, BK295, HK, HB, HI0⟩ := n_
   (try clear hb)
   (try clear hb2)
   (try clear hk)
   (try clear hi)
   refine hK.out _ _ ((blk_cell BK290.out 0).trans rfl) (fun hHeld => ?_)
   clear hK K
   refine no 58 ?_
   refine one_ (i := 3) (N := some 59) #[true, true, true, true, false, false] rfl rfl (by kernel_rfl) (by decide) (fun K hK => ?_)
   refine goes_ Try.func54 (by kernel_rfl) rfl #[.pointer (some ⟨g, 0, none⟩), .int .i64 t316] (by rfl) rfl rfl ar ?_
   with_reducible refine (cmd_reader_bytes.calls g t317 t318 t316 t319 t320 t321 w0 _ ?side1 ?side2 A49.out).mono ?_
   (case side1 => exact iz)
   (case side2 => exact bel)
   rintro e w52 ⟨rfl, hi, hb, hk⟩
   refine ⟨_, rfl, ?_⟩
   have n_ := z7 (Kd.R_mono (Kd.R_keep (IsS60.apart (show IsS60 w0 _ g t317 t318 from iz) (kr HO_296004.out) (by decide)) hk (fun _ h => h.2)) (fun _ h => h.1)) (KeepBut.blk hk (g' := gb290) (o := .cells #[.pointer (some ⟨g, 0, none⟩)] 58 (0, 0)) (bk BK290.out) NB290_0.out (by simp)) (KeepBut.blk hk (g' := gb291) (o := .cells #[.int .i64 0, .int .i64 0, .int .i64 0, .bool false, .slice none 0 0, .string (⟨#[]⟩ : ByteArray)] 26 (0, 0)) (bk BK291.out) NB291_0.out (by simp)) (KeepBut.blk hk (g' := gb295) (o := .cells #[.int .i64 t292, .int .i64 t296, .int .i64 t299, .bool t302, u296004, .string (⟨#[]⟩ : ByteArray)] 26 (0, 0)) (bk BK295.out) NB295_0.out (by simp)) (KeepBut.trans kp hk (.inl rfl)) (hb) (hi)
   clear HO_296004 BK290 BK291 BK295 HK HB HI0
   obtain ⟨HO_296004, BK290, BK291, BK295, HK, HB, HI0⟩ := n_
   (try clear hb)
   (try clear hb2)
   (try clear hk)
   (try clear hi)
   refine hK.out _ _ ((blk_cell BK290.out 0).trans rfl) (fun hHeld => ?_)
   clear hK K
   refine no 59 ?_
   refine pure_ (i := 4) (N := some 60) (v := ?_) (a' := ?_) #[true, true, true, true, true, false] rfl rfl (by kernel_rfl) (fun _ _ _ h => h) (Or.inl ⟨by rfl, ?_⟩) ?_ ?_
   rotate_left
   ·intro w'
    go_simp
    with_reducible rfl
   rotate_left
   ·simp only [Act.put, List.setIfInBounds_toArray, List.set_cons_zero, List.set_cons_succ, i64_w, i32_w]
    rfl
   refine one_ (i := 5) (N := none) #[true, true, true, true, true, true] rfl rfl (by kernel_rfl) (by decide) (fun K hK => ?_)
   have hs53 : w52.cell? ⟨gb295, 5, none⟩ = some (.string (⟨#[]⟩ : ByteArray)) := (blk_cell BK295.out 5).trans rfl
   have hfs53 := blk_frozen BK295.out 5
   have hns53_0 := NB290_295.out
   have hns53_1 := NB291_295.out
   have hms53_0 := NB295_290.out
   have hms53_1 := NB295_291.out
   refine skip_ (w1 := ?_) (by rfl) rfl ?_ ?_
   rotate_left
   ·go_simp
    rfl
   refine hK.out _ _ (((cell_far (p := ⟨gb295, _, none⟩) NB290_295.out _).trans (hHeld))) (fun hHeld => ?_)
   clear hK K
   refine done_ (by kernel_rfl) ?_
   have hnb54 := NB295_290.out
   have hnc54 := NB290_295.out
   have hnb55 := NB295_291.out
   have hnc55 := NB291_295.out
   have hnb56 := NB295_0.out
   have hnc56 := NB0_295.out
   obtain ⟨hcz57_0, hcz57_1, hcz57_2, hcz57_3, hcz57_4, hcz57_5⟩ := cells6 BK295.out
   obtain ⟨hfz57_0, hfz57_1, hfz57_2, hfz57_3, hfz57_4, hfz57_5⟩ := froz6 BK295.out
   have hnb58 := NB291_290.out
   have hnc58 := NB290_291.out
   have hnb59 := NB291_0.out
   have hnc59 := NB0_291.out
   obtain ⟨hcz60_0, hcz60_1, hcz60_2, hcz60_3, hcz60_4, hcz60_5⟩ := cells6 BK291.out
   obtain ⟨hfz60_0, hfz60_1, hfz60_2, hfz60_3, hfz60_4, hfz60_5⟩ := froz6 BK291.out
   obtain ⟨Ao61, co61, eo61⟩ := Kd.R_slice HO_296004.out
   subst eo61
   try go_wp2
   refine bodyPost_ret (results_cell_row rfl _ _ gb291 26 #[.int .i64 t292, .int .i64 t296, .int .i64 t299, .bool t302, .slice Ao61 x296004_7.length co61, .string t319] (0, 0) _ rfl (bp BK291.out) Try.underlying26 rfl (by kernel_rfl)) rfl ?_
   exact ⟨_, er, by (with_reducible repeat (first | apply Kd.R_alloc | apply Kd.R_drewN | apply Kd.R_drew)); exact Kd.R_mono (Kd.R_far (p := ⟨gb291, 5, none⟩) (Kd.R_far (p := ⟨gb291, 4, none⟩) (Kd.R_far (p := ⟨gb291, 3, none⟩) (Kd.R_far (p := ⟨gb291, 2, none⟩) (Kd.R_far (p := ⟨gb291, 1, none⟩) (Kd.R_far (p := ⟨gb291, 0, none⟩) (Kd.R_far (p := ⟨gb295, 5, none⟩) (Kd.R_types (Kd.R_types HO_296004.out BK295.out (by decide)) BK291.out (by decide)) (fun _ hk => hk.1.2) (.string t319)) (fun _ hk => hk.2) (.int .i64 t292)) (fun _ hk => hk.2) (.int .i64 t296)) (fun _ hk => hk.2) (.int .i64 t299)) (fun _ hk => hk.2) (.bool t302)) (fun _ hk => hk.2) (.slice Ao61 x296004_7.length co61)) (fun _ hk => hk.2) (.string t319)) (fun _ hk => trivial), iz, bel, kp⟩
def cmd_reader_command.f (k : Nat) (s0_0 : ByteArray) (s0_1 : Bool) (a1 : Int) : Option (Int × Int × Int × Bool × (List (S40)) × ByteArray × ByteArray × Bool) := if a1 = 1 then cmd_reader_command1.f k s0_0 s0_1 a1 else (if a1 = 2 then cmd_reader_command2.f k s0_0 s0_1 a1 else none)
theorem cmd_reader_command.mono : ∀ a0 a1 a2 k, LeO (cmd_reader_command.f k a0 a1 a2) (cmd_reader_command.f (k + 1) a0 a1 a2) := by
 intro a0 a1 a2 k
 unfold cmd_reader_command.f
 exact LeO.ite (cmd_reader_command1.mono _ _ _ _) (LeO.ite (cmd_reader_command2.mono _ _ _ _) (LeO.none _))
theorem cmd_reader_command.calls (k : Nat) (g : Nat) (s0_0 : ByteArray) (s0_1 : Bool) (a1 : Int) (r1 : Int) (r2 : Int) (r3 : Int) (r4 : Bool) (r5 : List (S40)) (r6 : ByteArray) (r7 : ByteArray) (r8 : Bool) (w0 w : World) (hI : IsS60 w0 w g s0_0 s0_1) (hB : Below w0.heap.size w0 w) (h : cmd_reader_command.f k s0_0 s0_1 a1 = some (r1, r2, r3, r4, r5, r6, r7, r8)) :
  Calls Try.prog 31 #[.pointer (some ⟨g, 0, none⟩), .int .i64 a1] w fun e w' => ∃ v4_ : Value, e = .returned (.agg #[.int .i64 r1, .int .i64 r2, .int .i64 r3, .bool r4, v4_, .string r6]) ∧ Kd.R k40 40 w' w.heap.size (fun _ => True) v4_ r5 ∧ IsS60 w0 w' g r7 r8 ∧ Below w0.heap.size w0 w' ∧ KeepBut w w' g none := by
 unfold cmd_reader_command.f at h
 by_cases h1 : a1 = 1
 ·rw [if_pos h1] at h
  subst h1
  exact cmd_reader_command1.calls k g s0_0 s0_1 1 r1 r2 r3 r4 r5 r6 r7 r8 w0 w hI hB h
 ·rw [if_neg h1] at h
  by_cases h2 : a1 = 2
  ·rw [if_pos h2] at h
   subst h2
   exact cmd_reader_command2.calls k g s0_0 s0_1 2 r1 r2 r3 r4 r5 r6 r7 r8 w0 w hI hB h
  ·rw [if_neg h2] at h
   exact absurd h (by simp)
end Go.Proofs.Ytagjmphkfeiiiaa.Q
