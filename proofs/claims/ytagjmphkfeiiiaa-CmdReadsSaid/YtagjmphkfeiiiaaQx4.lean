/- One function's walk, or a law's, by the text that a program of this session prints; what each theorem says stands in it. -/
import Derived.Test.YtagjmphkfeiiiaaQx0
import Derived.Test.YtagjmphkfeiiiaaQx2
import Derived.Test.YtagjmphkfeiiiaaQx3
import Derived.Test.YtagjmphkfeiiiaaXs
namespace Go.Proofs.Ytagjmphkfeiiiaa.Q
open Go.RowKit Go.Proofs.YtagjmphkfeiiiaaW.PrintWords Go.Proofs.YtagjmphkfeiiiaaW.PrintLast Go.Proofs.YtagjmphkfeiiiaaW.PrintMore
attribute [local go_sem] min2_int min_two
set_option linter.unusedVariables false
set_option linter.unusedSimpArgs false
def cmd_newer.f (k : Nat) (l0 : List Int) (a1_0 : ByteArray) (a1_1 : ByteArray) (a1_2 : Bool) : Option (List Int) := (cmd_flag.f l0 a1_2).bind fun t144 => ((cmd_short.f k t144 (a1_0.size : Int)).bind fun t147 => (if t147.length + a1_0.size < 140737488355328 then ((some (t147 ++ bytesOf a1_0 : List Int)).bind fun y150 => (if a1_2 = true then (some y150) else ((cmd_short.f k y150 (a1_1.size : Int)).bind fun t153 => (if t153.length + a1_1.size < 140737488355328 then (some (t153 ++ bytesOf a1_1)) else (none))))) else (none)))
theorem cmd_newer.mono : ∀ a0 a1 a2 a3 k, LeO (cmd_newer.f k a0 a1 a2 a3) (cmd_newer.f (k + 1) a0 a1 a2 a3) := by
  intro a0 a1 a2 a3 k
  unfold cmd_newer.f
  repeat' first
      | (with_reducible exact cmd_short.mono _ _ _)
      | (with_reducible exact LeO.refl _)
      | (with_reducible exact LeO.none _)
      | (with_reducible refine LeO.ite ?_ ?_)
      | (with_reducible refine LeO.bind ?_ (fun _ => ?_))
def cmd_newer.T2 : Bool × List (List Nat × List Nat) := (true, [([], []), ([], []), ([1], [1]), ([2], [2]), ([0, 3], [0, 3]), ([], []), ([5], [5]), ([4, 6, 4], [4, 6]), ([7, 7, 0, 1, 2, 3, 4, 5, 6, 7], [0, 7])])
def cmd_newer.B2 : List Nat := [0, 0, 2, 6, 15, 0, 32, 127, 255]
theorem cmd_newer.tab2 : rtab .any (opsOf Try.f41 2) = cmd_newer.T2 := by kernel_rfl
theorem cmd_newer.bits2 : waitsOk cmd_newer.T2.2 cmd_newer.B2 = true := by kernel_rfl
def cmd_newer.T5 : Bool × List (List Nat × List Nat) := (true, [([], []), ([], []), ([1], [1]), ([2], [2]), ([0, 3], [0, 3]), ([], []), ([5], [5]), ([4, 6, 4], [4, 6]), ([7, 7, 0, 1, 2, 3, 4, 5, 6, 7], [7])])
def cmd_newer.B5 : List Nat := [0, 0, 2, 6, 15, 0, 32, 127, 255]
theorem cmd_newer.tab5 : rtab .any (opsOf Try.f41 5) = cmd_newer.T5 := by kernel_rfl
theorem cmd_newer.bits5 : waitsOk cmd_newer.T5.2 cmd_newer.B5 = true := by kernel_rfl
set_option maxHeartbeats 8000000 in
set_option maxRecDepth 100000 in
theorem cmd_newer.calls (k : Nat) (P0_ : Nat → Prop) (u9000_ : Value) (l0 : List Int) (a1_0 : ByteArray) (a1_1 : ByteArray) (a1_2 : Bool) (r : List Int) (w0 w : World) (hB : Below w0.heap.size w0 w) (ho0 : Kd.R (Kd.int .u8) 5 w w0.heap.size P0_ u9000_ l0) (h : cmd_newer.f k l0 a1_0 a1_1 a1_2 = some r) :
  Calls Try.prog 41 #[u9000_, .agg #[.string a1_0, .string a1_1, .bool a1_2]] w fun e w' => ∃ v0_ : Value, e = .returned (v0_) ∧ Kd.R (Kd.int .u8) 5 w' w0.heap.size (fun k_ => (P0_ k_ ∨ w.heap.size ≤ k_)) v0_ r ∧ Below w0.heap.size w0 w' ∧ Kept w w' (fun k_ => P0_ k_) := by
 have hu40 := Try.underlying40
 have HO0 := am (show Kd.R (Kd.int .u8) 5 w w0.heap.size (fun k_ => (P0_ k_ ∨ w.heap.size ≤ k_)) u9000_ l0 from Kd.R_mono ho0 (fun k_ hk => (.inl hk)))
 have HK := am (Kept.refl w (fun k_ => P0_ k_))
 have HW0 := am hB.size
 have HB := am hB
 clear hB
 have H : ((cmd_flag.f l0 a1_2).bind fun t144 => ((cmd_short.f k t144 (a1_0.size : Int)).bind fun t147 => (if t147.length + a1_0.size < 140737488355328 then ((some (t147 ++ bytesOf a1_0 : List Int)).bind fun y150 => (if a1_2 = true then (some y150) else ((cmd_short.f k y150 (a1_1.size : Int)).bind fun t153 => (if t153.length + a1_1.size < 140737488355328 then (some (t153 ++ bytesOf a1_1)) else (none))))) else (none)))) = some r := h
 clear h
 replace H := Option.bind_eq_some_iff.mp H
 obtain ⟨t144, A30, H⟩ := H
 replace H : ((cmd_short.f k t144 (a1_0.size : Int)).bind fun t147 => (if t147.length + a1_0.size < 140737488355328 then ((some (t147 ++ bytesOf a1_0 : List Int)).bind fun y150 => (if a1_2 = true then (some y150) else ((cmd_short.f k y150 (a1_1.size : Int)).bind fun t153 => (if t153.length + a1_1.size < 140737488355328 then (some (t153 ++ bytesOf a1_1)) else (none))))) else (none))) = some r := H
 have A3 := am A30
 clear A30
 replace H := Option.bind_eq_some_iff.mp H
 obtain ⟨t147, A40, H⟩ := H
 replace H : (if t147.length + a1_0.size < 140737488355328 then ((some (t147 ++ bytesOf a1_0 : List Int)).bind fun y150 => (if a1_2 = true then (some y150) else ((cmd_short.f k y150 (a1_1.size : Int)).bind fun t153 => (if t153.length + a1_1.size < 140737488355328 then (some (t153 ++ bytesOf a1_1)) else (none))))) else (none)) = some r := H
 have A4 := am A40
 clear A40
 by_cases c5 : t147.length + a1_0.size < 140737488355328
 ·rw [if_pos c5] at H
  have LMc5 := am c5
  clear c5
  obtain ⟨y150, hy150⟩ : ∃ y_ : List Int, y_ = (t147 ++ bytesOf a1_0) := ⟨_, rfl⟩
  replace H : (if a1_2 = true then (some y150) else ((cmd_short.f k y150 (a1_1.size : Int)).bind fun t153 => (if t153.length + a1_1.size < 140737488355328 then (some (t153 ++ bytesOf a1_1)) else (none)))) = some r := by first | (rw [hy150]; with_reducible exact H) | (have H2_ := (Option.bind_some _ _).symm.trans H; rw [hy150]; with_reducible exact H2_) | (have H2_ := (Option.bind_some _ _).symm.trans H; with_reducible exact H2_) | with_reducible exact H | (rw [hy150]; exact H) | exact H
  have Ny150 := am hy150
  clear hy150
  by_cases c6 : a1_2 = true
  ·subst c6
   have H1 : (some y150) = some r := by rw [if_pos rfl] at H; exact H
   clear H
   have H := H1
   clear H1
   obtain rfl := Option.some.inj H
   go_enter Try.func41, Try.ntmps41
   try go_wp2_with (first | ((with_reducible refine gate_dst (N := 3) rfl ?_); refine bx 3 40 (cs := #[.string a1_0, .string a1_1, .bool true]) ?_; intro gb143 hg w7 hbox hb; have n_ := z6 (Kd.R_below (kr HO0.out) hb) (Kept.below (S := (fun k_ => P0_ k_)) kq hb) (below_step bel hb) (hbox) ((by rw [hg]; exact (by first | exact HK.out.1 | exact (show Kept w _ (fun k_ => P0_ k_) from kq).1) : w.heap.size ≤ gb143)) ((by rw [hg]; exact (below_size bel) : w0.heap.size ≤ gb143)); clear HO0 HK HB; obtain ⟨HO0, HK, HB, BK143, GW143, GE143⟩ := n_; clear hb hbox hg; obtain ⟨hcz8_0, hcz8_1, hcz8_2⟩ := cells3 BK143.out; obtain ⟨hfz8_0, hfz8_1, hfz8_2⟩ := froz3 BK143.out; obtain ⟨Ao9, co9, eo9⟩ := Kd.R_slice HO0.out; subst eo9) | ((with_reducible refine gate_callee (f := 26) rfl ?_); refine goesL_ (some 8) rfl rfl Try.func26 (by kernel_rfl) rfl #[.slice Ao9 l0.length co9, .bool true] rfl ar ?_; (with_reducible refine (cmd_flag.calls (fun k_ => some k_ = (.slice Ao9 l0.length co9 : Value).ownBlock) (.slice Ao9 l0.length co9) l0 true t144 w0 _ ?side1 ?side2 A3.out).mono ?_); (case side1 => exact bel); (case side2 => exact Kd.R_tight rfl HO0.out); rintro e w10 ⟨v145, rfl, ho0, hb, hkp⟩; refine ⟨_, rfl, ?_⟩; have n_ := z4 (blk_kept (bk BK143.out) hkp (fun hs_ => (fun e_ => (Kd.R_ne HO0.out BK143.out (by decide)) e_) hs_)) (Kd.R_mono (ok' := fun k_ => (P0_ k_ ∨ w.heap.size ≤ k_)) ho0 (fun k_ hk_ => Or.elim hk_ (fun hs_ => (HO0.out.1 k_ (hs_).symm)) (fun hn_ => (.inr (Nat.le_trans (by first | exact HK.out.1 | exact (show Kept w _ (fun k_ => P0_ k_) from kq).1) hn_))))) (Kept.then_ (S := (fun k_ => P0_ k_)) kq hkp (fun k_ hs_ => (fun e_ => (HO0.out.1 k_ e_.symm)) hs_)) (hb); clear BK143 HK HB HO0; obtain ⟨BK143, HO146, HK, HB⟩ := n_; (try clear hb); (try clear hkp); (try clear ho0)))
   have n_ := z4 (Kd.R_drew HO146.out) (blk_drew BK143.out) (Kept.drew HK.out) (below_drew1 HB.out)
   clear HO146 BK143 HK HB
   obtain ⟨HO146, BK143, HK, HB⟩ := n_
   obtain ⟨Ao12, co12, eo12⟩ := Kd.R_slice HO146.out
   (first | subst eo12 | (injection eo12 with f1_ f2_ f3_; have f4_ := f1_.symm; have f5_ := f3_.symm; clear f1_ f2_ f3_; subst f4_; subst f5_))
   refine start_ (n := 9) (S := fun w' => w'.cell? ⟨gb143, 0, none⟩ = some (.string a1_0) ∧ w'.cell? ⟨gb143, 1, none⟩ = some (.string a1_1) ∧ w'.cell? ⟨gb143, 2, none⟩ = some (.bool true)) (ds := []) #[false, false, false, false, false, false, false, false, false] (by kernel_rfl) rfl rfl ⟨(blk_cell BK143.out 0).trans rfl, (blk_cell BK143.out 1).trans rfl, (blk_cell BK143.out 2).trans rfl⟩ (fun hHeld => ?_); refine with_tabW cmd_newer.tab2 cmd_newer.bits2 (fun HT_ HW_ => ?_)
   generalize w10.drew = w11 at HO146 BK143 HK HB hHeld ⊢
   refine pu 0 (some 9) #[true, false, false, false, false, false, false, false, false] ?_
   refine pu 1 (some 10) #[true, true, false, false, false, false, false, false, false] ?_
   refine pu 5 (some 14) #[true, true, false, false, false, true, false, false, false] ?_
   refine ta 2 (some 11) #[true, true, true, false, false, true, false, false, false] ?_
   refine pu 3 (some 12) #[true, true, true, true, false, true, false, false, false] ?_
   refine ta 6 (some 15) #[true, true, true, true, false, true, true, false, false] ?_
   refine on 4 (some 13) #[true, true, true, true, true, true, true, false, false] (fun K hK => ?_)
   refine goes_ Try.func40 (by kernel_rfl) rfl #[.slice Ao12 t144.length co12, .int .i64 (a1_0.size : Int)] (by rfl) rfl rfl ar ?_
   with_reducible refine (cmd_short.calls k (fun k_ => some k_ = (.slice Ao12 t144.length co12 : Value).ownBlock) (.slice Ao12 t144.length co12) t144 (a1_0.size : Int) t147 w0 _ ?side1 ?side2 A4.out).mono ?_
   (case side1 => exact bel)
   (case side2 => exact Kd.R_tight rfl HO146.out)
   rintro e w13 ⟨v148, rfl, ho0, hb, hkp⟩
   refine ⟨_, rfl, ?_⟩
   have n_ := z4 (blk_kept (bk BK143.out) hkp (fun hs_ => (fun e_ => (Kd.R_ne HO146.out BK143.out (by decide)) e_) hs_)) (Kd.R_mono (ok' := fun k_ => (P0_ k_ ∨ w.heap.size ≤ k_)) ho0 (fun k_ hk_ => Or.elim hk_ (fun hs_ => (HO146.out.1 k_ (hs_).symm)) (fun hn_ => (.inr (Nat.le_trans (by first | exact HK.out.1 | exact (show Kept w _ (fun k_ => P0_ k_) from kq).1) hn_))))) (Kept.then_ (S := (fun k_ => P0_ k_)) kq hkp (fun k_ hs_ => (fun e_ => (HO146.out.1 k_ e_.symm)) hs_)) (hb)
   clear BK143 HK HB HO146
   obtain ⟨BK143, HO149, HK, HB⟩ := n_
   (try clear hb)
   (try clear hkp)
   (try clear ho0)
   refine hK.out _ _ ⟨(blk_cell BK143.out 0).trans rfl, (blk_cell BK143.out 1).trans rfl, (blk_cell BK143.out 2).trans rfl⟩ (fun hHeld => ?_)
   clear hK K
   refine no 13 ?_
   refine on 7 (some 16) #[true, true, true, true, true, true, true, true, false] (fun K hK => ?_)
   refine Kd.R_append_str_step (w0 := w0) w0.heap.size (by rfl) (.tmp 13) _ 35 9 5 rfl Try.underlying35 Try.underlying9 info5 v148 t147 a1_0 (fun k_ => (P0_ k_ ∨ w.heap.size ≤ k_)) rfl rfl ?aF ?aO ?aB ?aS ?aL ?_
   (case aB => exact bel)
   (case aF => exact (fun k_ hk => (.inr (Nat.le_trans (by first | exact HK.out.1 | exact (show Kept w _ (fun k_ => P0_ k_) from kq).1) hk))))
   (case aO => exact (kr HO149.out))
   (case aS => exact (below_size bel))
   (case aL => have := LMc5.out; omega)
   intro v151 w14 ho hb hg hat
   rw [← Ny150.out] at ho
   have n_ := z4 (blk_grown (bk BK143.out) hg (Kd.R_ne HO149.out BK143.out (by decide))) (hb) (Kept.of_grown (S := (fun k_ => P0_ k_)) hg kq (fun k_ e_ => (HO149.out.1 k_ e_))) (ho)
   clear BK143 HB HK HO149
   obtain ⟨BK143, HB, HK, HO152⟩ := n_
   clear ho hb hg hat
   refine hK.out _ _ ⟨(blk_cell BK143.out 0).trans rfl, (blk_cell BK143.out 1).trans rfl, (blk_cell BK143.out 2).trans rfl⟩ (fun hHeld => ?_)
   clear hK K
   refine no 16 ?_
   refine pu 8 (some 0) #[true, true, true, true, true, true, true, true, true] ?_
   refine done_ (done_of HT_.out (by kernel_rfl)) ?_
   obtain ⟨hcz15_0, hcz15_1, hcz15_2⟩ := cells3 BK143.out
   obtain ⟨hfz15_0, hfz15_1, hfz15_2⟩ := froz3 BK143.out
   try go_wp2
   go_ret
   exact ⟨_, er, kr HO152.out, bel, kq⟩
  ·replace c6 := Bool.eq_false_iff.mpr c6
   subst c6
   have H1 : ((cmd_short.f k y150 (a1_1.size : Int)).bind fun t153 => (if t153.length + a1_1.size < 140737488355328 then (some (t153 ++ bytesOf a1_1)) else (none))) = some r := by rw [if_neg (show ¬ (false = true) by decide)] at H; exact H
   clear H
   have H := H1
   clear H1
   replace H := Option.bind_eq_some_iff.mp H
   obtain ⟨t153, A160, H⟩ := H
   replace H : (if t153.length + a1_1.size < 140737488355328 then (some (t153 ++ bytesOf a1_1)) else (none)) = some r := H
   have A16 := am A160
   clear A160
   by_cases c17 : t153.length + a1_1.size < 140737488355328
   ·rw [if_pos c17] at H
    have LMc17 := am c17
    clear c17
    obtain ⟨y156, hy156⟩ : ∃ y_ : List Int, y_ = (t153 ++ bytesOf a1_1) := ⟨_, rfl⟩
    replace H : (some y156) = some r := by first | (rw [hy156]; with_reducible exact H) | (have H2_ := (Option.bind_some _ _).symm.trans H; rw [hy156]; with_reducible exact H2_) | (have H2_ := (Option.bind_some _ _).symm.trans H; with_reducible exact H2_) | with_reducible exact H | (rw [hy156]; exact H) | exact H
    have Ny156 := am hy156
    clear hy156
    obtain rfl := Option.some.inj H
    go_enter Try.func41, Try.ntmps41
    try go_wp2_with (first | ((with_reducible refine gate_dst (N := 3) rfl ?_); refine bx 3 40 (cs := #[.string a1_0, .string a1_1, .bool false]) ?_; intro gb143 hg w18 hbox hb; have n_ := z6 (Kd.R_below (kr HO0.out) hb) (Kept.below (S := (fun k_ => P0_ k_)) kq hb) (below_step bel hb) (hbox) ((by rw [hg]; exact (by first | exact HK.out.1 | exact (show Kept w _ (fun k_ => P0_ k_) from kq).1) : w.heap.size ≤ gb143)) ((by rw [hg]; exact (below_size bel) : w0.heap.size ≤ gb143)); clear HO0 HK HB; obtain ⟨HO0, HK, HB, BK143, GW143, GE143⟩ := n_; clear hb hbox hg; obtain ⟨hcz19_0, hcz19_1, hcz19_2⟩ := cells3 BK143.out; obtain ⟨hfz19_0, hfz19_1, hfz19_2⟩ := froz3 BK143.out; obtain ⟨Ao20, co20, eo20⟩ := Kd.R_slice HO0.out; subst eo20) | ((with_reducible refine gate_callee (f := 26) rfl ?_); refine goesL_ (some 8) rfl rfl Try.func26 (by kernel_rfl) rfl #[.slice Ao20 l0.length co20, .bool false] rfl ar ?_; (with_reducible refine (cmd_flag.calls (fun k_ => some k_ = (.slice Ao20 l0.length co20 : Value).ownBlock) (.slice Ao20 l0.length co20) l0 false t144 w0 _ ?side1 ?side2 A3.out).mono ?_); (case side1 => exact bel); (case side2 => exact Kd.R_tight rfl HO0.out); rintro e w21 ⟨v145, rfl, ho0, hb, hkp⟩; refine ⟨_, rfl, ?_⟩; have n_ := z4 (blk_kept (bk BK143.out) hkp (fun hs_ => (fun e_ => (Kd.R_ne HO0.out BK143.out (by decide)) e_) hs_)) (Kd.R_mono (ok' := fun k_ => (P0_ k_ ∨ w.heap.size ≤ k_)) ho0 (fun k_ hk_ => Or.elim hk_ (fun hs_ => (HO0.out.1 k_ (hs_).symm)) (fun hn_ => (.inr (Nat.le_trans (by first | exact HK.out.1 | exact (show Kept w _ (fun k_ => P0_ k_) from kq).1) hn_))))) (Kept.then_ (S := (fun k_ => P0_ k_)) kq hkp (fun k_ hs_ => (fun e_ => (HO0.out.1 k_ e_.symm)) hs_)) (hb); clear BK143 HK HB HO0; obtain ⟨BK143, HO146, HK, HB⟩ := n_; (try clear hb); (try clear hkp); (try clear ho0)))
    have n_ := z4 (Kd.R_drew HO146.out) (blk_drew BK143.out) (Kept.drew HK.out) (below_drew1 HB.out)
    clear HO146 BK143 HK HB
    obtain ⟨HO146, BK143, HK, HB⟩ := n_
    obtain ⟨Ao23, co23, eo23⟩ := Kd.R_slice HO146.out
    (first | subst eo23 | (injection eo23 with f1_ f2_ f3_; have f4_ := f1_.symm; have f5_ := f3_.symm; clear f1_ f2_ f3_; subst f4_; subst f5_))
    refine start_ (n := 9) (S := fun w' => w'.cell? ⟨gb143, 0, none⟩ = some (.string a1_0) ∧ w'.cell? ⟨gb143, 1, none⟩ = some (.string a1_1) ∧ w'.cell? ⟨gb143, 2, none⟩ = some (.bool false)) (ds := []) #[false, false, false, false, false, false, false, false, false] (by kernel_rfl) rfl rfl ⟨(blk_cell BK143.out 0).trans rfl, (blk_cell BK143.out 1).trans rfl, (blk_cell BK143.out 2).trans rfl⟩ (fun hHeld => ?_); refine with_tabW cmd_newer.tab2 cmd_newer.bits2 (fun HT_ HW_ => ?_)
    generalize w21.drew = w22 at HO146 BK143 HK HB hHeld ⊢
    refine pu 0 (some 9) #[true, false, false, false, false, false, false, false, false] ?_
    refine pu 1 (some 10) #[true, true, false, false, false, false, false, false, false] ?_
    refine pu 5 (some 14) #[true, true, false, false, false, true, false, false, false] ?_
    refine ta 2 (some 11) #[true, true, true, false, false, true, false, false, false] ?_
    refine pu 3 (some 12) #[true, true, true, true, false, true, false, false, false] ?_
    refine ta 6 (some 15) #[true, true, true, true, false, true, true, false, false] ?_
    refine on 4 (some 13) #[true, true, true, true, true, true, true, false, false] (fun K hK => ?_)
    refine goes_ Try.func40 (by kernel_rfl) rfl #[.slice Ao23 t144.length co23, .int .i64 (a1_0.size : Int)] (by rfl) rfl rfl ar ?_
    with_reducible refine (cmd_short.calls k (fun k_ => some k_ = (.slice Ao23 t144.length co23 : Value).ownBlock) (.slice Ao23 t144.length co23) t144 (a1_0.size : Int) t147 w0 _ ?side1 ?side2 A4.out).mono ?_
    (case side1 => exact bel)
    (case side2 => exact Kd.R_tight rfl HO146.out)
    rintro e w24 ⟨v148, rfl, ho0, hb, hkp⟩
    refine ⟨_, rfl, ?_⟩
    have n_ := z4 (blk_kept (bk BK143.out) hkp (fun hs_ => (fun e_ => (Kd.R_ne HO146.out BK143.out (by decide)) e_) hs_)) (Kd.R_mono (ok' := fun k_ => (P0_ k_ ∨ w.heap.size ≤ k_)) ho0 (fun k_ hk_ => Or.elim hk_ (fun hs_ => (HO146.out.1 k_ (hs_).symm)) (fun hn_ => (.inr (Nat.le_trans (by first | exact HK.out.1 | exact (show Kept w _ (fun k_ => P0_ k_) from kq).1) hn_))))) (Kept.then_ (S := (fun k_ => P0_ k_)) kq hkp (fun k_ hs_ => (fun e_ => (HO146.out.1 k_ e_.symm)) hs_)) (hb)
    clear BK143 HK HB HO146
    obtain ⟨BK143, HO149, HK, HB⟩ := n_
    (try clear hb)
    (try clear hkp)
    (try clear ho0)
    refine hK.out _ _ ⟨(blk_cell BK143.out 0).trans rfl, (blk_cell BK143.out 1).trans rfl, (blk_cell BK143.out 2).trans rfl⟩ (fun hHeld => ?_)
    clear hK K
    refine no 13 ?_
    refine on 7 (some 16) #[true, true, true, true, true, true, true, true, false] (fun K hK => ?_)
    refine Kd.R_append_str_step (w0 := w0) w0.heap.size (by rfl) (.tmp 13) _ 35 9 5 rfl Try.underlying35 Try.underlying9 info5 v148 t147 a1_0 (fun k_ => (P0_ k_ ∨ w.heap.size ≤ k_)) rfl rfl ?aF ?aO ?aB ?aS ?aL ?_
    (case aB => exact bel)
    (case aF => exact (fun k_ hk => (.inr (Nat.le_trans (by first | exact HK.out.1 | exact (show Kept w _ (fun k_ => P0_ k_) from kq).1) hk))))
    (case aO => exact (kr HO149.out))
    (case aS => exact (below_size bel))
    (case aL => have := LMc5.out; omega)
    intro v151 w25 ho hb hg hat
    rw [← Ny150.out] at ho
    have n_ := z4 (blk_grown (bk BK143.out) hg (Kd.R_ne HO149.out BK143.out (by decide))) (hb) (Kept.of_grown (S := (fun k_ => P0_ k_)) hg kq (fun k_ e_ => (HO149.out.1 k_ e_))) (ho)
    clear BK143 HB HK HO149
    obtain ⟨BK143, HB, HK, HO152⟩ := n_
    clear ho hb hg hat
    refine hK.out _ _ ⟨(blk_cell BK143.out 0).trans rfl, (blk_cell BK143.out 1).trans rfl, (blk_cell BK143.out 2).trans rfl⟩ (fun hHeld => ?_)
    clear hK K
    refine no 16 ?_
    refine pu 8 (some 0) #[true, true, true, true, true, true, true, true, true] ?_
    refine done_ (done_of HT_.out (by kernel_rfl)) ?_
    obtain ⟨hcz26_0, hcz26_1, hcz26_2⟩ := cells3 BK143.out
    obtain ⟨hfz26_0, hfz26_1, hfz26_2⟩ := froz3 BK143.out
    try go_wp2
    have n_ := z4 (Kd.R_drew HO152.out) (blk_drew BK143.out) (Kept.drew HK.out) (below_drew1 HB.out)
    clear HO152 BK143 HK HB
    obtain ⟨HO152, BK143, HK, HB⟩ := n_
    obtain ⟨Ao28, co28, eo28⟩ := Kd.R_slice HO152.out
    (first | subst eo28 | (injection eo28 with f1_ f2_ f3_; have f4_ := f1_.symm; have f5_ := f3_.symm; clear f1_ f2_ f3_; subst f4_; subst f5_))
    refine start_ (n := 9) (S := fun w' => w'.cell? ⟨gb143, 0, none⟩ = some (.string a1_0) ∧ w'.cell? ⟨gb143, 1, none⟩ = some (.string a1_1) ∧ w'.cell? ⟨gb143, 2, none⟩ = some (.bool false)) (ds := []) #[false, false, false, false, false, false, false, false, false] (by kernel_rfl) rfl rfl ⟨(blk_cell BK143.out 0).trans rfl, (blk_cell BK143.out 1).trans rfl, (blk_cell BK143.out 2).trans rfl⟩ (fun hHeld => ?_); refine with_tabW cmd_newer.tab5 cmd_newer.bits5 (fun HT_ HW_ => ?_)
    generalize w25.drew = w27 at HO152 BK143 HK HB hHeld ⊢
    refine pu 0 (some 20) #[true, false, false, false, false, false, false, false, false] ?_
    refine pu 1 (some 21) #[true, true, false, false, false, false, false, false, false] ?_
    refine pu 5 (some 25) #[true, true, false, false, false, true, false, false, false] ?_
    refine ta 2 (some 22) #[true, true, true, false, false, true, false, false, false] ?_
    refine pu 3 (some 23) #[true, true, true, true, false, true, false, false, false] ?_
    refine ta 6 (some 26) #[true, true, true, true, false, true, true, false, false] ?_
    refine on 4 (some 24) #[true, true, true, true, true, true, true, false, false] (fun K hK => ?_)
    refine goes_ Try.func40 (by kernel_rfl) rfl #[.slice Ao28 y150.length co28, .int .i64 (a1_1.size : Int)] (by rfl) rfl rfl ar ?_
    with_reducible refine (cmd_short.calls k (fun k_ => some k_ = (.slice Ao28 y150.length co28 : Value).ownBlock) (.slice Ao28 y150.length co28) y150 (a1_1.size : Int) t153 w0 _ ?side1 ?side2 A16.out).mono ?_
    (case side1 => exact bel)
    (case side2 => exact Kd.R_tight rfl HO152.out)
    rintro e w29 ⟨v154, rfl, ho0, hb, hkp⟩
    refine ⟨_, rfl, ?_⟩
    have n_ := z4 (blk_kept (bk BK143.out) hkp (fun hs_ => (fun e_ => (Kd.R_ne HO152.out BK143.out (by decide)) e_) hs_)) (Kd.R_mono (ok' := fun k_ => (P0_ k_ ∨ w.heap.size ≤ k_)) ho0 (fun k_ hk_ => Or.elim hk_ (fun hs_ => (HO152.out.1 k_ (hs_).symm)) (fun hn_ => (.inr (Nat.le_trans (by first | exact HK.out.1 | exact (show Kept w _ (fun k_ => P0_ k_) from kq).1) hn_))))) (Kept.then_ (S := (fun k_ => P0_ k_)) kq hkp (fun k_ hs_ => (fun e_ => (HO152.out.1 k_ e_.symm)) hs_)) (hb)
    clear BK143 HK HB HO152
    obtain ⟨BK143, HO155, HK, HB⟩ := n_
    (try clear hb)
    (try clear hkp)
    (try clear ho0)
    refine hK.out _ _ ⟨(blk_cell BK143.out 0).trans rfl, (blk_cell BK143.out 1).trans rfl, (blk_cell BK143.out 2).trans rfl⟩ (fun hHeld => ?_)
    clear hK K
    refine no 24 ?_
    refine on 7 (some 27) #[true, true, true, true, true, true, true, true, false] (fun K hK => ?_)
    refine Kd.R_append_str_step (w0 := w0) w0.heap.size (by rfl) (.tmp 24) _ 35 9 5 rfl Try.underlying35 Try.underlying9 info5 v154 t153 a1_1 (fun k_ => (P0_ k_ ∨ w.heap.size ≤ k_)) rfl rfl ?aF ?aO ?aB ?aS ?aL ?_
    (case aB => exact bel)
    (case aF => exact (fun k_ hk => (.inr (Nat.le_trans (by first | exact HK.out.1 | exact (show Kept w _ (fun k_ => P0_ k_) from kq).1) hk))))
    (case aO => exact (kr HO155.out))
    (case aS => exact (below_size bel))
    (case aL => have := LMc17.out; omega)
    intro v157 w30 ho hb hg hat
    rw [← Ny156.out] at ho
    have n_ := z4 (blk_grown (bk BK143.out) hg (Kd.R_ne HO155.out BK143.out (by decide))) (hb) (Kept.of_grown (S := (fun k_ => P0_ k_)) hg kq (fun k_ e_ => (HO155.out.1 k_ e_))) (ho)
    clear BK143 HB HK HO155
    obtain ⟨BK143, HB, HK, HO158⟩ := n_
    clear ho hb hg hat
    refine hK.out _ _ ⟨(blk_cell BK143.out 0).trans rfl, (blk_cell BK143.out 1).trans rfl, (blk_cell BK143.out 2).trans rfl⟩ (fun hHeld => ?_)
    clear hK K
    refine no 27 ?_
    refine pu 8 (some 4) #[true, true, true, true, true, true, true, true, true] ?_
    refine done_ (done_of HT_.out (by kernel_rfl)) ?_
    try go_wp2
    go_ret
    exact ⟨_, er, kr HO158.out, bel, kq⟩
   ·rw [if_neg c17] at H
    exact absurd H (by simp)
 ·rw [if_neg c5] at H
  exact absurd H (by simp)
def cmd_said.f (k : Nat) (l0 : List Int) (a1 : ByteArray) : Option (List Int) := (cmd_short.f k l0 (a1.size : Int)).bind fun t159 => (if t159.length + a1.size < 140737488355328 then (some (t159 ++ bytesOf a1)) else (none))
theorem cmd_said.mono : ∀ a0 a1 k, LeO (cmd_said.f k a0 a1) (cmd_said.f (k + 1) a0 a1) := by
  intro a0 a1 k
  unfold cmd_said.f
  repeat' first
      | (with_reducible exact cmd_short.mono _ _ _)
      | (with_reducible exact LeO.refl _)
      | (with_reducible exact LeO.none _)
      | (with_reducible refine LeO.ite ?_ ?_)
      | (with_reducible refine LeO.bind ?_ (fun _ => ?_))
set_option maxHeartbeats 8000000 in
set_option maxRecDepth 100000 in
theorem cmd_said.calls (k : Nat) (P0_ : Nat → Prop) (u9000_ : Value) (l0 : List Int) (a1 : ByteArray) (r : List Int) (w0 w : World) (hB : Below w0.heap.size w0 w) (ho0 : Kd.R (Kd.int .u8) 5 w w0.heap.size P0_ u9000_ l0) (h : cmd_said.f k l0 a1 = some r) :
  Calls Try.prog 42 #[u9000_, .string a1] w fun e w' => ∃ v0_ : Value, e = .returned (v0_) ∧ Kd.R (Kd.int .u8) 5 w' w0.heap.size (fun k_ => (P0_ k_ ∨ w.heap.size ≤ k_)) v0_ r ∧ Below w0.heap.size w0 w' ∧ Kept w w' (fun k_ => P0_ k_) := by
 have HO0 := am (show Kd.R (Kd.int .u8) 5 w w0.heap.size (fun k_ => (P0_ k_ ∨ w.heap.size ≤ k_)) u9000_ l0 from Kd.R_mono ho0 (fun k_ hk => (.inl hk)))
 have HK := am (Kept.refl w (fun k_ => P0_ k_))
 have HW0 := am hB.size
 have HB := am hB
 clear hB
 have H : ((cmd_short.f k l0 (a1.size : Int)).bind fun t159 => (if t159.length + a1.size < 140737488355328 then (some (t159 ++ bytesOf a1)) else (none))) = some r := h
 clear h
 replace H := Option.bind_eq_some_iff.mp H
 obtain ⟨t159, A30, H⟩ := H
 replace H : (if t159.length + a1.size < 140737488355328 then (some (t159 ++ bytesOf a1)) else (none)) = some r := H
 have A3 := am A30
 clear A30
 by_cases c4 : t159.length + a1.size < 140737488355328
 ·rw [if_pos c4] at H
  have LMc4 := am c4
  clear c4
  obtain ⟨y162, hy162⟩ : ∃ y_ : List Int, y_ = (t159 ++ bytesOf a1) := ⟨_, rfl⟩
  replace H : (some y162) = some r := by first | (rw [hy162]; with_reducible exact H) | (have H2_ := (Option.bind_some _ _).symm.trans H; rw [hy162]; with_reducible exact H2_) | (have H2_ := (Option.bind_some _ _).symm.trans H; with_reducible exact H2_) | with_reducible exact H | (rw [hy162]; exact H) | exact H
  have Ny162 := am hy162
  clear hy162
  obtain rfl := Option.some.inj H
  obtain ⟨Ao5, co5, eo5⟩ := Kd.R_slice HO0.out
  subst eo5
  go_enter Try.func42, Try.ntmps42
  go_wp2_with (first | ((with_reducible refine gate_callee (f := 40) rfl ?_); refine goesL_ (some 8) rfl rfl Try.func40 (by kernel_rfl) rfl #[.slice Ao5 l0.length co5, .int .i64 (a1.size : Int)] rfl ar ?_; (with_reducible refine (cmd_short.calls k (fun k_ => some k_ = (.slice Ao5 l0.length co5 : Value).ownBlock) (.slice Ao5 l0.length co5) l0 (a1.size : Int) t159 w0 _ ?side1 ?side2 A3.out).mono ?_); (case side1 => exact bel); (case side2 => exact Kd.R_tight rfl HO0.out); rintro e w6 ⟨v160, rfl, ho0, hb, hkp⟩; refine ⟨_, rfl, ?_⟩; have n_ := z3 (Kd.R_mono (ok' := fun k_ => (P0_ k_ ∨ w.heap.size ≤ k_)) ho0 (fun k_ hk_ => Or.elim hk_ (fun hs_ => (HO0.out.1 k_ (hs_).symm)) (fun hn_ => (.inr (Nat.le_trans (by first | exact HK.out.1 | exact (show Kept w _ (fun k_ => P0_ k_) from kq).1) hn_))))) (Kept.then_ (S := (fun k_ => P0_ k_)) kq hkp (fun k_ hs_ => (fun e_ => (HO0.out.1 k_ e_.symm)) hs_)) (hb); clear HK HB HO0; obtain ⟨HO161, HK, HB⟩ := n_; (try clear hb); (try clear hkp); (try clear ho0)) | (at_builtin; refine Kd.R_append_str (w0 := w0) w0.heap.size rfl (.tmp 8) _ 35 9 5 rfl Try.underlying35 Try.underlying9 info5 v160 t159 a1 (fun k_ => (P0_ k_ ∨ w.heap.size ≤ k_)) rfl rfl ?aF ?aO ?aB ?aS ?aL ?_; (case aB => exact bel); (case aF => exact (fun k_ hk => (.inr (Nat.le_trans (by first | exact HK.out.1 | exact (show Kept w _ (fun k_ => P0_ k_) from kq).1) hk)))); (case aO => exact (kr HO161.out)); (case aS => exact (below_size bel)); (case aL => have := LMc4.out; omega); intro v163 w7 ho hb hg hat; rw [← Ny162.out] at ho; have n_ := z3 (hb) (Kept.of_grown (S := (fun k_ => P0_ k_)) hg kq (fun k_ e_ => (HO161.out.1 k_ e_))) (ho); clear HB HK HO161; obtain ⟨HB, HK, HO164⟩ := n_; clear ho hb hg hat))
  go_ret
  exact ⟨_, er, kr HO164.out, bel, kq⟩
 ·rw [if_neg c4] at H
  exact absurd H (by simp)
end Go.Proofs.Ytagjmphkfeiiiaa.Q
