/- One function's walk, or a law's, by the text that a program of this session prints; what each theorem says stands in it. -/
import Derived.Test.YtagjmphkfeiiiaaQx0
import Derived.Test.YtagjmphkfeiiiaaQx2
import Derived.Test.YtagjmphkfeiiiaaXs
namespace Go.Proofs.Ytagjmphkfeiiiaa.Q
open Go.RowKit Go.Proofs.YtagjmphkfeiiiaaW.PrintWords Go.Proofs.YtagjmphkfeiiiaaW.PrintLast Go.Proofs.YtagjmphkfeiiiaaW.PrintMore
attribute [local go_sem] min2_int min_two
set_option linter.unusedVariables false
set_option linter.unusedSimpArgs false
def cmd_older.f (k : Nat) (l0 : List Int) (a1_0 : ByteArray) (a1_1 : ByteArray) (a1_2 : Bool) : Option (List Int) := (cmd_two.f k l0 (a1_0.size : Int)).bind fun t122 => (if t122.length + a1_0.size < 140737488355328 then ((cmd_two.f k (t122 ++ bytesOf a1_0) (a1_1.size : Int)).bind fun t128 => (if t128.length + a1_1.size < 140737488355328 then ((cmd_flag.f (t128 ++ bytesOf a1_1) a1_2).bind fun t134 => (some t134)) else (none))) else (none))
theorem cmd_older.mono : ∀ a0 a1 a2 a3 k, LeO (cmd_older.f k a0 a1 a2 a3) (cmd_older.f (k + 1) a0 a1 a2 a3) := by
  intro a0 a1 a2 a3 k
  unfold cmd_older.f
  repeat' first
      | (with_reducible exact cmd_two.mono _ _ _)
      | (with_reducible exact LeO.refl _)
      | (with_reducible exact LeO.none _)
      | (with_reducible refine LeO.ite ?_ ?_)
      | (with_reducible refine LeO.bind ?_ (fun _ => ?_))
def cmd_older.T1 : Bool × List (List Nat × List Nat) := (true, [([], []), ([], []), ([1], [1]), ([2], [2]), ([0, 3], [0, 3]), ([], []), ([5], [5]), ([4, 6, 4], [4, 6]), ([7, 7, 0, 1, 2, 3, 4, 5, 6, 7], [0, 7])])
def cmd_older.B1 : List Nat := [0, 0, 2, 6, 15, 0, 32, 127, 255]
theorem cmd_older.tab1 : rtab .any (opsOf Try.f38 1) = cmd_older.T1 := by kernel_rfl
theorem cmd_older.bits1 : waitsOk cmd_older.T1.2 cmd_older.B1 = true := by kernel_rfl
def cmd_older.T2 : Bool × List (List Nat × List Nat) := (true, [([], []), ([], []), ([1], [1]), ([2], [2]), ([0, 3], [0, 3]), ([], []), ([5], [5]), ([4, 6, 4], [4, 6]), ([7, 7, 0, 1, 2, 3, 4, 5, 6, 7], [0, 7])])
def cmd_older.B2 : List Nat := [0, 0, 2, 6, 15, 0, 32, 127, 255]
theorem cmd_older.tab2 : rtab .any (opsOf Try.f38 2) = cmd_older.T2 := by kernel_rfl
theorem cmd_older.bits2 : waitsOk cmd_older.T2.2 cmd_older.B2 = true := by kernel_rfl
set_option maxHeartbeats 8000000 in
set_option maxRecDepth 100000 in
theorem cmd_older.calls (k : Nat) (P0_ : Nat → Prop) (u9000_ : Value) (l0 : List Int) (a1_0 : ByteArray) (a1_1 : ByteArray) (a1_2 : Bool) (r : List Int) (w0 w : World) (hB : Below w0.heap.size w0 w) (ho0 : Kd.R (Kd.int .u8) 5 w w0.heap.size P0_ u9000_ l0) (h : cmd_older.f k l0 a1_0 a1_1 a1_2 = some r) :
  Calls Try.prog 38 #[u9000_, .agg #[.string a1_0, .string a1_1, .bool a1_2]] w fun e w' => ∃ v0_ : Value, e = .returned (v0_) ∧ Kd.R (Kd.int .u8) 5 w' w0.heap.size (fun k_ => (P0_ k_ ∨ w.heap.size ≤ k_)) v0_ r ∧ Below w0.heap.size w0 w' ∧ Kept w w' (fun k_ => P0_ k_) := by
 have hu40 := Try.underlying40
 have HO0 := am (show Kd.R (Kd.int .u8) 5 w w0.heap.size (fun k_ => (P0_ k_ ∨ w.heap.size ≤ k_)) u9000_ l0 from Kd.R_mono ho0 (fun k_ hk => (.inl hk)))
 have HK := am (Kept.refl w (fun k_ => P0_ k_))
 have HW0 := am hB.size
 have HB := am hB
 clear hB
 have H : ((cmd_two.f k l0 (a1_0.size : Int)).bind fun t122 => (if t122.length + a1_0.size < 140737488355328 then ((cmd_two.f k (t122 ++ bytesOf a1_0) (a1_1.size : Int)).bind fun t128 => (if t128.length + a1_1.size < 140737488355328 then ((cmd_flag.f (t128 ++ bytesOf a1_1) a1_2).bind fun t134 => (some t134)) else (none))) else (none))) = some r := h
 clear h
 replace H := Option.bind_eq_some_iff.mp H
 obtain ⟨t122, A30, H⟩ := H
 replace H : (if t122.length + a1_0.size < 140737488355328 then ((cmd_two.f k (t122 ++ bytesOf a1_0) (a1_1.size : Int)).bind fun t128 => (if t128.length + a1_1.size < 140737488355328 then ((cmd_flag.f (t128 ++ bytesOf a1_1) a1_2).bind fun t134 => (some t134)) else (none))) else (none)) = some r := H
 have A3 := am A30
 clear A30
 by_cases c4 : t122.length + a1_0.size < 140737488355328
 ·rw [if_pos c4] at H
  have LMc4 := am c4
  clear c4
  obtain ⟨y125, hy125⟩ : ∃ y_ : List Int, y_ = (t122 ++ bytesOf a1_0) := ⟨_, rfl⟩
  replace H : ((cmd_two.f k y125 (a1_1.size : Int)).bind fun t128 => (if t128.length + a1_1.size < 140737488355328 then ((cmd_flag.f (t128 ++ bytesOf a1_1) a1_2).bind fun t134 => (some t134)) else (none))) = some r := by first | (rw [hy125]; with_reducible exact H) | (have H2_ := (Option.bind_some _ _).symm.trans H; rw [hy125]; with_reducible exact H2_) | (have H2_ := (Option.bind_some _ _).symm.trans H; with_reducible exact H2_) | with_reducible exact H | (rw [hy125]; exact H) | exact H
  have Ny125 := am hy125
  clear hy125
  replace H := Option.bind_eq_some_iff.mp H
  obtain ⟨t128, A50, H⟩ := H
  replace H : (if t128.length + a1_1.size < 140737488355328 then ((cmd_flag.f (t128 ++ bytesOf a1_1) a1_2).bind fun t134 => (some t134)) else (none)) = some r := H
  have A5 := am A50
  clear A50
  by_cases c6 : t128.length + a1_1.size < 140737488355328
  ·rw [if_pos c6] at H
   have LMc6 := am c6
   clear c6
   obtain ⟨y131, hy131⟩ : ∃ y_ : List Int, y_ = (t128 ++ bytesOf a1_1) := ⟨_, rfl⟩
   replace H : ((cmd_flag.f y131 a1_2).bind fun t134 => (some t134)) = some r := by first | (rw [hy131]; with_reducible exact H) | (have H2_ := (Option.bind_some _ _).symm.trans H; rw [hy131]; with_reducible exact H2_) | (have H2_ := (Option.bind_some _ _).symm.trans H; with_reducible exact H2_) | with_reducible exact H | (rw [hy131]; exact H) | exact H
   have Ny131 := am hy131
   clear hy131
   replace H := Option.bind_eq_some_iff.mp H
   obtain ⟨t134, A70, H⟩ := H
   replace H : (some t134) = some r := H
   have A7 := am A70
   clear A70
   obtain rfl := Option.some.inj H
   go_enter Try.func38, Try.ntmps38
   try go_wp2_with (first | ((with_reducible refine gate_dst (N := 3) rfl ?_); refine bx 3 40 (cs := #[.string a1_0, .string a1_1, .bool a1_2]) ?_; intro gb121 hg w8 hbox hb; have n_ := z6 (Kd.R_below (kr HO0.out) hb) (Kept.below (S := (fun k_ => P0_ k_)) kq hb) (below_step bel hb) (hbox) ((by rw [hg]; exact (by first | exact HK.out.1 | exact (show Kept w _ (fun k_ => P0_ k_) from kq).1) : w.heap.size ≤ gb121)) ((by rw [hg]; exact (below_size bel) : w0.heap.size ≤ gb121)); clear HO0 HK HB; obtain ⟨HO0, HK, HB, BK121, GW121, GE121⟩ := n_; clear hb hbox hg))
   have n_ := z4 (Kd.R_drew HO0.out) (blk_drew BK121.out) (Kept.drew HK.out) (below_drew1 HB.out)
   clear HO0 BK121 HK HB
   obtain ⟨HO0, BK121, HK, HB⟩ := n_
   obtain ⟨Ao10, co10, eo10⟩ := Kd.R_slice HO0.out
   (first | subst eo10 | (injection eo10 with f1_ f2_ f3_; have f4_ := f1_.symm; have f5_ := f3_.symm; clear f1_ f2_ f3_; subst f4_; subst f5_))
   refine start_ (n := 9) (S := fun w' => w'.cell? ⟨gb121, 0, none⟩ = some (.string a1_0) ∧ w'.cell? ⟨gb121, 1, none⟩ = some (.string a1_1) ∧ w'.cell? ⟨gb121, 2, none⟩ = some (.bool a1_2)) (ds := []) #[false, false, false, false, false, false, false, false, false] (by kernel_rfl) rfl rfl ⟨(blk_cell BK121.out 0).trans rfl, (blk_cell BK121.out 1).trans rfl, (blk_cell BK121.out 2).trans rfl⟩ (fun hHeld => ?_); refine with_tabW cmd_older.tab1 cmd_older.bits1 (fun HT_ HW_ => ?_)
   generalize w8.drew = w9 at HO0 BK121 HK HB hHeld ⊢
   refine pu 0 (some 5) #[true, false, false, false, false, false, false, false, false] ?_
   refine pu 1 (some 6) #[true, true, false, false, false, false, false, false, false] ?_
   refine pu 5 (some 10) #[true, true, false, false, false, true, false, false, false] ?_
   refine ta 2 (some 7) #[true, true, true, false, false, true, false, false, false] ?_
   refine pu 3 (some 8) #[true, true, true, true, false, true, false, false, false] ?_
   refine ta 6 (some 11) #[true, true, true, true, false, true, true, false, false] ?_
   refine on 4 (some 9) #[true, true, true, true, true, true, true, false, false] (fun K hK => ?_)
   refine goes_ Try.func37 (by kernel_rfl) rfl #[.slice Ao10 l0.length co10, .int .i64 (a1_0.size : Int)] (by rfl) rfl rfl ar ?_
   with_reducible refine (cmd_two.calls k (fun k_ => some k_ = (.slice Ao10 l0.length co10 : Value).ownBlock) (.slice Ao10 l0.length co10) l0 (a1_0.size : Int) t122 w0 _ ?side1 ?side2 A3.out).mono ?_
   (case side1 => exact bel)
   (case side2 => exact Kd.R_tight rfl HO0.out)
   rintro e w11 ⟨v123, rfl, ho0, hb, hkp⟩
   refine ⟨_, rfl, ?_⟩
   have n_ := z4 (blk_kept (bk BK121.out) hkp (fun hs_ => (fun e_ => (Kd.R_ne HO0.out BK121.out (by decide)) e_) hs_)) (Kd.R_mono (ok' := fun k_ => (P0_ k_ ∨ w.heap.size ≤ k_)) ho0 (fun k_ hk_ => Or.elim hk_ (fun hs_ => (HO0.out.1 k_ (hs_).symm)) (fun hn_ => (.inr (Nat.le_trans (by first | exact HK.out.1 | exact (show Kept w _ (fun k_ => P0_ k_) from kq).1) hn_))))) (Kept.then_ (S := (fun k_ => P0_ k_)) kq hkp (fun k_ hs_ => (fun e_ => (HO0.out.1 k_ e_.symm)) hs_)) (hb)
   clear BK121 HK HB HO0
   obtain ⟨BK121, HO124, HK, HB⟩ := n_
   (try clear hb)
   (try clear hkp)
   (try clear ho0)
   refine hK.out _ _ ⟨(blk_cell BK121.out 0).trans rfl, (blk_cell BK121.out 1).trans rfl, (blk_cell BK121.out 2).trans rfl⟩ (fun hHeld => ?_)
   clear hK K
   refine no 9 ?_
   refine on 7 (some 12) #[true, true, true, true, true, true, true, true, false] (fun K hK => ?_)
   refine Kd.R_append_str_step (w0 := w0) w0.heap.size (by rfl) (.tmp 9) _ 35 9 5 rfl Try.underlying35 Try.underlying9 info5 v123 t122 a1_0 (fun k_ => (P0_ k_ ∨ w.heap.size ≤ k_)) rfl rfl ?aF ?aO ?aB ?aS ?aL ?_
   (case aB => exact bel)
   (case aF => exact (fun k_ hk => (.inr (Nat.le_trans (by first | exact HK.out.1 | exact (show Kept w _ (fun k_ => P0_ k_) from kq).1) hk))))
   (case aO => exact (kr HO124.out))
   (case aS => exact (below_size bel))
   (case aL => have := LMc4.out; omega)
   intro v126 w12 ho hb hg hat
   rw [← Ny125.out] at ho
   have n_ := z4 (blk_grown (bk BK121.out) hg (Kd.R_ne HO124.out BK121.out (by decide))) (hb) (Kept.of_grown (S := (fun k_ => P0_ k_)) hg kq (fun k_ e_ => (HO124.out.1 k_ e_))) (ho)
   clear BK121 HB HK HO124
   obtain ⟨BK121, HB, HK, HO127⟩ := n_
   clear ho hb hg hat
   refine hK.out _ _ ⟨(blk_cell BK121.out 0).trans rfl, (blk_cell BK121.out 1).trans rfl, (blk_cell BK121.out 2).trans rfl⟩ (fun hHeld => ?_)
   clear hK K
   refine no 12 ?_
   refine pu 8 (some 0) #[true, true, true, true, true, true, true, true, true] ?_
   refine done_ (done_of HT_.out (by kernel_rfl)) ?_
   try go_wp2
   have n_ := z4 (Kd.R_drew HO127.out) (blk_drew BK121.out) (Kept.drew HK.out) (below_drew1 HB.out)
   clear HO127 BK121 HK HB
   obtain ⟨HO127, BK121, HK, HB⟩ := n_
   obtain ⟨Ao14, co14, eo14⟩ := Kd.R_slice HO127.out
   (first | subst eo14 | (injection eo14 with f1_ f2_ f3_; have f4_ := f1_.symm; have f5_ := f3_.symm; clear f1_ f2_ f3_; subst f4_; subst f5_))
   refine start_ (n := 9) (S := fun w' => w'.cell? ⟨gb121, 0, none⟩ = some (.string a1_0) ∧ w'.cell? ⟨gb121, 1, none⟩ = some (.string a1_1) ∧ w'.cell? ⟨gb121, 2, none⟩ = some (.bool a1_2)) (ds := []) #[false, false, false, false, false, false, false, false, false] (by kernel_rfl) rfl rfl ⟨(blk_cell BK121.out 0).trans rfl, (blk_cell BK121.out 1).trans rfl, (blk_cell BK121.out 2).trans rfl⟩ (fun hHeld => ?_); refine with_tabW cmd_older.tab2 cmd_older.bits2 (fun HT_ HW_ => ?_)
   generalize w12.drew = w13 at HO127 BK121 HK HB hHeld ⊢
   refine pu 0 (some 13) #[true, false, false, false, false, false, false, false, false] ?_
   refine pu 1 (some 14) #[true, true, false, false, false, false, false, false, false] ?_
   refine pu 5 (some 18) #[true, true, false, false, false, true, false, false, false] ?_
   refine ta 2 (some 15) #[true, true, true, false, false, true, false, false, false] ?_
   refine pu 3 (some 16) #[true, true, true, true, false, true, false, false, false] ?_
   refine ta 6 (some 19) #[true, true, true, true, false, true, true, false, false] ?_
   refine on 4 (some 17) #[true, true, true, true, true, true, true, false, false] (fun K hK => ?_)
   refine goes_ Try.func37 (by kernel_rfl) rfl #[.slice Ao14 y125.length co14, .int .i64 (a1_1.size : Int)] (by rfl) rfl rfl ar ?_
   with_reducible refine (cmd_two.calls k (fun k_ => some k_ = (.slice Ao14 y125.length co14 : Value).ownBlock) (.slice Ao14 y125.length co14) y125 (a1_1.size : Int) t128 w0 _ ?side1 ?side2 A5.out).mono ?_
   (case side1 => exact bel)
   (case side2 => exact Kd.R_tight rfl HO127.out)
   rintro e w15 ⟨v129, rfl, ho0, hb, hkp⟩
   refine ⟨_, rfl, ?_⟩
   have n_ := z4 (blk_kept (bk BK121.out) hkp (fun hs_ => (fun e_ => (Kd.R_ne HO127.out BK121.out (by decide)) e_) hs_)) (Kd.R_mono (ok' := fun k_ => (P0_ k_ ∨ w.heap.size ≤ k_)) ho0 (fun k_ hk_ => Or.elim hk_ (fun hs_ => (HO127.out.1 k_ (hs_).symm)) (fun hn_ => (.inr (Nat.le_trans (by first | exact HK.out.1 | exact (show Kept w _ (fun k_ => P0_ k_) from kq).1) hn_))))) (Kept.then_ (S := (fun k_ => P0_ k_)) kq hkp (fun k_ hs_ => (fun e_ => (HO127.out.1 k_ e_.symm)) hs_)) (hb)
   clear BK121 HK HB HO127
   obtain ⟨BK121, HO130, HK, HB⟩ := n_
   (try clear hb)
   (try clear hkp)
   (try clear ho0)
   refine hK.out _ _ ⟨(blk_cell BK121.out 0).trans rfl, (blk_cell BK121.out 1).trans rfl, (blk_cell BK121.out 2).trans rfl⟩ (fun hHeld => ?_)
   clear hK K
   refine no 17 ?_
   refine on 7 (some 20) #[true, true, true, true, true, true, true, true, false] (fun K hK => ?_)
   refine Kd.R_append_str_step (w0 := w0) w0.heap.size (by rfl) (.tmp 17) _ 35 9 5 rfl Try.underlying35 Try.underlying9 info5 v129 t128 a1_1 (fun k_ => (P0_ k_ ∨ w.heap.size ≤ k_)) rfl rfl ?aF ?aO ?aB ?aS ?aL ?_
   (case aB => exact bel)
   (case aF => exact (fun k_ hk => (.inr (Nat.le_trans (by first | exact HK.out.1 | exact (show Kept w _ (fun k_ => P0_ k_) from kq).1) hk))))
   (case aO => exact (kr HO130.out))
   (case aS => exact (below_size bel))
   (case aL => have := LMc6.out; omega)
   intro v132 w16 ho hb hg hat
   rw [← Ny131.out] at ho
   have n_ := z4 (blk_grown (bk BK121.out) hg (Kd.R_ne HO130.out BK121.out (by decide))) (hb) (Kept.of_grown (S := (fun k_ => P0_ k_)) hg kq (fun k_ e_ => (HO130.out.1 k_ e_))) (ho)
   clear BK121 HB HK HO130
   obtain ⟨BK121, HB, HK, HO133⟩ := n_
   clear ho hb hg hat
   refine hK.out _ _ ⟨(blk_cell BK121.out 0).trans rfl, (blk_cell BK121.out 1).trans rfl, (blk_cell BK121.out 2).trans rfl⟩ (fun hHeld => ?_)
   clear hK K
   refine no 20 ?_
   refine pu 8 (some 0) #[true, true, true, true, true, true, true, true, true] ?_
   refine done_ (done_of HT_.out (by kernel_rfl)) ?_
   obtain ⟨hcz17_0, hcz17_1, hcz17_2⟩ := cells3 BK121.out
   obtain ⟨hfz17_0, hfz17_1, hfz17_2⟩ := froz3 BK121.out
   obtain ⟨Ao18, co18, eo18⟩ := Kd.R_slice HO133.out
   subst eo18
   try go_wp2_with (first | ((with_reducible refine gate_callee (f := 26) rfl ?_); refine goesL_ (some 24) rfl rfl Try.func26 (by kernel_rfl) rfl #[.slice Ao18 y131.length co18, .bool a1_2] rfl ar ?_; (with_reducible refine (cmd_flag.calls (fun k_ => some k_ = (.slice Ao18 y131.length co18 : Value).ownBlock) (.slice Ao18 y131.length co18) y131 a1_2 t134 w0 _ ?side1 ?side2 A7.out).mono ?_); (case side1 => exact bel); (case side2 => exact Kd.R_tight rfl HO133.out); rintro e w19 ⟨v135, rfl, ho0, hb, hkp⟩; refine ⟨_, rfl, ?_⟩; have n_ := z4 (blk_kept (bk BK121.out) hkp (fun hs_ => (fun e_ => (Kd.R_ne HO133.out BK121.out (by decide)) e_) hs_)) (Kd.R_mono (ok' := fun k_ => (P0_ k_ ∨ w.heap.size ≤ k_)) ho0 (fun k_ hk_ => Or.elim hk_ (fun hs_ => (HO133.out.1 k_ (hs_).symm)) (fun hn_ => (.inr (Nat.le_trans (by first | exact HK.out.1 | exact (show Kept w _ (fun k_ => P0_ k_) from kq).1) hn_))))) (Kept.then_ (S := (fun k_ => P0_ k_)) kq hkp (fun k_ hs_ => (fun e_ => (HO133.out.1 k_ e_.symm)) hs_)) (hb); clear BK121 HK HB HO133; obtain ⟨BK121, HO136, HK, HB⟩ := n_; (try clear hb); (try clear hkp); (try clear ho0)))
   go_ret
   exact ⟨_, er, kr HO136.out, bel, kq⟩
  ·rw [if_neg c6] at H
   exact absurd H (by simp)
 ·rw [if_neg c4] at H
  exact absurd H (by simp)
def cmd_none.f (l0 : List Int) (a1 : ByteArray) : Option (List Int) := some l0
set_option maxHeartbeats 8000000 in
set_option maxRecDepth 100000 in
theorem cmd_none.calls (P0_ : Nat → Prop) (u9000_ : Value) (l0 : List Int) (a1 : ByteArray) (r : List Int) (w0 w : World) (hB : Below w0.heap.size w0 w) (ho0 : Kd.R (Kd.int .u8) 5 w w0.heap.size P0_ u9000_ l0) (h : cmd_none.f l0 a1 = some r) :
  Calls Try.prog 39 #[u9000_, .string a1] w fun e w' => ∃ v0_ : Value, e = .returned (v0_) ∧ Kd.R (Kd.int .u8) 5 w' w0.heap.size (fun k_ => (P0_ k_ ∨ w.heap.size ≤ k_)) v0_ r ∧ Below w0.heap.size w0 w' ∧ Kept w w' (fun k_ => P0_ k_) := by
 have HO0 := am (show Kd.R (Kd.int .u8) 5 w w0.heap.size (fun k_ => (P0_ k_ ∨ w.heap.size ≤ k_)) u9000_ l0 from Kd.R_mono ho0 (fun k_ hk => (.inl hk)))
 have HK := am (Kept.refl w (fun k_ => P0_ k_))
 have HW0 := am hB.size
 have HB := am hB
 clear hB
 have H : (some l0) = some r := h
 clear h
 obtain rfl := Option.some.inj H
 go_enter Try.func39, Try.ntmps39
 go_wp2
 go_ret
 exact ⟨_, er, kr HO0.out, bel, kq⟩
def cmd_short.l0 : Nat → List Int → Int → Option (List Int)
  | 0, _, _ => none
  | k + 1, x0, x1 => if x1 > 127 then (if x0.length < 140737488355328 then (cmd_short.l0 k (x0 ++ [(Go.bits .or .i64 (Go.bits .and .i64 x1 127) 128) % 256]) (x1 / 128)) else (none)) else (if x0.length < 140737488355328 then (some (x0 ++ [(x1) % 256])) else (none))
def cmd_short.f (k : Nat) (l0 : List Int) (a1 : Int) : Option (List Int) := cmd_short.l0 k l0 a1
theorem cmd_short.mono_l : ∀ k, (∀ y0 y1, LeO (cmd_short.l0 k y0 y1) (cmd_short.l0 (k + 1) y0 y1))
  | 0 => fun _ _ r h => by simp [cmd_short.l0] at h
  | k + 1 => by
    have ih0 := cmd_short.mono_l k
    · intro y0 y1
      unfold cmd_short.l0
      repeat' first
      | (with_reducible exact ih0 _ _)
      | (with_reducible exact LeO.refl _)
      | (with_reducible exact LeO.none _)
      | (with_reducible refine LeO.ite ?_ ?_)
      | (with_reducible refine LeO.bind ?_ (fun _ => ?_))
theorem cmd_short.mono : ∀ a0 a1 k, LeO (cmd_short.f k a0 a1) (cmd_short.f (k + 1) a0 a1) := by
  intro a0 a1 k
  have ih0 := cmd_short.mono_l k
  unfold cmd_short.f
  repeat' first
      | (with_reducible exact ih0 _ _)
      | (with_reducible exact LeO.refl _)
      | (with_reducible exact LeO.none _)
      | (with_reducible refine LeO.ite ?_ ?_)
      | (with_reducible refine LeO.bind ?_ (fun _ => ?_))
set_option maxHeartbeats 8000000 in
set_option maxRecDepth 100000 in
theorem cmd_short.calls (k : Nat) (P0_ : Nat → Prop) (u9000_ : Value) (l0 : List Int) (a1 : Int) (r : List Int) (w0 w : World) (hB : Below w0.heap.size w0 w) (ho0 : Kd.R (Kd.int .u8) 5 w w0.heap.size P0_ u9000_ l0) (h : cmd_short.f k l0 a1 = some r) :
  Calls Try.prog 40 #[u9000_, .int .i64 a1] w fun e w' => ∃ v0_ : Value, e = .returned (v0_) ∧ Kd.R (Kd.int .u8) 5 w' w0.heap.size (fun k_ => (P0_ k_ ∨ w.heap.size ≤ k_)) v0_ r ∧ Below w0.heap.size w0 w' ∧ Kept w w' (fun k_ => P0_ k_) := by
 have HO0 := am (show Kd.R (Kd.int .u8) 5 w w0.heap.size (fun k_ => (P0_ k_ ∨ w.heap.size ≤ k_)) u9000_ l0 from Kd.R_mono ho0 (fun k_ hk => (.inl hk)))
 have HK := am (Kept.refl w (fun k_ => P0_ k_))
 have HW0 := am hB.size
 have HB := am hB
 clear hB
 have H : (cmd_short.l0 k l0 a1) = some r := h
 clear h
 have H' := am H
 clear H
 go_enter Try.func40, Try.ntmps40
 go_wp2
 refine wp_scope_label 0 (fun kq a' w' => ∃ u0 u1 u2 u3 u4 u5 u6 u7 u8 u9 u10 u11 u12 u13 u14 u15 u16 u17 u18 u19 u20 : Value, a' = { tmps := #[u0, u1, u2, u3, u4, u5, u6, u7, u8, u9, u10, u11, u12, u13, u14, u15, u16, u17, u18, u19, u20], defers := [] } ∧ (∃ (x0_1 : List Int) (x1_1 : Int), u1 = .int .i64 x1_1 ∧ Aside0 (cmd_short.l0 kq x0_1 x1_1 = some r) ∧ Aside0 (kq ≤ k) ∧ Aside0 (Kd.R (Kd.int .u8) 5 w' w0.heap.size (fun k_ => (P0_ k_ ∨ w.heap.size ≤ k_)) u0 x0_1) ∧ Aside0 (Kept w w' (fun k_ => P0_ k_)) ∧ Aside0 (Below w0.heap.size w0 w'))) (k) ?first ?pass
 case first =>
  refine ⟨_, _, _, _, _, _, _, _, _, _, _, _, _, _, _, _, _, _, _, _, _, rfl, ?_⟩
  exact ⟨(l0), (a1), (by first | rfl | (simp; done) | (simp [*]; done)), H', ⟨Nat.le_refl _⟩, ⟨kr HO0.out⟩, ⟨kq⟩, ⟨bel⟩⟩
 case pass =>
  rintro gk a' wr ⟨u0, u1, u2, u3, u4, u5, u6, u7, u8, u9, u10, u11, u12, u13, u14, u15, u16, u17, u18, u19, u20, rfl, hrel⟩
  clear H'
  try clear p2
  obtain ⟨x0_1, x1_1, rfl, HA, HK1, HO_0, HK, HB⟩ := hrel
  cases gk with
  | zero => exact absurd HA.out (by simp [cmd_short.l0])
  | succ k1 =>
   have H := HA.out
   clear HA
   simp only [cmd_short.l0] at H
   by_cases c3 : x1_1 > 127
   ·rw [if_pos c3] at H
    have c3b0 : decide (127 < x1_1) = true := decide_eq_true c3
    clear c3
    by_cases c4 : x0_1.length < 140737488355328
    ·rw [if_pos c4] at H
     have LMc4 := am c4
     clear c4
     obtain ⟨y137, hy137⟩ : ∃ y_ : List Int, y_ = (x0_1 ++ [(Go.bits .or .i64 (Go.bits .and .i64 x1_1 127) 128) % 256]) := ⟨_, rfl⟩
     replace H : (cmd_short.l0 k1 y137 (x1_1 / 128)) = some r := by first | (rw [hy137]; with_reducible exact H) | (have H2_ := (Option.bind_some _ _).symm.trans H; rw [hy137]; with_reducible exact H2_) | (have H2_ := (Option.bind_some _ _).symm.trans H; with_reducible exact H2_) | with_reducible exact H | (rw [hy137]; exact H) | exact H
     have Ny137 := am hy137
     clear hy137
     have H' := am H
     clear H
     go_wp2_with (first | ((with_reducible refine gate_builtin (b := .append) (xs := #[.tmp 7, .tmp 12]) rfl ?_); at_builtin; refine Kd.R_append (Kd.int .u8) (w0 := w0) w0.heap.size rfl (.tmp 7) (.tmp 12) 35 5 (.int .u8 0) 1 rfl Try.underlying35 info5 rfl (by decide) (by omega) u0 x0_1 ((Go.bits .or .i64 (Go.bits .and .i64 x1_1 127) 128) % 256) [.int .u8 ((Go.bits .or .i64 (Go.bits .and .i64 x1_1 127) 128) % 256)] (fun k_ => (P0_ k_ ∨ w.heap.size ≤ k_)) (fun _ => False) rfl rfl ?aP (fun _ hk => hk.elim) ?aF ?aO ?aB ?aS ?aL ?_; (case aP => exact rfl); (case aB => exact bel); (case aF => exact (fun k_ hk => (.inr (Nat.le_trans (by first | exact HK.out.1 | exact (show Kept w _ (fun k_ => P0_ k_) from kq).1) hk)))); (case aO => exact (kr HO_0.out)); (case aS => exact (below_size bel)); (case aL => have := LMc4.out; omega); intro v138 w5 ho hb hg hat; rw [← Ny137.out] at ho; have n_ := z3 (hb) (Kept.of_grown (S := (fun k_ => P0_ k_)) hg kq (fun k_ e_ => (HO_0.out.1 k_ e_))) (ho); clear HB HK HO_0; obtain ⟨HB, HK, HO139⟩ := n_; clear ho hb hg hat))
     go_step3
     exact ⟨rfl, k1, by (have := HK1.out; omega), _, _, _, _, _, _, _, _, _, _, _, _, _, _, _, _, _, _, _, _, _, rfl, ⟨(y137), (x1_1 / 128), (by first | rfl | (simp; done) | (simp [*]; done)), H', ⟨by have := HK1.out; omega⟩, ⟨kr HO139.out⟩, ⟨kq⟩, ⟨bel⟩⟩⟩
    ·rw [if_neg c4] at H
     exact absurd H (by simp)
   ·rw [if_neg c3] at H
    have c3b0 : decide (127 < x1_1) = false := decide_eq_false c3
    clear c3
    by_cases c6 : x0_1.length < 140737488355328
    ·rw [if_pos c6] at H
     have LMc6 := am c6
     clear c6
     obtain ⟨y140, hy140⟩ : ∃ y_ : List Int, y_ = (x0_1 ++ [(x1_1) % 256]) := ⟨_, rfl⟩
     replace H : (some y140) = some r := by first | (rw [hy140]; with_reducible exact H) | (have H2_ := (Option.bind_some _ _).symm.trans H; rw [hy140]; with_reducible exact H2_) | (have H2_ := (Option.bind_some _ _).symm.trans H; with_reducible exact H2_) | with_reducible exact H | (rw [hy140]; exact H) | exact H
     have Ny140 := am hy140
     clear hy140
     obtain rfl := Option.some.inj H
     go_wp2_with (first | ((with_reducible refine gate_builtin (b := .append) (xs := #[.tmp 16, .tmp 19]) rfl ?_); at_builtin; refine Kd.R_append (Kd.int .u8) (w0 := w0) w0.heap.size rfl (.tmp 16) (.tmp 19) 35 5 (.int .u8 0) 1 rfl Try.underlying35 info5 rfl (by decide) (by omega) u0 x0_1 ((x1_1) % 256) [.int .u8 ((x1_1) % 256)] (fun k_ => (P0_ k_ ∨ w.heap.size ≤ k_)) (fun _ => False) rfl rfl ?aP (fun _ hk => hk.elim) ?aF ?aO ?aB ?aS ?aL ?_; (case aP => exact rfl); (case aB => exact bel); (case aF => exact (fun k_ hk => (.inr (Nat.le_trans (by first | exact HK.out.1 | exact (show Kept w _ (fun k_ => P0_ k_) from kq).1) hk)))); (case aO => exact (kr HO_0.out)); (case aS => exact (below_size bel)); (case aL => have := LMc6.out; omega); intro v141 w7 ho hb hg hat; rw [← Ny140.out] at ho; have n_ := z3 (hb) (Kept.of_grown (S := (fun k_ => P0_ k_)) hg kq (fun k_ e_ => (HO_0.out.1 k_ e_))) (ho); clear HB HK HO_0; obtain ⟨HB, HK, HO142⟩ := n_; clear ho hb hg hat))
     (try simp only [Exit.jump])
     go_ret
     exact ⟨_, er, kr HO142.out, bel, kq⟩
    ·rw [if_neg c6] at H
     exact absurd H (by simp)
end Go.Proofs.Ytagjmphkfeiiiaa.Q
