/- The law GroupFlight: what is delivered, dropped flies no more; what is doubled flies once more. -/
import Derived.WalkKit
import Derived.WalkSpells
import Derived.Lib.Hide
import Derived.Outline
import Derived.Test.YtnkmljdkokcdjaaChecked
import Derived.Test.YtnkmljdkokcdjaaB0
import Derived.Test.YtnkmljdkokcdjaaB1
import Derived.Test.YtnkmljdkokcdjaaHs
import Derived.Deep.DeepCutAuto
import Derived.Deep.CutBlock
import Derived.Deep.OwnRows
import Derived.IntWalk
set_option maxRecDepth 100000
set_option maxHeartbeats 40000000
set_option linter.unusedVariables false
set_option linter.unusedSimpArgs false
namespace Go.Proofs.Ytnkmljdkokcdjaa
open Go.RowKit Fed
attribute [local go_sem high] Fed.max2_int Fed.min2_int Fed.MA Fed.ZN Fed.ZM Fed.NA
theorem crash_down (s : GS) (id : Int) : (s.crash id).isUp id = false := by
 unfold GS.crash
 by_cases h : s.isUp id = true
 ·rw [if_pos h]
  obtain ⟨i, rfl, h1, h2⟩ := isUp_some h
  unfold GS.isUp
  rw [Int.toNat_natCast]
  have e : (s.us.set i false).getD i false = false := by
   rw [List.getD_eq_getElem?_getD, List.getElem?_set]
   by_cases hl : i < s.us.length <;> simp [hl]
  rw [e]; simp
 ·rw [if_neg h]; simpa using h
theorem crash_f (s : GS) (id : Int) : (s.crash id).f = s.f := by unfold GS.crash; split <;> rfl
theorem flight_facts (s : GS) (k : Nat) (hk : k < s.f.length) : s.has (k : Int) = true ∧ (s.twice (k : Int)).f.length = s.f.length + 1 ∧ (s.twice (k : Int)).has (k : Int) = true ∧ ((s.twice (k : Int)).cut (k : Int)).f.length = s.f.length ∧ ((s.twice (k : Int)).cut (k : Int)).has (s.f.length : Int) = false ∧ ((s.twice (k : Int)).cut (k : Int)).has (-1) = false ∧
  ((((s.twice (k : Int)).cut (k : Int)).crash (s.msg (k : Int)).to).has ((s.f.length - 1 : Nat) : Int) = true) ∧ ((((s.twice (k : Int)).cut (k : Int)).crash (s.msg (k : Int)).to).deliver ((s.f.length - 1 : Nat) : Int)).f.length = s.f.length - 1 := by
 have h1 : s.has (k : Int) = true := by unfold GS.has; simp [hk]
 have e1 : s.twice (k : Int) = ⟨s.ns, s.us, s.f ++ [s.msg (k : Int)]⟩ := by unfold GS.twice; rw [if_pos h1]
 rw [e1]
 have h2 : GS.has ⟨s.ns, s.us, s.f ++ [s.msg (k : Int)]⟩ (k : Int) = true := by unfold GS.has; simp; omega
 have e2 : GS.cut ⟨s.ns, s.us, s.f ++ [s.msg (k : Int)]⟩ (k : Int) = ⟨s.ns, s.us, (s.f ++ [s.msg (k : Int)]).eraseIdx k⟩ := by unfold GS.cut; rw [if_pos h2]; rfl
 rw [e2]
 have l2 : ((s.f ++ [s.msg (k : Int)]).eraseIdx k).length = s.f.length := by rw [List.length_eraseIdx]; simp; omega
 generalize hm : (s.f ++ [s.msg (k : Int)]).eraseIdx k = f2 at l2 ⊢
 have hlast : f2[s.f.length - 1]? = some (s.msg (k : Int)) := by
  rw [← hm, List.getElem?_eraseIdx]
  by_cases hc : s.f.length - 1 < k
  ·omega
  ·rw [if_neg hc, List.getElem?_append_right (by omega)]
   simp [show s.f.length - 1 + 1 - s.f.length = 0 from by omega]
 generalize s.msg (k : Int) = m at hlast h1 e1 h2 e2 hm ⊢
 have hh : ∀ t : GS, t.f = f2 → t.has ((s.f.length - 1 : Nat) : Int) = true := fun t ht => by unfold GS.has; rw [ht, l2]; simp; omega
 have c0 := hh _ (crash_f ⟨s.ns, s.us, f2⟩ m.to)
 have cm : (GS.crash ⟨s.ns, s.us, f2⟩ m.to).msg ((s.f.length - 1 : Nat) : Int) = m := by
  unfold GS.msg
  rw [crash_f, Int.toNat_natCast, List.getD_eq_getElem?_getD, hlast]; rfl
 refine ⟨h1, by simp, h2, l2, ?_, ?_, c0, ?_⟩
 ·unfold GS.has; rw [l2]; simp
 ·unfold GS.has; simp
 ·unfold GS.deliver
  rw [if_pos c0, cm, if_neg (by rw [crash_down]; simp)]
  unfold GS.cut
  rw [if_pos c0]
  show ((GS.crash ⟨s.ns, s.us, f2⟩ m.to).f.eraseIdx _).length = _
  rw [crash_f, Int.toNat_natCast, List.length_eraseIdx]
  show (if s.f.length - 1 < f2.length then f2.length - 1 else f2.length) = _
  rw [l2, if_pos (by omega)]
theorem idle_zero (s : GS) (h : s.f.length = 0) (a : Int) : s.has a = false ∧ s.deliver a = s ∧ s.cut a = s ∧ s.twice a = s := by
 have h1 : s.has a = false := by unfold GS.has; rw [h]; cases Decidable.em (0 ≤ a) <;> simp <;> omega
 refine ⟨h1, ?_, ?_, ?_⟩
 ·unfold GS.deliver; rw [h1]; rfl
 ·unfold GS.cut; rw [h1]; rfl
 ·unfold GS.twice; rw [h1]; rfl
theorem cut_idle (s : GS) (a : Int) (h : s.has a = false) : s.cut a = s := by unfold GS.cut; rw [h]; rfl
theorem twice_idle (s : GS) (a : Int) (h : s.has a = false) : s.twice a = s := by unfold GS.twice; rw [h]; rfl
theorem flight_law (v0 : Value) (l0 : List Int) (a1 : Int) (x1 : (Lit.int .i64 a1).wf = true) (w : World) (hr0 : MM.Rd w (fun j => j < w.heap.size) 1 v0 l0.length (intsC l0)) (hw0 : ∀ x, x ∈ l0 → (Lit.int .i64 x).wf = true) :
  Calls Try.prog 17 #[v0, .int .i64 a1] w fun e w' => e = .returned (.bool true) ∧ Below w.heap.size w w' := by
 obtain ⟨A0, c0, rfl, q1, q2⟩ := hr0.slice
 have hm_l0 : l0.length ≤ maxLen := by omega
 unfold maxLen at hm_l0
 clear q1 q2
 have Hhr0 := Hd hr0
 have Hhw0 := Hd hw0
 clear hr0 hw0
 go_enter Try.func17, Try.ntmps17
 go_wp2_with fail
 refine (gknown_any _).mono ?_
 rintro e w1 ⟨rfl, hb1⟩
 have HB1 := Hd hb1
 clear hb1
 go_wp2_with fail
 refine (newG w w1 (3 : Int) 3 rfl (by omega) (by omega) HB1.out).mono ?_
 rintro e wa ⟨g, rfl, h2⟩
 have GA := Hd h2
 clear h2
 go_wp2_with fail
 refine (rGNew_any wa 3 (by omega) (by omega)).mono ?_
 rintro e wb ⟨x, ρ, ok, rfl, hr, hok, hb⟩
 have H0 := Hd (show Both w wb g x (GS.new 3) (GS.new 3) (fun k => k < w1.heap.size) from Both.new GA.out hr hok hb)
 clear hr hok hb GA
 go_wp2_with fail
 go_loopw [7] (fun t7 wr => ∃ i : Nat, i ≤ l0.length ∧ i ≤ 80 ∧ t7 = .int .i64 i ∧ Hid (Both w wr g x (gst 3 l0 i) (gst 3 l0 i) (fun k => k < w1.heap.size))) (fun t7 _ => l0.length - (intOf t7).toNat)
 case atStart => exact ⟨0, by omega, by omega, rfl, H0⟩
 case round =>
  clear H0
  obtain ⟨i, hi, hi2, rfl, H⟩ := hrel
  obtain ⟨b, hb⟩ : ∃ b : Bool, b = (decide (i < l0.length) && decide (i < 80)) := ⟨_, rfl⟩
  have HBB := Hd hb
  clear hb
  go_upto_region 7 with (fail)
  go_cut [24] (fun vb wc => vb = .bool b ∧ wr = wc)
  case first =>
   by_cases h1 : i < l0.length
   ·have h1b : decide ((i : Int) < (l0.length : Int)) = true := decide_eq_true (by omega)
    by_cases h2 : i < 80
    ·have h2b : decide ((i : Int) < 80) = true := decide_eq_true (by omega)
     have hbb : b = true := by rw [HBB.out, decide_eq_true h1, decide_eq_true h2]; rfl
     subst hbb
     go_wp2_with fail
     go_meet
     case rel => exact ⟨by first | rfl | (simp; omega), rfl⟩
    ·have h2b : decide ((i : Int) < 80) = false := decide_eq_false (by omega)
     have hbb : b = false := by rw [HBB.out, decide_eq_false h2]; simp
     subst hbb
     go_wp2_with fail
     go_meet
     case rel => exact ⟨by first | rfl | (simp; omega), rfl⟩
   ·have h1b : decide ((i : Int) < (l0.length : Int)) = false := decide_eq_false (by omega)
    have hbb : b = false := by rw [HBB.out, decide_eq_false h1]; rfl
    subst hbb
    go_wp2_with fail
    go_meet
    case rel => exact ⟨by first | rfl | (simp; omega), rfl⟩
  case rest =>
   obtain ⟨rfl, rfl⟩ := hcut
   cases b
   ·clear HBB
    have SS := Hd (gst_sys (K := 3) (by omega) l0 i)
    generalize gst 3 l0 i = s at H SS
    have GG := Hd (SS.out.good (by omega))
    go_wp2_with fail
    have P9 := H.out
    obtain ⟨ρ9, ok9, r9, p9, z9⟩ := P9
    have P9 := Hd p9
    clear r9 p9 z9
    refine (flightG w _ g _ _ P9.out 3 GG.out (by omega)).mono ?_
    rintro e w' ⟨rfl, rfl⟩
    clear P9
    go_wp2_with fail
    refine (b_rflight H.out GG.out (by omega)).mono ?_
    rintro e w' ⟨rfl, rfl⟩
    have hbq : ((s.f.length : Int) != (s.f.length : Int)) = false := by simp
    by_cases hn : s.f.length = 0
    ·have ID := Hd (idle_zero s hn 0)
     have hn0 : ((s.f.length : Int) == 0) = true := by simp [hn]
     have hn1 : (s.f.length : Int) = 0 := by omega
     go_wp2_with fail
     refine (b_gdeliver H.out GG.out (by omega) 0).mono ?_
     rintro e w6 ⟨rfl, h7, _⟩
     rw [ID.out.1]
     rw [ID.out.2.1] at h7
     have H6 := Hd h7
     clear h7
     go_wp2_with fail
     refine (b_gdrop H6.out GG.out (by omega) 0).mono ?_
     rintro e w7 ⟨rfl, h7, _⟩
     rw [ID.out.1]
     rw [ID.out.2.2.1] at h7
     have H7 := Hd h7
     clear h7
     go_wp2_with fail
     refine (b_gtwice H7.out GG.out (by omega) 0).mono ?_
     rintro e w8 ⟨rfl, h7, _⟩
     rw [ID.out.1]
     rw [ID.out.2.2.2] at h7
     have H8 := Hd h7
     clear h7
     go_wp2_with fail
     go_ret
     exact ⟨by first | rfl | simp, H8.out.bel⟩
    ·have hn0 : ((s.f.length : Int) == 0) = false := by simp [hn]
     have hn1 : ¬ (s.f.length : Int) = 0 := by omega
     have hfl := GG.out.fl
     go_wp2_with fail
     refine (within9_fn _ a1 (s.f.length : Int) x1 (by omega) (by omega)).mono ?_
     rintro e w' ⟨rfl, rfl⟩
     have hv := wi_range a1 (s.f.length : Int) (by omega)
     generalize wi a1 (s.f.length : Int) = kk at hv ⊢
     obtain ⟨k, rfl⟩ : ∃ k' : Nat, kk = k' := ⟨kk.toNat, by omega⟩
     have hk : k < s.f.length := by omega
     clear hv
     have F := Hd (flight_facts s k hk)
     have S1 := Hd (SS.out.twice (k : Int))
     have S2 := Hd (S1.out.cut (k : Int))
     have S3 := Hd (S2.out.crash (s.msg (k : Int)).to)
     have G1 := Hd (S1.out.good (by omega))
     have G2 := Hd (S2.out.good (by omega))
     have G3 := Hd (S3.out.good (by omega))
     have S4 := Hd (S3.out.deliver (by omega) ((s.f.length - 1 : Nat) : Int))
     have G4 := Hd (S4.out.good (by omega))
     clear S1 S2 S3 S4
     obtain ⟨N, hN⟩ : ∃ N, N = s.f.length := ⟨_, rfl⟩
     have hw1 : IntKind.i64.wrap ((N : Int) + 1) = ((N + 1 : Nat) : Int) := by rw [IntWalk.i64_in _ (by omega)]; omega
     have hw2 : IntKind.i64.wrap ((N : Int) - 1) = ((N - 1 : Nat) : Int) := by rw [IntWalk.i64_in _ (by omega)]; omega
     rw [← hN] at F G4 hbq hn0 hn1 hk ⊢
     have HN := Hd hN
     clear hN hfl hn
     obtain ⟨t1, ht1⟩ : ∃ t, t = s.twice (k : Int) := ⟨_, rfl⟩
     rw [← ht1] at F G1 G2 G3 G4
     have T1 := Hd ht1
     obtain ⟨t2, ht2⟩ : ∃ t, t = t1.cut (k : Int) := ⟨_, rfl⟩
     rw [← ht2] at F G2 G3 G4
     have T2 := Hd ht2
     obtain ⟨m, hm⟩ : ∃ m, m = s.msg (k : Int) := ⟨_, rfl⟩
     rw [← hm] at F G3 G4
     have HM := Hd hm
     obtain ⟨t3, ht3⟩ : ∃ t, t = t2.crash m.to := ⟨_, rfl⟩
     rw [← ht3] at F G3 G4
     have T3 := Hd ht3
     clear ht1 ht2 ht3 hm
     go_wp2_with fail
     refine (b_gtwice H.out GG.out (by omega) (k : Int)).mono ?_
     rintro e w6 ⟨rfl, h7, _⟩
     rw [F.out.1]
     rw [← T1.out] at h7
     have H6 := Hd h7
     clear h7
     go_wp2_with fail
     have P9 := H6.out
     obtain ⟨ρ9, ok9, r9, p9, z9⟩ := P9
     have P9 := Hd p9
     clear r9 p9 z9
     refine (flightG w _ g _ _ P9.out 3 G1.out (by omega)).mono ?_
     rintro e w' ⟨rfl, rfl⟩
     clear P9
     rw [F.out.2.1]
     have hb1 : (((N + 1 : Nat) : Int) != ((N + 1 : Nat) : Int)) = false := by simp
     have hb2 : ((N : Int) + 1 != (N : Int) + 1) = false := by simp
     go_wp2_with fail
     refine (b_gdrop H6.out G1.out (by omega) (k : Int)).mono ?_
     rintro e w7 ⟨rfl, h7, _⟩
     rw [F.out.2.2.1]
     rw [← T2.out] at h7
     have H7 := Hd h7
     clear h7
     go_wp2_with fail
     have P9 := H7.out
     obtain ⟨ρ9, ok9, r9, p9, z9⟩ := P9
     have P9 := Hd p9
     clear r9 p9 z9
     refine (flightG w _ g _ _ P9.out 3 G2.out (by omega)).mono ?_
     rintro e w' ⟨rfl, rfl⟩
     clear P9
     rw [F.out.2.2.2.1]
     go_wp2_with fail
     refine (b_gdrop H7.out G2.out (by omega) (N : Int)).mono ?_
     rintro e w8 ⟨rfl, h7, _⟩
     rw [F.out.2.2.2.2.1]
     rw [cut_idle t2 _ F.out.2.2.2.2.1] at h7
     have H8 := Hd h7
     clear h7
     go_wp2_with fail
     refine (b_gtwice H8.out G2.out (by omega) (-1)).mono ?_
     rintro e w9 ⟨rfl, h7, _⟩
     rw [F.out.2.2.2.2.2.1]
     rw [twice_idle t2 _ F.out.2.2.2.2.2.1] at h7
     have H9 := Hd h7
     clear h7
     have P9 := H9.out
     obtain ⟨ρ, ok, r9, p9, z9⟩ := P9
     have c2 := r9.c2
     obtain ⟨fb, hfb, eF, _, _, _, A, c, _, hc⟩ := r9.fly (i := k) (by rw [← HN.out]; exact hk)
     rw [eF, ← HN.out] at c2
     rw [← HM.out] at hc
     have x2 : w9.cell? ⟨fb, k * 10 + 2, none⟩ = some (.int .i64 m.to) := hc 2 _ rfl
     clear r9 p9 z9 hc hfb eF
     go_wp2_with fail
     refine (b_gcrash H9.out G2.out (by omega) m.to).mono ?_
     rintro e w10 ⟨rfl, h7, _⟩
     rw [← T3.out] at h7
     have H10 := Hd h7
     clear h7
     clear c2 x2
     go_wp2_with fail
     refine (b_gdeliver H10.out G3.out (by omega) ((N - 1 : Nat) : Int)).mono ?_
     rintro e w11 ⟨rfl, h7, _⟩
     rw [F.out.2.2.2.2.2.2.1]
     have H11 := Hd h7
     clear h7
     go_wp2_with fail
     have P9 := H11.out
     obtain ⟨ρ9, ok9, r9, p9, z9⟩ := P9
     have P9 := Hd p9
     clear r9 p9 z9
     refine (flightG w _ g _ _ P9.out 3 G4.out (by omega)).mono ?_
     rintro e w' ⟨rfl, rfl⟩
     clear P9
     rw [F.out.2.2.2.2.2.2.2]
     go_wp2_with fail
     go_ret
     exact ⟨by first | rfl | simp, H11.out.bel⟩
   ·have hb2 : i < l0.length ∧ i < 80 := by
     have h := HBB.out
     have h' : (decide (i < l0.length) && decide (i < 80)) = true := h.symm
     simpa using h'
    clear HBB
    obtain ⟨hl1, hl2⟩ := hb2
    have hrd := Hhr0.out.step (w1 := wr) (fun j hj _ => H.out.bel.block j hj)
    obtain ⟨_, A', c', ea, _, _, hrest⟩ := hrd
    injection ea with ea1 el ea2
    clear el
    subst ea1 ea2
    obtain ⟨be_xx, oe_xx, rfl, _, _, hcell⟩ := hrest (by omega)
    have x0 : wr.cell? ⟨be_xx, oe_xx + i, none⟩ = some (.int .i64 (l0.getD i 0)) := hcell _ _ (intsC_get hl1)
    have HXW := Hd (Hhw0.out (l0.getD i 0) (by rw [List.getD_eq_getElem?_getD, List.getElem?_eq_getElem hl1]; exact List.getElem_mem hl1))
    clear hcell hrest
    obtain ⟨xx, hxx⟩ : ∃ y, y = l0.getD i 0 := ⟨_, rfl⟩
    rw [← hxx] at x0 HXW
    have hvn := wi_range xx 1073741824 (by omega)
    obtain ⟨n, hnn⟩ : ∃ n : Nat, wi xx 1073741824 = n := ⟨_, (Int.toNat_of_nonneg hvn.1).symm⟩
    have nb : n < 1073741824 := by omega
    have NXT := Hd (show stepS 3 (gst 3 l0 i) n = gst 3 l0 (i + 1) from by show _ = stepS 3 (gst 3 l0 i) (wi (l0.getD i 0) 1073741824).toNat; rw [← hxx, hnn, Int.toNat_natCast])
    have WN_n := Hd hnn
    clear hxx hvn hnn
    go_wp2_with fail
    refine (within9_fn _ xx 1073741824 HXW.out (by omega) (by omega)).mono ?_
    rintro e w' ⟨rfl, rfl⟩
    rw [WN_n.out]
    clear WN_n HXW
    go_wp2_with fail
    refine (step_any w wr g x _ _ H.out 3 _ (gst_sys (by omega) l0 i) (by omega) (by omega) (by omega) n nb).mono ?_
    rintro e w5 ⟨rfl, h5, hs5⟩
    rw [NXT.out] at h5
    have H5 := Hd h5
    clear h5 hs5 NXT
    go_wp2_with fail
    go_roundw
    case rel => first | exact ⟨i + 1, by omega, by omega, by go_num, H5⟩ | ((repeat apply Exists.intro); refine ⟨?_, rfl⟩; exact ⟨i + 1, by omega, by omega, by go_num, H5⟩)
    case measure => simp [intOf]; omega
end Go.Proofs.Ytnkmljdkokcdjaa
