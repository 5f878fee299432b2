/- The law GroupRestarts: what lasts of a node lasts over a fall; what does not is as at the beginning. -/
import Derived.WalkKit
import Derived.WalkSpells
import Derived.Lib.Hide
import Derived.Outline
import Derived.Test.YtnkmljdkokcdjaaChecked
import Derived.Test.YtnkmljdkokcdjaaB0
import Derived.Test.YtnkmljdkokcdjaaB1
import Derived.Test.YtnkmljdkokcdjaaHs
import Derived.Test.YtnkmljdkokcdjaaB8
import Derived.Deep.DeepCutAuto
import Derived.Deep.CutBlock
import Derived.Deep.OwnRows
import Derived.IntWalk
set_option maxRecDepth 100000
set_option maxHeartbeats 40000000
set_option linter.unusedVariables false
set_option linter.unusedSimpArgs false
namespace Go.Proofs.Ytnkmljdkokcdjaa
open Go.RowKit Fed
attribute [local go_sem high] Fed.max2_int Fed.min2_int Fed.MA Fed.ZN Fed.ZM Fed.NA
theorem Both.sub {w0 w : World} {g x : Nat} {s t : GS} {Z Z' : Nat → Prop} (h : Both w0 w g x s t Z) (hz : ∀ k, Z' k → Z k) : Both w0 w g x s t Z' := h.touch (fun _ _ _ => rfl) (Below.refl _ _) (fun k hk => .inl (hz k hk))
theorem upAt (s : GS) (k : Nat) : s.isUp (k : Int) = (decide (k < s.ns.length) && s.us.getD k false) := by
 unfold GS.isUp
 rw [Int.toNat_natCast]
 simp
theorem restart_facts {b : Nat} {s : GS} (S : GSys 3 b s) (k : Nat) (hk : k < 3) (f : Int) (hf : f = 1 ∨ f = 2) :
  (s.start (k : Int) 1).isUp (k : Int) = true ∧ ((s.start (k : Int) 1).crash (k : Int)).isUp (k : Int) = false ∧ ((s.start (k : Int) 1).crash (k : Int)).crash (k : Int) = (s.start (k : Int) 1).crash (k : Int) ∧ ((s.start (k : Int) 1).crash (k : Int)).node (k : Int) = (s.start (k : Int) 1).node (k : Int) ∧
  ((s.start (k : Int) 1).crash (k : Int)).startOk (k : Int) 3 = false ∧ ((s.start (k : Int) 1).crash (k : Int)).start (k : Int) 3 = (s.start (k : Int) 1).crash (k : Int) ∧ ((s.start (k : Int) 1).crash (k : Int)).startOk (k : Int) f = true ∧
  (((s.start (k : Int) 1).crash (k : Int)).start (k : Int) f).startOk (k : Int) f = false ∧ (((s.start (k : Int) 1).crash (k : Int)).start (k : Int) f).start (k : Int) f = ((s.start (k : Int) 1).crash (k : Int)).start (k : Int) f ∧
  (((s.start (k : Int) 1).crash (k : Int)).start (k : Int) f).node (k : Int) = restartN ((s.start (k : Int) 1).node (k : Int)) f := by
 have S1 := S.start (k : Int) 1
 generalize hs : s.start (k : Int) 1 = s1 at S1 ⊢
 have l1 : s1.ns.length = 3 := S1.len
 have u1 : s1.us.length = 3 := S1.ul
 have h1 : s1.isUp (k : Int) = true := by
  rw [← hs]
  unfold GS.start
  by_cases h : s.startOk (k : Int) 1 = true
  ·rw [if_pos h, upAt]
   have hl := S.len
   have hu := S.ul
   simp [hl, hu, hk, List.getD_eq_getElem?_getD, List.getElem?_set]
  ·rw [if_neg h, upAt]
   unfold GS.startOk at h
   have hl := S.len
   rw [Int.toNat_natCast] at h
   simp [hl, hk] at h ⊢
   exact h (by omega)
 have e1 : s1.crash (k : Int) = ⟨s1.ns, s1.us.set k false, s1.f⟩ := by unfold GS.crash; rw [if_pos h1, Int.toNat_natCast]
 have hd : (s1.us.set k false).getD k false = false := by simp [List.getD_eq_getElem?_getD, List.getElem?_set]; by_cases hl : k < s1.us.length <;> simp [hl]
 have h2 : GS.isUp ⟨s1.ns, s1.us.set k false, s1.f⟩ (k : Int) = false := by rw [upAt, hd]; simp
 have h3 : GS.startOk ⟨s1.ns, s1.us.set k false, s1.f⟩ (k : Int) 3 = false := by unfold GS.startOk; simp
 have h4 : GS.startOk ⟨s1.ns, s1.us.set k false, s1.f⟩ (k : Int) f = true := by
  unfold GS.startOk
  rw [Int.toNat_natCast, hd, l1]
  rcases hf with rfl | rfl <;> simp <;> omega
 have e4 : GS.start ⟨s1.ns, s1.us.set k false, s1.f⟩ (k : Int) f = ⟨s1.ns.set k (restartN (s1.node (k : Int)) f), (s1.us.set k false).set k true, s1.f⟩ := by
  unfold GS.start
  rw [if_pos h4, Int.toNat_natCast]
  rfl
 have hd2 : ((s1.us.set k false).set k true).getD k false = true := by simp [List.getD_eq_getElem?_getD, List.getElem?_set, u1, hk]
 have h5 : GS.startOk ⟨s1.ns.set k (restartN (s1.node (k : Int)) f), (s1.us.set k false).set k true, s1.f⟩ (k : Int) f = false := by
  unfold GS.startOk
  rw [Int.toNat_natCast, hd2]
  simp
 rw [e1, e4]
 refine ⟨h1, h2, ?_, rfl, h3, ?_, h4, h5, ?_, ?_⟩
 ·unfold GS.crash; rw [h2]; rfl
 ·unfold GS.start; rw [h3]; rfl
 ·unfold GS.start; rw [h5]; rfl
 ·unfold GS.node
  simp [List.getD_eq_getElem?_getD, List.getElem?_set, l1, hk]
theorem restarts_law (v0 : Value) (l0 : List Int) (a1 a2 : Int) (x1 : (Lit.int .i64 a1).wf = true) (x2 : (Lit.int .i64 a2).wf = true) (w : World) (hr0 : MM.Rd w (fun j => j < w.heap.size) 1 v0 l0.length (intsC l0)) (hw0 : ∀ x, x ∈ l0 → (Lit.int .i64 x).wf = true) :
  Calls Try.prog 20 #[v0, .int .i64 a1, .int .i64 a2] w fun e w' => e = .returned (.bool true) ∧ Below w.heap.size w w' := by
 obtain ⟨A0, c0, rfl, q1, q2⟩ := hr0.slice
 have hm_l0 : l0.length ≤ maxLen := by omega
 unfold maxLen at hm_l0
 clear q1 q2
 have Hhr0 := Hd hr0
 have Hhw0 := Hd hw0
 clear hr0 hw0
 go_enter Try.func20, Try.ntmps20
 go_wp2_with fail
 refine (gknown_any _).mono ?_
 rintro e w1 ⟨rfl, hb1⟩
 have HB1 := Hd hb1
 clear hb1
 go_wp2_with fail
 refine (newG w w1 (3 : Int) 3 rfl (by omega) (by omega) HB1.out).mono ?_
 rintro e wa ⟨g, rfl, h2⟩
 have GA := Hd h2
 clear h2
 go_wp2_with fail
 refine (rGNew_any wa 3 (by omega) (by omega)).mono ?_
 rintro e wb ⟨x, ρ, ok, rfl, hr, hok, hb⟩
 have H0 := Hd (show Both w wb g x (GS.new 3) (GS.new 3) (fun k => k < w1.heap.size) from Both.new GA.out hr hok hb)
 clear hr hok hb GA
 go_wp2_with fail
 go_loopw [9] (fun t9 wr => ∃ i : Nat, i ≤ l0.length ∧ i ≤ 120 ∧ t9 = .int .i64 i ∧ Hid (Both w wr g x (gst 3 l0 i) (gst 3 l0 i) (fun k => k < w1.heap.size))) (fun t9 _ => l0.length - (intOf t9).toNat)
 case atStart => exact ⟨0, by omega, by omega, rfl, H0⟩
 case round =>
  clear H0
  obtain ⟨i, hi, hi2, rfl, H⟩ := hrel
  obtain ⟨b, hb⟩ : ∃ b : Bool, b = (decide (i < l0.length) && decide (i < 120)) := ⟨_, rfl⟩
  have HBB := Hd hb
  clear hb
  go_upto_region 7 with (fail)
  go_cut [31] (fun vb wc => vb = .bool b ∧ wr = wc)
  case first =>
   by_cases h1 : i < l0.length
   ·have h1b : decide ((i : Int) < (l0.length : Int)) = true := decide_eq_true (by omega)
    by_cases h2 : i < 120
    ·have h2b : decide ((i : Int) < 120) = true := decide_eq_true (by omega)
     have hbb : b = true := by rw [HBB.out, decide_eq_true h1, decide_eq_true h2]; rfl
     subst hbb
     go_wp2_with fail
     go_meet
     case rel => exact ⟨by first | rfl | (simp; omega), rfl⟩
    ·have h2b : decide ((i : Int) < 120) = false := decide_eq_false (by omega)
     have hbb : b = false := by rw [HBB.out, decide_eq_false h2]; simp
     subst hbb
     go_wp2_with fail
     go_meet
     case rel => exact ⟨by first | rfl | (simp; omega), rfl⟩
   ·have h1b : decide ((i : Int) < (l0.length : Int)) = false := decide_eq_false (by omega)
    have hbb : b = false := by rw [HBB.out, decide_eq_false h1]; rfl
    subst hbb
    go_wp2_with fail
    go_meet
    case rel => exact ⟨by first | rfl | (simp; omega), rfl⟩
  case rest =>
   obtain ⟨rfl, rfl⟩ := hcut
   cases b
   ·clear HBB
    have SS := Hd (gst_sys (K := 3) (by omega) l0 i)
    generalize gst 3 l0 i = s at H SS
    have GG := Hd (SS.out.good (by omega))
    go_wp2_with fail
    refine (within9_fn _ a1 3 x1 (by omega) (by omega)).mono ?_
    rintro e w' ⟨rfl, rfl⟩
    have hv := wi_range a1 3 (by omega)
    generalize wi a1 3 = kk at hv ⊢
    obtain ⟨k, rfl⟩ : ∃ k' : Nat, kk = k' := ⟨kk.toNat, by omega⟩
    have hk : k < 3 := by omega
    clear hv
    obtain ⟨f, hf⟩ : ∃ f : Int, 1 + wi a2 2 = f := ⟨_, rfl⟩
    have hf12 : f = 1 ∨ f = 2 := by have := wi_range a2 2 (by omega); omega
    have RF := Hd (restart_facts SS.out k hk f hf12)
    have S1 := Hd (SS.out.start (k : Int) 1)
    have S2 := Hd (S1.out.crash (k : Int))
    have S3 := Hd (S2.out.start (k : Int) f)
    have G1 := Hd (S1.out.good (by omega))
    have G2 := Hd (S2.out.good (by omega))
    have G3 := Hd (S3.out.good (by omega))
    have HF := Hd hf
    have H12 := Hd hf12
    clear S1 S2 S3 hf hf12
    obtain ⟨s1, hs1⟩ : ∃ t, t = s.start (k : Int) 1 := ⟨_, rfl⟩
    rw [← hs1] at RF G1 G2 G3
    have T1 := Hd hs1
    obtain ⟨s2, hs2⟩ : ∃ t, t = s1.crash (k : Int) := ⟨_, rfl⟩
    rw [← hs2] at RF G2 G3
    have T2 := Hd hs2
    obtain ⟨s3, hs3⟩ : ∃ t, t = s2.start (k : Int) f := ⟨_, rfl⟩
    rw [← hs3] at RF G3
    have T3 := Hd hs3
    clear hs1 hs2 hs3
    go_wp2_with fail
    refine (b_gstart H.out GG.out (by omega) (k : Int) 1).mono ?_
    rintro e w6 ⟨rfl, h6, _⟩
    rw [← T1.out] at h6
    have H6 := Hd h6
    generalize s.startOk (k : Int) 1 = so
    clear h6 H
    go_wp2_with fail
    have P9 := H6.out
    obtain ⟨ρ9, ok9, r9, p9, z9⟩ := P9
    have P9 := Hd p9
    clear r9 p9 z9
    refine (nodeG w w6 g s1 _ P9.out 3 G1.out (by omega) (k : Int)).mono ?_
    rintro e w7 ⟨hns, _, hbn⟩
    have HB7 := Hd hbn
    clear hbn P9
    rcases hns with ⟨i', hki, hil, σ, rfl, hn⟩ | ⟨hno, rfl⟩
    rotate_left
    ·exact absurd ⟨by omega, by rw [G1.out.len]; omega⟩ hno
    clear hki hil
    have LL := Hd (G1.out.rows (by omega) (i := k) (by rw [G1.out.len]; exact hk))
    obtain ⟨n, hnn⟩ : ∃ n, n = s1.node (k : Int) := ⟨_, rfl⟩
    rw [← hnn] at hn LL RF ⊢
    clear hnn
    have N7 := Hd hn
    clear hn
    go_upto_region 14 with (fail)
    refine name_world (F := fun W => Hid (W.heap[w7.heap.size]? = some (.cells (NA n σ) 28 (0, 0))) ∧ Hid (Below w6.heap.size w6 W) ∧ Hid (NodeVs W (fun j => w6.heap.size ≤ j ∧ j < W.heap.size) n σ)) _ (by exact ⟨Hd (MM.alloc_new _ _), Hd (HB7.out.alloc HB7.out.size _), Hd ((N7.out.mono (ok' := fun j => w6.heap.size ≤ j ∧ j < w7.heap.size) (fun j hj hl => ⟨hj, hl⟩)).step (fun j _ hl => Below.heap_alloc _ _ j hl) |>.mono (fun j hj hl => ⟨hj.1, hl⟩))⟩) ?_
    clear N7
    intro w8 ⟨X8, HB8, N8⟩
    have H8 := Hd (show Both w w8 g x s1 s (fun j => w6.heap.size ≤ j ∧ j < w8.heap.size) from (H6.out.newer HB8.out).sub (fun j hj => .inr hj))
    have Z7 := Hd (show w6.heap.size ≤ w7.heap.size ∧ w7.heap.size < w8.heap.size from ⟨HB7.out.size, MM.blk_lt X8.out⟩)
    clear H6 HB7 HB8
    go_wp2_with fail
    refine (b_gcrash H8.out G1.out (by omega) (k : Int)).mono ?_
    rintro e w9 ⟨rfl, h7, hs7⟩
    rw [RF.out.1]
    rw [← T2.out] at h7
    have H9 := Hd h7
    have X9 := Hd ((hs7.1 _ Z7.out).trans X8.out)
    have N9 := Hd (N8.out.step (w1 := w9) (fun j hj _ => hs7.1 j hj))
    clear h7 hs7 X8 N8
    clear H8
    go_wp2_with fail
    refine (b_gcrash H9.out G2.out (by omega) (k : Int)).mono ?_
    rintro e w10 ⟨rfl, h7, hs7⟩
    rw [RF.out.2.1]
    rw [RF.out.2.2.1] at h7
    have H10 := Hd h7
    have X10 := Hd ((hs7.1 _ Z7.out).trans X9.out)
    have N10 := Hd (N9.out.step (w1 := w10) (fun j hj _ => hs7.1 j hj))
    clear h7 hs7 X9 N9
    clear H9
    go_wp2_with fail
    refine (b_gup H10.out G2.out (by omega) (k : Int)).mono ?_
    rintro e w' ⟨rfl, rfl⟩
    rw [RF.out.2.1]
    go_wp2_with fail
    have P9 := H10.out
    obtain ⟨ρ9, ok9, r9, p9, z9⟩ := P9
    have P9 := Hd p9
    clear r9 p9 z9
    refine (appliedG w w10 g s2 _ P9.out 3 G2.out (by omega) (k : Int)).mono ?_
    rintro e w11 ⟨⟨A9, c9, rfl, hr9⟩, _, hb11⟩
    rw [show s2.applied (k : Int) = [] from by unfold GS.applied; rw [RF.out.2.1]; rfl]
    have H11 := Hd (H10.out.below hb11)
    have X11 := Hd ((hb11.block _ (MM.blk_lt X10.out)).trans X10.out)
    have N11 := Hd (N10.out.below hb11)
    clear hb11 hr9 P9 H10 X10 N10
    go_wp2_with fail
    have P9 := H11.out
    obtain ⟨ρ9, ok9, r9, p9, z9⟩ := P9
    have P9 := Hd p9
    clear r9 p9 z9
    refine (nodeG w w11 g s2 _ P9.out 3 G2.out (by omega) (k : Int)).mono ?_
    rintro e w13 ⟨hns, _, hbn⟩
    have HB13 := Hd hbn
    clear hbn P9
    rcases hns with ⟨i', hki, hil, τ, rfl, hn⟩ | ⟨hno, rfl⟩
    rotate_left
    ·exact absurd ⟨by omega, by rw [G2.out.len]; omega⟩ hno
    clear hki hil
    rw [RF.out.2.2.2.1] at hn ⊢
    have M13 := Hd hn
    have X13 := Hd ((HB13.out.block _ (MM.blk_lt X11.out)).trans X11.out)
    have N13 := Hd (N11.out.below HB13.out)
    clear hn X11 N11
    go_upto_region 17 with (fail)
    refine name_world (F := fun W => Hid (W.heap[w7.heap.size]? = some (.cells (NA n σ) 28 (0, 0))) ∧ Hid (W.heap[w13.heap.size]? = some (.cells (NA n τ) 28 (0, 0))) ∧ Hid (NodeVs W (fun j => w6.heap.size ≤ j ∧ j < w8.heap.size) n σ) ∧ Hid (NodeVs W (fun j => w11.heap.size ≤ j) n τ) ∧ Hid (Both w W g x s2 s (fun j => w6.heap.size ≤ j ∧ j < w8.heap.size))) _ (by exact ⟨Hd ((Below.heap_alloc _ _ _ (MM.blk_lt X13.out)).trans X13.out), Hd (MM.alloc_new _ _), Hd (N13.out.step (fun j _ hl => Below.heap_alloc _ _ j hl)), Hd (M13.out.step (fun j _ hl => Below.heap_alloc _ _ j hl)), Hd ((H11.out.below HB13.out).below ((Below.refl _ _).alloc (Nat.le_refl _) _))⟩) ?_
    clear N13 M13 X13 HB13 H11
    intro w14 ⟨X14, Y14, N14, M14, H14⟩
    obtain ⟨c0, c1, c2, c3, c4, c5, c6, c7, c8, c9, c10, c11, c12⟩ := MM.cells13 X14.out
    obtain ⟨y0, y1, y2, y3, y4, y5, y6, y7, y8, y9, y10, y11, y12⟩ := MM.cells13 Y14.out
    have hwf : IntKind.i64.wrap (1 + wi a2 2) = f := by rw [HF.out, IntWalk.i64_in _ (by have := H12.out; omega)]
    go_wp2_with fail
    refine (within9_fn _ a2 2 x2 (by omega) (by omega)).mono ?_
    rintro e w' ⟨rfl, rfl⟩
    go_wp2_with fail
    refine (rsame_any _ _ _ n σ τ N14.out M14.out LL.out.1 LL.out.2.1 LL.out.2.2.1 LL.out.2.2.2.1 LL.out.2.2.2.2).mono ?_
    rintro e w15 ⟨rfl, hb15⟩
    have H15 := Hd (H14.out.below hb15)
    have X15 := Hd ((hb15.block _ (MM.blk_lt X14.out)).trans X14.out)
    have N15 := Hd (N14.out.below hb15)
    clear hb15 H14 X14 Y14 N14 M14 c0 y0 c1 y1 c2 y2 c3 y3 c4 y4 c5 y5 c6 y6 c7 y7 c8 y8 c9 y9 c10 y10 c11 y11 c12 y12
    go_wp2_with fail
    refine (b_gstart H15.out G2.out (by omega) (k : Int) 3).mono ?_
    rintro e w16 ⟨rfl, h7, hs7⟩
    rw [RF.out.2.2.2.2.1]
    rw [RF.out.2.2.2.2.2.1] at h7
    have H16 := Hd h7
    have X16 := Hd ((hs7.1 _ Z7.out).trans X15.out)
    have N16 := Hd (N15.out.step (w1 := w16) (fun j hj _ => hs7.1 j hj))
    clear h7 hs7 X15 N15
    clear H15
    go_wp2_with fail
    try rw [hwf]
    try rw [HF.out]
    refine (b_gstart H16.out G2.out (by omega) (k : Int) f).mono ?_
    rintro e w17 ⟨rfl, h7, hs7⟩
    rw [RF.out.2.2.2.2.2.2.1]
    rw [← T3.out] at h7
    have H17 := Hd h7
    have X17 := Hd ((hs7.1 _ Z7.out).trans X16.out)
    have N17 := Hd (N16.out.step (w1 := w17) (fun j hj _ => hs7.1 j hj))
    clear h7 hs7 X16 N16
    clear H16
    go_wp2_with fail
    try rw [HF.out]
    refine (b_gstart H17.out G3.out (by omega) (k : Int) f).mono ?_
    rintro e w18 ⟨rfl, h7, hs7⟩
    rw [RF.out.2.2.2.2.2.2.2.1]
    rw [RF.out.2.2.2.2.2.2.2.2.1] at h7
    have H18 := Hd h7
    have X18 := Hd ((hs7.1 _ Z7.out).trans X17.out)
    have N18 := Hd (N17.out.step (w1 := w18) (fun j hj _ => hs7.1 j hj))
    clear h7 hs7 X17 N17
    clear H17
    go_wp2_with fail
    have P9 := H18.out
    obtain ⟨ρ9, ok9, r9, p9, z9⟩ := P9
    have P9 := Hd p9
    clear r9 p9 z9
    refine (nodeG w w18 g s3 _ P9.out 3 G3.out (by omega) (k : Int)).mono ?_
    rintro e w19 ⟨hns, _, hbn⟩
    have HB19 := Hd hbn
    clear hbn P9
    rcases hns with ⟨i', hki, hil, υ, rfl, hn⟩ | ⟨hno, rfl⟩
    rotate_left
    ·exact absurd ⟨by omega, by rw [G3.out.len]; omega⟩ hno
    clear hki hil
    rw [RF.out.2.2.2.2.2.2.2.2.2] at hn ⊢
    have O19 := Hd hn
    have X19 := Hd ((HB19.out.block _ (MM.blk_lt X18.out)).trans X18.out)
    have N19 := Hd (N18.out.below HB19.out)
    clear hn X18 N18
    go_upto_region 21 with (fail)
    refine name_world (F := fun W => Hid (W.heap[w7.heap.size]? = some (.cells (NA n σ) 28 (0, 0))) ∧ Hid (W.heap[w19.heap.size]? = some (.cells (NA (restartN n f) υ) 28 (0, 0))) ∧ Hid (NodeVs W (fun j => w6.heap.size ≤ j ∧ j < w8.heap.size) n σ) ∧ Hid (NodeVs W (fun j => w18.heap.size ≤ j) (restartN n f) υ) ∧ Hid (Both w W g x s3 s (fun j => w6.heap.size ≤ j ∧ j < w8.heap.size))) _ (by exact ⟨Hd ((Below.heap_alloc _ _ _ (MM.blk_lt X19.out)).trans X19.out), Hd (MM.alloc_new _ _), Hd (N19.out.step (fun j _ hl => Below.heap_alloc _ _ j hl)), Hd (O19.out.step (fun j _ hl => Below.heap_alloc _ _ j hl)), Hd ((H18.out.below HB19.out).below ((Below.refl _ _).alloc (Nat.le_refl _) _))⟩) ?_
    clear N19 O19 X19 HB19 H18
    intro w20 ⟨X20, Y20, N20, O20, H20⟩
    have c1 : w20.cell? ⟨w7.heap.size, 1, none⟩ = some (.int .i64 n.term) := MM.cell_blk X20.out rfl
    have c2 : w20.cell? ⟨w7.heap.size, 2, none⟩ = some (.int .i64 n.vote) := MM.cell_blk X20.out rfl
    have c3 : w20.cell? ⟨w7.heap.size, 3, none⟩ = some (.slice σ.A3 n.log.length σ.k3) := MM.cell_blk X20.out rfl
    have c4 : w20.cell? ⟨w7.heap.size, 4, none⟩ = some (.int .i64 n.form) := MM.cell_blk X20.out rfl
    have y1 : w20.cell? ⟨w19.heap.size, 1, none⟩ = some (.int .i64 n.term) := MM.cell_blk Y20.out rfl
    have y2 : w20.cell? ⟨w19.heap.size, 2, none⟩ = some (.int .i64 n.vote) := MM.cell_blk Y20.out rfl
    have y3 : w20.cell? ⟨w19.heap.size, 3, none⟩ = some (.slice υ.A3 n.log.length υ.k3) := MM.cell_blk Y20.out rfl
    have y4 : w20.cell? ⟨w19.heap.size, 4, none⟩ = some (.int .i64 (mx n.form f)) := MM.cell_blk Y20.out rfl
    have y5 : w20.cell? ⟨w19.heap.size, 5, none⟩ = some (.int .i64 0) := MM.cell_blk Y20.out rfl
    have y6 : w20.cell? ⟨w19.heap.size, 6, none⟩ = some (.int .i64 0) := MM.cell_blk Y20.out rfl
    have hb1 : (n.term == n.term) = true := by simp
    have hb2 : (n.vote == n.vote) = true := by simp
    have hb4 : (mx n.form f == mx f n.form) = true := by rw [mx_eq, mx_eq]; simp; omega
    go_wp2_with fail
    refine (rents_same w20 _ _ υ.A3 σ.A3 υ.k3 σ.k3 n.log O20.out.hl N20.out.hl).mono ?_
    rintro e w21 ⟨rfl, hb21⟩
    have X21 := Hd ((hb21.block _ (MM.blk_lt X20.out)).trans X20.out)
    have Y21 := Hd ((hb21.block _ (MM.blk_lt Y20.out)).trans Y20.out)
    have H21 := Hd (H20.out.below hb21)
    clear hb21 H20 X20 Y20 N20 O20 c1 c2 c3 c4 y1 y2 y3 y4 y5 y6
    have c4 : w21.cell? ⟨w7.heap.size, 4, none⟩ = some (.int .i64 n.form) := MM.cell_blk X21.out rfl
    have y4 : w21.cell? ⟨w19.heap.size, 4, none⟩ = some (.int .i64 (mx n.form f)) := MM.cell_blk Y21.out rfl
    have y5 : w21.cell? ⟨w19.heap.size, 5, none⟩ = some (.int .i64 0) := MM.cell_blk Y21.out rfl
    have y6 : w21.cell? ⟨w19.heap.size, 6, none⟩ = some (.int .i64 0) := MM.cell_blk Y21.out rfl
    go_wp2_with fail
    go_ret
    exact ⟨by first | rfl | simp, H21.out.bel⟩
   ·have hb2 : i < l0.length ∧ i < 120 := by
     have h := HBB.out
     have h' : (decide (i < l0.length) && decide (i < 120)) = true := h.symm
     simpa using h'
    clear HBB
    obtain ⟨hl1, hl2⟩ := hb2
    have hrd := Hhr0.out.step (w1 := wr) (fun j hj _ => H.out.bel.block j hj)
    obtain ⟨_, A', c', ea, _, _, hrest⟩ := hrd
    injection ea with ea1 el ea2
    clear el
    subst ea1 ea2
    obtain ⟨be_xx, oe_xx, rfl, _, _, hcell⟩ := hrest (by omega)
    have x0 : wr.cell? ⟨be_xx, oe_xx + i, none⟩ = some (.int .i64 (l0.getD i 0)) := hcell _ _ (intsC_get hl1)
    have HXW := Hd (Hhw0.out (l0.getD i 0) (by rw [List.getD_eq_getElem?_getD, List.getElem?_eq_getElem hl1]; exact List.getElem_mem hl1))
    clear hcell hrest
    obtain ⟨xx, hxx⟩ : ∃ y, y = l0.getD i 0 := ⟨_, rfl⟩
    rw [← hxx] at x0 HXW
    have hvn := wi_range xx 1073741824 (by omega)
    obtain ⟨n, hnn⟩ : ∃ n : Nat, wi xx 1073741824 = n := ⟨_, (Int.toNat_of_nonneg hvn.1).symm⟩
    have nb : n < 1073741824 := by omega
    have NXT := Hd (show stepS 3 (gst 3 l0 i) n = gst 3 l0 (i + 1) from by show _ = stepS 3 (gst 3 l0 i) (wi (l0.getD i 0) 1073741824).toNat; rw [← hxx, hnn, Int.toNat_natCast])
    have WN_n := Hd hnn
    clear hxx hvn hnn
    go_wp2_with fail
    refine (within9_fn _ xx 1073741824 HXW.out (by omega) (by omega)).mono ?_
    rintro e w' ⟨rfl, rfl⟩
    rw [WN_n.out]
    clear WN_n HXW
    go_wp2_with fail
    refine (step_any w wr g x _ _ H.out 3 _ (gst_sys (by omega) l0 i) (by omega) (by omega) (by omega) n nb).mono ?_
    rintro e w5 ⟨rfl, h5, hs5⟩
    rw [NXT.out] at h5
    have H5 := Hd h5
    clear h5 hs5 NXT
    go_wp2_with fail
    go_roundw
    case rel => first | exact ⟨i + 1, by omega, by omega, by go_num, H5⟩ | ((repeat apply Exists.intro); refine ⟨?_, rfl⟩; exact ⟨i + 1, by omega, by omega, by go_num, H5⟩)
    case measure => simp [intOf]; omega
end Go.Proofs.Ytnkmljdkokcdjaa
