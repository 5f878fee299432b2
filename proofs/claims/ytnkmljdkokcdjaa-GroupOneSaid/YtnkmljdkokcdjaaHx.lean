/- The law GroupOne: in a term there is one leader at most, always. -/
import Derived.WalkKit
import Derived.WalkSpells
import Derived.Lib.Hide
import Derived.Outline
import Derived.Test.YtnkmljdkokcdjaaChecked
import Derived.Test.YtnkmljdkokcdjaaB0
import Derived.Test.YtnkmljdkokcdjaaB1
import Derived.Test.YtnkmljdkokcdjaaHs
import Derived.Test.YtnkmljdkokcdjaaHn
import Derived.Test.YtnkmljdkokcdjaaB17
import Derived.Deep.DeepCutAuto
import Derived.Deep.CutBlock
import Derived.Deep.OwnRows
import Derived.IntWalk
set_option maxRecDepth 100000
set_option maxHeartbeats 40000000
set_option linter.unusedVariables false
set_option linter.unusedSimpArgs false
namespace Go.Proofs.Ytnkmljdkokcdjaa
open Go.RowKit Fed
attribute [local go_sem high] Fed.max2_int Fed.min2_int Fed.MA Fed.ZN Fed.ZM Fed.NA
def LedG (K : Nat) (s : GS) (led : List Int) : Prop := ∃ G, GI K G s ∧ ∀ (t : Nat) (v : Int), led[t]? = some v → v = -1 ∨ (0 ≤ v ∧ G.Ldr (t : Int) = some v.toNat)
theorem LedG.new (K : Nat) : LedG K (GS.new K) [] := by
 obtain ⟨G, gi⟩ := GI.new K
 exact ⟨G, gi, fun t v h => by simp at h⟩
theorem LedG.step {K : Nat} {s : GS} {led : List Int} (h : LedG K s led) (n : Nat) : LedG K (stepS K s n) led := by
 obtain ⟨G, gi, h1⟩ := h
 obtain ⟨G', e, gi'⟩ := gi.step n
 refine ⟨G', gi', fun t v hv => ?_⟩
 rcases h1 t v hv with q | ⟨q1, q2⟩
 ·exact .inl q
 ·exact .inr ⟨q1, e.ld _ _ q2⟩
theorem LedG.pad {K : Nat} {s : GS} {led : List Int} (h : LedG K s led) : LedG K s (led ++ [-1]) := by
 obtain ⟨G, gi, h1⟩ := h
 refine ⟨G, gi, fun t v hv => ?_⟩
 by_cases ht : t < led.length
 ·rw [List.getElem?_append_left ht] at hv
  exact h1 t v hv
 ·rw [List.getElem?_append_right (by omega)] at hv
  have := (List.getElem?_eq_some_iff.1 hv)
  obtain ⟨hl, e⟩ := this
  simp at hl
  simp [hl] at e
  exact .inl e.symm
theorem LedG.put {K : Nat} {s : GS} {led : List Int} (h : LedG K s led) {j T : Nat} (hj : j < s.ns.length) (hr : (s.node (j : Int)).role = 2) (hT : (s.node (j : Int)).term = (T : Int)) (hl : T < led.length) : (0 ≤ led.getD T 0 → led.getD T 0 = (j : Int)) ∧ LedG K s (led.set T (j : Int)) := by
 obtain ⟨G, gi, h1⟩ := h
 have hn := (gi.at (id := (j : Int)) (by omega) (by omega)).lead hr
 have hL := hn.1
 rw [hT, Int.toNat_natCast] at hL
 refine ⟨fun h0 => ?_, G, gi, fun t v hv => ?_⟩
 ·have e : led[T]? = some (led.getD T 0) := by rw [List.getD_eq_getElem?_getD, List.getElem?_eq_getElem hl]; rfl
  rcases h1 T _ e with q | ⟨_, q⟩
  ·omega
  ·rw [hL] at q; injection q with q; omega
 ·rw [List.getElem?_set] at hv
  by_cases ht : T = t
  ·rw [if_pos ht, if_pos hl] at hv
   injection hv with hv
   subst ht hv
   exact .inr ⟨by omega, by rw [Int.toNat_natCast]; exact hL⟩
  ·rw [if_neg ht] at hv
   exact h1 t v hv
def lenOf : Value → Nat
 | .slice _ n _ => n
 | _ => 0
theorem Both.ge {w0 w : World} {g x n : Nat} {s t : GS} {Z : Nat → Prop} (h : Both w0 w g x s t Z) (hz : ∀ k, k < n → Z k) : n ≤ w.heap.size := by
 by_cases q : n ≤ w.heap.size
 ·exact q
 ·exact absurd (h.lt w.heap.size (hz _ (by omega))) (by omega)
theorem one_law (a0 : Int) (v1 : Value) (l1 : List Int) (x0 : (Lit.int .i64 a0).wf = true) (w : World) (hr1 : MM.Rd w (fun j => j < w.heap.size) 1 v1 l1.length (intsC l1)) (hw1 : ∀ x, x ∈ l1 → (Lit.int .i64 x).wf = true) :
  Calls Try.prog 19 #[.int .i64 a0, v1] w fun e w' => e = .returned (.bool true) ∧ Below w.heap.size w w' := by
 obtain ⟨A1, c1, rfl, q1, q2⟩ := hr1.slice
 have hm_l1 : l1.length ≤ maxLen := by omega
 unfold maxLen at hm_l1
 clear q1 q2
 have Hhr1 := Hd hr1
 have Hhw1 := Hd hw1
 clear hr1 hw1
 go_enter Try.func19, Try.ntmps19
 go_wp2_with fail
 refine (gknown_any _).mono ?_
 rintro e w1 ⟨rfl, hb1⟩
 have HB1 := Hd hb1
 clear hb1
 go_wp2_with fail
 refine (within9_fn _ a0 5 x0 (by omega) (by omega)).mono ?_
 rintro e w' ⟨rfl, rfl⟩
 have hv := wi_range a0 5 (by omega)
 generalize wi a0 5 = q at hv ⊢
 obtain ⟨q, rfl⟩ : ∃ q' : Nat, q = q' := ⟨q.toNat, by omega⟩
 have hk5 : q < 5 := by omega
 clear hv
 have hws : IntKind.i64.wrap (1 + (q : Int)) = ((q + 1 : Nat) : Int) := by rw [IntWalk.i64_in _ (by omega)]; omega
 go_wp2_with fail
 obtain ⟨K, hK⟩ : ∃ K : Nat, (q : Int) + 1 = K := ⟨q + 1, by omega⟩
 rw [hK]
 have hK1 : 1 ≤ K := by omega
 have hK5 : K ≤ 5 := by omega
 clear hws hk5 hK
 refine (newG w w1 (K : Int) K rfl (by omega) (by omega) HB1.out).mono ?_
 rintro e wa ⟨g, rfl, h2⟩
 have GA := Hd h2
 clear h2
 go_wp2_with fail
 refine (rGNew_any wa K (by omega) (by omega)).mono ?_
 rintro e wb ⟨x, ρ, ok, rfl, hr, hok, hb⟩
 have H0 := Hd (show Both w wb g x (GS.new K) (GS.new K) (fun k => k < w1.heap.size) from Both.new GA.out hr hok hb)
 clear hr hok hb GA
 have H00 := Hd (show Both w wb g x (gst K l1 0) (gst K l1 0) (fun k => k < w1.heap.size ∨ (none : Option Nat) = some k) from H0.out.touch (fun _ _ _ => rfl) (Below.refl _ _) (fun k hk => by rcases hk with hk | hk; exact .inl hk; cases hk))
 have F0 := Hd (show LedG K (gst K l1 0) [] ∧ ([] : List Int).length ≤ 2000 from ⟨LedG.new K, by simp⟩)
 clear H0
 go_wp2_with fail
 go_loopw [8, 9] (fun t8 t9 wr => ∃ (i : Nat) (A : Option Addr) (c : Nat) (ob : Option Nat) (led : List Int), i ≤ l1.length ∧ i ≤ 250 ∧ t8 = .slice A led.length c ∧ t9 = .int .i64 i ∧ Hid (MM.Row wr w1.heap.size 3 1 (.slice A led.length c) led.length (intsC led) ob) ∧ Hid (Both w wr g x (gst K l1 i) (gst K l1 i) (fun k => k < w1.heap.size ∨ ob = some k)) ∧ Hid (LedG K (gst K l1 i) led ∧ led.length ≤ 2000)) (fun _ t9 _ => l1.length - (intOf t9).toNat)
 case atStart => exact ⟨0, none, 0, none, [], by omega, by omega, rfl, rfl, Hd (MM.Row.nil _ _ _ _ _), H00, F0⟩
 case round =>
  clear H00 F0
  obtain ⟨i, A, c, ob, led, hi, hi2, rfl, rfl, R, H, F⟩ := hrel
  obtain ⟨b, hb⟩ : ∃ b : Bool, b = (decide (i < l1.length) && decide (i < 250)) := ⟨_, rfl⟩
  have HBB := Hd hb
  clear hb
  go_upto_region 9 with (fail)
  go_cut [31] (fun vb wc => vb = .bool b ∧ wr = wc)
  case first =>
   by_cases h1 : i < l1.length
   ·have h1b : decide ((i : Int) < (l1.length : Int)) = true := decide_eq_true (by omega)
    by_cases h2 : i < 250
    ·have h2b : decide ((i : Int) < 250) = true := decide_eq_true (by omega)
     have hbb : b = true := by rw [HBB.out, decide_eq_true h1, decide_eq_true h2]; rfl
     subst hbb
     go_wp2_with fail
     go_meet
     case rel => exact ⟨by first | rfl | (simp; omega), rfl⟩
    ·have h2b : decide ((i : Int) < 250) = false := decide_eq_false (by omega)
     have hbb : b = false := by rw [HBB.out, decide_eq_false h2]; simp
     subst hbb
     go_wp2_with fail
     go_meet
     case rel => exact ⟨by first | rfl | (simp; omega), rfl⟩
   ·have h1b : decide ((i : Int) < (l1.length : Int)) = false := decide_eq_false (by omega)
    have hbb : b = false := by rw [HBB.out, decide_eq_false h1]; rfl
    subst hbb
    go_wp2_with fail
    go_meet
    case rel => exact ⟨by first | rfl | (simp; omega), rfl⟩
  case rest =>
   obtain ⟨rfl, rfl⟩ := hcut
   cases b
   ·clear HBB
    go_wp2_with fail
    go_ret
    exact ⟨rfl, H.out.bel⟩
   ·have hb2 : i < l1.length ∧ i < 250 := by
     have h := HBB.out
     have h' : (decide (i < l1.length) && decide (i < 250)) = true := h.symm
     simpa using h'
    clear HBB
    obtain ⟨hl1, hl2⟩ := hb2
    have hrd := Hhr1.out.step (w1 := wr) (fun j hj _ => H.out.bel.block j hj)
    obtain ⟨_, A', c', ea, _, _, hrest⟩ := hrd
    injection ea with ea1 el ea2
    clear el
    subst ea1 ea2
    obtain ⟨be_xx, oe_xx, rfl, _, _, hcell⟩ := hrest (by omega)
    have x0 : wr.cell? ⟨be_xx, oe_xx + i, none⟩ = some (.int .i64 (l1.getD i 0)) := hcell _ _ (intsC_get hl1)
    have HXW := Hd (Hhw1.out (l1.getD i 0) (by rw [List.getD_eq_getElem?_getD, List.getElem?_eq_getElem hl1]; exact List.getElem_mem hl1))
    clear hcell hrest
    obtain ⟨xx, hxx⟩ : ∃ y, y = l1.getD i 0 := ⟨_, rfl⟩
    rw [← hxx] at x0 HXW
    have hvn := wi_range xx 1073741824 (by omega)
    obtain ⟨n, hnn⟩ : ∃ n : Nat, wi xx 1073741824 = n := ⟨_, (Int.toNat_of_nonneg hvn.1).symm⟩
    have nb : n < 1073741824 := by omega
    have NXT := Hd (show stepS K (gst K l1 i) n = gst K l1 (i + 1) from by show _ = stepS K (gst K l1 i) (wi (l1.getD i 0) 1073741824).toNat; rw [← hxx, hnn, Int.toNat_natCast])
    have WN_n := Hd hnn
    clear hxx hvn hnn
    go_wp2_with fail
    refine (within9_fn _ xx 1073741824 HXW.out (by omega) (by omega)).mono ?_
    rintro e w' ⟨rfl, rfl⟩
    rw [WN_n.out]
    clear WN_n HXW
    go_wp2_with fail
    refine (step_any w wr g x _ _ H.out K _ (gst_sys (by omega) l1 i) (by omega) (by omega) (by omega) n nb).mono ?_
    rintro e w5 ⟨rfl, h5, hs5⟩
    rw [NXT.out] at h5
    have H5 := Hd h5
    have S5 := Hd hs5
    clear h5 hs5 NXT
    obtain ⟨i0, hi0, hz0, hz1, hz2⟩ := info_parts info3
    obtain ⟨s, hs⟩ : ∃ s, s = gst K l1 (i + 1) := ⟨_, rfl⟩
    rw [← hs] at H5
    have SE := Hd hs
    have GG := Hd (show GoodG K s from by rw [SE.out]; exact gst_good hK5 l1 (i + 1) (by omega))
    have SY := Hd (show GSys K (3 * (i + 1)) s from by rw [SE.out]; exact gst_sys hK5 l1 (i + 1))
    have FR := Hd (show LedG K s led ∧ led.length ≤ 2000 from ⟨by rw [SE.out]; exact F.out.1.step _, F.out.2⟩)
    have R5 := Hd (R.out.step (w1 := w5) (fun k hk _ => S5.out.1 k (.inr hk)))
    have I1 : i + 1 ≤ l1.length ∧ i + 1 ≤ 250 := by omega
    clear hs R S5 F x0 hl1 hl2
    go_wp2_with fail
    go_loopw [8, 10] (fun t8 t10 wr => ∃ (j : Nat) (A : Option Addr) (c : Nat) (ob : Option Nat) (led : List Int), j ≤ K ∧ t8 = .slice A led.length c ∧ t10 = .int .i64 j ∧ Hid (MM.Row wr w1.heap.size 3 1 (.slice A led.length c) led.length (intsC led) ob) ∧ Hid (Both w wr g x (s) (s) (fun k => k < w1.heap.size ∨ ob = some k)) ∧ Hid (LedG K s led ∧ led.length ≤ 2000)) (fun _ t10 _ => K - (intOf t10).toNat)
    case atStart => exact ⟨0, A, c, ob, led, by omega, rfl, rfl, R5, H5, FR⟩
    case round =>
     clear R5 H5 FR
     obtain ⟨j, A, c, ob, led, hj, rfl, rfl, R, H, F⟩ := hrel
     by_cases hlt : j < K
     ·have hlb : decide ((j : Int) < (K : Int)) = true := decide_eq_true (by omega)
      have HH := H.out
      obtain ⟨ρ9, ok9, r9, p9, z9⟩ := HH
      have P9 := Hd p9
      clear r9 p9 z9
      go_wp2_with fail
      refine (nodeG w wr g s _ P9.out K GG.out (by omega) (j : Int)).mono ?_
      rintro e w4 ⟨hns, _, hb4⟩
      have HB4 := Hd hb4
      clear hb4 P9
      rcases hns with ⟨i', hki, hil, σ, rfl, hn⟩ | ⟨hno, rfl⟩
      rotate_left
      ·exact absurd ⟨by omega, by rw [GG.out.len]; omega⟩ hno
      clear hki hil hn
      have hns : s.ns[j]? = some (s.node (j : Int)) := by
       unfold GS.node
       rw [Int.toNat_natCast, List.getD_eq_getElem?_getD, List.getElem?_eq_getElem (by rw [GG.out.len]; exact hlt)]; rfl
      have hnb := (SY.out.nb _ (List.mem_of_getElem? hns)).t
      have ht0 : 0 ≤ (s.node (j : Int)).term := by
       obtain ⟨G, gi, _⟩ := F.out.1
       exact (gi.n j _ hns).t0
      obtain ⟨n, hnn⟩ : ∃ n, n = s.node (j : Int) := ⟨_, rfl⟩
      rw [← hnn] at hnb ht0 ⊢
      obtain ⟨T, hT⟩ : ∃ T : Nat, n.term = (T : Int) := ⟨n.term.toNat, by omega⟩
      have hTb : T < 2000 := by omega
      have HNN := Hd hnn
      have HT := Hd hT
      clear hnn hT hns hnb ht0
      go_upto_region 17 with (fail)
      obtain ⟨bx, hbx⟩ : ∃ b, b = w4.heap.size := ⟨_, rfl⟩
      rw [← hbx]
      refine name_world (F := fun W => Hid (W.heap[bx]? = some (.cells (NA n σ) 28 (0, 0))) ∧ Hid (MM.Row W w1.heap.size 3 1 (.slice A led.length c) led.length (intsC led) ob) ∧ Hid (Both w W g x s s (fun k => k < w1.heap.size ∨ ob = some k)) ∧ Hid (w1.heap.size ≤ bx)) _ (by exact ⟨Hd (by rw [hbx]; exact MM.alloc_new _ _), Hd ((R.out.below HB4.out).alloc _), Hd ((H.out.below HB4.out).below ((Below.refl _ _).alloc (Nat.le_refl _) _)), Hd (by rw [hbx]; exact Nat.le_trans (H.out.ge (fun k hk => .inl hk)) HB4.out.size)⟩) ?_
      intro w6 ⟨X6, R6, H6, BX⟩
      clear hbx R H HB4
      have c5 : w6.cell? ⟨bx, 5, none⟩ = some (.int .i64 n.role) := MM.cell_blk X6.out rfl
      by_cases hr : n.role = 2
      ·have hrb : (n.role != 2) = false := by simp [hr]
       have hr2 := Hd hr
       clear hr
       go_wp2_with fail
       refine (b_gup H6.out GG.out (by omega) (j : Int)).mono ?_
       rintro e w' ⟨rfl, rfl⟩
       cases hu : s.isUp (j : Int)
       ·clear c5 hrb
        go_wp2_with fail
        go_roundw
        case rel => first | exact ⟨j + 1, A, c, ob, led, by omega, rfl, by go_num, R6, H6, F⟩ | ((repeat apply Exists.intro); refine ⟨?_, rfl⟩; exact ⟨j + 1, A, c, ob, led, by omega, rfl, by go_num, R6, H6, F⟩)
        case measure => simp [intOf]; omega
       ·clear c5 hrb hu
        have hr := hr2.out
        have HR := Hd hr
        clear hr
        go_wp2_with fail
        go_loopw [8] (fun t8 wr => ∃ (A : Option Addr) (c : Nat) (ob : Option Nat) (led : List Int), t8 = .slice A led.length c ∧ Hid (MM.Row wr w1.heap.size 3 1 (.slice A led.length c) led.length (intsC led) ob) ∧ Hid (Both w wr g x (s) (s) (fun k => k < w1.heap.size ∨ ob = some k)) ∧ Hid (LedG K s led ∧ led.length ≤ 2000) ∧ Hid (wr.heap[bx]? = some (.cells (NA n σ) 28 (0, 0))) ∧ Hid (w1.heap.size ≤ bx)) (fun t8 _ => 2001 - lenOf t8)
        case atStart => exact ⟨A, c, ob, led, rfl, R6, H6, F, X6, BX⟩
        case round =>
         clear R6 H6 F X6 BX
         obtain ⟨A, c, ob, led, rfl, R, H, F, X, BX⟩ := hrel
         have c1 : wr.cell? ⟨bx, 1, none⟩ = some (.int .i64 (T : Int)) := by rw [← HT.out]; exact MM.cell_blk X.out rfl
         have hb2 : decide ((T : Int) < 2000) = true := decide_eq_true (by omega)
         have hb3 : decide (T < 2000) = true := decide_eq_true (by omega)
         by_cases hlT : led.length ≤ T
         ·have hb1 : decide ((led.length : Int) ≤ (T : Int)) = true := decide_eq_true (by omega)
          have hb4 : decide (led.length ≤ T) = true := decide_eq_true hlT
          go_wp2_with (at_builtin; refine MM.wpList_append_row _ rfl (.tmp 73) (.tmp 74) 26 rfl w1.heap.size 3 i0 _ 1 8 Try.underlying26 hi0 hz0 hz1 hz2 rfl (by decide) _ _ _ ob rfl (R.out.alloc _) (fun _ => True) _ 1 [.int .i64 (-1)] rfl (MM.Rd.lit (MM.alloc_new _ _) trivial rfl (Nat.le_refl _) (by simp [maxLen]) rfl) (by intro u hu; simp at hu; subst hu; rfl) (by simp only [maxLen]; omega) (by omega) (by have := H.out.ge (n := w1.heap.size) (fun k hk => .inl hk); simp; omega) ?_; intro v' w6 ob' hr hg hob)
          obtain ⟨A', c', rfl, _, _⟩ := hr.slice
          have el : (led ++ [(-1 : Int)]).length = led.length + 1 := by simp
          have R2 := Hd (show MM.Row w6 w1.heap.size 3 1 (.slice A' (led ++ [(-1 : Int)]).length c') (led ++ [(-1 : Int)]).length (intsC (led ++ [(-1 : Int)])) ob' from by
           have e : intsC (led ++ [(-1 : Int)]) = intsC led ++ [.int .i64 (-1)] := by unfold intsC; rw [List.map_append]; rfl
           rw [el, e]; exact hr)
          have HBA := H.out.below (w' := wr.alloc (.cells #[.int .i64 (-1)] 3 (0, 0))) ((Below.refl _ _).alloc (Nat.le_refl _) _)
          have H2 := Hd (show Both w w6 g x s s (fun k => k < w1.heap.size ∨ ob' = some k) from HBA.touch (fun k hk hz => hg.block k hk (fun e => hz (.inr e.symm))) ((Below.refl _ _).grown hg HBA.bel.size (fun k hk => Nat.le_trans HB1.out.size (R.out.lt k hk).1)) (fun k hk => by
           rcases hk with hk | hk
           ·exact .inl (.inl hk)
           ·rcases hob with hob | ⟨b, hob, hbb⟩
            ·exact .inl (.inr (by rw [← hob]; exact hk))
            ·exact .inr ⟨by rw [hob] at hk; injection hk with hk; rw [← hk]; exact hbb, (R2.out.lt k hk).2⟩))
          have X2 := Hd ((hg.block bx (by have := MM.blk_lt X.out; simp; omega) (fun e => ty_ne (R.out.ty bx e.symm) ⟨_, _, X.out⟩ (by decide) rfl)).trans ((Below.heap_alloc _ _ _ (MM.blk_lt X.out)).trans X.out))
          have F2 := Hd (show LedG K s (led ++ [(-1 : Int)]) ∧ (led ++ [(-1 : Int)]).length ≤ 2000 from ⟨F.out.1.pad, by rw [el]; omega⟩)
          rw [← el]
          clear hr hg hob HBA R H X c1 el
          go_wp2_with fail
          go_roundw
          case rel => first | exact ⟨A', c', ob', _, rfl, R2, H2, F2, X2, BX⟩ | ((repeat apply Exists.intro); refine ⟨?_, rfl⟩; exact ⟨A', c', ob', _, rfl, R2, H2, F2, X2, BX⟩)
          case measure => simp [lenOf]; omega
         ·have hb1 : decide ((led.length : Int) ≤ (T : Int)) = false := decide_eq_false (by omega)
          have hb4 : decide (led.length ≤ T) = false := decide_eq_false hlT
          have hlT2 : T < led.length := by omega
          have hbT : decide ((T : Int) < 0) = false := decide_eq_false (by omega)
          have PUT := Hd (F.out.1.put (j := j) (T := T) (by rw [GG.out.len]; exact hlt) (by rw [← HNN.out]; exact HR.out) (by rw [← HNN.out]; exact HT.out) hlT2)
          obtain ⟨gb, hgb⟩ := R.out.some_of (by omega)
          have hrr := R.out
          rw [hgb] at hrr
          obtain ⟨cap, ef, ef1, ef2⟩ := hrr.form
          injection ef with ea el ec
          clear el
          subst ea ec
          have x8 : wr.cell? ⟨gb, T, none⟩ = some (.int .i64 (led.getD T 0)) := hrr.cell (intsC_get hlT2)
          have f8 : wr.frozen? ⟨gb, T, none⟩ = false := hrr.free _
          obtain ⟨v, hv⟩ : ∃ v, v = led.getD T 0 := ⟨_, rfl⟩
          rw [← hv] at x8 PUT
          have HGB := Hd hgb
          clear hv hrr hgb
          by_cases h0 : 0 ≤ v
          ·have hvj := PUT.out.1 h0
           subst hvj
           have hjj : ((j : Int) != (j : Int)) = false := by simp
           go_upto_region 22 with (fail)
           go_wp2_with fail
           have hrr2 := R.out
           rw [HGB.out] at hrr2
           have R9 := Hd (show MM.Row (wr.setCell ⟨gb, T, none⟩ (.int .i64 (j : Int))) w1.heap.size 3 1 (.slice (some ⟨gb, 0, none⟩) (led.set T (j : Int)).length c) (led.set T (j : Int)).length (intsC (led.set T (j : Int))) (some gb) from by
            have h := hrr2.set (u := .int .i64 (j : Int)) hlT2
            have e : (intsC led).set T (.int .i64 (j : Int)) = intsC (led.set T (j : Int)) := by unfold intsC; rw [List.map_set]
            rw [e] at h
            rw [List.length_set]
            exact h)
           have H9 := Hd (show Both w (wr.setCell ⟨gb, T, none⟩ (.int .i64 (j : Int))) g x s s (fun k => k < w1.heap.size ∨ some gb = some k) from by
            have h := H.out
            rw [HGB.out] at h
            exact h.touch (fun k hk hz => Below.heap_setCell wr _ _ k (fun e => hz (.inr (by rw [e])))) ((Below.refl _ _).setCell (p := ⟨gb, T, none⟩) (Nat.le_trans HB1.out.size (hrr2.lt gb rfl).1) _) (fun k hk => .inl hk))
           have F9 := Hd (show LedG K s (led.set T (j : Int)) ∧ (led.set T (j : Int)).length ≤ 2000 from ⟨PUT.out.2, by rw [List.length_set]; exact F.out.2⟩)
           clear hrr2
           go_roundw
           case rel => first | exact ⟨j + 1, _, _, _, _, by omega, by rw [List.length_set], by go_num, R9, H9, F9⟩ | ((repeat apply Exists.intro); refine ⟨?_, rfl⟩; exact ⟨j + 1, _, _, _, _, by omega, by rw [List.length_set], by go_num, R9, H9, F9⟩)
           case measure => simp [intOf]; omega
          ·have h0b : decide (0 ≤ v) = false := decide_eq_false h0
           go_upto_region 22 with (fail)
           go_wp2_with fail
           have hrr2 := R.out
           rw [HGB.out] at hrr2
           have R9 := Hd (show MM.Row (wr.setCell ⟨gb, T, none⟩ (.int .i64 (j : Int))) w1.heap.size 3 1 (.slice (some ⟨gb, 0, none⟩) (led.set T (j : Int)).length c) (led.set T (j : Int)).length (intsC (led.set T (j : Int))) (some gb) from by
            have h := hrr2.set (u := .int .i64 (j : Int)) hlT2
            have e : (intsC led).set T (.int .i64 (j : Int)) = intsC (led.set T (j : Int)) := by unfold intsC; rw [List.map_set]
            rw [e] at h
            rw [List.length_set]
            exact h)
           have H9 := Hd (show Both w (wr.setCell ⟨gb, T, none⟩ (.int .i64 (j : Int))) g x s s (fun k => k < w1.heap.size ∨ some gb = some k) from by
            have h := H.out
            rw [HGB.out] at h
            exact h.touch (fun k hk hz => Below.heap_setCell wr _ _ k (fun e => hz (.inr (by rw [e])))) ((Below.refl _ _).setCell (p := ⟨gb, T, none⟩) (Nat.le_trans HB1.out.size (hrr2.lt gb rfl).1) _) (fun k hk => .inl hk))
           have F9 := Hd (show LedG K s (led.set T (j : Int)) ∧ (led.set T (j : Int)).length ≤ 2000 from ⟨PUT.out.2, by rw [List.length_set]; exact F.out.2⟩)
           clear hrr2
           go_roundw
           case rel => first | exact ⟨j + 1, _, _, _, _, by omega, by rw [List.length_set], by go_num, R9, H9, F9⟩ | ((repeat apply Exists.intro); refine ⟨?_, rfl⟩; exact ⟨j + 1, _, _, _, _, by omega, by rw [List.length_set], by go_num, R9, H9, F9⟩)
           case measure => simp [intOf]; omega
      ·have hrb : (n.role != 2) = true := by simp [hr]
       clear hr
       go_wp2_with fail
       go_roundw
       case rel => first | exact ⟨j + 1, A, c, ob, led, by omega, rfl, by go_num, R6, H6, F⟩ | ((repeat apply Exists.intro); refine ⟨?_, rfl⟩; exact ⟨j + 1, A, c, ob, led, by omega, rfl, by go_num, R6, H6, F⟩)
       case measure => simp [intOf]; omega
     ·have hlb : decide ((j : Int) < (K : Int)) = false := decide_eq_false (by omega)
      have H9 := Hd (show Both w wr g x (gst K l1 (i + 1)) (gst K l1 (i + 1)) (fun k => k < w1.heap.size ∨ ob = some k) from by rw [← SE.out]; exact H.out)
      have F9 := Hd (show LedG K (gst K l1 (i + 1)) led ∧ led.length ≤ 2000 from by rw [← SE.out]; exact F.out)
      clear H F
      go_wp2_with fail
      go_roundw
      case rel => first | exact ⟨i + 1, A, c, ob, led, I1.1, I1.2, rfl, by go_num, R, H9, F9⟩ | ((repeat apply Exists.intro); refine ⟨?_, rfl⟩; exact ⟨i + 1, A, c, ob, led, I1.1, I1.2, rfl, by go_num, R, H9, F9⟩)
      case measure => simp [intOf]; omega
end Go.Proofs.Ytnkmljdkokcdjaa
