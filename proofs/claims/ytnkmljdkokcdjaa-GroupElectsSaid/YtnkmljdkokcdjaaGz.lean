/-
  The law GroupElects returns true, and writes nothing that was there, for any ints.
-/
import Derived.WalkKit
import Derived.WalkSpells
import Derived.Lib.Hide
import Derived.Outline
import Derived.Test.YtnkmljdkokcdjaaChecked
import Derived.Test.YtnkmljdkokcdjaaMn
import Derived.Test.YtnkmljdkokcdjaaMem
import Derived.Test.YtnkmljdkokcdjaaFed
import Derived.Test.YtnkmljdkokcdjaaGy
import Derived.Deep.DeepCutAuto
import Derived.Deep.CutBlock
import Derived.Deep.OwnRows
import Derived.IntWalk
set_option linter.unusedVariables false
set_option linter.unusedSimpArgs false
namespace Go.Proofs.Ytnkmljdkokcdjaa
open Go.RowKit Fed
set_option linter.unusedVariables false
attribute [local go_sem high] Fed.max2_int Fed.min2_int

theorem countT_off {us : List Bool} : ∀ {i : Nat}, us.getD i false = true → countT (us.set i false) + 1 = countT us := by
  induction us with
  | nil => intro i h; simp at h
  | cons b us ih =>
    intro i h
    cases i with
    | zero => simp at h; subst h; simp [countT]
    | succ i =>
      have := ih (i := i) (by simpa using h)
      unfold countT at this ⊢
      cases b <;> simp [List.filter_cons] <;> omega
theorem countT_all (k : Nat) : countT (List.replicate k true) = k := by
  unfold countT
  rw [List.filter_eq_self.2 (fun b hb => by rw [List.eq_of_mem_replicate hb]; rfl), List.length_replicate]
def s0 (us : List Bool) : GS := ⟨(GS.new us.length).ns, us, []⟩
theorem s0_sys (us : List Bool) : GSys us.length 1 (s0 us) := (GSys.new us.length).sub (f := []) (fun _ q => q) (by simp) us rfl
theorem s0_up (us : List Bool) {y : Nat} (hy : y < us.length) : (s0 us).isUp (y : Int) = us.getD y false := by
  unfold GS.isUp s0
  have hl : (GS.new us.length).ns.length = us.length := (GSys.new us.length).len
  rw [decide_eq_true (show (0 : Int) ≤ (y : Int) by omega), hl, decide_eq_true (show (y : Int) < (us.length : Int) by omega), Int.toNat_natCast]; rfl
theorem s0_crash (us : List Bool) {y : Nat} (hy : y < us.length) : (s0 us).crash (y : Int) = s0 (if us.getD y false = true then us.set y false else us) := by
  unfold GS.crash
  rw [s0_up us hy]
  cases h : us.getD y false
  · rfl
  · show (⟨(GS.new us.length).ns, us.set y false, []⟩ : GS) = s0 (us.set y false)
    unfold s0
    rw [List.length_set]
/-- The letter that the law hands. -/
def want (l : List Int) (i : Nat) : ByteArray := letter ((wi (l.getD i 0) 6).toNat)
theorem wi6 (x : Int) : 0 ≤ wi x 6 ∧ wi x 6 < 6 := wi_range x 6 (by omega)
theorem want_notEmpty (l : List Int) (j : Nat) : (want l j).toList.isEmpty = false := letter_notEmpty _ (by have := wi6 (l.getD j 0); omega)
theorem letter6_eq : ∀ x, x < 6 → ({ data := #[97, 98, 99, 100, 101, 102] } : ByteArray).extract x (x + 1) = letter x := by
  intro x hx
  have h : x = 0 ∨ x = 1 ∨ x = 2 ∨ x = 3 ∨ x = 4 ∨ x = 5 := by omega
  rcases h with rfl | rfl | rfl | rfl | rfl | rfl <;> rfl
set_option maxRecDepth 100000 in
set_option maxHeartbeats 40000000 in
theorem elects_law (a0 : Int) (v1 : Value) (l1 : List Int) (v2 : Value) (l2 : List Int) (x0 : (Lit.int .i64 a0).wf = true) (w : World) (hr1 : MM.Rd w (fun j => j < w.heap.size) 1 v1 l1.length (intsC l1)) (hw1 : ∀ x, x ∈ l1 → (Lit.int .i64 x).wf = true) (hr2 : MM.Rd w (fun j => j < w.heap.size) 1 v2 l2.length (intsC l2)) (hw2 : ∀ x, x ∈ l2 → (Lit.int .i64 x).wf = true) :
    Calls Try.prog 12 #[.int .i64 a0, v1, v2] w fun e w' => e = .returned (.bool true) ∧ Below w.heap.size w w' := by
  obtain ⟨A1, c1, rfl, q1, q2⟩ := hr1.slice
  obtain ⟨A2, c2, rfl, q3, q4⟩ := hr2.slice
  have hm1 : l1.length ≤ maxLen := by omega
  have hm2 : l2.length ≤ maxLen := by omega
  unfold maxLen at hm1 hm2
  clear q1 q2 q3 q4
  have HR1 := Lib.hid hr1
  have HW1 := Lib.hid hw1
  have HR2 := Lib.hid hr2
  have HW2 := Lib.hid hw2
  clear hr1 hw1 hr2 hw2
  go_enter Try.func12, Try.ntmps12
  go_wp2_with fail
  refine (gknown_any _).mono ?_
  rintro e w1 ⟨rfl, hb1⟩
  have HB1 := Lib.hid hb1
  clear hb1
  go_wp2_with fail
  refine (within9_fn _ a0 5 x0 (by omega) (by omega)).mono ?_
  rintro e w' ⟨rfl, rfl⟩
  have hv := wi_range a0 5 (by omega)
  generalize wi a0 5 = q at hv ⊢
  obtain ⟨q, rfl⟩ : ∃ q' : Nat, q = q' := ⟨q.toNat, by omega⟩
  have hk5 : q < 5 := by omega
  clear hv
  have hws : IntKind.i64.wrap (1 + (q : Int)) = ((q + 1 : Nat) : Int) := by rw [IntWalk.i64_in _ (by omega)]; omega
  go_wp2_with fail
  obtain ⟨K, hK⟩ : ∃ K : Nat, (q : Int) + 1 = K := ⟨q + 1, by omega⟩
  rw [hK]
  have hK1 : 1 ≤ K := by omega
  have hK5 : K ≤ 5 := by omega
  clear hws hk5 hK
  refine (newG w w1 (K : Int) K rfl (by omega) (by omega) HB1.out).mono ?_
  rintro e w2 ⟨g, rfl, h2⟩
  have e0 : s0 (List.replicate K true) = GS.new K := by unfold s0; rw [List.length_replicate]; rfl
  rw [← e0] at h2
  have H2 := Lib.hid h2
  clear h2 e0
  have CU := Lib.hid (show K < 2 * countT (List.replicate K true) from by rw [countT_all]; omega)
  have LU := Lib.hid (show (List.replicate K true).length = K from by simp)
  go_wp2_with fail
  go_loopw [9, 10] (fun t9 t10 wr => ∃ (i : Nat) (us : List Bool), i ≤ l1.length ∧ t9 = .int .i64 (countT us) ∧ t10 = .int .i64 i ∧ Hid (us.length = K) ∧ Hid (K < 2 * countT us) ∧ Hid (GrpAt w wr g (s0 us) (fun x => x < w1.heap.size))) (fun _ t10 _ => l1.length - (intOf t10).toNat)
  case atStart => exact ⟨0, _, by omega, by rw [countT_all], rfl, LU, CU, H2⟩
  case round =>
    clear H2 CU LU
    obtain ⟨i, us, hi, rfl, rfl, LU, CU, H⟩ := hrel
    have hcl : countT us ≤ 5 := by have h1 := countT_le us; have h2 := LU.out; omega
    have hcp : 1 ≤ countT us := by have := CU.out; omega
    obtain ⟨b, hb⟩ : ∃ b : Bool, b = (decide (i < l1.length) && decide (K < 2 * (countT us - 1))) := ⟨_, rfl⟩
    have HBB := Lib.hid hb
    clear hb
    go_upto_region 9 with (fail)
    go_cut [36] (fun v36 wc => v36 = .bool b ∧ wr = wc)
    case first =>
      by_cases h1 : i < l1.length
      · have h1b : decide ((i : Int) < (l1.length : Int)) = true := decide_eq_true (by omega)
        have hbb : decide (K < 2 * (countT us - 1)) = b := by rw [HBB.out, decide_eq_true h1]; rfl
        have hw3 : IntKind.i64.wrap ((countT us : Int) - 1) = ((countT us - 1 : Nat) : Int) := by rw [IntWalk.i64_in _ (by omega)]; omega
        have hbi : decide ((K : Int) < 2 * ((countT us - 1 : Nat) : Int)) = b := by rw [← hbb]; exact decide_eq_decide.2 (by omega)
        go_wp2_with fail
        go_meet
        case rel => exact ⟨by first | rfl | (rw [← hbb]; simp; omega), rfl⟩
      · have h1b : decide ((i : Int) < (l1.length : Int)) = false := decide_eq_false (by omega)
        have hbb : b = false := by rw [HBB.out, decide_eq_false h1]; rfl
        subst hbb
        go_wp2_with fail
        go_meet
        case rel => exact ⟨by first | rfl | (simp; omega), rfl⟩
    case rest =>
      obtain ⟨rfl, rfl⟩ := hcut
      cases b
      · have S1 := Lib.hid (show GSys K 1 (s0 us) from by have h := s0_sys us; rw [LU.out] at h; exact h)
        clear HBB hi
        go_wp2_with fail
        refine (settleI w wr g _ _ H.out K 1 hK5 S1.out 30 30 rfl (by omega)).mono ?_
        rintro e w3 ⟨rfl, h3, _⟩
        obtain rfl : K = us.length := LU.out.symm
        have H3 := Lib.hid (show GrpAt w w3 g (e1 us) (fun x => x < w1.heap.size) from h3)
        clear h3 H S1 LU
        have GE1 := Lib.hid ((e1_sys hK5).good (by omega))
        have F0 := Lib.hid (elects_facts hK1 hK5 CU.out (want l2) (want_notEmpty l2) (m := 0) (by omega))
        go_wp2_with fail
        refine (leaderG w w3 g _ _ H3.out us.length GE1.out (by omega) (by omega)).mono ?_
        rintro e w4 ⟨rfl, h4, _⟩
        have H4 := Lib.hid h4
        clear h4 H3
        obtain ⟨ld, hld⟩ : ∃ ld, ld = (e1 us).leader := ⟨_, rfl⟩
        rw [← hld]
        have HLD := Lib.hid hld
        have hl0 : decide (ld < 0) = false := decide_eq_false (by have := F0.out.1; omega)
        clear hld
        go_wp2_with fail
        refine (upG w w4 g _ _ H4.out us.length GE1.out (by omega) ld).mono ?_
        rintro e w' ⟨rfl, rfl⟩
        rw [show (e1 us).isUp ld = true from by rw [HLD.out]; exact F0.out.2.1]
        clear hl0
        have H5 := Lib.hid (show GrpAt w w4 g (e2 us (want l2) 0) (fun x => x < w1.heap.size ∨ (none : Option Nat) = some x) from H4.out.touch (fun _ _ _ => rfl) (Below.refl _ _) (fun k hk => by rcases hk with hk | hk; exact .inl hk; cases hk))
        have R5 := Lib.hid (show MM.Row w4 w1.heap.size 9 1 (.slice none 0 0) 0 (textsC ((List.range 0).map (want l2))) none from MM.Row.nil _ _ _ _ _)
        clear H4
        obtain ⟨i0, hi0, hz0, hz1, hz2⟩ := info_parts info9
        go_wp2_with fail
        go_loopw [12, 13] (fun t12 t13 wr => ∃ (i : Nat) (A : Option Addr) (c : Nat) (ob : Option Nat), i ≤ l2.length ∧ i ≤ 10 ∧ t12 = .slice A i c ∧ t13 = .int .i64 i ∧ Hid (MM.Row wr w1.heap.size 9 1 (.slice A i c) i (textsC ((List.range i).map (want l2))) ob) ∧ Hid (GrpAt w wr g (e2 us (want l2) i) (fun x => x < w1.heap.size ∨ ob = some x))) (fun _ t13 _ => l2.length - (intOf t13).toNat)
        case atStart => exact ⟨0, none, 0, none, by omega, by omega, rfl, rfl, R5, H5⟩
        case round =>
          clear R5 H5
          obtain ⟨i, A, c, ob, hi, hi10, rfl, rfl, R, H⟩ := hrel
          obtain ⟨b, hb⟩ : ∃ b : Bool, b = (decide (i < l2.length) && decide (i < 10)) := ⟨_, rfl⟩
          have HBB := Lib.hid hb
          clear hb
          have S2 := Lib.hid (e2_sys hK5 (want l2) i)
          go_upto_region 19 with (fail)
          go_cut [68] (fun v68 wc => v68 = .bool b ∧ wr = wc)
          case first =>
            by_cases h1 : i < l2.length
            · have h1b : decide ((i : Int) < (l2.length : Int)) = true := decide_eq_true (by omega)
              by_cases h2 : i < 10
              · have h2b : decide ((i : Int) < 10) = true := decide_eq_true (by omega)
                have hbb : b = true := by rw [HBB.out, decide_eq_true h1, decide_eq_true h2]; rfl
                subst hbb
                go_wp2_with fail
                go_meet
                case rel => exact ⟨by first | rfl | (simp; omega), rfl⟩
              · have h2b : decide ((i : Int) < 10) = false := decide_eq_false (by omega)
                have hbb : b = false := by rw [HBB.out, decide_eq_false h2]; simp
                subst hbb
                go_wp2_with fail
                go_meet
                case rel => exact ⟨by first | rfl | (simp; omega), rfl⟩
            · have h1b : decide ((i : Int) < (l2.length : Int)) = false := decide_eq_false (by omega)
              have hbb : b = false := by rw [HBB.out, decide_eq_false h1]; rfl
              subst hbb
              go_wp2_with fail
              go_meet
              case rel => exact ⟨by first | rfl | (simp; omega), rfl⟩
          case rest =>
            obtain ⟨rfl, rfl⟩ := hcut
            cases b
            · clear HBB
              go_wp2_with fail
              refine (settleI w wr g _ _ H.out us.length _ hK5 S2.out 12 12 rfl (by omega)).mono ?_
              rintro e w3 ⟨rfl, h3, hst⟩
              have H3 := Lib.hid (show GrpAt w w3 g (e3 us (want l2) i) _ from h3)
              have R3 := Lib.hid (R.out.step (w1 := w3) (fun k hk _ => hst k (.inr hk)))
              have S3 := Lib.hid (e3_sys hK5 (want l2) i)
              have GE3 := Lib.hid (S3.out.good (by omega))
              have FX := Lib.hid (elects_facts hK1 hK5 CU.out (want l2) (want_notEmpty l2) (m := i) hi10)
              clear h3 hst H R S2 S3
              go_wp2_with fail
              go_loopw [15] (fun t15 wr => ∃ j : Nat, j ≤ us.length ∧ t15 = .int .i64 j ∧ Hid (MM.Row wr w1.heap.size 9 1 (.slice A i c) i (textsC ((List.range i).map (want l2))) ob) ∧ Hid (GrpAt w wr g (e3 us (want l2) i) (fun x => x < w1.heap.size ∨ ob = some x))) (fun t15 _ => us.length - (intOf t15).toNat)
              case atStart => exact ⟨0, by omega, rfl, R3, H3⟩
              case round =>
                clear R3 H3
                obtain ⟨j, hj, rfl, R, H⟩ := hrel
                by_cases hlt : j < us.length
                · have hlb : decide ((j : Int) < (us.length : Int)) = true := decide_eq_true (by omega)
                  have HF := Lib.hid (FX.out.2.2.2.2 j hlt)
                  go_wp2_with fail
                  refine (upG w wr g _ _ H.out us.length GE3.out (by omega) (j : Int)).mono ?_
                  rintro e w' ⟨rfl, rfl⟩
                  cases hu : us.getD j false
                  · have hup := HF.out.1
                    rw [hu] at hup
                    have HUP := Lib.hid hup
                    rw [hup]
                    clear hu hup
                    go_wp2_with fail
                    refine (upG w wr g _ _ H.out us.length GE3.out (by omega) (j : Int)).mono ?_
                    rintro e w' ⟨rfl, rfl⟩
                    rw [HUP.out]
                    go_wp2_with fail
                    refine (appliedG w wr g _ _ H.out us.length GE3.out (by omega) (j : Int)).mono ?_
                    rintro e w5 ⟨⟨A', c', rfl, hr⟩, h5, hb5⟩
                    rw [show (e3 us (want l2) i).applied (j : Int) = [] from by unfold GS.applied; rw [HUP.out]; rfl]
                    have H5 := Lib.hid h5
                    have R5 := Lib.hid (R.out.below hb5)
                    clear h5 hb5 hr H R
                    go_wp2_with fail
                    go_roundw
                    case rel => first | exact ⟨j + 1, by omega, by go_num, R5, H5⟩ | ((repeat apply Exists.intro); refine ⟨?_, rfl⟩; exact ⟨j + 1, by omega, by go_num, R5, H5⟩)
                    case measure => simp [intOf]; omega
                  · have hup := HF.out.1
                    rw [hu] at hup
                    have HUP := Lib.hid hup
                    have HAP := Lib.hid (HF.out.2 hu)
                    rw [hup]
                    clear hu hup
                    go_wp2_with fail
                    refine (appliedG w wr g _ _ H.out us.length GE3.out (by omega) (j : Int)).mono ?_
                    rintro e w5 ⟨⟨A', c', rfl, hr⟩, h5, hb5⟩
                    obtain ⟨L, hL⟩ : ∃ L, L = (List.range i).map (want l2) := ⟨_, rfl⟩
                    have hll : L.length = i := by rw [hL]; simp
                    rw [HAP.out, ← hL] at hr
                    rw [HAP.out, ← hL]
                    have H5 := Lib.hid h5
                    have R5 := Lib.hid (R.out.below hb5)
                    have RR := R5.out.rd
                    rw [← hL] at RR
                    rw [← hll] at RR
                    have HT := texts_same w5 _ _ A' A c' c L hr RR
                    rw [hll] at HT
                    have HT2 := Lib.hid HT
                    have HLL := Lib.hid hll
                    clear h5 hb5 hr H R RR HT hL hll
                    rw [HLL.out]
                    go_wp2_with fail
                    refine HT2.out.mono ?_
                    rintro e w6 ⟨rfl, hb6⟩
                    have H6 := Lib.hid (H5.out.below hb6)
                    have R6 := Lib.hid (R5.out.below hb6)
                    clear hb6 H5 R5 HT2
                    go_wp2_with fail
                    refine (upG w w6 g _ _ H6.out us.length GE3.out (by omega) (j : Int)).mono ?_
                    rintro e w' ⟨rfl, rfl⟩
                    rw [HUP.out]
                    go_wp2_with fail
                    go_roundw
                    case rel => first | exact ⟨j + 1, by omega, by go_num, R6, H6⟩ | ((repeat apply Exists.intro); refine ⟨?_, rfl⟩; exact ⟨j + 1, by omega, by go_num, R6, H6⟩)
                    case measure => simp [intOf]; omega
                · have hlb : decide ((j : Int) < (us.length : Int)) = false := decide_eq_false (by omega)
                  go_wp2_with fail
                  refine (leaderG w wr g _ _ H.out us.length GE3.out (by omega) (by omega)).mono ?_
                  rintro e w5 ⟨rfl, h5, _⟩
                  rw [show (e3 us (want l2) i).leader = ld from by rw [HLD.out]; exact FX.out.2.2.2.1]
                  have H5 := Lib.hid h5
                  clear h5
                  go_wp2_with fail
                  go_ret
                  exact ⟨by simp, H5.out.bel⟩
            · have hb2 : i < l2.length ∧ i < 10 := by
                have h := HBB.out
                have h' : (decide (i < l2.length) && decide (i < 10)) = true := h.symm
                simpa using h'
              clear HBB
              obtain ⟨hl1, hl2⟩ := hb2
              have hrd := HR2.out.step (w1 := wr) (fun x hx _ => H.out.bel.block x hx)
              obtain ⟨_, A', c', ea, _, _, hrest⟩ := hrd
              injection ea with ea1 el ea2
              clear el
              subst ea1 ea2
              obtain ⟨be, oe, rfl, _, _, hcell⟩ := hrest (by omega)
              have x0 : wr.cell? ⟨be, oe + i, none⟩ = some (.int .i64 (l2.getD i 0)) := hcell _ _ (intsC_get hl1)
              have HXW := Lib.hid (HW2.out (l2.getD i 0) (by rw [List.getD_eq_getElem?_getD, List.getElem?_eq_getElem hl1]; exact List.getElem_mem hl1))
              have hD : want l2 i = letter (wi (l2.getD i 0) 6).toNat := rfl
              have hy := wi6 (l2.getD i 0)
              clear hcell hrest
              generalize l2.getD i 0 = x at x0 HXW hD hy
              obtain ⟨y, hY⟩ : ∃ y : Nat, wi x 6 = y := ⟨_, (Int.toNat_of_nonneg hy.1).symm⟩
              rw [hY] at hy hD
              rw [Int.toNat_natCast] at hD
              have hy6 : y < 6 := by omega
              have HD := Lib.hid hD
              have HY := Lib.hid hY
              have hwy : IntKind.i64.wrap ((y : Int) + 1) = ((y + 1 : Nat) : Int) := by rw [IntWalk.i64_in _ (by omega)]; omega
              have hA : 0 ≤ (y : Int) + 1 ∧ (y : Int) + 1 ≤ 6 := by omega
              have hB : (y : Int) ≤ (y : Int) + 1 := by omega
              clear hD hY hy
              go_upto_region 21 with (fail)
              refine Go.RT.wp_region_tree [0, 0, 3, 7, 15, 0, 0, 96, 224, 511, 1023, 2047, 4095] (.p 0 (.p 1 (.p 2 (.s 3 (.p 5 (.p 6 (.p 7 (.s 8 (.w 4 [8] (.w 9 [] (.p 10 (.p 11 (.w 12 [] .nil .stop))) .stop) .stop))))))))) (by kernel_rfl) (by kernel_rfl) ?_
              repeat (first | (refine Go.RT.step_p rfl (fun K hK => ?_); go_simp; refine hK _ ?_; clear hK K) | (refine Go.RT.step_s rfl (fun K hK => ?_); go_simp; refine hK _ ?_; clear hK K))
              (refine Go.RT.step_w rfl rfl (fun K hK => ?_) Go.RT.step_stop)
              go_wp2_with fail
              refine (within9_fn _ x 6 HXW.out (by omega) (by omega)).mono ?_
              rintro e w' ⟨rfl, rfl⟩
              rw [HY.out]
              go_wp2_with fail
              refine Go.RT.QK_normal _ _ _ _ (hK _ _ ?_ ?_) <;> clear hK K
              · repeat (first | exact Go.RT.again_nil | (refine Go.RT.again_not rfl rfl ?_) | (refine Go.RT.again_one rfl (by go_simp <;> rfl) ?_))
              (refine Go.RT.step_w rfl rfl (fun K hK => ?_) Go.RT.step_stop)
              go_wp2_with fail
              refine (within9_fn _ x 6 HXW.out (by omega) (by omega)).mono ?_
              rintro e w' ⟨rfl, rfl⟩
              rw [HY.out]
              go_wp2_with fail
              refine Go.RT.QK_normal _ _ _ _ (hK _ _ ?_ ?_) <;> clear hK K
              · repeat (first | exact Go.RT.again_nil | (refine Go.RT.again_not rfl rfl ?_) | (refine Go.RT.again_one rfl (by go_simp <;> rfl) ?_))
              repeat (first | (refine Go.RT.step_p rfl (fun K hK => ?_); go_simp; refine hK _ ?_; clear hK K) | (refine Go.RT.step_s rfl (fun K hK => ?_); go_simp; refine hK _ ?_; clear hK K))
              (refine Go.RT.step_w rfl rfl (fun K hK => ?_) Go.RT.step_stop)
              go_wp2
              refine Go.RT.QK_normal _ _ _ _ (hK _ _ ?_ ?_) <;> clear hK K
              · repeat (first | exact Go.RT.again_nil | (refine Go.RT.again_not rfl rfl ?_) | (refine Go.RT.again_one rfl (by go_simp <;> rfl) ?_))
              refine Go.RT.step_nil ?_
              go_upto_region 22 with (fail)
              rw [letter6_eq y hy6, ← HD.out]
              refine name_world (F := fun W => Hid (MM.Row W w1.heap.size 9 1 (.slice A i c) i (textsC ((List.range i).map (want l2))) ob) ∧ Hid (GrpAt w W g (e2 us (want l2) i) (fun x => x < w1.heap.size ∨ ob = some x)) ∧ Hid (Below wr.heap.size wr W)) _ (by exact ⟨Lib.hid (R.out.drew), Lib.hid (H.out.drew), Lib.hid ((Below.refl _ _).drew)⟩) ?_
              clear R H
              intro w5 ⟨R5, H5, HB5⟩
              have hw15 : w1.heap.size ≤ w5.heap.size := by
                obtain ⟨_, _, _, _, hz⟩ := H5.out
                by_cases q : w1.heap.size ≤ w5.heap.size
                · exact q
                · exact absurd (hz w5.heap.size (.inl (by omega))).1 (by omega)
              obtain ⟨d, hd⟩ : ∃ d, d = want l2 i := ⟨_, rfl⟩
              rw [← hd]
              have HDD := Lib.hid hd
              clear hd x0 hA hB hwy HY
              go_wp2_with (at_builtin; refine MM.wpList_append_row _ rfl (.tmp 83) (.tmp 85) 61 rfl w1.heap.size 9 i0 _ 1 16 Try.underlying61 hi0 hz0 hz1 hz2 rfl (by decide) _ i _ ob rfl (R5.out.alloc _) (fun _ => True) _ 1 [.string d] rfl (MM.Rd.lit (MM.alloc_new _ _) trivial rfl (Nat.le_refl _) (by simp [maxLen]) rfl) (by intro u hu; simp at hu; subst hu; rfl) (by simp only [maxLen]; omega) (by omega) (by simp; omega) ?_; intro v' w6 ob' hr hg hob)
              obtain ⟨A6, c6, rfl, _, _⟩ := hr.slice
              have R6 := Lib.hid (show MM.Row w6 w1.heap.size 9 1 (.slice A6 (i + 1) c6) (i + 1) (textsC ((List.range (i + 1)).map (want l2))) ob' from by
                have e : textsC ((List.range (i + 1)).map (want l2)) = textsC ((List.range i).map (want l2)) ++ [.string d] := by rw [List.range_succ, List.map_append, HDD.out]; unfold textsC; rw [List.map_append]; rfl
                rw [e]; exact hr)
              have H6 := Lib.hid (show GrpAt w w6 g (e2 us (want l2) i) (fun x => x < w1.heap.size ∨ ob' = some x) from (H5.out.alloc (.cells #[.string d] 9 (0, 0))).touch (fun k hk hz => hg.block k hk (fun e => hz (.inr e.symm))) ((Below.refl _ _).grown hg (Nat.le_trans HB1.out.size (by simp; omega)) (fun k hk => Nat.le_trans HB1.out.size (R5.out.lt k hk).1)) (fun k hk => by
                rcases hk with hk | hk
                · exact .inl (.inl hk)
                · rcases hob with hob | ⟨b, hob, hbb⟩
                  · exact .inl (.inr (by rw [← hob]; exact hk))
                  · exact .inr ⟨by rw [hob] at hk; injection hk with hk; rw [← hk]; exact hbb, (R6.out.lt k hk).2⟩))
              have FX := Lib.hid (elects_facts hK1 hK5 CU.out (want l2) (want_notEmpty l2) (m := i) (by omega)).2.2.1
              clear hr hg hob R5 H5
              go_wp2_with fail
              refine (propG w w6 g _ _ H6.out us.length (S2.out.good (by omega)) (by omega) ld d).mono ?_
              rintro e w7 ⟨rfl, h7, hst⟩
              rw [show (e2 us (want l2) i).propOk ld = true from by rw [HLD.out]; exact FX.out]
              have R7 := Lib.hid (R6.out.step (w1 := w7) (fun k hk _ => hst k (.inr hk)))
              have H7 := Lib.hid (show GrpAt w w7 g (e2 us (want l2) (i + 1)) (fun x => x < w1.heap.size ∨ ob' = some x) from by have h := h7; rw [HDD.out, HLD.out] at h; exact h)
              clear h7 hst R6 H6
              go_wp2_with fail
              go_roundw
              case rel => first | exact ⟨i + 1, A6, c6, ob', by omega, by omega, rfl, by go_num, R7, H7⟩ | ((repeat apply Exists.intro); refine ⟨?_, rfl⟩; exact ⟨i + 1, A6, c6, ob', by omega, by omega, rfl, by go_num, R7, H7⟩)
              case measure => simp [intOf]; omega
      · have hb2 : i < l1.length ∧ K < 2 * (countT us - 1) := by
          have h := HBB.out
          have h' : (decide (i < l1.length) && decide (K < 2 * (countT us - 1))) = true := h.symm
          simpa using h'
        clear HBB
        obtain ⟨hl1, hl2⟩ := hb2
        have S1 := Lib.hid (show GSys K 1 (s0 us) from by have h := s0_sys us; rw [LU.out] at h; exact h)
        have hrd := HR1.out.step (w1 := wr) (fun x hx _ => H.out.bel.block x hx)
        obtain ⟨_, A', c', ea, _, _, hrest⟩ := hrd
        injection ea with ea1 el ea2
        clear el
        subst ea1 ea2
        obtain ⟨be, oe, rfl, _, _, hcell⟩ := hrest (by omega)
        have x0 : wr.cell? ⟨be, oe + i, none⟩ = some (.int .i64 (l1.getD i 0)) := hcell _ _ (intsC_get hl1)
        have HXW := Lib.hid (HW1.out (l1.getD i 0) (by rw [List.getD_eq_getElem?_getD, List.getElem?_eq_getElem hl1]; exact List.getElem_mem hl1))
        clear hcell hrest
        generalize l1.getD i 0 = x at x0 HXW
        go_wp2_with fail
        refine (within9_fn _ x (K : Int) HXW.out (by omega) (by omega)).mono ?_
        rintro e w' ⟨rfl, rfl⟩
        have hv := wi_range x (K : Int) (by omega)
        generalize wi x (K : Int) = y at hv ⊢
        obtain ⟨y, rfl⟩ : ∃ y' : Nat, y = y' := ⟨y.toNat, by omega⟩
        have hyK : y < us.length := by rw [LU.out]; omega
        clear hv x0
        go_wp2_with fail
        refine (crashG w wr g _ _ H.out K (S1.out.good (by omega)) (by omega) (y : Int)).mono ?_
        rintro e w5 ⟨rfl, h5, _⟩
        rw [s0_up us hyK]
        rw [s0_crash us hyK] at h5
        have hw3 : IntKind.i64.wrap ((countT us : Int) - 1) = ((countT us - 1 : Nat) : Int) := by rw [IntWalk.i64_in _ (by omega)]; omega
        cases hu : us.getD y false
        · rw [hu] at h5
          have H5 := Lib.hid h5
          clear h5 hu
          go_wp2_with fail
          go_roundw
          case rel => first | exact ⟨i + 1, us, by omega, rfl, by go_num, LU, CU, H5⟩ | ((repeat apply Exists.intro); refine ⟨?_, rfl⟩; exact ⟨i + 1, us, by omega, rfl, by go_num, LU, CU, H5⟩)
          case measure => simp [intOf]; omega
        · rw [hu] at h5
          have H5 := Lib.hid (show GrpAt w w5 g (s0 (us.set y false)) (fun x => x < w1.heap.size) from h5)
          have hco := countT_off hu
          have CE := Lib.hid (show countT us - 1 = countT (us.set y false) from by omega)
          have LU2 := Lib.hid (show (us.set y false).length = K from by rw [List.length_set]; exact LU.out)
          have CU2 := Lib.hid (show K < 2 * countT (us.set y false) from by omega)
          clear h5 hu hco
          go_wp2_with fail
          go_roundw
          case rel => first | exact ⟨i + 1, us.set y false, by omega, by rw [← CE.out], by go_num, LU2, CU2, H5⟩ | ((repeat apply Exists.intro); refine ⟨?_, rfl⟩; exact ⟨i + 1, us.set y false, by omega, by rw [← CE.out], by go_num, LU2, CU2, H5⟩)
          case measure => simp [intOf]; omega

end Go.Proofs.Ytnkmljdkokcdjaa
