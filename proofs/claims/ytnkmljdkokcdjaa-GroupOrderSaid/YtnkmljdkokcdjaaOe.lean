/- The law GroupOrder, walked: what one leader is handed is applied in that order, each once; with Drop and Twice of a group. -/
import Derived.WalkKit
import Derived.WalkSpells
import Derived.Lib.Hide
import Derived.Outline
import Derived.Test.YtnkmljdkokcdjaaChecked
import Derived.Test.YtnkmljdkokcdjaaMn
import Derived.Test.YtnkmljdkokcdjaaMem
import Derived.Test.YtnkmljdkokcdjaaFed
import Derived.Test.YtnkmljdkokcdjaaGy
import Derived.Test.YtnkmljdkokcdjaaOd
import Derived.Deep.DeepCutAuto
import Derived.Deep.CutBlock
import Derived.Deep.OwnRows
import Derived.IntWalk
set_option linter.unusedVariables false
set_option linter.unusedSimpArgs false
namespace Go.Proofs.Ytnkmljdkokcdjaa
open Go.RowKit Fed
set_option linter.unusedVariables false
attribute [local go_sem high] Fed.max2_int Fed.min2_int

theorem dropG (w0 w : World) (g : Nat) (s : GS) (Z : Nat → Prop) (h : GrpAt w0 w g s Z) (a : Int) (hl : s.f.length ≤ 1000000) : Calls Try.prog 44 #[.pointer (some ⟨g, 0, none⟩), .int .i64 a] w fun e w' => e = .returned (.bool (s.has a)) ∧ GrpAt w0 w' g (s.cut a) Z ∧ Stays w w' Z := by
  obtain ⟨μ, ok, h1, h2, hz⟩ := h
  refine (gDrop_any w _ g s μ ok h1 a hl).mono ?_
  rintro e w' ⟨μ', rfl, h3, h4⟩
  exact ⟨rfl, GrpAt.go h2 hz h3 h4⟩
theorem twiceG (w0 w : World) (g : Nat) (s : GS) (Z : Nat → Prop) (h : GrpAt w0 w g s Z) (a : Int) (hl : s.f.length ≤ 1000000) : Calls Try.prog 45 #[.pointer (some ⟨g, 0, none⟩), .int .i64 a] w fun e w' => e = .returned (.bool (s.has a)) ∧ GrpAt w0 w' g (s.twice a) Z ∧ Stays w w' Z := by
  obtain ⟨μ, ok, h1, h2, hz⟩ := h
  refine (gTwice_any w _ g s μ ok h1 a hl).mono ?_
  rintro e w' ⟨μ', ok', rfl, h3, h4⟩
  exact ⟨rfl, GrpAt.go h2 hz h3 h4⟩
theorem settleJ (w0 w : World) (g : Nat) (s : GS) (Z : Nat → Prop) (h : GrpAt w0 w g s Z) (k b : Nat) (hk : k ≤ 5) (S : GSys k b s) (R : Int) (rounds : Nat) (hR : R = (rounds : Int)) (hb : b + 1210 * rounds ≤ 100000) :
    Calls Try.prog 38 #[.pointer (some ⟨g, 0, none⟩), .int .i64 R] w fun e w' => e = .returned (.tuple #[]) ∧ GrpAt w0 w' g (settleS rounds s) Z ∧ Stays w w' Z := by
  subst hR
  exact settleG w0 w g s Z h k b hk S rounds hb
theorem act_sys {k b : Nat} (hk : k ≤ 5) {s : GS} (h : GSys k b s) (v : Int) : GSys k (b + 3) (act v s) := by
  unfold act
  split
  · exact (h.cut 0).mono (by omega)
  split
  · exact (h.twice 0).mono (by omega)
  split
  · exact h.deliver hk _
  · exact h.mono (by omega)
theorem o2_sys {k : Nat} (hk : k ≤ 5) (l : List Int) : ∀ i, GSys k (36300 + 5 * i) (o2 k l i)
  | 0 => (gsys_settle hk 30 0 _ (GSys.new k)).mono (by omega)
  | i + 1 => by
    have h := (o2_sys hk l i).prop hk 0 (letter i)
    unfold o2
    split
    · exact (act_sys hk h _).mono (by omega)
    · exact h.mono (by omega)
theorem o3_sys {k : Nat} (hk : k ≤ 5) (l : List Int) (i : Nat) : GSys k (72600 + 5 * i) (o3 k l i) := (gsys_settle hk 30 _ _ (o2_sys hk l i)).mono (by omega)
theorem letter12_eq : ∀ x, x < 12 → ({ data := #[97, 98, 99, 100, 101, 102, 103, 104, 105, 106, 107, 108] } : ByteArray).extract x (x + 1) = letter x := by
  intro x hx
  have h : x = 0 ∨ x = 1 ∨ x = 2 ∨ x = 3 ∨ x = 4 ∨ x = 5 ∨ x = 6 ∨ x = 7 ∨ x = 8 ∨ x = 9 ∨ x = 10 ∨ x = 11 := by omega
  rcases h with rfl | rfl | rfl | rfl | rfl | rfl | rfl | rfl | rfl | rfl | rfl | rfl <;> rfl
theorem wf_small (x : Int) (h : -2305843009213693952 ≤ x ∧ x ≤ 2305843009213693952) : (Lit.int .i64 x).wf = true := by
  have h1 : IntKind.i64.min = -9223372036854775808 := rfl
  have h2 : IntKind.i64.max = 9223372036854775807 := rfl
  simp only [Lit.wf, h1, h2, Bool.and_eq_true, decide_eq_true_eq]
  omega
theorem quo4 (x : Int) (h : (Lit.int .i64 x).wf = true) : -2305843009213693952 ≤ x.tdiv 4 ∧ x.tdiv 4 ≤ 2305843009213693952 := by
  have h1 : IntKind.i64.min = -9223372036854775808 := rfl
  have h2 : IntKind.i64.max = 9223372036854775807 := rfl
  simp only [Lit.wf, h1, h2, Bool.and_eq_true, decide_eq_true_eq] at h
  have e := Int.mul_tdiv_add_tmod x 4
  have hm := Int.lt_tmod_of_pos x (b := 4) (by omega)
  have hn := Int.tmod_lt_of_pos x (b := 4) (by omega)
  omega
set_option maxRecDepth 100000 in
set_option maxHeartbeats 40000000 in
theorem order_law (v1 : Value) (l1 : List Int) (a1 : Int) (v2 : Value) (l2 : List Int) (x0 : (Lit.int .i64 a1).wf = true) (w : World) (hr1 : MM.Rd w (fun j => j < w.heap.size) 1 v1 l1.length (intsC l1)) (hr2 : MM.Rd w (fun j => j < w.heap.size) 1 v2 l2.length (intsC l2)) (hw2 : ∀ x, x ∈ l2 → (Lit.int .i64 x).wf = true) :
    Calls Try.prog 14 #[v1, .int .i64 a1, v2] w fun e w' => e = .returned (.bool true) ∧ Below w.heap.size w w' := by
  obtain ⟨A1, c1, rfl, q1, q2⟩ := hr1.slice
  obtain ⟨A2, c2, rfl, q3, q4⟩ := hr2.slice
  have hm1 : l1.length ≤ maxLen := by omega
  have hm2 : l2.length ≤ maxLen := by omega
  unfold maxLen at hm1 hm2
  clear q1 q2 q3 q4 hr1
  have HR2 := Lib.hid hr2
  have HW2 := Lib.hid hw2
  clear hr2 hw2
  go_enter Try.func14, Try.ntmps14
  go_wp2_with fail
  refine (gknown_any _).mono ?_
  rintro e w1 ⟨rfl, hb1⟩
  have HB1 := Lib.hid hb1
  clear hb1
  go_wp2_with fail
  refine (within9_fn _ a1 5 x0 (by omega) (by omega)).mono ?_
  rintro e w' ⟨rfl, rfl⟩
  have hv := wi_range a1 5 (by omega)
  generalize wi a1 5 = q at hv ⊢
  obtain ⟨q, rfl⟩ : ∃ q' : Nat, q = q' := ⟨q.toNat, by omega⟩
  have hk5 : q < 5 := by omega
  clear hv
  have hws : IntKind.i64.wrap (1 + (q : Int)) = ((q + 1 : Nat) : Int) := by rw [IntWalk.i64_in _ (by omega)]; omega
  go_wp2_with fail
  obtain ⟨Kn, hK⟩ : ∃ Kn : Nat, (q : Int) + 1 = Kn := ⟨q + 1, by omega⟩
  rw [hK]
  have hK1 : 1 ≤ Kn := by omega
  have hK5 : Kn ≤ 5 := by omega
  clear hws hk5 hK
  refine (newG w w1 (Kn : Int) Kn rfl (by omega) (by omega) HB1.out).mono ?_
  rintro e w2 ⟨g, rfl, h2⟩
  have H2 := Lib.hid h2
  clear h2
  go_wp2_with fail
  refine (settleJ w w2 g _ _ H2.out Kn 0 hK5 (GSys.new Kn) 30 30 rfl (by omega)).mono ?_
  rintro e w3 ⟨rfl, h3, _⟩
  have H3 := Lib.hid (show GrpAt w w3 g (o2 Kn l2 0) (fun x => x < w1.heap.size) from h3)
  clear h3 H2
  go_wp2_with fail
  refine (leaderG w w3 g _ _ H3.out Kn ((o2_sys hK5 l2 0).good (by omega)) (by omega) (by omega)).mono ?_
  rintro e w4 ⟨rfl, h4, _⟩
  rw [show (o2 Kn l2 0).leader = 0 from (order_facts hK1 hK5 l2 (i := 0) (by omega)).1]
  have H5 := Lib.hid (show GrpAt w w4 g (o2 Kn l2 0) (fun x => x < w1.heap.size ∨ (none : Option Nat) = some x) from h4.touch (fun _ _ _ => rfl) (Below.refl _ _) (fun k hk => by rcases hk with hk | hk; exact .inl hk; cases hk))
  have R5 := Lib.hid (show MM.Row w4 w1.heap.size 9 1 (.slice none 0 0) 0 (textsC ((List.range 0).map letter)) none from MM.Row.nil _ _ _ _ _)
  clear h4 H3
  obtain ⟨i0, hi0, hz0, hz1, hz2⟩ := info_parts info9
  go_wp2_with fail
  go_loopw [10, 11] (fun t10 t11 wr => ∃ (i : Nat) (A : Option Addr) (c : Nat) (ob : Option Nat), i ≤ l1.length ∧ i ≤ 12 ∧ t10 = .slice A i c ∧ t11 = .int .i64 i ∧ Hid (MM.Row wr w1.heap.size 9 1 (.slice A i c) i (textsC ((List.range i).map letter)) ob) ∧ Hid (GrpAt w wr g (o2 Kn l2 i) (fun x => x < w1.heap.size ∨ ob = some x))) (fun _ t11 _ => l1.length - (intOf t11).toNat)
  case atStart => exact ⟨0, none, 0, none, by omega, by omega, rfl, rfl, R5, H5⟩
  case round =>
    clear R5 H5
    obtain ⟨i, A, c, ob, hi, hi12, rfl, rfl, R, H⟩ := hrel
    obtain ⟨b, hb⟩ : ∃ b : Bool, b = (decide (i < l1.length) && decide (i < 12)) := ⟨_, rfl⟩
    have HBB := Lib.hid hb
    clear hb
    have S2 := Lib.hid (o2_sys hK5 l2 i)
    go_upto_region 11 with (fail)
    go_cut [34] (fun v34 wc => v34 = .bool b ∧ wr = wc)
    case first =>
      by_cases h1 : i < l1.length
      · have h1b : decide ((i : Int) < (l1.length : Int)) = true := decide_eq_true (by omega)
        by_cases h2 : i < 12
        · have h2b : decide ((i : Int) < 12) = true := decide_eq_true (by omega)
          have hbb : b = true := by rw [HBB.out, decide_eq_true h1, decide_eq_true h2]; rfl
          subst hbb
          go_wp2_with fail
          go_meet
          case rel => exact ⟨by first | rfl | (simp; omega), rfl⟩
        · have h2b : decide ((i : Int) < 12) = false := decide_eq_false (by omega)
          have hbb : b = false := by rw [HBB.out, decide_eq_false h2]; simp
          subst hbb
          go_wp2_with fail
          go_meet
          case rel => exact ⟨by first | rfl | (simp; omega), rfl⟩
      · have h1b : decide ((i : Int) < (l1.length : Int)) = false := decide_eq_false (by omega)
        have hbb : b = false := by rw [HBB.out, decide_eq_false h1]; rfl
        subst hbb
        go_wp2_with fail
        go_meet
        case rel => exact ⟨by first | rfl | (simp; omega), rfl⟩
    case rest =>
      obtain ⟨rfl, rfl⟩ := hcut
      cases b
      · clear HBB
        go_wp2_with fail
        refine (settleJ w wr g _ _ H.out Kn _ hK5 S2.out 30 30 rfl (by omega)).mono ?_
        rintro e w3 ⟨rfl, h3, hst⟩
        have H3 := Lib.hid (show GrpAt w w3 g (o3 Kn l2 i) _ from h3)
        have R3 := Lib.hid (R.out.step (w1 := w3) (fun k hk _ => hst k (.inr hk)))
        have S3 := Lib.hid (o3_sys hK5 l2 i)
        have GE3 := Lib.hid (S3.out.good (by omega))
        have FX := Lib.hid (order_facts hK1 hK5 l2 (i := i) hi12)
        clear h3 hst H R S2 S3
        go_wp2_with fail
        go_loopw [13] (fun t13 wr => ∃ j : Nat, j ≤ Kn ∧ t13 = .int .i64 j ∧ Hid (MM.Row wr w1.heap.size 9 1 (.slice A i c) i (textsC ((List.range i).map letter)) ob) ∧ Hid (GrpAt w wr g (o3 Kn l2 i) (fun x => x < w1.heap.size ∨ ob = some x))) (fun t13 _ => Kn - (intOf t13).toNat)
        case atStart => exact ⟨0, by omega, rfl, R3, H3⟩
        case round =>
          clear R3 H3
          obtain ⟨j, hj, rfl, R, H⟩ := hrel
          by_cases hlt : j < Kn
          · have hlb : decide ((j : Int) < (Kn : Int)) = true := decide_eq_true (by omega)
            have HAP := Lib.hid (FX.out.2.2.2 j hlt)
            go_wp2_with fail
            refine (appliedG w wr g _ _ H.out Kn GE3.out (by omega) (j : Int)).mono ?_
            rintro e w5 ⟨⟨A', c', rfl, hr⟩, h5, hb5⟩
            obtain ⟨L, hL⟩ : ∃ L, L = (List.range i).map letter := ⟨_, rfl⟩
            have hll : L.length = i := by rw [hL]; simp
            rw [HAP.out, ← hL] at hr
            rw [HAP.out, ← hL]
            have H5 := Lib.hid h5
            have R5 := Lib.hid (R.out.below hb5)
            have RR := R5.out.rd
            rw [← hL] at RR
            rw [← hll] at RR
            have HT := texts_same w5 _ _ A' A c' c L hr RR
            rw [hll] at HT
            have HT2 := Lib.hid HT
            have HLL := Lib.hid hll
            clear h5 hb5 hr H R RR HT hL hll
            rw [HLL.out]
            go_wp2_with fail
            refine HT2.out.mono ?_
            rintro e w6 ⟨rfl, hb6⟩
            have H6 := Lib.hid (H5.out.below hb6)
            have R6 := Lib.hid (R5.out.below hb6)
            clear hb6 H5 R5 HT2
            go_wp2_with fail
            go_roundw
            case rel => first | exact ⟨j + 1, by omega, by go_num, R6, H6⟩ | ((repeat apply Exists.intro); refine ⟨?_, rfl⟩; exact ⟨j + 1, by omega, by go_num, R6, H6⟩)
            case measure => simp [intOf]; omega
          · have hlb : decide ((j : Int) < (Kn : Int)) = false := decide_eq_false (by omega)
            go_wp2_with fail
            refine (leaderG w wr g _ _ H.out Kn GE3.out (by omega) (by omega)).mono ?_
            rintro e w5 ⟨rfl, h5, _⟩
            rw [show (o3 Kn l2 i).leader = 0 from FX.out.2.2.1]
            have H5 := Lib.hid h5
            clear h5
            go_wp2_with fail
            go_ret
            exact ⟨by simp, H5.out.bel⟩
      · have hb2 : i < l1.length ∧ i < 12 := by
          have h := HBB.out
          have h' : (decide (i < l1.length) && decide (i < 12)) = true := h.symm
          simpa using h'
        clear HBB
        obtain ⟨hl1, hl2⟩ := hb2
        have hwy : IntKind.i64.wrap ((i : Int) + 1) = ((i + 1 : Nat) : Int) := by rw [IntWalk.i64_in _ (by omega)]; omega
        have hA : 0 ≤ (i : Int) + 1 ∧ (i : Int) + 1 ≤ 12 := by omega
        have hB : (i : Int) ≤ (i : Int) + 1 := by omega
        go_upto_region 14 with (fail)
        rw [letter12_eq i hl2]
        obtain ⟨d, hd⟩ : ∃ d, d = letter i := ⟨_, rfl⟩
        rw [← hd]
        have HDD := Lib.hid hd
        have FX := Lib.hid (order_facts hK1 hK5 l2 (i := i) (by omega)).2.1
        clear hd hA hB hwy
        go_wp2_with fail
        refine (propG w wr g _ _ H.out Kn (S2.out.good (by omega)) (by omega) 0 d).mono ?_
        rintro e w5 ⟨rfl, h5, hst⟩
        rw [show (o2 Kn l2 i).propOk 0 = true from FX.out]
        have R5 := Lib.hid (R.out.step (w1 := w5) (fun k hk _ => hst k (.inr hk)))
        have H5 := Lib.hid h5
        have S5 := Lib.hid (S2.out.prop hK5 0 d)
        have HP := Lib.hid (show (o2 Kn l2 (i + 1)) = if i < l2.length then act (l2.getD i 0) ((o2 Kn l2 i).prop 0 d) else (o2 Kn l2 i).prop 0 d from by rw [HDD.out]; rfl)
        obtain ⟨P, hP⟩ : ∃ P, P = (o2 Kn l2 i).prop 0 d := ⟨_, rfl⟩
        rw [← hP] at H5 S5 HP
        have hw15 : w1.heap.size ≤ w5.heap.size := by
          obtain ⟨_, _, _, _, hz⟩ := H5.out
          by_cases q : w1.heap.size ≤ w5.heap.size
          · exact q
          · exact absurd (hz w5.heap.size (.inl (by omega))).1 (by omega)
        clear h5 hst R H hP FX S2
        go_upto_region 17 with (at_builtin; refine MM.wpList_append_row _ rfl (.tmp 46) (.tmp 48) 61 rfl w1.heap.size 9 i0 _ 1 16 Try.underlying61 hi0 hz0 hz1 hz2 rfl (by decide) _ i _ ob rfl (R5.out.alloc _) (fun _ => True) _ 1 [.string d] rfl (MM.Rd.lit (MM.alloc_new _ _) trivial rfl (Nat.le_refl _) (by simp [maxLen]) rfl) (by intro u hu; simp at hu; subst hu; rfl) (by simp only [maxLen]; omega) (by omega) (by simp; omega) ?_; intro v' w6 ob' hr hg hob)
        obtain ⟨A6, c6, rfl, _, _⟩ := hr.slice
        have R6 := Lib.hid (show MM.Row w6 w1.heap.size 9 1 (.slice A6 (i + 1) c6) (i + 1) (textsC ((List.range (i + 1)).map letter)) ob' from by
          have e : textsC ((List.range (i + 1)).map letter) = textsC ((List.range i).map letter) ++ [.string d] := by rw [List.range_succ, List.map_append, HDD.out]; unfold textsC; rw [List.map_append]; rfl
          rw [e]; exact hr)
        have H6 := Lib.hid (show GrpAt w w6 g P (fun x => x < w1.heap.size ∨ ob' = some x) from (H5.out.alloc (.cells #[.string d] 9 (0, 0))).touch (fun k hk hz => hg.block k hk (fun e => hz (.inr e.symm))) ((Below.refl _ _).grown hg (Nat.le_trans HB1.out.size (by simp; omega)) (fun k hk => Nat.le_trans HB1.out.size (R5.out.lt k hk).1)) (fun k hk => by
          rcases hk with hk | hk
          · exact .inl (.inl hk)
          · rcases hob with hob | ⟨b, hob, hbb⟩
            · exact .inl (.inr (by rw [← hob]; exact hk))
            · exact .inr ⟨by rw [hob] at hk; injection hk with hk; rw [← hk]; exact hbb, (R6.out.lt k hk).2⟩))
        clear hr hg hob R5 H5
        by_cases hil : i < l2.length
        · have hilb : decide ((i : Int) < (l2.length : Int)) = true := decide_eq_true (by omega)
          have HQ := Lib.hid (show o2 Kn l2 (i + 1) = act (l2.getD i 0) P from by rw [HP.out]; exact if_pos hil)
          have hrd := HR2.out.step (w1 := w6) (fun x hx _ => H6.out.bel.block x hx)
          obtain ⟨_, A', c', ea, _, _, hrest⟩ := hrd
          injection ea with ea1 el ea2
          clear el
          subst ea1 ea2
          obtain ⟨be, oe, rfl, _, _, hcell⟩ := hrest (by omega)
          have x0 : w6.cell? ⟨be, oe + i, none⟩ = some (.int .i64 (l2.getD i 0)) := hcell _ _ (intsC_get hil)
          have HXW := Lib.hid (HW2.out (l2.getD i 0) (by rw [List.getD_eq_getElem?_getD, List.getElem?_eq_getElem hil]; exact List.getElem_mem hil))
          clear hcell hrest HP
          generalize l2.getD i 0 = x at x0 HXW HQ
          have hy := wi_range x 4 (by omega)
          obtain ⟨y, hY⟩ : ∃ y, wi x 4 = y := ⟨_, rfl⟩
          have HY := Lib.hid hY
          have hy4 : y = 0 ∨ y = 1 ∨ y = 2 ∨ y = 3 := by omega
          clear hy hY
          go_wp2_with fail
          refine (within9_fn _ x 4 HXW.out (by omega) (by omega)).mono ?_
          rintro e w' ⟨rfl, rfl⟩
          rw [HY.out]
          rcases hy4 with rfl | rfl | rfl | rfl
          · have HN := Lib.hid (show o2 Kn l2 (i + 1) = P.cut 0 from by rw [HQ.out]; unfold act; exact if_pos HY.out)
            clear x0
            go_wp2_with fail
            refine (dropG w w6 g _ _ H6.out 0 (by have := S5.out.fl; omega)).mono ?_
            rintro e w7 ⟨rfl, h7, hst⟩
            have R7 := Lib.hid (R6.out.step (w1 := w7) (fun k hk _ => hst k (.inr hk)))
            have H7 := Lib.hid (show GrpAt w w7 g (o2 Kn l2 (i + 1)) (fun x => x < w1.heap.size ∨ ob' = some x) from by rw [HN.out]; exact h7)
            clear h7 hst R6 H6
            go_wp2_with fail
            go_roundw
            case rel => first | exact ⟨i + 1, A6, c6, ob', by omega, by omega, rfl, by go_num, R7, H7⟩ | ((repeat apply Exists.intro); refine ⟨?_, rfl⟩; exact ⟨i + 1, A6, c6, ob', by omega, by omega, rfl, by go_num, R7, H7⟩)
            case measure => simp [intOf]; omega
          · have HN := Lib.hid (show o2 Kn l2 (i + 1) = P.twice 0 from by rw [HQ.out]; unfold act; rw [if_neg (by rw [HY.out]; omega)]; exact if_pos HY.out)
            clear x0
            go_wp2_with fail
            refine (twiceG w w6 g _ _ H6.out 0 (by have := S5.out.fl; omega)).mono ?_
            rintro e w7 ⟨rfl, h7, hst⟩
            have R7 := Lib.hid (R6.out.step (w1 := w7) (fun k hk _ => hst k (.inr hk)))
            have H7 := Lib.hid (show GrpAt w w7 g (o2 Kn l2 (i + 1)) (fun x => x < w1.heap.size ∨ ob' = some x) from by rw [HN.out]; exact h7)
            clear h7 hst R6 H6
            go_wp2_with fail
            go_roundw
            case rel => first | exact ⟨i + 1, A6, c6, ob', by omega, by omega, rfl, by go_num, R7, H7⟩ | ((repeat apply Exists.intro); refine ⟨?_, rfl⟩; exact ⟨i + 1, A6, c6, ob', by omega, by omega, rfl, by go_num, R7, H7⟩)
            case measure => simp [intOf]; omega
          · have HN := Lib.hid (show o2 Kn l2 (i + 1) = P.deliver (wi (x.tdiv 4) (mx 1 P.f.length)) from by rw [HQ.out]; unfold act; rw [if_neg (by rw [HY.out]; omega), if_neg (by rw [HY.out]; omega)]; exact if_pos HY.out)
            have hqr := quo4 x HXW.out
            have hwq : IntKind.i64.wrap (x.tdiv 4) = x.tdiv 4 := IntWalk.i64_in _ (by omega)
            have HQW := Lib.hid (show (Lit.int .i64 (x.tdiv 4)).wf = true from wf_small _ hqr)
            have hfl : P.f.length ≤ 1000000 := by have := S5.out.fl; omega
            have HMX := Lib.hid (show 1 ≤ mx 1 (P.f.length : Int) ∧ mx 1 (P.f.length : Int) ≤ 1000000 from by rw [mx_eq]; omega)
            clear hqr hfl
            go_upto_region 24 with (fail)
            refine Go.RT.wp_region_tree [0, 0, 0, 6, 14, 30, 0, 64, 192, 510, 1023] (.p 0 (.p 1 (.p 2 (.p 3 (.s 4 (.p 5 (.p 6 (.w 7 [4] (.p 8 (.w 9 [] (.w 10 [] .nil .stop) .stop)) .stop)))))))) (by kernel_rfl) (by kernel_rfl) ?_
            repeat (first | (refine Go.RT.step_p rfl (fun K hK => ?_); go_simp; refine hK _ ?_; clear hK K) | (refine Go.RT.step_s rfl (fun K hK => ?_); go_simp; refine hK _ ?_; clear hK K))
            (refine Go.RT.step_w rfl rfl (fun K hK => ?_) Go.RT.step_stop)
            go_wp2_with fail
            refine (flightG w _ g _ _ H6.out.drew Kn (S5.out.good (by omega)) (by omega)).mono ?_
            rintro e w' ⟨rfl, rfl⟩
            go_wp2_with fail
            refine Go.RT.QK_normal _ _ _ _ (hK _ _ ?_ ?_) <;> clear hK K
            · repeat (first | exact Go.RT.again_nil | (refine Go.RT.again_not rfl rfl ?_) | (refine Go.RT.again_one rfl (by go_simp <;> rfl) ?_))
            repeat (first | (refine Go.RT.step_p rfl (fun K hK => ?_); go_simp; refine hK _ ?_; clear hK K) | (refine Go.RT.step_s rfl (fun K hK => ?_); go_simp; refine hK _ ?_; clear hK K))
            (refine Go.RT.step_w rfl rfl (fun K hK => ?_) Go.RT.step_stop)
            go_wp2_with fail
            refine (within9_fn _ (x.tdiv 4) (mx 1 (P.f.length : Int)) HQW.out (by have := HMX.out; omega) (by have := HMX.out; omega)).mono ?_
            rintro e w' ⟨rfl, rfl⟩
            go_wp2_with fail
            refine Go.RT.QK_normal _ _ _ _ (hK _ _ ?_ ?_) <;> clear hK K
            · repeat (first | exact Go.RT.again_nil | (refine Go.RT.again_not rfl rfl ?_) | (refine Go.RT.again_one rfl (by go_simp <;> rfl) ?_))
            (refine Go.RT.step_w rfl rfl (fun K hK => ?_) Go.RT.step_stop)
            go_wp2_with fail
            refine (deliverG w _ g _ _ H6.out.drew Kn (S5.out.good (by omega)) (by omega) _).mono ?_
            rintro e w7 ⟨rfl, h7, hst⟩
            have R7 := Lib.hid (R6.out.drew.step (w1 := w7) (fun k hk _ => hst k (.inr hk)))
            have H7 := Lib.hid (show GrpAt w w7 g (o2 Kn l2 (i + 1)) (fun x => x < w1.heap.size ∨ ob' = some x) from by rw [HN.out]; exact h7)
            clear h7 hst R6 H6
            go_wp2_with fail
            refine Go.RT.QK_normal _ _ _ _ (hK _ _ ?_ ?_) <;> clear hK K
            · repeat (first | exact Go.RT.again_nil | (refine Go.RT.again_not rfl rfl ?_) | (refine Go.RT.again_one rfl (by go_simp <;> rfl) ?_))
            refine Go.RT.step_nil ?_
            go_wp2_with fail
            go_roundw
            case rel => first | exact ⟨i + 1, A6, c6, ob', by omega, by omega, rfl, by go_num, R7, H7⟩ | ((repeat apply Exists.intro); refine ⟨?_, rfl⟩; exact ⟨i + 1, A6, c6, ob', by omega, by omega, rfl, by go_num, R7, H7⟩)
            case measure => simp [intOf]; omega
          · have HN := Lib.hid (show o2 Kn l2 (i + 1) = P from by rw [HQ.out]; unfold act; rw [if_neg (by rw [HY.out]; omega), if_neg (by rw [HY.out]; omega), if_neg (by rw [HY.out]; omega)])
            have H7 := Lib.hid (show GrpAt w w6 g (o2 Kn l2 (i + 1)) (fun x => x < w1.heap.size ∨ ob' = some x) from by rw [HN.out]; exact H6.out)
            clear x0 H6
            go_wp2_with fail
            go_roundw
            case rel => first | exact ⟨i + 1, A6, c6, ob', by omega, by omega, rfl, by go_num, R6, H7⟩ | ((repeat apply Exists.intro); refine ⟨?_, rfl⟩; exact ⟨i + 1, A6, c6, ob', by omega, by omega, rfl, by go_num, R6, H7⟩)
            case measure => simp [intOf]; omega
        · have hilb : decide ((i : Int) < (l2.length : Int)) = false := decide_eq_false (by omega)
          have H7 := Lib.hid (show GrpAt w w6 g (o2 Kn l2 (i + 1)) (fun x => x < w1.heap.size ∨ ob' = some x) from by rw [HP.out, if_neg hil]; exact H6.out)
          clear H6
          go_wp2_with fail
          go_roundw
          case rel => first | exact ⟨i + 1, A6, c6, ob', by omega, by omega, rfl, by go_num, R6, H7⟩ | ((repeat apply Exists.intro); refine ⟨?_, rfl⟩; exact ⟨i + 1, A6, c6, ob', by omega, by omega, rfl, by go_num, R6, H7⟩)
          case measure => simp [intOf]; omega

end Go.Proofs.Ytnkmljdkokcdjaa
