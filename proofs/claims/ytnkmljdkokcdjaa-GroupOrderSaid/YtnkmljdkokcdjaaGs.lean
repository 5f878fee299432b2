/-
  The law's known of chapter 9 returns true, and writes nothing that was there; its within.
-/
import Derived.WalkKit
import Derived.KernelRfl
import Derived.WalkSpells
import Derived.Lib.Hide
import Derived.Outline
import Derived.Test.YtnkmljdkokcdjaaChecked
import Derived.Test.YtnkmljdkokcdjaaMn
import Derived.Test.YtnkmljdkokcdjaaMem
import Derived.Test.YtnkmljdkokcdjaaFed
import Derived.Test.YtnkmljdkokcdjaaGr
import Derived.Test.YtnkmljdkokcdjaaMe
import Derived.Deep.DeepCutAuto
import Derived.Deep.CutBlock
import Derived.Deep.OwnRows
import Derived.IntWalk
set_option linter.unusedVariables false
set_option linter.unusedSimpArgs false
namespace Go.Proofs.Ytnkmljdkokcdjaa
open Go.RowKit Fed
set_option linter.unusedVariables false
attribute [local go_sem high] Fed.max2_int Fed.min2_int

def kx : ByteArray := ⟨#[120]⟩
def k1 : GS := ticks 0 5 (GS.new 3)
def k2 : GS := run 20 k1
def k3 : GS := k2.prop 0 kx
def k4 : GS := run 20 k3
theorem known_pure : (GS.new 3).leader = -1 ∧ k2.propOk 0 = true ∧ k4.leader = 0 ∧ k4.applied 0 = [kx] ∧ k4.isUp 1 = true ∧ k4.isUp 3 = false := ⟨by kernel_rfl, by kernel_rfl, by kernel_rfl, by kernel_rfl, by kernel_rfl, by kernel_rfl⟩
theorem within9_fn (w : World) (a n : Int) (ha : (Lit.int .i64 a).wf = true) (h0 : 0 < n) (h1 : n ≤ 1152921504606846976) :
    Calls Try.prog 35 #[.int .i64 a, .int .i64 n] w fun e w' => e = .returned (.int .i64 (wi a n)) ∧ w = w' := by
  have h2 := Int.tmod_lt_of_pos a h0
  have h3 : -n < a.tmod n := Int.lt_tmod_of_pos a h0
  have h4 : (n == 0) = false := by simp; omega
  unfold wi
  by_cases h : a.tmod n < 0
  · go_enter Try.func35, Try.ntmps35
    go_wp2
    all_goals go_ret
    all_goals exact ⟨MM.ret_int (by first | (simp; done) | go_num), rfl⟩
  · go_enter Try.func35, Try.ntmps35
    go_wp2
    all_goals go_ret
    all_goals exact ⟨MM.ret_int (by first | (simp; done) | go_num), rfl⟩
set_option maxRecDepth 100000 in
set_option maxHeartbeats 40000000 in
theorem gknown_any (w : World) : Calls Try.prog 34 #[] w fun e w' => e = .returned (.bool true) ∧ Below w.heap.size w w' := by
  go_enter Try.func34, Try.ntmps34
  go_wp2_with fail
  refine (newG w w 3 3 rfl (by omega) (by omega) (Below.refl _ _)).mono ?_
  rintro e w1 ⟨g, rfl, h1⟩
  have H := Lib.hid h1
  have S := Lib.hid (GSys.new 3)
  clear h1
  go_wp2_with fail
  refine (leaderG w w1 g _ _ H.out 3 (S.out.good (by omega)) (by omega) (by omega)).mono ?_
  rintro e w2 ⟨rfl, h2, _⟩
  have H2 := Lib.hid h2
  clear h2 H
  rw [known_pure.1]
  have E := Lib.hid (show ticks 0 (5 - 0) (GS.new 3) = k1 from rfl)
  go_wp2_with fail
  go_loopw [2] (fun t2 wr => ∃ (j b : Nat) (s : GS), j ≤ 5 ∧ t2 = .int .i64 j ∧ b ≤ 2 * j ∧ Hid (GrpAt w wr g s (fun k => k < w.heap.size)) ∧ Hid (GSys 3 b s) ∧ Hid (ticks 0 (5 - j) s = k1)) (fun t2 _ => 5 - (intOf t2).toNat)
  case atStart => exact ⟨0, 0, _, by omega, rfl, by omega, H2, S, E⟩
  case round =>
    clear H2 S E
    obtain ⟨j, b, s, hj, rfl, hb, H, S, E⟩ := hrel
    by_cases hlt : j < 5
    · have hlb : decide ((j : Int) < 5) = true := decide_eq_true (by omega)
      go_wp2_with fail
      refine (tickG w wr g s _ H.out 3 (S.out.good (by omega)) (by omega) 0).mono ?_
      rintro e w1 ⟨rfl, h1, _⟩
      have H1 := Lib.hid h1
      have S1 := Lib.hid (S.out.tick (by omega) 0)
      have E2 := Lib.hid (show ticks 0 (5 - (j + 1)) (s.tick 0) = k1 from by
        have h9 := E.out
        rw [show 5 - j = (5 - (j + 1)) + 1 from by omega] at h9
        exact h9)
      clear h1
      go_wp2_with fail
      go_roundw
      case rel => exact ⟨j + 1, b + 2, _, by omega, by go_num, by omega, H1, S1, E2⟩
      case measure => simp [intOf]; omega
    have hlb : decide ((j : Int) < 5) = false := decide_eq_false (by omega)
    have E2 : s = k1 := by
      have h9 := E.out
      rw [show 5 - j = 0 from by omega] at h9
      exact h9
    subst E2
    clear E
    have E := Lib.hid (show run (20 - 0) k1 = k2 from rfl)
    go_wp2_with fail
    go_loopw [3] (fun t3 wr => ∃ (j b : Nat) (s : GS), j ≤ 20 ∧ t3 = .int .i64 j ∧ b ≤ 1000 + 3 * j ∧ Hid (GrpAt w wr g s (fun k => k < w.heap.size)) ∧ Hid (GSys 3 b s) ∧ Hid (run (20 - j) s = k2)) (fun t3 _ => 20 - (intOf t3).toNat)
    case atStart => exact ⟨0, _, _, by omega, rfl, by omega, H, S, E⟩
    case round =>
      clear H S E
      obtain ⟨j, b, s, hj, rfl, hb, H, S, E⟩ := hrel
      by_cases hlt : j < 20
      · have hlb : decide ((j : Int) < 20) = true := decide_eq_true (by omega)
        go_wp2_with fail
        refine (flightG w wr g s _ H.out 3 (S.out.good (by omega)) (by omega)).mono ?_
        rintro e w' ⟨rfl, rfl⟩
        by_cases hf : 0 < s.f.length
        · have hfb : decide (0 < s.f.length) = true := decide_eq_true hf
          have E2 := Lib.hid (show run (20 - (j + 1)) (s.deliver 0) = k2 from by
            have h9 := E.out
            rw [show 20 - j = (20 - (j + 1)) + 1 from by omega] at h9
            unfold run at h9
            rw [if_pos hf] at h9
            exact h9)
          clear hf
          go_wp2_with fail
          refine (deliverG w wr g s _ H.out 3 (S.out.good (by omega)) (by omega) 0).mono ?_
          rintro e w1 ⟨rfl, h1, _⟩
          have H1 := Lib.hid h1
          have S1 := Lib.hid (S.out.deliver (by omega) 0)
          clear h1
          go_wp2_with fail
          go_roundw
          case rel => exact ⟨j + 1, b + 3, _, by omega, by go_num, by omega, H1, S1, E2⟩
          case measure => simp [intOf]; omega
        · have hz : s.f.length = 0 := by omega
          have E2 := Lib.hid (show s = k2 from by
            have h9 := E.out
            rw [show 20 - j = (20 - (j + 1)) + 1 from by omega] at h9
            unfold run at h9
            rw [if_neg hf] at h9
            exact h9)
          clear hf E
          go_wp2_with fail
          clear hz
          have e2 := E2.out
          subst e2
          refine (propG w wr g k2 _ H.out 3 (S.out.good (by omega)) (by omega) 0 kx).mono ?_
          rintro e w3 ⟨rfl, h3, _⟩
          have H3 := Lib.hid h3
          have S3 := Lib.hid (S.out.prop (by omega) 0 kx)
          clear h3 H S
          have H := H3
          have S := S3
          clear H3 S3
          rw [known_pure.2.1]
          have E := Lib.hid (show run (20 - 0) (k2.prop 0 kx) = k4 from rfl)
          go_wp2_with fail
          go_loopw [5] (fun t5 wr => ∃ (j b : Nat) (s : GS), j ≤ 20 ∧ t5 = .int .i64 j ∧ b ≤ 2000 + 3 * j ∧ Hid (GrpAt w wr g s (fun k => k < w.heap.size)) ∧ Hid (GSys 3 b s) ∧ Hid (run (20 - j) s = k4)) (fun t5 _ => 20 - (intOf t5).toNat)
          case atStart => exact ⟨0, _, _, by omega, rfl, by omega, H, S, E⟩
          case round =>
            clear H S E
            obtain ⟨j, b, s, hj, rfl, hb, H, S, E⟩ := hrel
            by_cases hlt : j < 20
            · have hlb : decide ((j : Int) < 20) = true := decide_eq_true (by omega)
              go_wp2_with fail
              refine (flightG w wr g s _ H.out 3 (S.out.good (by omega)) (by omega)).mono ?_
              rintro e w' ⟨rfl, rfl⟩
              by_cases hf : 0 < s.f.length
              · have hfb : decide (0 < s.f.length) = true := decide_eq_true hf
                have E2 := Lib.hid (show run (20 - (j + 1)) (s.deliver 0) = k4 from by
                  have h9 := E.out
                  rw [show 20 - j = (20 - (j + 1)) + 1 from by omega] at h9
                  unfold run at h9
                  rw [if_pos hf] at h9
                  exact h9)
                clear hf
                go_wp2_with fail
                refine (deliverG w wr g s _ H.out 3 (S.out.good (by omega)) (by omega) 0).mono ?_
                rintro e w1 ⟨rfl, h1, _⟩
                have H1 := Lib.hid h1
                have S1 := Lib.hid (S.out.deliver (by omega) 0)
                clear h1
                go_wp2_with fail
                go_roundw
                case rel => exact ⟨j + 1, b + 3, _, by omega, by go_num, by omega, H1, S1, E2⟩
                case measure => simp [intOf]; omega
              · have hz : s.f.length = 0 := by omega
                have E2 := Lib.hid (show s = k4 from by
                  have h9 := E.out
                  rw [show 20 - j = (20 - (j + 1)) + 1 from by omega] at h9
                  unfold run at h9
                  rw [if_neg hf] at h9
                  exact h9)
                clear hf E
                go_wp2_with fail
                clear hz
                have e2 := E2.out
                subst e2
                refine (appliedG w wr g k4 _ H.out 3 (S.out.good (by omega)) (by omega) 0).mono ?_
                rintro e w5 ⟨⟨A, c, rfl, hr⟩, h5, hb5⟩
                have H5 := Lib.hid h5
                rw [known_pure.2.2.2.1] at hr ⊢
                obtain ⟨_, A', c', ea, _, _, hrest⟩ := hr
                injection ea with ea1 el ea2
                clear el
                subst ea1 ea2
                obtain ⟨ba, oa, rfl, _, hbl, hcell⟩ := hrest (by decide)
                have x0 : w5.cell? ⟨ba, oa, none⟩ = some (.string kx) := by simpa using hcell 0 _ rfl
                clear hcell hrest h5 hb5
                go_wp2_with fail
                refine (leaderG w w5 g k4 _ H5.out 3 (S.out.good (by omega)) (by omega) (by omega)).mono ?_
                rintro e w6 ⟨rfl, h6, hb6⟩
                have H6 := Lib.hid h6
                rw [known_pure.2.2.1]
                have x6 : w6.cell? ⟨ba, oa, none⟩ = some (.string kx) := (World.cell?_of_block (a := ⟨ba, oa, none⟩) (hb6.block ba hbl)).trans x0
                have hkx : ((kx == (⟨#[120]⟩ : ByteArray)) = true) := by kernel_rfl
                clear h6 hb6 x0
                unfold kx at x6
                go_wp2_with fail
                refine (upG w w6 g k4 _ H6.out 3 (S.out.good (by omega)) (by omega) 1).mono ?_
                rintro e w' ⟨rfl, rfl⟩
                rw [known_pure.2.2.2.2.1]
                go_wp2_with fail
                refine (upG w w6 g k4 _ H6.out 3 (S.out.good (by omega)) (by omega) 3).mono ?_
                rintro e w' ⟨rfl, rfl⟩
                rw [known_pure.2.2.2.2.2]
                go_wp2_with fail
                go_ret
                exact ⟨rfl, H6.out.bel⟩
            · have hlb : decide ((j : Int) < 20) = false := decide_eq_false (by omega)
              have E2 := Lib.hid (show s = k4 from by
                have h9 := E.out
                rw [show 20 - j = 0 from by omega] at h9
                exact h9)
              clear E
              go_wp2_with fail
              have e2 := E2.out
              subst e2
              refine (appliedG w wr g k4 _ H.out 3 (S.out.good (by omega)) (by omega) 0).mono ?_
              rintro e w5 ⟨⟨A, c, rfl, hr⟩, h5, hb5⟩
              have H5 := Lib.hid h5
              rw [known_pure.2.2.2.1] at hr ⊢
              obtain ⟨_, A', c', ea, _, _, hrest⟩ := hr
              injection ea with ea1 el ea2
              clear el
              subst ea1 ea2
              obtain ⟨ba, oa, rfl, _, hbl, hcell⟩ := hrest (by decide)
              have x0 : w5.cell? ⟨ba, oa, none⟩ = some (.string kx) := by simpa using hcell 0 _ rfl
              clear hcell hrest h5 hb5
              go_wp2_with fail
              refine (leaderG w w5 g k4 _ H5.out 3 (S.out.good (by omega)) (by omega) (by omega)).mono ?_
              rintro e w6 ⟨rfl, h6, hb6⟩
              have H6 := Lib.hid h6
              rw [known_pure.2.2.1]
              have x6 : w6.cell? ⟨ba, oa, none⟩ = some (.string kx) := (World.cell?_of_block (a := ⟨ba, oa, none⟩) (hb6.block ba hbl)).trans x0
              have hkx : ((kx == (⟨#[120]⟩ : ByteArray)) = true) := by kernel_rfl
              clear h6 hb6 x0
              unfold kx at x6
              go_wp2_with fail
              refine (upG w w6 g k4 _ H6.out 3 (S.out.good (by omega)) (by omega) 1).mono ?_
              rintro e w' ⟨rfl, rfl⟩
              rw [known_pure.2.2.2.2.1]
              go_wp2_with fail
              refine (upG w w6 g k4 _ H6.out 3 (S.out.good (by omega)) (by omega) 3).mono ?_
              rintro e w' ⟨rfl, rfl⟩
              rw [known_pure.2.2.2.2.2]
              go_wp2_with fail
              go_ret
              exact ⟨rfl, H6.out.bel⟩
      · have hlb : decide ((j : Int) < 20) = false := decide_eq_false (by omega)
        have E2 := Lib.hid (show s = k2 from by
          have h9 := E.out
          rw [show 20 - j = 0 from by omega] at h9
          exact h9)
        clear E
        go_wp2_with fail
        have e2 := E2.out
        subst e2
        refine (propG w wr g k2 _ H.out 3 (S.out.good (by omega)) (by omega) 0 kx).mono ?_
        rintro e w3 ⟨rfl, h3, _⟩
        have H3 := Lib.hid h3
        have S3 := Lib.hid (S.out.prop (by omega) 0 kx)
        clear h3 H S
        have H := H3
        have S := S3
        clear H3 S3
        rw [known_pure.2.1]
        have E := Lib.hid (show run (20 - 0) (k2.prop 0 kx) = k4 from rfl)
        go_wp2_with fail
        go_loopw [5] (fun t5 wr => ∃ (j b : Nat) (s : GS), j ≤ 20 ∧ t5 = .int .i64 j ∧ b ≤ 2000 + 3 * j ∧ Hid (GrpAt w wr g s (fun k => k < w.heap.size)) ∧ Hid (GSys 3 b s) ∧ Hid (run (20 - j) s = k4)) (fun t5 _ => 20 - (intOf t5).toNat)
        case atStart => exact ⟨0, _, _, by omega, rfl, by omega, H, S, E⟩
        case round =>
          clear H S E
          obtain ⟨j, b, s, hj, rfl, hb, H, S, E⟩ := hrel
          by_cases hlt : j < 20
          · have hlb : decide ((j : Int) < 20) = true := decide_eq_true (by omega)
            go_wp2_with fail
            refine (flightG w wr g s _ H.out 3 (S.out.good (by omega)) (by omega)).mono ?_
            rintro e w' ⟨rfl, rfl⟩
            by_cases hf : 0 < s.f.length
            · have hfb : decide (0 < s.f.length) = true := decide_eq_true hf
              have E2 := Lib.hid (show run (20 - (j + 1)) (s.deliver 0) = k4 from by
                have h9 := E.out
                rw [show 20 - j = (20 - (j + 1)) + 1 from by omega] at h9
                unfold run at h9
                rw [if_pos hf] at h9
                exact h9)
              clear hf
              go_wp2_with fail
              refine (deliverG w wr g s _ H.out 3 (S.out.good (by omega)) (by omega) 0).mono ?_
              rintro e w1 ⟨rfl, h1, _⟩
              have H1 := Lib.hid h1
              have S1 := Lib.hid (S.out.deliver (by omega) 0)
              clear h1
              go_wp2_with fail
              go_roundw
              case rel => exact ⟨j + 1, b + 3, _, by omega, by go_num, by omega, H1, S1, E2⟩
              case measure => simp [intOf]; omega
            · have hz : s.f.length = 0 := by omega
              have E2 := Lib.hid (show s = k4 from by
                have h9 := E.out
                rw [show 20 - j = (20 - (j + 1)) + 1 from by omega] at h9
                unfold run at h9
                rw [if_neg hf] at h9
                exact h9)
              clear hf E
              go_wp2_with fail
              clear hz
              have e2 := E2.out
              subst e2
              refine (appliedG w wr g k4 _ H.out 3 (S.out.good (by omega)) (by omega) 0).mono ?_
              rintro e w5 ⟨⟨A, c, rfl, hr⟩, h5, hb5⟩
              have H5 := Lib.hid h5
              rw [known_pure.2.2.2.1] at hr ⊢
              obtain ⟨_, A', c', ea, _, _, hrest⟩ := hr
              injection ea with ea1 el ea2
              clear el
              subst ea1 ea2
              obtain ⟨ba, oa, rfl, _, hbl, hcell⟩ := hrest (by decide)
              have x0 : w5.cell? ⟨ba, oa, none⟩ = some (.string kx) := by simpa using hcell 0 _ rfl
              clear hcell hrest h5 hb5
              go_wp2_with fail
              refine (leaderG w w5 g k4 _ H5.out 3 (S.out.good (by omega)) (by omega) (by omega)).mono ?_
              rintro e w6 ⟨rfl, h6, hb6⟩
              have H6 := Lib.hid h6
              rw [known_pure.2.2.1]
              have x6 : w6.cell? ⟨ba, oa, none⟩ = some (.string kx) := (World.cell?_of_block (a := ⟨ba, oa, none⟩) (hb6.block ba hbl)).trans x0
              have hkx : ((kx == (⟨#[120]⟩ : ByteArray)) = true) := by kernel_rfl
              clear h6 hb6 x0
              unfold kx at x6
              go_wp2_with fail
              refine (upG w w6 g k4 _ H6.out 3 (S.out.good (by omega)) (by omega) 1).mono ?_
              rintro e w' ⟨rfl, rfl⟩
              rw [known_pure.2.2.2.2.1]
              go_wp2_with fail
              refine (upG w w6 g k4 _ H6.out 3 (S.out.good (by omega)) (by omega) 3).mono ?_
              rintro e w' ⟨rfl, rfl⟩
              rw [known_pure.2.2.2.2.2]
              go_wp2_with fail
              go_ret
              exact ⟨rfl, H6.out.bel⟩
          · have hlb : decide ((j : Int) < 20) = false := decide_eq_false (by omega)
            have E2 := Lib.hid (show s = k4 from by
              have h9 := E.out
              rw [show 20 - j = 0 from by omega] at h9
              exact h9)
            clear E
            go_wp2_with fail
            have e2 := E2.out
            subst e2
            refine (appliedG w wr g k4 _ H.out 3 (S.out.good (by omega)) (by omega) 0).mono ?_
            rintro e w5 ⟨⟨A, c, rfl, hr⟩, h5, hb5⟩
            have H5 := Lib.hid h5
            rw [known_pure.2.2.2.1] at hr ⊢
            obtain ⟨_, A', c', ea, _, _, hrest⟩ := hr
            injection ea with ea1 el ea2
            clear el
            subst ea1 ea2
            obtain ⟨ba, oa, rfl, _, hbl, hcell⟩ := hrest (by decide)
            have x0 : w5.cell? ⟨ba, oa, none⟩ = some (.string kx) := by simpa using hcell 0 _ rfl
            clear hcell hrest h5 hb5
            go_wp2_with fail
            refine (leaderG w w5 g k4 _ H5.out 3 (S.out.good (by omega)) (by omega) (by omega)).mono ?_
            rintro e w6 ⟨rfl, h6, hb6⟩
            have H6 := Lib.hid h6
            rw [known_pure.2.2.1]
            have x6 : w6.cell? ⟨ba, oa, none⟩ = some (.string kx) := (World.cell?_of_block (a := ⟨ba, oa, none⟩) (hb6.block ba hbl)).trans x0
            have hkx : ((kx == (⟨#[120]⟩ : ByteArray)) = true) := by kernel_rfl
            clear h6 hb6 x0
            unfold kx at x6
            go_wp2_with fail
            refine (upG w w6 g k4 _ H6.out 3 (S.out.good (by omega)) (by omega) 1).mono ?_
            rintro e w' ⟨rfl, rfl⟩
            rw [known_pure.2.2.2.2.1]
            go_wp2_with fail
            refine (upG w w6 g k4 _ H6.out 3 (S.out.good (by omega)) (by omega) 3).mono ?_
            rintro e w' ⟨rfl, rfl⟩
            rw [known_pure.2.2.2.2.2]
            go_wp2_with fail
            go_ret
            exact ⟨rfl, H6.out.bel⟩

end Go.Proofs.Ytnkmljdkokcdjaa
