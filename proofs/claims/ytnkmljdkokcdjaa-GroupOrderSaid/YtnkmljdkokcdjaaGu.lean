/-
  The law's settle answers as the plain settleS. Conditions: five nodes at most, not too many rounds.
-/
import Derived.WalkKit
import Derived.WalkSpells
import Derived.Lib.Hide
import Derived.Outline
import Derived.Test.YtnkmljdkokcdjaaChecked
import Derived.Test.YtnkmljdkokcdjaaMn
import Derived.Test.YtnkmljdkokcdjaaMem
import Derived.Test.YtnkmljdkokcdjaaFed
import Derived.Test.YtnkmljdkokcdjaaGs
import Derived.Deep.DeepCutAuto
import Derived.Deep.CutBlock
import Derived.Deep.OwnRows
import Derived.IntWalk
set_option linter.unusedVariables false
set_option linter.unusedSimpArgs false
namespace Go.Proofs.Ytnkmljdkokcdjaa
open Go.RowKit Fed
set_option linter.unusedVariables false
attribute [local go_sem high] Fed.max2_int Fed.min2_int

def drain : Nat → GS → GS
  | 0, s => s
  | q + 1, s => if s.has 0 = true then drain q (s.deliver 0) else s
def ticksTo (s : GS) : Nat → GS
  | 0 => s
  | i + 1 => (ticksTo s i).tick (i : Int)
def roundS (s : GS) : GS := drain 400 (ticksTo s 5)
def settleS : Nat → GS → GS
  | 0, s => s
  | r + 1, s => settleS r (roundS s)
theorem gsys_drain {k : Nat} (hk : k ≤ 5) : ∀ (q b : Nat) (s : GS), GSys k b s → GSys k (b + 3 * q) (drain q s)
  | 0, b, s, h => h
  | q + 1, b, s, h => by
    unfold Go.Proofs.Ytnkmljdkokcdjaa.drain
    split
    · exact (gsys_drain hk q (b + 3) _ (h.deliver hk 0)).mono (by omega)
    · exact h.mono (by omega)
theorem gsys_ticks {k b : Nat} {s : GS} (hk : k ≤ 5) (h : GSys k b s) : ∀ i, GSys k (b + 2 * i) (ticksTo s i)
  | 0 => h
  | i + 1 => ((gsys_ticks hk h i).tick hk (i : Int)).mono (by omega)
theorem gsys_settle {k : Nat} (hk : k ≤ 5) : ∀ (r b : Nat) (s : GS), GSys k b s → GSys k (b + 1210 * r) (settleS r s)
  | 0, b, s, h => h
  | r + 1, b, s, h => (gsys_settle hk r (b + 1210) _ ((gsys_drain hk 400 _ _ (gsys_ticks hk h 5)).mono (by omega))).mono (by omega)
theorem deliver_none {s : GS} {a : Int} (h : s.has a = false) : s.deliver a = s := by unfold GS.deliver; rw [h]; rfl
set_option maxRecDepth 100000 in
set_option maxHeartbeats 40000000 in
theorem settleG (w0 w : World) (g : Nat) (s : GS) (Z : Nat → Prop) (h : GrpAt w0 w g s Z) (k b : Nat) (hk : k ≤ 5) (S : GSys k b s) (rounds : Nat) (hb : b + 1210 * rounds ≤ 100000) :
    Calls Try.prog 38 #[.pointer (some ⟨g, 0, none⟩), .int .i64 (rounds : Int)] w fun e w' => e = .returned (.tuple #[]) ∧ GrpAt w0 w' g (settleS rounds s) Z ∧ Stays w w' Z := by
  have H := Lib.hid h
  have SS := Lib.hid S
  obtain ⟨R, hRR⟩ : ∃ R, R = settleS rounds s := ⟨_, rfl⟩
  have E := Lib.hid (show settleS (rounds - 0) s = R from hRR.symm)
  rw [← hRR]
  have ST := Lib.hid (Stays.refl w Z)
  clear h S
  clear hRR
  go_enter Try.func38, Try.ntmps38
  go_wp2_with fail
  go_loopw [4] (fun t4 wr => ∃ (r b' : Nat) (s' : GS), r ≤ rounds ∧ t4 = .int .i64 r ∧ b' ≤ b + 1210 * r ∧ Hid (GrpAt w0 wr g s' Z) ∧ Hid (GSys k b' s') ∧ Hid (settleS (rounds - r) s' = R) ∧ Hid (Stays w wr Z)) (fun t4 _ => rounds - (intOf t4).toNat)
  case atStart => exact ⟨0, b, s, by omega, rfl, by omega, H, SS, E, ST⟩
  case round =>
    clear H SS E ST
    obtain ⟨r, b', s', hr, rfl, hb', H, SS, E, ST⟩ := hrel
    by_cases hlt : r < rounds
    · have hlb : decide ((r : Int) < (rounds : Int)) = true := decide_eq_true (by omega)
      have E1 := Lib.hid (show settleS (rounds - (r + 1)) (roundS s') = R from by
        have h9 := E.out
        rw [show rounds - r = (rounds - (r + 1)) + 1 from by omega] at h9
        exact h9)
      clear E
      go_wp2_with fail
      go_loopw [5] (fun t5 wq => ∃ i : Nat, i ≤ 5 ∧ t5 = .int .i64 i ∧ Hid (GrpAt w0 wq g (ticksTo s' i) Z) ∧ Hid (Stays w wq Z)) (fun t5 _ => 5 - (intOf t5).toNat)
      case atStart => exact ⟨0, by omega, rfl, H, ST⟩
      case round =>
        clear H ST
        obtain ⟨i, hi, rfl, H, ST⟩ := hrel
        by_cases hl5 : i < 5
        · have hl5b : decide ((i : Int) < 5) = true := decide_eq_true (by omega)
          go_wp2_with fail
          refine (tickG w0 wr g _ Z H.out k ((gsys_ticks hk SS.out i).good (by omega)) (by omega) (i : Int)).mono ?_
          rintro e w1 ⟨rfl, h1, hs1⟩
          have H1 := Lib.hid (show GrpAt w0 w1 g (ticksTo s' (i + 1)) Z from h1)
          have ST1 := Lib.hid (ST.out.trans hs1)
          clear h1 hs1
          go_wp2_with fail
          go_roundw
          case rel => first | exact ⟨i + 1, by omega, by go_num, H1, ST1⟩ | ((repeat apply Exists.intro); refine ⟨?_, rfl⟩; exact ⟨i + 1, by omega, by go_num, H1, ST1⟩)
          case measure => simp [intOf]; omega
        · have hl5b : decide ((i : Int) < 5) = false := decide_eq_false (by omega)
          obtain rfl : i = 5 := by omega
          have S5 := Lib.hid (gsys_ticks hk SS.out 5)
          have E2 := Lib.hid (show drain (400 - 0) (ticksTo s' 5) = roundS s' from rfl)
          generalize roundS s' = q at E1 E2
          generalize ticksTo s' 5 = s5 at H S5 E2
          clear SS
          go_wp2_with fail
          go_loopw [6] (fun t6 wq => ∃ (j b2 : Nat) (s2 : GS), j ≤ 400 ∧ t6 = .int .i64 j ∧ b2 ≤ b' + 10 + 3 * j ∧ Hid (GrpAt w0 wq g s2 Z) ∧ Hid (GSys k b2 s2) ∧ Hid (drain (400 - j) s2 = q) ∧ Hid (Stays w wq Z)) (fun t6 _ => 400 - (intOf t6).toNat)
          case atStart => exact ⟨0, _, _, by omega, rfl, by omega, H, S5, E2, ST⟩
          case round =>
            clear H S5 E2 ST
            obtain ⟨j, b2, s2, hj, rfl, hb2, H, SS, E2, ST⟩ := hrel
            by_cases hlj : j < 400
            · have hljb : decide ((j : Int) < 400) = true := decide_eq_true (by omega)
              go_wp2_with fail
              refine (deliverG w0 wr g s2 Z H.out k (SS.out.good (by omega)) (by omega) 0).mono ?_
              rintro e w1 ⟨rfl, h1, hs1⟩
              have H1 := Lib.hid h1
              have ST1 := Lib.hid (ST.out.trans hs1)
              clear h1 hs1
              cases hh : s2.has 0
              · have E3 := Lib.hid (show s2.deliver 0 = q from by
                  rw [deliver_none hh]
                  have h9 := E2.out
                  rw [show 400 - j = (400 - (j + 1)) + 1 from by omega] at h9
                  unfold drain at h9
                  rw [hh] at h9
                  exact h9)
                have SD := Lib.hid (show GSys k b2 (s2.deliver 0) from by rw [deliver_none hh]; exact SS.out)
                clear hh E2 SS
                go_wp2_with fail
                have e3 := E3.out
                rw [e3] at H1 SD
                go_roundw
                case rel =>
                  first
                    | exact ⟨r + 1, b2, q, by omega, by go_num, by omega, H1, SD, E1, ST1⟩
                    | ((repeat apply Exists.intro); refine ⟨?_, rfl⟩; exact ⟨r + 1, b2, q, by omega, by go_num, by omega, H1, SD, E1, ST1⟩)
                case measure => simp [intOf]; omega
              · have E3 := Lib.hid (show drain (400 - (j + 1)) (s2.deliver 0) = q from by
                  have h9 := E2.out
                  rw [show 400 - j = (400 - (j + 1)) + 1 from by omega] at h9
                  unfold drain at h9
                  rw [if_pos hh] at h9
                  exact h9)
                have SD := Lib.hid (SS.out.deliver hk 0)
                clear hh E2 SS
                go_wp2_with fail
                go_roundw
                case rel => first | exact ⟨j + 1, b2 + 3, _, by omega, by go_num, by omega, H1, SD, E3, ST1⟩ | ((repeat apply Exists.intro); refine ⟨?_, rfl⟩; exact ⟨j + 1, b2 + 3, _, by omega, by go_num, by omega, H1, SD, E3, ST1⟩)
                case measure => simp [intOf]; omega
            · have hljb : decide ((j : Int) < 400) = false := decide_eq_false (by omega)
              have E3 := Lib.hid (show s2 = q from by
                have h9 := E2.out
                rw [show 400 - j = 0 from by omega] at h9
                exact h9)
              clear E2
              go_wp2_with fail
              have e3 := E3.out
              rw [e3] at H SS
              go_roundw
              case rel =>
                first
                  | exact ⟨r + 1, b2, q, by omega, by go_num, by omega, H, SS, E1, ST⟩
                  | ((repeat apply Exists.intro); refine ⟨?_, rfl⟩; exact ⟨r + 1, b2, q, by omega, by go_num, by omega, H, SS, E1, ST⟩)
              case measure => simp [intOf]; omega
    · have hlb : decide ((r : Int) < (rounds : Int)) = false := decide_eq_false (by omega)
      have E1 : s' = R := by
        have h9 := E.out
        rw [show rounds - r = 0 from by omega] at h9
        exact h9
      have E2 := Lib.hid E1
      clear E1
      go_wp2_with fail
      go_end0
      have e := E2.out
      subst e
      exact ⟨rfl, H.out, ST.out⟩

end Go.Proofs.Ytnkmljdkokcdjaa
