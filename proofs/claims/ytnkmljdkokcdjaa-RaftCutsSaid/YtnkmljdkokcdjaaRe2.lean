/-
  reached tells as far as a majority has what is of its term. Conditions: lengths are bounded as the theorem says.
-/
import Derived.WalkKit
import Derived.WalkSpells
import Derived.Lib.Hide
import Derived.Outline
import Derived.Test.YtnkmljdkokcdjaaChecked
import Derived.Test.YtnkmljdkokcdjaaRg
import Derived.Test.YtnkmljdkokcdjaaMem
import Derived.Test.YtnkmljdkokcdjaaFed
import Derived.Test.YtnkmljdkokcdjaaRe1
namespace Go.Proofs.Ytnkmljdkokcdjaa
open Go.RowKit Fed
set_option linter.unusedVariables false
attribute [local go_sem high] Fed.max2_int Fed.min2_int

set_option maxRecDepth 100000 in
set_option maxHeartbeats 4000000 in
theorem reached_any (w : World) (B g : Nat) (s : NS) (μ : NM) (h : NodeAt w B g s μ) (hl : s.n.log.length ≤ 800000) (hv : s.n.mtch.length ≤ 1000) (hv0 : 0 < s.n.mtch.length) (hc0 : 0 ≤ s.n.commit) :
    Calls Try.prog 108 #[.pointer (some ⟨g, 0, none⟩)] w
      fun e w' => e = .returned (.int .i64 (reachedN s.n)) ∧ NodeAt w' B g s μ ∧ Below B w w' := by
  have H := Lib.hid h
  clear h
  go_enter Try.func108, Try.ntmps108
  go_wp2_with fail
  refine (last_any _ B g _ _ H.out).mono ?_
  rintro e w2 ⟨rfl, rfl⟩
  go_wp2_with fail
  go_loopw [3] (fun t3 wr => ∃ a : Nat, a ≤ s.n.log.length ∧ t3 = .int .i64 a ∧ Hid (reachedFrom s.n a = reachedN s.n) ∧ Hid (NodeAt wr B g s μ) ∧ Hid (Below B w wr)) (fun t3 _ => (intOf t3).toNat)
  case atStart => exact ⟨s.n.log.length, Nat.le_refl _, rfl, Lib.hid rfl, H, Lib.hid (Below.refl _ _)⟩
  case round =>
    obtain ⟨a, ha, rfl, HR, HN, HB⟩ := hrel
    clear H
    have c6 : wr.cell? ⟨g, 6, none⟩ = some (.int .i64 s.n.commit) := HN.out.c 6 _ rfl
    have c1 : wr.cell? ⟨g, 1, none⟩ = some (.int .i64 s.n.term) := HN.out.c 1 _ rfl
    obtain ⟨bm, hbm⟩ := HN.out.hm.some_of (by omega)
    have hrm := HN.out.hm
    rw [hbm] at hrm
    obtain ⟨capm, em, qm1, qm2⟩ := hrm.form
    have c9 : wr.cell? ⟨g, 9, none⟩ = some (.slice (some ⟨bm, 0, none⟩) s.n.mtch.length capm) := HN.out.c 9 _ (congrArg some em)
    have HRm := Lib.hid hrm
    have HBm := Lib.hid hbm
    clear em hrm hbm
    have HCE := Lib.hid (show ∀ j, j < s.n.mtch.length → wr.cell? ⟨bm, j, none⟩ = some (.int .i64 (s.n.mtch.getD j 0)) from fun j hj => HRm.out.cell (intsC_get hj))
    by_cases hgt : s.n.commit < (a : Int)
    case neg =>
      have hgb : decide (s.n.commit < (a : Int)) = false := decide_eq_false hgt
      have HE := Lib.hid (show s.n.commit = reachedN s.n from by
        rw [← HR.out]
        cases a with
        | zero => rfl
        | succ k => unfold reachedFrom; rw [if_pos (by omega)])
      clear hgt
      go_wp2
      go_ret
      exact ⟨MM.ret_int HE.out, HN.out, HB.out⟩
    obtain ⟨k, rfl⟩ : ∃ k, a = k + 1 := ⟨a - 1, by omega⟩
    have hgb : decide (s.n.commit < (k : Int) + 1) = true := decide_eq_true (by omega)
    go_wp2
    go_loop [4, 24] (fun t4 t24 => ∃ j : Nat, j ≤ s.n.mtch.length ∧ t4 = .int .i64 (countG (s.n.mtch.take j) ((k : Int) + 1)) ∧ t24 = .int .i64 j) (fun _ t24 => s.n.mtch.length - (intOf t24).toNat)
    case atStart => exact ⟨0, by omega, rfl, rfl⟩
    case round =>
      obtain ⟨j, hj, rfl, rfl⟩ := hrel
      have hcl := countG_take_le s.n.mtch ((k : Int) + 1) j
      by_cases hlt : j < s.n.mtch.length
      · have hce := HCE.out j hlt
        have hts := countG_take_succ (x := (k : Int) + 1) hlt
        obtain ⟨x, hx⟩ : ∃ x, x = s.n.mtch.getD j 0 := ⟨_, rfl⟩
        rw [← hx] at hce hts
        clear hx
        by_cases hb : (k : Int) + 1 ≤ x
        · have hbb : decide ((k : Int) + 1 ≤ x) = true := decide_eq_true hb
          have HT := Lib.hid (show countG (s.n.mtch.take (j + 1)) ((k : Int) + 1) = countG (s.n.mtch.take j) ((k : Int) + 1) + 1 from by rw [hts, if_pos hb])
          clear hts hb
          go_wp2
          go_round
          case rel => exact ⟨j + 1, by omega, by rw [HT.out]; go_num, by go_num⟩
          case measure => simp [intOf]; omega
        · have hbb : decide ((k : Int) + 1 ≤ x) = false := decide_eq_false hb
          have HT := Lib.hid (show countG (s.n.mtch.take (j + 1)) ((k : Int) + 1) = countG (s.n.mtch.take j) ((k : Int) + 1) from by rw [hts, if_neg hb]; rfl)
          clear hts hb
          go_wp2
          go_round
          case rel => exact ⟨j + 1, by omega, by rw [HT.out], by go_num⟩
          case measure => simp [intOf]; omega
      · obtain rfl : j = s.n.mtch.length := by omega
        rw [List.take_length] at hcl ⊢
        have HS := Lib.hid (show reachedN s.n = if termAt s.n.log ((k : Int) + 1) = s.n.term ∧ s.n.votes.length < 2 * countG s.n.mtch ((k : Int) + 1) then ((k : Int) + 1) else reachedFrom s.n k from by
          rw [← HR.out]
          conv => lhs; unfold reachedFrom
          rw [if_neg (by omega)]
          simp)
        clear HR hgt
        go_wp2_with fail
        by_cases ht : termAt s.n.log ((k : Int) + 1) = s.n.term
        case neg =>
          have htb : (termAt s.n.log ((k : Int) + 1) == s.n.term) = false := by simpa using ht
          have HE := Lib.hid (show reachedN s.n = reachedFrom s.n k from by rw [HS.out, if_neg (fun h => ht h.1)])
          clear ht
          refine Go.RT.wp_region_tree [0, 0, 3, 0, 8, 24, 56, 120, 255, 511, 1023, 1023, 4095, 8191] (.p 0 (.p 1 (.p 3 (.p 4 (.p 5 (.p 6 (.s 7 (.w 2 [7] (.p 8 (.p 9 (.p 10 (.p 11 (.w 12 [] (.p 13 .nil) .stop))))) .stop)))))))) (by kernel_rfl) (by kernel_rfl) ?_
          repeat (first | (refine Go.RT.step_p rfl (fun K hK => ?_); go_simp; refine hK _ ?_; clear hK K) | (refine Go.RT.step_s rfl (fun K hK => ?_); go_simp; refine hK _ ?_; clear hK K))
          (refine Go.RT.step_w rfl rfl (fun K hK => ?_) Go.RT.step_stop)
          go_wp2_with fail
          refine (term_any _ B g s μ _ (by omega) (by omega) (HN.out.below (by repeat (first | exact Below.refl _ _ | refine Below.setCell ?_ (by simp) _ | refine Below.alloc ?_ (by simp) _ | refine Below.drew ?_)))).mono ?_
          rintro e w2 ⟨rfl, rfl⟩
          go_wp2_with fail
          refine Go.RT.QK_normal _ _ _ _ (hK _ _ ?_ ?_) <;> clear hK K
          · repeat (first | exact Go.RT.again_nil | (refine Go.RT.again_not rfl rfl ?_) | (refine Go.RT.again_one rfl (by go_simp <;> rfl) ?_))
          repeat (first | (refine Go.RT.step_p rfl (fun K hK => ?_); go_simp; refine hK _ ?_; clear hK K) | (refine Go.RT.step_s rfl (fun K hK => ?_); go_simp; refine hK _ ?_; clear hK K))
          (refine Go.RT.skip_w rfl rfl ?_ Go.RT.step_stop)
          (try simp only [Act.put, List.setIfInBounds_toArray, List.set_cons_zero, List.set_cons_succ])
          repeat (first | (refine Go.RT.step_p rfl (fun K hK => ?_); go_simp; refine hK _ ?_; clear hK K) | (refine Go.RT.step_s rfl (fun K hK => ?_); go_simp; refine hK _ ?_; clear hK K))
          refine Go.RT.step_nil ?_
          go_wp2
          go_roundw
          case rel => exact ⟨k, by omega, by simp, Lib.hid HE.out.symm, Lib.hid HN.out.drew, Lib.hid HB.out.drew⟩
          case measure => simp [intOf]
        have htb : (termAt s.n.log ((k : Int) + 1) == s.n.term) = true := by simpa using ht
        by_cases hm : s.n.votes.length < 2 * countG s.n.mtch ((k : Int) + 1)
        · have hmb : decide ((s.n.votes.length : Int) < 2 * (countG s.n.mtch ((k : Int) + 1) : Int)) = true := decide_eq_true (by omega)
          have HE := Lib.hid (show (k : Int) + 1 = reachedN s.n from by rw [HS.out, if_pos ⟨ht, hm⟩])
          clear ht hm
          refine Go.RT.wp_region_tree [0, 0, 3, 0, 8, 24, 56, 120, 255, 511, 1023, 1023, 4095, 8191] (.p 0 (.p 1 (.p 3 (.p 4 (.p 5 (.p 6 (.s 7 (.w 2 [7] (.p 8 (.p 9 (.p 10 (.p 11 (.w 12 [] (.p 13 .nil) .stop))))) .stop)))))))) (by kernel_rfl) (by kernel_rfl) ?_
          repeat (first | (refine Go.RT.step_p rfl (fun K hK => ?_); go_simp; refine hK _ ?_; clear hK K) | (refine Go.RT.step_s rfl (fun K hK => ?_); go_simp; refine hK _ ?_; clear hK K))
          (refine Go.RT.step_w rfl rfl (fun K hK => ?_) Go.RT.step_stop)
          go_wp2_with fail
          refine (term_any _ B g s μ _ (by omega) (by omega) (HN.out.below (by repeat (first | exact Below.refl _ _ | refine Below.setCell ?_ (by simp) _ | refine Below.alloc ?_ (by simp) _ | refine Below.drew ?_)))).mono ?_
          rintro e w2 ⟨rfl, rfl⟩
          go_wp2_with fail
          refine Go.RT.QK_normal _ _ _ _ (hK _ _ ?_ ?_) <;> clear hK K
          · repeat (first | exact Go.RT.again_nil | (refine Go.RT.again_not rfl rfl ?_) | (refine Go.RT.again_one rfl (by go_simp <;> rfl) ?_))
          repeat (first | (refine Go.RT.step_p rfl (fun K hK => ?_); go_simp; refine hK _ ?_; clear hK K) | (refine Go.RT.step_s rfl (fun K hK => ?_); go_simp; refine hK _ ?_; clear hK K))
          (refine Go.RT.step_w rfl rfl (fun K hK => ?_) Go.RT.step_stop)
          go_wp2_with fail
          refine (majority_any _ B g s μ _ (by omega) (by omega) (HN.out.below (by repeat (first | exact Below.refl _ _ | refine Below.setCell ?_ (by simp) _ | refine Below.alloc ?_ (by simp) _ | refine Below.drew ?_)))).mono ?_
          rintro e w2 ⟨rfl, rfl⟩
          go_wp2_with fail
          refine Go.RT.QK_normal _ _ _ _ (hK _ _ ?_ ?_) <;> clear hK K
          · repeat (first | exact Go.RT.again_nil | (refine Go.RT.again_not rfl rfl ?_) | (refine Go.RT.again_one rfl (by go_simp <;> rfl) ?_))
          repeat (first | (refine Go.RT.step_p rfl (fun K hK => ?_); go_simp; refine hK _ ?_; clear hK K) | (refine Go.RT.step_s rfl (fun K hK => ?_); go_simp; refine hK _ ?_; clear hK K))
          refine Go.RT.step_nil ?_
          go_wp2
          go_ret
          exact ⟨MM.ret_int HE.out, HN.out.drew, HB.out.drew⟩
        · have hmb : decide ((s.n.votes.length : Int) < 2 * (countG s.n.mtch ((k : Int) + 1) : Int)) = false := decide_eq_false (by omega)
          have HE := Lib.hid (show reachedN s.n = reachedFrom s.n k from by rw [HS.out, if_neg (fun h => hm h.2)])
          clear ht hm
          refine Go.RT.wp_region_tree [0, 0, 3, 0, 8, 24, 56, 120, 255, 511, 1023, 1023, 4095, 8191] (.p 0 (.p 1 (.p 3 (.p 4 (.p 5 (.p 6 (.s 7 (.w 2 [7] (.p 8 (.p 9 (.p 10 (.p 11 (.w 12 [] (.p 13 .nil) .stop))))) .stop)))))))) (by kernel_rfl) (by kernel_rfl) ?_
          repeat (first | (refine Go.RT.step_p rfl (fun K hK => ?_); go_simp; refine hK _ ?_; clear hK K) | (refine Go.RT.step_s rfl (fun K hK => ?_); go_simp; refine hK _ ?_; clear hK K))
          (refine Go.RT.step_w rfl rfl (fun K hK => ?_) Go.RT.step_stop)
          go_wp2_with fail
          refine (term_any _ B g s μ _ (by omega) (by omega) (HN.out.below (by repeat (first | exact Below.refl _ _ | refine Below.setCell ?_ (by simp) _ | refine Below.alloc ?_ (by simp) _ | refine Below.drew ?_)))).mono ?_
          rintro e w2 ⟨rfl, rfl⟩
          go_wp2_with fail
          refine Go.RT.QK_normal _ _ _ _ (hK _ _ ?_ ?_) <;> clear hK K
          · repeat (first | exact Go.RT.again_nil | (refine Go.RT.again_not rfl rfl ?_) | (refine Go.RT.again_one rfl (by go_simp <;> rfl) ?_))
          repeat (first | (refine Go.RT.step_p rfl (fun K hK => ?_); go_simp; refine hK _ ?_; clear hK K) | (refine Go.RT.step_s rfl (fun K hK => ?_); go_simp; refine hK _ ?_; clear hK K))
          (refine Go.RT.step_w rfl rfl (fun K hK => ?_) Go.RT.step_stop)
          go_wp2_with fail
          refine (majority_any _ B g s μ _ (by omega) (by omega) (HN.out.below (by repeat (first | exact Below.refl _ _ | refine Below.setCell ?_ (by simp) _ | refine Below.alloc ?_ (by simp) _ | refine Below.drew ?_)))).mono ?_
          rintro e w2 ⟨rfl, rfl⟩
          go_wp2_with fail
          refine Go.RT.QK_normal _ _ _ _ (hK _ _ ?_ ?_) <;> clear hK K
          · repeat (first | exact Go.RT.again_nil | (refine Go.RT.again_not rfl rfl ?_) | (refine Go.RT.again_one rfl (by go_simp <;> rfl) ?_))
          repeat (first | (refine Go.RT.step_p rfl (fun K hK => ?_); go_simp; refine hK _ ?_; clear hK K) | (refine Go.RT.step_s rfl (fun K hK => ?_); go_simp; refine hK _ ?_; clear hK K))
          refine Go.RT.step_nil ?_
          go_wp2
          go_roundw
          case rel => exact ⟨k, by omega, by simp, Lib.hid HE.out.symm, Lib.hid HN.out.drew, Lib.hid HB.out.drew⟩
          case measure => simp [intOf]

end Go.Proofs.Ytnkmljdkokcdjaa
