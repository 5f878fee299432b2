/-
  The document's reached answers as the plain reachedN. Conditions: the lengths are bounded as the theorem says.
-/
import Derived.WalkKit
import Derived.WalkSpells
import Derived.Lib.Hide
import Derived.Outline
import Derived.Test.YtnkmljdkokcdjaaChecked
import Derived.Test.YtnkmljdkokcdjaaMn
import Derived.Test.YtnkmljdkokcdjaaMem
import Derived.Test.YtnkmljdkokcdjaaFed
import Derived.Test.YtnkmljdkokcdjaaRn2
import Derived.Test.YtnkmljdkokcdjaaRe0
import Derived.Deep.DeepCutAuto
import Derived.Deep.CutBlock
import Derived.Deep.OwnRows
import Derived.IntWalk
set_option linter.unusedVariables false
set_option linter.unusedSimpArgs false
namespace Go.Proofs.Ytnkmljdkokcdjaa
open Go.RowKit Fed
set_option linter.unusedVariables false
attribute [local go_sem high] Fed.max2_int Fed.min2_int

set_option maxRecDepth 100000 in
set_option maxHeartbeats 40000000 in
theorem rreached_any (w : World) (ok : Nat → Prop) (n : Fed.Node) (σ : Sl5) (h : NodeVs w ok n σ) (l1 : n.log.length ≤ 1000000) (l4 : n.mtch.length ≤ 1000) (l3 : n.mtch.length = n.votes.length) (hc : 0 ≤ n.commit) :
    Calls Try.prog 123 #[.agg #[.int .i64 n.id, .int .i64 n.term, .int .i64 n.vote, .slice σ.A3 n.log.length σ.k3, .int .i64 n.form, .int .i64 n.role, .int .i64 n.commit, .slice σ.A7 n.votes.length σ.k7, .slice σ.A8 n.nxt.length σ.k8, .slice σ.A9 n.mtch.length σ.k9, .slice σ.A10 n.forms.length σ.k10, .int .i64 n.clock, .int .i64 n.due]] w fun e w' => e = .returned (.int .i64 (reachedN n)) ∧ Below w.heap.size w w' := by
  have H := Lib.hid (h.mono (ok' := fun k => k < w.heap.size) (fun k _ hk => hk))
  have L3 := Lib.hid l3
  clear h l3
  go_enter Try.func123, Try.ntmps123
  go_upto_region 1 with (fail)
  refine name_world (F := fun W => Hid (W.heap[w.heap.size]? = some (.cells #[.int .i64 n.id, .int .i64 n.term, .int .i64 n.vote, .slice σ.A3 n.log.length σ.k3, .int .i64 n.form, .int .i64 n.role, .int .i64 n.commit, .slice σ.A7 n.votes.length σ.k7, .slice σ.A8 n.nxt.length σ.k8, .slice σ.A9 n.mtch.length σ.k9, .slice σ.A10 n.forms.length σ.k10, .int .i64 n.clock, .int .i64 n.due] 28 (0, 0))) ∧ Hid (NodeVs W (fun k => k < w.heap.size) n σ) ∧ Hid (Below w.heap.size w W)) _ ⟨Lib.hid (MM.alloc_new w _), Lib.hid (H.out.step (fun k hk _ => Below.heap_alloc w _ k hk)), Lib.hid ((Below.refl _ w).alloc (Nat.le_refl _) _)⟩ ?_
  clear H
  intro w1 ⟨X, V, HB⟩
  have c3 : w1.cell? ⟨w.heap.size, 3, none⟩ = some (.slice σ.A3 n.log.length σ.k3) := MM.cell_blk X.out rfl
  go_wp2_with fail
  clear c3
  go_loopw [3] (fun t3 wr => ∃ a : Nat, a ≤ n.log.length ∧ t3 = .int .i64 a ∧ Hid (reachedFrom n a = reachedN n) ∧ Hid (wr.heap[w.heap.size]? = some (.cells #[.int .i64 n.id, .int .i64 n.term, .int .i64 n.vote, .slice σ.A3 n.log.length σ.k3, .int .i64 n.form, .int .i64 n.role, .int .i64 n.commit, .slice σ.A7 n.votes.length σ.k7, .slice σ.A8 n.nxt.length σ.k8, .slice σ.A9 n.mtch.length σ.k9, .slice σ.A10 n.forms.length σ.k10, .int .i64 n.clock, .int .i64 n.due] 28 (0, 0))) ∧ Hid (NodeVs wr (fun k => k < w.heap.size) n σ) ∧ Hid (Below w.heap.size w wr)) (fun t3 _ => (intOf t3).toNat)
  case atStart => exact ⟨n.log.length, Nat.le_refl _, rfl, Lib.hid rfl, X, V, HB⟩
  case round =>
    obtain ⟨a, ha, rfl, HR, X, V, HB⟩ := hrel
    have c0 : wr.cell? ⟨w.heap.size, 0, none⟩ = some (.int .i64 n.id) := MM.cell_blk X.out rfl
    have c1 : wr.cell? ⟨w.heap.size, 1, none⟩ = some (.int .i64 n.term) := MM.cell_blk X.out rfl
    have c2 : wr.cell? ⟨w.heap.size, 2, none⟩ = some (.int .i64 n.vote) := MM.cell_blk X.out rfl
    have c3 : wr.cell? ⟨w.heap.size, 3, none⟩ = some (.slice σ.A3 n.log.length σ.k3) := MM.cell_blk X.out rfl
    have c4 : wr.cell? ⟨w.heap.size, 4, none⟩ = some (.int .i64 n.form) := MM.cell_blk X.out rfl
    have c5 : wr.cell? ⟨w.heap.size, 5, none⟩ = some (.int .i64 n.role) := MM.cell_blk X.out rfl
    have c6 : wr.cell? ⟨w.heap.size, 6, none⟩ = some (.int .i64 n.commit) := MM.cell_blk X.out rfl
    have c7 : wr.cell? ⟨w.heap.size, 7, none⟩ = some (.slice σ.A7 n.votes.length σ.k7) := MM.cell_blk X.out rfl
    have c8 : wr.cell? ⟨w.heap.size, 8, none⟩ = some (.slice σ.A8 n.nxt.length σ.k8) := MM.cell_blk X.out rfl
    have c10 : wr.cell? ⟨w.heap.size, 10, none⟩ = some (.slice σ.A10 n.forms.length σ.k10) := MM.cell_blk X.out rfl
    have c11 : wr.cell? ⟨w.heap.size, 11, none⟩ = some (.int .i64 n.clock) := MM.cell_blk X.out rfl
    have c12 : wr.cell? ⟨w.heap.size, 12, none⟩ = some (.int .i64 n.due) := MM.cell_blk X.out rfl
    by_cases hgt : n.commit < (a : Int)
    case neg =>
      have hgb : decide (n.commit < (a : Int)) = false := decide_eq_false hgt
      have HE := Lib.hid (show n.commit = reachedN n from by
        rw [← HR.out]
        cases a with
        | zero => rfl
        | succ k => unfold reachedFrom; rw [if_pos (by omega)])
      clear hgt
      go_wp2_with fail
      go_ret
      exact ⟨MM.ret_int HE.out, HB.out⟩
    obtain ⟨k, rfl⟩ : ∃ k, a = k + 1 := ⟨a - 1, by omega⟩
    have hgb : decide (n.commit < (k : Int) + 1) = true := decide_eq_true (by omega)
    have c9 : wr.cell? ⟨w.heap.size, 9, none⟩ = some (.slice σ.A9 n.mtch.length σ.k9) := MM.cell_blk X.out rfl
    go_wp2_with fail
    go_loop [4, 5] (fun t4 t5 => ∃ j : Nat, j ≤ n.mtch.length ∧ t4 = .int .i64 (countG (n.mtch.take j) ((k : Int) + 1)) ∧ t5 = .int .i64 j) (fun _ t5 => n.mtch.length - (intOf t5).toNat)
    case atStart => exact ⟨0, by omega, rfl, rfl⟩
    case round =>
      obtain ⟨j, hj, rfl, rfl⟩ := hrel
      have hcl := countG_take_le n.mtch ((k : Int) + 1) j
      by_cases hlt : j < n.mtch.length
      · have hts := countG_take_succ (x := (k : Int) + 1) hlt
        obtain ⟨_, A9', c9', ea, q1, _, r1⟩ := V.out.hm
        injection ea with ea1 _ ea2
        subst ea2
        obtain ⟨b9, o9, e9, _, _, g9⟩ := r1 (by omega)
        rw [e9] at ea1
        have hce := g9 _ _ (intsC_get hlt)
        clear c9 g9 r1 e9
        have c9 : wr.cell? ⟨w.heap.size, 9, none⟩ = some (.slice (some ⟨b9, o9, none⟩) n.mtch.length σ.k9) := by rw [← ea1]; exact MM.cell_blk X.out rfl
        have EA := Lib.hid ea1
        clear ea1
        obtain ⟨x, hx⟩ : ∃ x, x = n.mtch.getD j 0 := ⟨_, rfl⟩
        rw [← hx] at hce hts
        clear hx
        by_cases hb : (k : Int) + 1 ≤ x
        · have hbb : decide ((k : Int) + 1 ≤ x) = true := decide_eq_true hb
          have HT := Lib.hid (show countG (n.mtch.take (j + 1)) ((k : Int) + 1) = countG (n.mtch.take j) ((k : Int) + 1) + 1 from by rw [hts, if_pos hb])
          clear hts hb
          go_wp2_with fail
          go_round
          case rel => exact ⟨j + 1, by omega, by rw [HT.out]; go_num, by go_num⟩
          case measure => simp [intOf]; omega
        · have hbb : decide ((k : Int) + 1 ≤ x) = false := decide_eq_false hb
          have HT := Lib.hid (show countG (n.mtch.take (j + 1)) ((k : Int) + 1) = countG (n.mtch.take j) ((k : Int) + 1) from by rw [hts, if_neg hb]; rfl)
          clear hts hb
          go_wp2_with fail
          go_round
          case rel => exact ⟨j + 1, by omega, by rw [HT.out], by go_num⟩
          case measure => simp [intOf]; omega
      · obtain rfl : j = n.mtch.length := by omega
        rw [List.take_length] at hcl ⊢
        have HS := Lib.hid (show reachedN n = if termAt n.log ((k : Int) + 1) = n.term ∧ n.votes.length < 2 * countG n.mtch ((k : Int) + 1) then ((k : Int) + 1) else reachedFrom n k from by
          rw [← HR.out]
          conv => lhs; unfold reachedFrom
          rw [if_neg (by omega)]
          simp)
        have hk1 : -1000000000 ≤ (k : Int) + 1 := by omega
        have hk2 : (k : Int) + 1 ≤ 1000000000 := by omega
        have HWR := Lib.hid (show IntKind.i64.wrap (2 * (countG n.mtch ((k : Int) + 1) : Int)) = 2 * (countG n.mtch ((k : Int) + 1) : Int) from IntWalk.i64_in _ (by omega))
        clear HR hgt
        go_wp2_with fail
        by_cases hm : n.mtch.length < 2 * countG n.mtch ((k : Int) + 1)
        case neg =>
          have hmb : decide ((n.mtch.length : Int) < 2 * (countG n.mtch ((k : Int) + 1) : Int)) = false := decide_eq_false (by omega)
          have HE := Lib.hid (show reachedN n = reachedFrom n k from by rw [HS.out, if_neg (fun h => hm (by rw [L3.out]; exact h.2))])
          have hmn : ¬ n.mtch.length < 2 * countG n.mtch ((k : Int) + 1) := hm
          have hwr := HWR.out
          refine Go.RT.wp_region_tree [0, 1, 0, 4, 12, 31, 63, 127, 127, 511, 127, 1151, 4095, 8191] (.p 0 (.p 1 (.p 2 (.s 3 (.p 4 (.p 5 (.p 6 (.s 7 (.p 8 (.p 10 (.s 11 (.w 9 [11] (.p 12 (.p 13 .nil)) .stop)))))))))))) (by kernel_rfl) (by kernel_rfl) ?_
          repeat (first | (refine Go.RT.step_p rfl (fun K hK => ?_); go_simp; refine hK _ ?_; clear hK K) | (refine Go.RT.step_s rfl (fun K hK => ?_); go_simp; refine hK _ ?_; clear hK K))
          (refine Go.RT.skip_w rfl rfl ?_ Go.RT.step_stop)
          (try simp only [Act.put, List.setIfInBounds_toArray, List.set_cons_zero, List.set_cons_succ])
          repeat (first | (refine Go.RT.step_p rfl (fun K hK => ?_); go_simp; refine hK _ ?_; clear hK K) | (refine Go.RT.step_s rfl (fun K hK => ?_); go_simp; refine hK _ ?_; clear hK K))
          refine Go.RT.step_nil ?_
          clear hwr
          go_wp2_with fail
          go_roundw
          case rel => exact ⟨k, by omega, by simp, Lib.hid HE.out.symm, X, Lib.hid (V.out.step (fun _ _ _ => rfl)), Lib.hid HB.out.drew⟩
          case measure => simp [intOf]
        have hmb : decide ((n.mtch.length : Int) < 2 * (countG n.mtch ((k : Int) + 1) : Int)) = true := decide_eq_true (by omega)
        by_cases ht : termAt n.log ((k : Int) + 1) = n.term
        · have htb : (termAt n.log ((k : Int) + 1) == n.term) = true := by simpa using ht
          have HE := Lib.hid (show (k : Int) + 1 = reachedN n from by rw [HS.out, if_pos ⟨ht, by rw [← L3.out]; exact hm⟩])
          clear ht
          have hwr := HWR.out
          refine Go.RT.wp_region_tree [0, 1, 0, 4, 12, 31, 63, 127, 127, 511, 127, 1151, 4095, 8191] (.p 0 (.p 1 (.p 2 (.s 3 (.p 4 (.p 5 (.p 6 (.s 7 (.p 8 (.p 10 (.s 11 (.w 9 [11] (.p 12 (.p 13 .nil)) .stop)))))))))))) (by kernel_rfl) (by kernel_rfl) ?_
          repeat (first | (refine Go.RT.step_p rfl (fun K hK => ?_); go_simp; refine hK _ ?_; clear hK K) | (refine Go.RT.step_s rfl (fun K hK => ?_); go_simp; refine hK _ ?_; clear hK K))
          (refine Go.RT.step_w rfl rfl (fun K hK => ?_) Go.RT.step_stop)
          go_wp2_with fail
          refine (rterm_any _ _ n.log _ _ _ _ _ _ _ _ _ _ _ _ σ.A3 σ.k3 ((k : Int) + 1) hk1 hk2 V.out.hl.drew).mono ?_
          rintro e v2 ⟨rfl, hb2⟩
          have X2 := Lib.hid ((hb2.block _ (MM.blk_lt X.out)).trans X.out)
          have V2 := Lib.hid (V.out.step (w1 := v2) (fun k hk hlt => hb2.block k hlt))
          have HB2 := Lib.hid (HB.out.drew.trans (hb2.mono HB.out.size))
          clear hb2
          have cx1 : v2.cell? ⟨w.heap.size, 1, none⟩ = some (.int .i64 n.term) := MM.cell_blk X2.out rfl
          go_wp2_with fail
          refine Go.RT.QK_normal _ _ _ _ (hK _ _ ?_ ?_) <;> clear hK K
          · repeat (first | exact Go.RT.again_nil | (refine Go.RT.again_not rfl rfl ?_) | (refine Go.RT.again_one rfl (by go_simp <;> rfl) ?_))
          repeat (first | (refine Go.RT.step_p rfl (fun K hK => ?_); go_simp; refine hK _ ?_; clear hK K) | (refine Go.RT.step_s rfl (fun K hK => ?_); go_simp; refine hK _ ?_; clear hK K))
          refine Go.RT.step_nil ?_
          clear hwr
          go_wp2_with fail
          go_ret
          exact ⟨MM.ret_int HE.out, HB2.out⟩
        · have htb : (termAt n.log ((k : Int) + 1) == n.term) = false := by simpa using ht
          have HE := Lib.hid (show reachedN n = reachedFrom n k from by rw [HS.out, if_neg (fun h => ht h.1)])
          clear ht
          have hwr := HWR.out
          refine Go.RT.wp_region_tree [0, 1, 0, 4, 12, 31, 63, 127, 127, 511, 127, 1151, 4095, 8191] (.p 0 (.p 1 (.p 2 (.s 3 (.p 4 (.p 5 (.p 6 (.s 7 (.p 8 (.p 10 (.s 11 (.w 9 [11] (.p 12 (.p 13 .nil)) .stop)))))))))))) (by kernel_rfl) (by kernel_rfl) ?_
          repeat (first | (refine Go.RT.step_p rfl (fun K hK => ?_); go_simp; refine hK _ ?_; clear hK K) | (refine Go.RT.step_s rfl (fun K hK => ?_); go_simp; refine hK _ ?_; clear hK K))
          (refine Go.RT.step_w rfl rfl (fun K hK => ?_) Go.RT.step_stop)
          go_wp2_with fail
          refine (rterm_any _ _ n.log _ _ _ _ _ _ _ _ _ _ _ _ σ.A3 σ.k3 ((k : Int) + 1) hk1 hk2 V.out.hl.drew).mono ?_
          rintro e v2 ⟨rfl, hb2⟩
          have X2 := Lib.hid ((hb2.block _ (MM.blk_lt X.out)).trans X.out)
          have V2 := Lib.hid (V.out.step (w1 := v2) (fun k hk hlt => hb2.block k hlt))
          have HB2 := Lib.hid (HB.out.drew.trans (hb2.mono HB.out.size))
          clear hb2
          have cx1 : v2.cell? ⟨w.heap.size, 1, none⟩ = some (.int .i64 n.term) := MM.cell_blk X2.out rfl
          go_wp2_with fail
          refine Go.RT.QK_normal _ _ _ _ (hK _ _ ?_ ?_) <;> clear hK K
          · repeat (first | exact Go.RT.again_nil | (refine Go.RT.again_not rfl rfl ?_) | (refine Go.RT.again_one rfl (by go_simp <;> rfl) ?_))
          repeat (first | (refine Go.RT.step_p rfl (fun K hK => ?_); go_simp; refine hK _ ?_; clear hK K) | (refine Go.RT.step_s rfl (fun K hK => ?_); go_simp; refine hK _ ?_; clear hK K))
          refine Go.RT.step_nil ?_
          clear hwr
          go_wp2_with fail
          go_roundw
          case rel => exact ⟨k, by omega, by simp, Lib.hid HE.out.symm, X2, V2, HB2⟩
          case measure => simp [intOf]

end Go.Proofs.Ytnkmljdkokcdjaa
