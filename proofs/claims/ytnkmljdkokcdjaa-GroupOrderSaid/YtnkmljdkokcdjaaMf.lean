/-
  voted, reached, match, take of a node at work.
-/
import Derived.WalkKit
import Derived.WalkSpells
import Derived.Lib.Hide
import Derived.Outline
import Derived.Test.YtnkmljdkokcdjaaChecked
import Derived.Test.YtnkmljdkokcdjaaMn
import Derived.Test.YtnkmljdkokcdjaaMem
import Derived.Test.YtnkmljdkokcdjaaFed
import Derived.Test.YtnkmljdkokcdjaaRe0
import Derived.Test.YtnkmljdkokcdjaaRc3
import Derived.Deep.DeepCutAuto
import Derived.Deep.CutBlock
import Derived.IntWalk
set_option linter.unusedVariables false
set_option linter.unusedSimpArgs false
namespace Go.Proofs.Ytnkmljdkokcdjaa
open Go.RowKit Fed
set_option linter.unusedVariables false
attribute [local go_sem high] Fed.max2_int Fed.min2_int

theorem ret_far {w : World} {b : Nat} {o : Obj} (h : w.heap[b]? = some o) {p : Addr} (hne : b ≠ p.block) (u : Value) : (w.setCell p u).heap[b]? = some o := (Below.heap_setCell w p u b hne).trans h

set_option maxRecDepth 100000 in
set_option maxHeartbeats 4000000 in
theorem voted_any (w : World) (B g : Nat) (s : NS) (μ : NM) (m : Fed.Msg) (ve : Value) (h : NodeAt w B g s μ) (ho : s.out.length ≤ 800000) (hl : s.n.log.length ≤ 800000) (hv : s.n.votes.length ≤ 1000) (hi0 : 0 ≤ s.n.id) (hi1 : s.n.id < s.n.votes.length) (hf0 : 0 ≤ m.frm) (hf1 : m.frm < s.n.votes.length) :
    Calls Try.prog 66 #[.pointer (some ⟨g, 0, none⟩), .agg #[.int .i64 m.kind, .int .i64 m.frm, .int .i64 m.to, .int .i64 m.term, .int .i64 m.index, .int .i64 m.logTerm, .bool m.ok, ve, .int .i64 m.commit, .int .i64 m.form]] w
      fun e w' => ∃ μ', e = .returned (.tuple #[]) ∧ NodeAt w' B g (votedS s m) μ' ∧ Below B w w' := by
  have hbs := h.Bsize
  have hn0 := h.alloc (.cells #[.int .i64 m.kind, .int .i64 m.frm, .int .i64 m.to, .int .i64 m.term, .int .i64 m.index, .int .i64 m.logTerm, .bool m.ok, ve, .int .i64 m.commit, .int .i64 m.form] 34)
  have hB0 : Below B w (w.alloc (.cells #[.int .i64 m.kind, .int .i64 m.frm, .int .i64 m.to, .int .i64 m.term, .int .i64 m.index, .int .i64 m.logTerm, .bool m.ok, ve, .int .i64 m.commit, .int .i64 m.form] 34)) := (Below.refl B w).alloc hbs _
  have hX0 := MM.alloc_new w (.cells #[.int .i64 m.kind, .int .i64 m.frm, .int .i64 m.to, .int .i64 m.term, .int .i64 m.index, .int .i64 m.logTerm, .bool m.ok, ve, .int .i64 m.commit, .int .i64 m.form] 34)
  obtain ⟨bx, hbx⟩ : ∃ bx, bx = w.heap.size := ⟨_, rfl⟩
  rw [← hbx] at hX0
  go_enter Try.func66, Try.ntmps66
  go_wp2
  rw [← hbx]
  obtain ⟨w0, hw0⟩ : ∃ W, W = w.alloc (.cells #[.int .i64 m.kind, .int .i64 m.frm, .int .i64 m.to, .int .i64 m.term, .int .i64 m.index, .int .i64 m.logTerm, .bool m.ok, ve, .int .i64 m.commit, .int .i64 m.form] 34) := ⟨_, rfl⟩
  have qN0 : NodeAt (w.alloc (.cells #[.int .i64 m.kind, .int .i64 m.frm, .int .i64 m.to, .int .i64 m.term, .int .i64 m.index, .int .i64 m.logTerm, .bool m.ok, ve, .int .i64 m.commit, .int .i64 m.form] 34)) B g s μ := hn0
  have qB0 : Below B w (w.alloc (.cells #[.int .i64 m.kind, .int .i64 m.frm, .int .i64 m.to, .int .i64 m.term, .int .i64 m.index, .int .i64 m.logTerm, .bool m.ok, ve, .int .i64 m.commit, .int .i64 m.form] 34)) := hB0
  have qX0 : ((w.alloc (.cells #[.int .i64 m.kind, .int .i64 m.frm, .int .i64 m.to, .int .i64 m.term, .int .i64 m.index, .int .i64 m.logTerm, .bool m.ok, ve, .int .i64 m.commit, .int .i64 m.form] 34))).heap[bx]? = some (.cells #[.int .i64 m.kind, .int .i64 m.frm, .int .i64 m.to, .int .i64 m.term, .int .i64 m.index, .int .i64 m.logTerm, .bool m.ok, ve, .int .i64 m.commit, .int .i64 m.form] 34 (0, 0)) := hX0
  rw [← hw0] at qN0 qB0 qX0 ⊢
  have HN0 := Lib.hid qN0
  have HB0 := Lib.hid qB0
  have HX0 := Lib.hid qX0
  clear qN0 qB0 qX0 hw0 hn0 hB0 hX0 h
  have c1 : w0.cell? ⟨g, 1, none⟩ = some (.int .i64 s.n.term) := HN0.out.c 1 _ rfl
  have c5 : w0.cell? ⟨g, 5, none⟩ = some (.int .i64 s.n.role) := HN0.out.c 5 _ rfl
  obtain ⟨A7, k7, e7, u7, _⟩ := HN0.out.hv.slice
  have c7 : w0.cell? ⟨g, 7, none⟩ = some (.slice A7 s.n.votes.length k7) := HN0.out.c 7 _ (by rw [← e7]; rfl)
  have E7 := Lib.hid e7; clear e7
  have d1 : w0.cell? ⟨bx, 1, none⟩ = some (.int .i64 m.frm) := MM.cell_blk HX0.out rfl
  have d3 : w0.cell? ⟨bx, 3, none⟩ = some (.int .i64 m.term) := MM.cell_blk HX0.out rfl
  have d6 : w0.cell? ⟨bx, 6, none⟩ = some (.bool m.ok) := MM.cell_blk HX0.out rfl
  have hge : B ≤ bx := by omega
  have HBX := Lib.hid hbx
  clear hbx
  by_cases hr : s.n.role = 1
  case neg =>
    have hrb : (s.n.role != 1) = true := by simpa using hr
    obtain hS : votedS s m = s := by unfold votedS; rw [if_pos (Or.inl hr)]
    have HS := Lib.hid hS
    clear hr hS
    refine Go.RT.wp_region_tree [0, 1, 3, 7, 15, 31, 63, 127, 255, 127, 639, 1663, 3711, 7807, 16383, 32767, 65535, 131071, 262143, 524287, 1048575] (.p 0 (.p 1 (.p 2 (.p 3 (.s 4 (.p 5 (.p 6 (.p 7 (.s 8 (.p 9 (.p 10 (.p 11 (.p 12 (.s 13 (.p 14 (.p 15 (.p 16 (.p 17 (.s 18 (.p 19 (.p 20 .nil))))))))))))))))))))) (by kernel_rfl) (by kernel_rfl) ?_
    repeat (first | (refine Go.RT.step_p rfl (fun K hK => ?_); go_simp; refine hK _ ?_; clear hK K) | (refine Go.RT.step_s rfl (fun K hK => ?_); go_simp; refine hK _ ?_; clear hK K))
    refine Go.RT.step_nil ?_
    go_wp2
    refine bodyPost_ret (results_none rfl _ _ _) rfl ?_
    exact ⟨μ, rfl, by rw [HS.out]; exact HN0.out.drew, HB0.out.drew⟩
  have hrb : (s.n.role != 1) = false := by simpa using hr
  by_cases ht : m.term = s.n.term
  case neg =>
    have htb : (m.term != s.n.term) = true := by simpa using ht
    obtain hS : votedS s m = s := by unfold votedS; rw [if_pos (Or.inr (Or.inl ht))]
    have HS := Lib.hid hS
    clear hr hS ht
    refine Go.RT.wp_region_tree [0, 1, 3, 7, 15, 31, 63, 127, 255, 127, 639, 1663, 3711, 7807, 16383, 32767, 65535, 131071, 262143, 524287, 1048575] (.p 0 (.p 1 (.p 2 (.p 3 (.s 4 (.p 5 (.p 6 (.p 7 (.s 8 (.p 9 (.p 10 (.p 11 (.p 12 (.s 13 (.p 14 (.p 15 (.p 16 (.p 17 (.s 18 (.p 19 (.p 20 .nil))))))))))))))))))))) (by kernel_rfl) (by kernel_rfl) ?_
    repeat (first | (refine Go.RT.step_p rfl (fun K hK => ?_); go_simp; refine hK _ ?_; clear hK K) | (refine Go.RT.step_s rfl (fun K hK => ?_); go_simp; refine hK _ ?_; clear hK K))
    refine Go.RT.step_nil ?_
    go_wp2
    refine bodyPost_ret (results_none rfl _ _ _) rfl ?_
    exact ⟨μ, rfl, by rw [HS.out]; exact HN0.out.drew, HB0.out.drew⟩
  have htb : (m.term != s.n.term) = false := by simpa using ht
  cases hk : m.ok
  case false =>
    obtain hS : votedS s m = s := by unfold votedS; rw [if_pos (Or.inr (Or.inr hk))]
    have HS := Lib.hid hS
    rw [hk] at d6
    clear hr hS ht
    refine Go.RT.wp_region_tree [0, 1, 3, 7, 15, 31, 63, 127, 255, 127, 639, 1663, 3711, 7807, 16383, 32767, 65535, 131071, 262143, 524287, 1048575] (.p 0 (.p 1 (.p 2 (.p 3 (.s 4 (.p 5 (.p 6 (.p 7 (.s 8 (.p 9 (.p 10 (.p 11 (.p 12 (.s 13 (.p 14 (.p 15 (.p 16 (.p 17 (.s 18 (.p 19 (.p 20 .nil))))))))))))))))))))) (by kernel_rfl) (by kernel_rfl) ?_
    repeat (first | (refine Go.RT.step_p rfl (fun K hK => ?_); go_simp; refine hK _ ?_; clear hK K) | (refine Go.RT.step_s rfl (fun K hK => ?_); go_simp; refine hK _ ?_; clear hK K))
    refine Go.RT.step_nil ?_
    go_wp2
    refine bodyPost_ret (results_none rfl _ _ _) rfl ?_
    exact ⟨μ, rfl, by rw [HS.out]; exact HN0.out.drew, HB0.out.drew⟩
  rw [hk] at d6
  have HS := Lib.hid (show votedS s m = if s.n.votes.length < 2 * countT (votedN s.n m).votes then leadS ⟨votedN s.n m, s.out⟩ else ⟨votedN s.n m, s.out⟩ from by unfold votedS; rw [if_neg (by simp [hr, ht, hk])])
  clear hr ht hk
  refine Go.RT.wp_region_tree [0, 1, 3, 7, 15, 31, 63, 127, 255, 127, 639, 1663, 3711, 7807, 16383, 32767, 65535, 131071, 262143, 524287, 1048575] (.p 0 (.p 1 (.p 2 (.p 3 (.s 4 (.p 5 (.p 6 (.p 7 (.s 8 (.p 9 (.p 10 (.p 11 (.p 12 (.s 13 (.p 14 (.p 15 (.p 16 (.p 17 (.s 18 (.p 19 (.p 20 .nil))))))))))))))))))))) (by kernel_rfl) (by kernel_rfl) ?_
  repeat (first | (refine Go.RT.step_p rfl (fun K hK => ?_); go_simp; refine hK _ ?_; clear hK K) | (refine Go.RT.step_s rfl (fun K hK => ?_); go_simp; refine hK _ ?_; clear hK K))
  refine Go.RT.step_nil ?_
  obtain ⟨bv, hbv⟩ := HN0.out.hv.some_of (by omega)
  have hrv := HN0.out.hv
  rw [hbv] at hrv
  obtain ⟨capv, ev, q1, q2⟩ := hrv.form
  obtain ⟨w1, hw1⟩ : ∃ W, W = w0.drew := ⟨_, rfl⟩
  have qN1 : NodeAt (w0.drew) B g s μ := HN0.out.drew
  have qB1 : Below B w (w0.drew) := HB0.out.drew
  have qX1 : ((w0.drew)).heap[bx]? = some (.cells #[.int .i64 m.kind, .int .i64 m.frm, .int .i64 m.to, .int .i64 m.term, .int .i64 m.index, .int .i64 m.logTerm, .bool m.ok, ve, .int .i64 m.commit, .int .i64 m.form] 34 (0, 0)) := HX0.out
  rw [← hw1] at qN1 qB1 qX1 ⊢
  have HN1 := Lib.hid qN1
  have HB1 := Lib.hid qB1
  have HX1 := Lib.hid qX1
  clear qN1 qB1 qX1 hw1 c1 c5 c7 d1 d3 d6 hrb htb HX0 HB0 HN0
  have c7 : w1.cell? ⟨g, 7, none⟩ = some (.slice (some ⟨bv, 0, none⟩) s.n.votes.length capv) := HN1.out.c 7 _ (by rw [← ev]; rfl)
  have d1 : w1.cell? ⟨bx, 1, none⟩ = some (.int .i64 m.frm) := MM.cell_blk HX1.out rfl
  have hrv := HN1.out.hv
  rw [hbv] at hrv
  have hin : m.frm.toNat < s.n.votes.length := by omega
  have ce : w1.cell? ⟨bv, m.frm.toNat, none⟩ = some (.bool (s.n.votes.getD m.frm.toNat false)) := hrv.cell (boolsC_get hin)
  have fe : w1.frozen? ⟨bv, m.frm.toNat, none⟩ = false := hrv.free _
  have hge2 := (hrv.lt bv rfl).1
  have HBV := Lib.hid hbv
  have HIN := Lib.hid hin
  clear hrv ev hbv hin
  go_wp2
  refine Go.RT.wp_region_tree [0, 1, 3, 7, 15, 0, 32, 127, 255] (.p 0 (.p 1 (.p 2 (.p 3 (.s 4 (.p 5 (.s 6 (.p 7 (.w 8 [] .nil .stop))))))))) (by kernel_rfl) (by kernel_rfl) ?_
  repeat (first | (refine Go.RT.step_p rfl (fun K hK => ?_); go_simp; refine hK _ ?_; clear hK K) | (refine Go.RT.step_s rfl (fun K hK => ?_); go_simp; refine hK _ ?_; clear hK K))
  (refine Go.RT.step_w rfl rfl (fun K hK => ?_) Go.RT.step_stop)
  go_wp2
  refine Go.RT.QK_normal _ _ _ _ (hK _ _ ?_ ?_) <;> clear hK K
  · repeat (first | exact Go.RT.again_nil | (refine Go.RT.again_not rfl rfl ?_) | (refine Go.RT.again_one rfl (by go_simp <;> rfl) ?_))
  refine Go.RT.step_nil ?_
  obtain ⟨w2, hw2⟩ : ∃ W, W = (w1.setCell ⟨bv, m.frm.toNat, none⟩ (.bool true)).drew := ⟨_, rfl⟩
  have qN2 : NodeAt ((w1.setCell ⟨bv, m.frm.toNat, none⟩ (.bool true)).drew) B g ⟨votedN s.n m, s.out⟩ μ := (HN1.out.set_v (x := true) HBV.out HIN.out).drew
  have qB2 : Below B w ((w1.setCell ⟨bv, m.frm.toNat, none⟩ (.bool true)).drew) := (HB1.out.setCell (p := ⟨bv, m.frm.toNat, none⟩) hge2 _).drew
  rw [← hw2] at qN2 qB2 ⊢
  have HN2 := Lib.hid qN2
  have HB2 := Lib.hid qB2
  clear qN2 qB2 hw2 c7 d1 ce fe HX1 HN1 HB1
  have hln : (votedN s.n m).votes.length = s.n.votes.length := by simp [votedN]
  obtain ⟨V, hV⟩ : ∃ V, V = (votedN s.n m).votes := ⟨_, rfl⟩
  have hVl : V.length = s.n.votes.length := by rw [hV]; exact hln
  have hrv := HN2.out.hv
  rw [HBV.out] at hrv
  obtain ⟨capw, ew, q3, q4⟩ := hrv.form
  have c7 : w2.cell? ⟨g, 7, none⟩ = some (.slice (some ⟨bv, 0, none⟩) V.length capw) := HN2.out.c 7 _ (by rw [hV, ← ew]; rfl)
  have HCE := Lib.hid (show ∀ j, j < V.length → w2.cell? ⟨bv, j, none⟩ = some (.bool (V.getD j false)) from fun j hj => by rw [hV] at hj ⊢; exact hrv.cell (boolsC_get hj))
  have HV := Lib.hid hV
  have HVL := Lib.hid hVl
  have hVm : V.length ≤ 1000 := by omega
  clear hrv ew hV hln hVl
  go_wp2
  go_loop [4, 42] (fun t4 t42 => ∃ j : Nat, j ≤ V.length ∧ t4 = .int .i64 (countT (V.take j)) ∧ t42 = .int .i64 j) (fun _ t42 => V.length - (intOf t42).toNat)
  case atStart => exact ⟨0, by omega, rfl, rfl⟩
  case round =>
    obtain ⟨j, hj, rfl, rfl⟩ := hrel
    have hcl := countT_take_le V j
    by_cases hlt : j < V.length
    · have hce := HCE.out j hlt
      have hts := countT_take_succ hlt
      cases hb : V.getD j false
      · rw [hb] at hce hts
        have HT := Lib.hid (show countT (V.take (j + 1)) = countT (V.take j) from by simpa using hts)
        clear hts hb
        go_wp2
        go_round
        case rel => exact ⟨j + 1, by omega, by rw [HT.out], by go_num⟩
        case measure => simp [intOf]; omega
      · rw [hb] at hce hts
        have HT := Lib.hid (show countT (V.take (j + 1)) = countT (V.take j) + 1 from by simpa using hts)
        clear hts hb
        go_wp2
        go_round
        case rel => exact ⟨j + 1, by omega, by rw [HT.out]; go_num, by go_num⟩
        case measure => simp [intOf]; omega
    · obtain rfl : j = V.length := by omega
      rw [List.take_length] at hcl ⊢
      by_cases hmj : s.n.votes.length < 2 * countT V
      · have HS2 := Lib.hid (show votedS s m = leadS ⟨votedN s.n m, s.out⟩ from by rw [HS.out, if_pos (by rw [← HV.out]; exact hmj)])
        have hb : decide (((⟨votedN s.n m, s.out⟩ : NS).n.votes.length : Int) < 2 * (countT V : Int)) = true := decide_eq_true (by show ((votedN s.n m).votes.length : Int) < _; rw [← HV.out, HVL.out]; omega)
        clear hmj
        go_wp2_with fail
        refine (majority_any _ B g _ _ (countT V) (by omega) (by omega) HN2.out).mono ?_
        rintro e w3 ⟨rfl, rfl⟩
        go_wp2_with fail
        refine (lead_any _ B g _ _ HN2.out (by show s.out.length ≤ 900000; omega) (by show s.n.log.length ≤ 900000; omega) (by show (votedN s.n m).votes.length ≤ 1000; rw [← HV.out]; omega) hi0 (by show s.n.id < ((votedN s.n m).votes.length : Int); rw [← HV.out, HVL.out]; exact hi1)).mono ?_
        rintro e w3 ⟨μ3, rfl, hn3, hb3⟩
        go_wp2_with fail
        go_end0
        exact ⟨μ3, rfl, by rw [HS2.out]; exact hn3, HB2.out.trans hb3⟩
      · have HS2 := Lib.hid (show votedS s m = ⟨votedN s.n m, s.out⟩ from by rw [HS.out, if_neg (by rw [← HV.out]; exact hmj)])
        have hb : decide (((⟨votedN s.n m, s.out⟩ : NS).n.votes.length : Int) < 2 * (countT V : Int)) = false := decide_eq_false (by show ¬ ((votedN s.n m).votes.length : Int) < _; rw [← HV.out, HVL.out]; omega)
        clear hmj
        go_wp2_with fail
        refine (majority_any _ B g _ _ (countT V) (by omega) (by omega) HN2.out).mono ?_
        rintro e w3 ⟨rfl, rfl⟩
        go_wp2_with fail
        go_end0
        exact ⟨μ, rfl, by rw [HS2.out]; exact HN2.out, HB2.out⟩

end Go.Proofs.Ytnkmljdkokcdjaa
namespace Go.Proofs.Ytnkmljdkokcdjaa
open Go.RowKit Fed
set_option linter.unusedVariables false
attribute [local go_sem high] Fed.max2_int Fed.min2_int

set_option maxRecDepth 100000 in
set_option maxHeartbeats 4000000 in
theorem reached_any (w : World) (B g : Nat) (s : NS) (μ : NM) (h : NodeAt w B g s μ) (hl : s.n.log.length ≤ 800000) (hv : s.n.mtch.length ≤ 1000) (hv0 : 0 < s.n.mtch.length) (hc0 : 0 ≤ s.n.commit) :
    Calls Try.prog 108 #[.pointer (some ⟨g, 0, none⟩)] w
      fun e w' => e = .returned (.int .i64 (reachedN s.n)) ∧ NodeAt w' B g s μ ∧ Below B w w' := by
  have H := Lib.hid h
  clear h
  go_enter Try.func108, Try.ntmps108
  go_wp2_with fail
  refine (last_any _ B g _ _ H.out).mono ?_
  rintro e w2 ⟨rfl, rfl⟩
  go_wp2_with fail
  go_loopw [3] (fun t3 wr => ∃ a : Nat, a ≤ s.n.log.length ∧ t3 = .int .i64 a ∧ Hid (reachedFrom s.n a = reachedN s.n) ∧ Hid (NodeAt wr B g s μ) ∧ Hid (Below B w wr)) (fun t3 _ => (intOf t3).toNat)
  case atStart => exact ⟨s.n.log.length, Nat.le_refl _, rfl, Lib.hid rfl, H, Lib.hid (Below.refl _ _)⟩
  case round =>
    obtain ⟨a, ha, rfl, HR, HN, HB⟩ := hrel
    clear H
    have c6 : wr.cell? ⟨g, 6, none⟩ = some (.int .i64 s.n.commit) := HN.out.c 6 _ rfl
    have c1 : wr.cell? ⟨g, 1, none⟩ = some (.int .i64 s.n.term) := HN.out.c 1 _ rfl
    obtain ⟨bm, hbm⟩ := HN.out.hm.some_of (by omega)
    have hrm := HN.out.hm
    rw [hbm] at hrm
    obtain ⟨capm, em, qm1, qm2⟩ := hrm.form
    have c9 : wr.cell? ⟨g, 9, none⟩ = some (.slice (some ⟨bm, 0, none⟩) s.n.mtch.length capm) := HN.out.c 9 _ (congrArg some em)
    have HRm := Lib.hid hrm
    have HBm := Lib.hid hbm
    clear em hrm hbm
    have HCE := Lib.hid (show ∀ j, j < s.n.mtch.length → wr.cell? ⟨bm, j, none⟩ = some (.int .i64 (s.n.mtch.getD j 0)) from fun j hj => HRm.out.cell (intsC_get hj))
    by_cases hgt : s.n.commit < (a : Int)
    case neg =>
      have hgb : decide (s.n.commit < (a : Int)) = false := decide_eq_false hgt
      have HE := Lib.hid (show s.n.commit = reachedN s.n from by
        rw [← HR.out]
        cases a with
        | zero => rfl
        | succ k => unfold reachedFrom; rw [if_pos (by omega)])
      clear hgt
      go_wp2
      go_ret
      exact ⟨MM.ret_int HE.out, HN.out, HB.out⟩
    obtain ⟨k, rfl⟩ : ∃ k, a = k + 1 := ⟨a - 1, by omega⟩
    have hgb : decide (s.n.commit < (k : Int) + 1) = true := decide_eq_true (by omega)
    go_wp2
    go_loop [4, 24] (fun t4 t24 => ∃ j : Nat, j ≤ s.n.mtch.length ∧ t4 = .int .i64 (countG (s.n.mtch.take j) ((k : Int) + 1)) ∧ t24 = .int .i64 j) (fun _ t24 => s.n.mtch.length - (intOf t24).toNat)
    case atStart => exact ⟨0, by omega, rfl, rfl⟩
    case round =>
      obtain ⟨j, hj, rfl, rfl⟩ := hrel
      have hcl := countG_take_le s.n.mtch ((k : Int) + 1) j
      by_cases hlt : j < s.n.mtch.length
      · have hce := HCE.out j hlt
        have hts := countG_take_succ (x := (k : Int) + 1) hlt
        obtain ⟨x, hx⟩ : ∃ x, x = s.n.mtch.getD j 0 := ⟨_, rfl⟩
        rw [← hx] at hce hts
        clear hx
        by_cases hb : (k : Int) + 1 ≤ x
        · have hbb : decide ((k : Int) + 1 ≤ x) = true := decide_eq_true hb
          have HT := Lib.hid (show countG (s.n.mtch.take (j + 1)) ((k : Int) + 1) = countG (s.n.mtch.take j) ((k : Int) + 1) + 1 from by rw [hts, if_pos hb])
          clear hts hb
          go_wp2
          go_round
          case rel => exact ⟨j + 1, by omega, by rw [HT.out]; go_num, by go_num⟩
          case measure => simp [intOf]; omega
        · have hbb : decide ((k : Int) + 1 ≤ x) = false := decide_eq_false hb
          have HT := Lib.hid (show countG (s.n.mtch.take (j + 1)) ((k : Int) + 1) = countG (s.n.mtch.take j) ((k : Int) + 1) from by rw [hts, if_neg hb]; rfl)
          clear hts hb
          go_wp2
          go_round
          case rel => exact ⟨j + 1, by omega, by rw [HT.out], by go_num⟩
          case measure => simp [intOf]; omega
      · obtain rfl : j = s.n.mtch.length := by omega
        rw [List.take_length] at hcl ⊢
        have HS := Lib.hid (show reachedN s.n = if termAt s.n.log ((k : Int) + 1) = s.n.term ∧ s.n.votes.length < 2 * countG s.n.mtch ((k : Int) + 1) then ((k : Int) + 1) else reachedFrom s.n k from by
          rw [← HR.out]
          conv => lhs; unfold reachedFrom
          rw [if_neg (by omega)]
          simp)
        clear HR hgt
        go_wp2_with fail
        by_cases ht : termAt s.n.log ((k : Int) + 1) = s.n.term
        case neg =>
          have htb : (termAt s.n.log ((k : Int) + 1) == s.n.term) = false := by simpa using ht
          have HE := Lib.hid (show reachedN s.n = reachedFrom s.n k from by rw [HS.out, if_neg (fun h => ht h.1)])
          clear ht
          refine Go.RT.wp_region_tree [0, 0, 3, 0, 8, 24, 56, 120, 255, 511, 1023, 1023, 4095, 8191] (.p 0 (.p 1 (.p 3 (.p 4 (.p 5 (.p 6 (.s 7 (.w 2 [7] (.p 8 (.p 9 (.p 10 (.p 11 (.w 12 [] (.p 13 .nil) .stop))))) .stop)))))))) (by kernel_rfl) (by kernel_rfl) ?_
          repeat (first | (refine Go.RT.step_p rfl (fun K hK => ?_); go_simp; refine hK _ ?_; clear hK K) | (refine Go.RT.step_s rfl (fun K hK => ?_); go_simp; refine hK _ ?_; clear hK K))
          (refine Go.RT.step_w rfl rfl (fun K hK => ?_) Go.RT.step_stop)
          go_wp2_with fail
          refine (term_any _ B g s μ _ (by omega) (by omega) (HN.out.below (by repeat (first | exact Below.refl _ _ | refine Below.setCell ?_ (by simp) _ | refine Below.alloc ?_ (by simp) _ | refine Below.drew ?_)))).mono ?_
          rintro e w2 ⟨rfl, rfl⟩
          go_wp2_with fail
          refine Go.RT.QK_normal _ _ _ _ (hK _ _ ?_ ?_) <;> clear hK K
          · repeat (first | exact Go.RT.again_nil | (refine Go.RT.again_not rfl rfl ?_) | (refine Go.RT.again_one rfl (by go_simp <;> rfl) ?_))
          repeat (first | (refine Go.RT.step_p rfl (fun K hK => ?_); go_simp; refine hK _ ?_; clear hK K) | (refine Go.RT.step_s rfl (fun K hK => ?_); go_simp; refine hK _ ?_; clear hK K))
          (refine Go.RT.skip_w rfl rfl ?_ Go.RT.step_stop)
          (try simp only [Act.put, List.setIfInBounds_toArray, List.set_cons_zero, List.set_cons_succ])
          repeat (first | (refine Go.RT.step_p rfl (fun K hK => ?_); go_simp; refine hK _ ?_; clear hK K) | (refine Go.RT.step_s rfl (fun K hK => ?_); go_simp; refine hK _ ?_; clear hK K))
          refine Go.RT.step_nil ?_
          go_wp2
          go_roundw
          case rel => exact ⟨k, by omega, by simp, Lib.hid HE.out.symm, Lib.hid HN.out.drew, Lib.hid HB.out.drew⟩
          case measure => simp [intOf]
        have htb : (termAt s.n.log ((k : Int) + 1) == s.n.term) = true := by simpa using ht
        by_cases hm : s.n.votes.length < 2 * countG s.n.mtch ((k : Int) + 1)
        · have hmb : decide ((s.n.votes.length : Int) < 2 * (countG s.n.mtch ((k : Int) + 1) : Int)) = true := decide_eq_true (by omega)
          have HE := Lib.hid (show (k : Int) + 1 = reachedN s.n from by rw [HS.out, if_pos ⟨ht, hm⟩])
          clear ht hm
          refine Go.RT.wp_region_tree [0, 0, 3, 0, 8, 24, 56, 120, 255, 511, 1023, 1023, 4095, 8191] (.p 0 (.p 1 (.p 3 (.p 4 (.p 5 (.p 6 (.s 7 (.w 2 [7] (.p 8 (.p 9 (.p 10 (.p 11 (.w 12 [] (.p 13 .nil) .stop))))) .stop)))))))) (by kernel_rfl) (by kernel_rfl) ?_
          repeat (first | (refine Go.RT.step_p rfl (fun K hK => ?_); go_simp; refine hK _ ?_; clear hK K) | (refine Go.RT.step_s rfl (fun K hK => ?_); go_simp; refine hK _ ?_; clear hK K))
          (refine Go.RT.step_w rfl rfl (fun K hK => ?_) Go.RT.step_stop)
          go_wp2_with fail
          refine (term_any _ B g s μ _ (by omega) (by omega) (HN.out.below (by repeat (first | exact Below.refl _ _ | refine Below.setCell ?_ (by simp) _ | refine Below.alloc ?_ (by simp) _ | refine Below.drew ?_)))).mono ?_
          rintro e w2 ⟨rfl, rfl⟩
          go_wp2_with fail
          refine Go.RT.QK_normal _ _ _ _ (hK _ _ ?_ ?_) <;> clear hK K
          · repeat (first | exact Go.RT.again_nil | (refine Go.RT.again_not rfl rfl ?_) | (refine Go.RT.again_one rfl (by go_simp <;> rfl) ?_))
          repeat (first | (refine Go.RT.step_p rfl (fun K hK => ?_); go_simp; refine hK _ ?_; clear hK K) | (refine Go.RT.step_s rfl (fun K hK => ?_); go_simp; refine hK _ ?_; clear hK K))
          (refine Go.RT.step_w rfl rfl (fun K hK => ?_) Go.RT.step_stop)
          go_wp2_with fail
          refine (majority_any _ B g s μ _ (by omega) (by omega) (HN.out.below (by repeat (first | exact Below.refl _ _ | refine Below.setCell ?_ (by simp) _ | refine Below.alloc ?_ (by simp) _ | refine Below.drew ?_)))).mono ?_
          rintro e w2 ⟨rfl, rfl⟩
          go_wp2_with fail
          refine Go.RT.QK_normal _ _ _ _ (hK _ _ ?_ ?_) <;> clear hK K
          · repeat (first | exact Go.RT.again_nil | (refine Go.RT.again_not rfl rfl ?_) | (refine Go.RT.again_one rfl (by go_simp <;> rfl) ?_))
          repeat (first | (refine Go.RT.step_p rfl (fun K hK => ?_); go_simp; refine hK _ ?_; clear hK K) | (refine Go.RT.step_s rfl (fun K hK => ?_); go_simp; refine hK _ ?_; clear hK K))
          refine Go.RT.step_nil ?_
          go_wp2
          go_ret
          exact ⟨MM.ret_int HE.out, HN.out.drew, HB.out.drew⟩
        · have hmb : decide ((s.n.votes.length : Int) < 2 * (countG s.n.mtch ((k : Int) + 1) : Int)) = false := decide_eq_false (by omega)
          have HE := Lib.hid (show reachedN s.n = reachedFrom s.n k from by rw [HS.out, if_neg (fun h => hm h.2)])
          clear ht hm
          refine Go.RT.wp_region_tree [0, 0, 3, 0, 8, 24, 56, 120, 255, 511, 1023, 1023, 4095, 8191] (.p 0 (.p 1 (.p 3 (.p 4 (.p 5 (.p 6 (.s 7 (.w 2 [7] (.p 8 (.p 9 (.p 10 (.p 11 (.w 12 [] (.p 13 .nil) .stop))))) .stop)))))))) (by kernel_rfl) (by kernel_rfl) ?_
          repeat (first | (refine Go.RT.step_p rfl (fun K hK => ?_); go_simp; refine hK _ ?_; clear hK K) | (refine Go.RT.step_s rfl (fun K hK => ?_); go_simp; refine hK _ ?_; clear hK K))
          (refine Go.RT.step_w rfl rfl (fun K hK => ?_) Go.RT.step_stop)
          go_wp2_with fail
          refine (term_any _ B g s μ _ (by omega) (by omega) (HN.out.below (by repeat (first | exact Below.refl _ _ | refine Below.setCell ?_ (by simp) _ | refine Below.alloc ?_ (by simp) _ | refine Below.drew ?_)))).mono ?_
          rintro e w2 ⟨rfl, rfl⟩
          go_wp2_with fail
          refine Go.RT.QK_normal _ _ _ _ (hK _ _ ?_ ?_) <;> clear hK K
          · repeat (first | exact Go.RT.again_nil | (refine Go.RT.again_not rfl rfl ?_) | (refine Go.RT.again_one rfl (by go_simp <;> rfl) ?_))
          repeat (first | (refine Go.RT.step_p rfl (fun K hK => ?_); go_simp; refine hK _ ?_; clear hK K) | (refine Go.RT.step_s rfl (fun K hK => ?_); go_simp; refine hK _ ?_; clear hK K))
          (refine Go.RT.step_w rfl rfl (fun K hK => ?_) Go.RT.step_stop)
          go_wp2_with fail
          refine (majority_any _ B g s μ _ (by omega) (by omega) (HN.out.below (by repeat (first | exact Below.refl _ _ | refine Below.setCell ?_ (by simp) _ | refine Below.alloc ?_ (by simp) _ | refine Below.drew ?_)))).mono ?_
          rintro e w2 ⟨rfl, rfl⟩
          go_wp2_with fail
          refine Go.RT.QK_normal _ _ _ _ (hK _ _ ?_ ?_) <;> clear hK K
          · repeat (first | exact Go.RT.again_nil | (refine Go.RT.again_not rfl rfl ?_) | (refine Go.RT.again_one rfl (by go_simp <;> rfl) ?_))
          repeat (first | (refine Go.RT.step_p rfl (fun K hK => ?_); go_simp; refine hK _ ?_; clear hK K) | (refine Go.RT.step_s rfl (fun K hK => ?_); go_simp; refine hK _ ?_; clear hK K))
          refine Go.RT.step_nil ?_
          go_wp2
          go_roundw
          case rel => exact ⟨k, by omega, by simp, Lib.hid HE.out.symm, Lib.hid HN.out.drew, Lib.hid HB.out.drew⟩
          case measure => simp [intOf]

end Go.Proofs.Ytnkmljdkokcdjaa
namespace Go.Proofs.Ytnkmljdkokcdjaa
open Go.RowKit Fed
set_option linter.unusedVariables false
attribute [local go_sem high] Fed.max2_int Fed.min2_int

set_option maxRecDepth 100000 in
set_option maxHeartbeats 4000000 in
theorem match_any (w : World) (B g : Nat) (s : NS) (μ : NM) (m : Fed.Msg) (ve : Value) (h : NodeAt w B g s μ) (ho : s.out.length ≤ 800000) (hl : s.n.log.length ≤ 800000) (hv : s.n.votes.length ≤ 1000) (hf0 : 0 ≤ m.frm) (hf1 : m.frm < s.n.votes.length)
    (hn : s.n.nxt.length = s.n.votes.length) (hm : s.n.mtch.length = s.n.votes.length) (hf : s.n.forms.length = s.n.votes.length) (hc0 : 0 ≤ s.n.commit) (hx : ∀ i, i < s.n.nxt.length → -1000000 ≤ s.n.nxt.getD i 0 ∧ s.n.nxt.getD i 0 ≤ 1000000) (hy : ∀ i, i < s.n.mtch.length → -1000000 ≤ s.n.mtch.getD i 0 ∧ s.n.mtch.getD i 0 ≤ 1000000) (hz : -1000000 ≤ m.index ∧ m.index ≤ 1000000) :
    Calls Try.prog 68 #[.pointer (some ⟨g, 0, none⟩), .agg #[.int .i64 m.kind, .int .i64 m.frm, .int .i64 m.to, .int .i64 m.term, .int .i64 m.index, .int .i64 m.logTerm, .bool m.ok, ve, .int .i64 m.commit, .int .i64 m.form]] w
      fun e w' => ∃ μ', e = .returned (.tuple #[]) ∧ NodeAt w' B g (matchS s m) μ' ∧ Below B w w' := by
  have hbs := h.Bsize
  have hn0 := h.alloc (.cells #[.int .i64 m.kind, .int .i64 m.frm, .int .i64 m.to, .int .i64 m.term, .int .i64 m.index, .int .i64 m.logTerm, .bool m.ok, ve, .int .i64 m.commit, .int .i64 m.form] 34)
  have hB0 : Below B w (w.alloc (.cells #[.int .i64 m.kind, .int .i64 m.frm, .int .i64 m.to, .int .i64 m.term, .int .i64 m.index, .int .i64 m.logTerm, .bool m.ok, ve, .int .i64 m.commit, .int .i64 m.form] 34)) := (Below.refl B w).alloc hbs _
  have hX0 := MM.alloc_new w (.cells #[.int .i64 m.kind, .int .i64 m.frm, .int .i64 m.to, .int .i64 m.term, .int .i64 m.index, .int .i64 m.logTerm, .bool m.ok, ve, .int .i64 m.commit, .int .i64 m.form] 34)
  obtain ⟨bx, hbx⟩ : ∃ bx, bx = w.heap.size := ⟨_, rfl⟩
  rw [← hbx] at hX0
  go_enter Try.func68, Try.ntmps68
  go_wp2
  rw [← hbx]
  obtain ⟨w0, hw0⟩ : ∃ W, W = w.alloc (.cells #[.int .i64 m.kind, .int .i64 m.frm, .int .i64 m.to, .int .i64 m.term, .int .i64 m.index, .int .i64 m.logTerm, .bool m.ok, ve, .int .i64 m.commit, .int .i64 m.form] 34) := ⟨_, rfl⟩
  have qN0 : NodeAt (w.alloc (.cells #[.int .i64 m.kind, .int .i64 m.frm, .int .i64 m.to, .int .i64 m.term, .int .i64 m.index, .int .i64 m.logTerm, .bool m.ok, ve, .int .i64 m.commit, .int .i64 m.form] 34)) B g s μ := hn0
  have qB0 : Below B w (w.alloc (.cells #[.int .i64 m.kind, .int .i64 m.frm, .int .i64 m.to, .int .i64 m.term, .int .i64 m.index, .int .i64 m.logTerm, .bool m.ok, ve, .int .i64 m.commit, .int .i64 m.form] 34)) := hB0
  have qX0 : ((w.alloc (.cells #[.int .i64 m.kind, .int .i64 m.frm, .int .i64 m.to, .int .i64 m.term, .int .i64 m.index, .int .i64 m.logTerm, .bool m.ok, ve, .int .i64 m.commit, .int .i64 m.form] 34))).heap[bx]? = some (.cells #[.int .i64 m.kind, .int .i64 m.frm, .int .i64 m.to, .int .i64 m.term, .int .i64 m.index, .int .i64 m.logTerm, .bool m.ok, ve, .int .i64 m.commit, .int .i64 m.form] 34 (0, 0)) := hX0
  rw [← hw0] at qN0 qB0 qX0 ⊢
  have HN0 := Lib.hid qN0
  have HB0 := Lib.hid qB0
  have HX0 := Lib.hid qX0
  clear qN0 qB0 qX0 hw0 hn0 hB0 hX0 h
  have c1 : w0.cell? ⟨g, 1, none⟩ = some (.int .i64 s.n.term) := HN0.out.c 1 _ rfl
  have c5 : w0.cell? ⟨g, 5, none⟩ = some (.int .i64 s.n.role) := HN0.out.c 5 _ rfl
  have d1 : w0.cell? ⟨bx, 1, none⟩ = some (.int .i64 m.frm) := MM.cell_blk HX0.out rfl
  have d3 : w0.cell? ⟨bx, 3, none⟩ = some (.int .i64 m.term) := MM.cell_blk HX0.out rfl
  have d4 : w0.cell? ⟨bx, 4, none⟩ = some (.int .i64 m.index) := MM.cell_blk HX0.out rfl
  have d6 : w0.cell? ⟨bx, 6, none⟩ = some (.bool m.ok) := MM.cell_blk HX0.out rfl
  have d9 : w0.cell? ⟨bx, 9, none⟩ = some (.int .i64 m.form) := MM.cell_blk HX0.out rfl
  have hge : B ≤ bx := by omega
  have HBX := Lib.hid hbx
  clear hbx
  by_cases hr : s.n.role = 2
  case neg =>
    have hrb : (s.n.role != 2) = true := by simpa using hr
    have HS := Lib.hid (show matchS s m = s from by unfold matchS; rw [if_pos (Or.inl hr)])
    clear hr hx hy
    refine Go.RT.wp_region_tree [0, 1, 3, 7, 15, 31, 63, 127, 255, 127, 639, 1663, 3711, 7807, 16383, 32767] (.p 0 (.p 1 (.p 2 (.p 3 (.s 4 (.p 5 (.p 6 (.p 7 (.s 8 (.p 9 (.p 10 (.p 11 (.p 12 (.s 13 (.p 14 (.p 15 .nil)))))))))))))))) (by kernel_rfl) (by kernel_rfl) ?_
    repeat (first | (refine Go.RT.step_p rfl (fun K hK => ?_); go_simp; refine hK _ ?_; clear hK K) | (refine Go.RT.step_s rfl (fun K hK => ?_); go_simp; refine hK _ ?_; clear hK K))
    refine Go.RT.step_nil ?_
    go_wp2
    refine bodyPost_ret (results_none rfl _ _ _) rfl ?_
    exact ⟨μ, rfl, by rw [HS.out]; exact HN0.out.drew, HB0.out.drew⟩
  have hrb : (s.n.role != 2) = false := by simpa using hr
  by_cases ht : m.term = s.n.term
  case neg =>
    have htb : (m.term != s.n.term) = true := by simpa using ht
    have HS := Lib.hid (show matchS s m = s from by unfold matchS; rw [if_pos (Or.inr ht)])
    clear hr ht hx hy
    refine Go.RT.wp_region_tree [0, 1, 3, 7, 15, 31, 63, 127, 255, 127, 639, 1663, 3711, 7807, 16383, 32767] (.p 0 (.p 1 (.p 2 (.p 3 (.s 4 (.p 5 (.p 6 (.p 7 (.s 8 (.p 9 (.p 10 (.p 11 (.p 12 (.s 13 (.p 14 (.p 15 .nil)))))))))))))))) (by kernel_rfl) (by kernel_rfl) ?_
    repeat (first | (refine Go.RT.step_p rfl (fun K hK => ?_); go_simp; refine hK _ ?_; clear hK K) | (refine Go.RT.step_s rfl (fun K hK => ?_); go_simp; refine hK _ ?_; clear hK K))
    refine Go.RT.step_nil ?_
    go_wp2
    refine bodyPost_ret (results_none rfl _ _ _) rfl ?_
    exact ⟨μ, rfl, by rw [HS.out]; exact HN0.out.drew, HB0.out.drew⟩
  have htb : (m.term != s.n.term) = false := by simpa using ht
  have HS := Lib.hid (show matchS s m = if m.ok = false then ⟨matchNo s.n m, s.out ++ [entriesMsg (matchNo s.n m) m.frm]⟩ else ⟨matchYes s.n m, s.out⟩ from by unfold matchS; rw [if_neg (by simp [hr, ht])])
  clear hr ht
  have HXX := Lib.hid hx
  have HYY := Lib.hid hy
  obtain ⟨ln, ln1⟩ := HXX.out m.frm.toNat (by omega)
  obtain ⟨lm, lm1⟩ := HYY.out m.frm.toNat (by omega)
  obtain ⟨X, hX⟩ : ∃ X, X = s.n.nxt.getD m.frm.toNat 0 := ⟨_, rfl⟩
  obtain ⟨Y, hY⟩ : ∃ Y, Y = s.n.mtch.getD m.frm.toNat 0 := ⟨_, rfl⟩
  rw [← hX] at ln ln1
  rw [← hY] at lm lm1
  have HNV := Lib.hid hn
  have HMV := Lib.hid hm
  have HFV := Lib.hid hf
  have hin : m.frm.toNat < s.n.votes.length := by omega
  have hinf : m.frm < (s.n.forms.length : Int) := by omega
  have hinn : m.frm < (s.n.nxt.length : Int) := by omega
  have hinm : m.frm < (s.n.mtch.length : Int) := by omega
  have HIN := Lib.hid hin
  clear hx hy hn hm hf hin
  refine Go.RT.wp_region_tree [0, 1, 3, 7, 15, 31, 63, 127, 255, 127, 639, 1663, 3711, 7807, 16383, 32767] (.p 0 (.p 1 (.p 2 (.p 3 (.s 4 (.p 5 (.p 6 (.p 7 (.s 8 (.p 9 (.p 10 (.p 11 (.p 12 (.s 13 (.p 14 (.p 15 .nil)))))))))))))))) (by kernel_rfl) (by kernel_rfl) ?_
  repeat (first | (refine Go.RT.step_p rfl (fun K hK => ?_); go_simp; refine hK _ ?_; clear hK K) | (refine Go.RT.step_s rfl (fun K hK => ?_); go_simp; refine hK _ ?_; clear hK K))
  refine Go.RT.step_nil ?_
  obtain ⟨w1, hw1⟩ : ∃ W, W = w0.drew := ⟨_, rfl⟩
  have qN1 : NodeAt (w0.drew) B g s μ := HN0.out.drew
  have qB1 : Below B w (w0.drew) := HB0.out.drew
  have qX1 : ((w0.drew)).heap[bx]? = some (.cells #[.int .i64 m.kind, .int .i64 m.frm, .int .i64 m.to, .int .i64 m.term, .int .i64 m.index, .int .i64 m.logTerm, .bool m.ok, ve, .int .i64 m.commit, .int .i64 m.form] 34 (0, 0)) := HX0.out
  rw [← hw1] at qN1 qB1 qX1 ⊢
  have HN1 := Lib.hid qN1
  have HB1 := Lib.hid qB1
  have HX1 := Lib.hid qX1
  clear qN1 qB1 qX1 hw1 c1 c5 d1 d3 d4 d6 d9 hrb htb HX0 HB0 HN0
  have d1 : w1.cell? ⟨bx, 1, none⟩ = some (.int .i64 m.frm) := MM.cell_blk HX1.out rfl
  have d4 : w1.cell? ⟨bx, 4, none⟩ = some (.int .i64 m.index) := MM.cell_blk HX1.out rfl
  have d6 : w1.cell? ⟨bx, 6, none⟩ = some (.bool m.ok) := MM.cell_blk HX1.out rfl
  have d9 : w1.cell? ⟨bx, 9, none⟩ = some (.int .i64 m.form) := MM.cell_blk HX1.out rfl
  obtain ⟨bf, hbf⟩ := HN1.out.hf.some_of (by rw [HFV.out]; omega)
  have hrf := HN1.out.hf
  rw [hbf] at hrf
  obtain ⟨capf, ef, qf1, qf2⟩ := hrf.form
  have c10 : w1.cell? ⟨g, 10, none⟩ = some (.slice (some ⟨bf, 0, none⟩) s.n.forms.length capf) := HN1.out.c 10 _ (congrArg some ef)
  have HRf := Lib.hid hrf
  have HBf := Lib.hid hbf
  clear ef hrf hbf
  have cef : w1.cell? ⟨bf, m.frm.toNat, none⟩ = some (.int .i64 (s.n.forms.getD (m.frm.toNat) 0)) := HRf.out.cell (intsC_get (by show _ < s.n.forms.length; rw [HFV.out]; exact HIN.out))
  have fef : w1.frozen? ⟨bf, m.frm.toNat, none⟩ = false := HRf.out.free _
  go_wp2
  refine Go.RT.wp_region_tree [0, 1, 3, 7, 15, 0, 32, 0, 128, 511, 1023] (.p 0 (.p 1 (.p 2 (.p 3 (.s 4 (.p 5 (.s 6 (.p 7 (.s 8 (.p 9 (.w 10 [] .nil .stop))))))))))) (by kernel_rfl) (by kernel_rfl) ?_
  repeat (first | (refine Go.RT.step_p rfl (fun K hK => ?_); go_simp; refine hK _ ?_; clear hK K) | (refine Go.RT.step_s rfl (fun K hK => ?_); go_simp; refine hK _ ?_; clear hK K))
  (refine Go.RT.step_w rfl rfl (fun K hK => ?_) Go.RT.step_stop)
  go_wp2
  refine Go.RT.QK_normal _ _ _ _ (hK _ _ ?_ ?_) <;> clear hK K
  · repeat (first | exact Go.RT.again_nil | (refine Go.RT.again_not rfl rfl ?_) | (refine Go.RT.again_one rfl (by go_simp <;> rfl) ?_))
  refine Go.RT.step_nil ?_
  obtain ⟨w2, hw2⟩ : ∃ W, W = (w1.setCell ⟨bf, m.frm.toNat, none⟩ (.int .i64 m.form)).drew := ⟨_, rfl⟩
  have qN2 : NodeAt ((w1.setCell ⟨bf, m.frm.toNat, none⟩ (.int .i64 m.form)).drew) B g ⟨matchN0 s.n m, s.out⟩ μ := (HN1.out.set_f (x := m.form) HBf.out (by rw [HFV.out]; exact HIN.out)).drew
  have qB2 : Below B w ((w1.setCell ⟨bf, m.frm.toNat, none⟩ (.int .i64 m.form)).drew) := (HB1.out.setCell (p := ⟨bf, m.frm.toNat, none⟩) (HRf.out.lt _ rfl).1 _).drew
  have qX2 : (((w1.setCell ⟨bf, m.frm.toNat, none⟩ (.int .i64 m.form)).drew)).heap[bx]? = some (.cells #[.int .i64 m.kind, .int .i64 m.frm, .int .i64 m.to, .int .i64 m.term, .int .i64 m.index, .int .i64 m.logTerm, .bool m.ok, ve, .int .i64 m.commit, .int .i64 m.form] 34 (0, 0)) := ret_far HX1.out (p := ⟨bf, _, none⟩) (ty_ne ⟨_, _, HX1.out⟩ (HRf.out.ty _ rfl) (by decide)) _
  rw [← hw2] at qN2 qB2 qX2 ⊢
  have HN2 := Lib.hid qN2
  have HB2 := Lib.hid qB2
  have HX2 := Lib.hid qX2
  clear qN2 qB2 qX2 hw2 c10 d1 d4 d6 d9 cef fef HRf HBf HX1 HN1 HB1
  have d1 : w2.cell? ⟨bx, 1, none⟩ = some (.int .i64 m.frm) := MM.cell_blk HX2.out rfl
  have d4 : w2.cell? ⟨bx, 4, none⟩ = some (.int .i64 m.index) := MM.cell_blk HX2.out rfl
  have d6 : w2.cell? ⟨bx, 6, none⟩ = some (.bool m.ok) := MM.cell_blk HX2.out rfl
  cases hk : m.ok
  case false =>
    rw [hk] at d6
    have HS2 := Lib.hid (show matchS s m = ⟨matchNo s.n m, s.out ++ [entriesMsg (matchNo s.n m) m.frm]⟩ from by rw [HS.out, if_pos hk])
    obtain ⟨bn, hbn⟩ := HN2.out.hn.some_of (by show 0 < s.n.nxt.length; rw [HNV.out]; omega)
    have hrn := HN2.out.hn
    rw [hbn] at hrn
    obtain ⟨capn, en, qn1, qn2⟩ := hrn.form
    have c8 : w2.cell? ⟨g, 8, none⟩ = some (.slice (some ⟨bn, 0, none⟩) s.n.nxt.length capn) := HN2.out.c 8 _ (congrArg some en)
    have HRn := Lib.hid hrn
    have HBn := Lib.hid hbn
    clear en hrn hbn
    have cen : w2.cell? ⟨bn, m.frm.toNat, none⟩ = some (.int .i64 (s.n.nxt.getD (m.frm.toNat) 0)) := HRn.out.cell (intsC_get (by show _ < s.n.nxt.length; rw [HNV.out]; exact HIN.out))
    have fen : w2.frozen? ⟨bn, m.frm.toNat, none⟩ = false := HRn.out.free _
    rw [← hX] at cen
    have HX9 := Lib.hid hX
    have e1 : 0 < mn (X - 2) m.index + 1 ∨ True := Or.inr trivial
    have hmnl : -1000002 ≤ mn (X - 2) m.index := by unfold mn; omega
    have hmnu : mn (X - 2) m.index ≤ 1000000 := by unfold mn; omega
    clear hX hY hk e1
    go_wp2
    refine Go.RT.wp_region_tree [0, 1, 3, 7, 15, 0, 32, 0, 128, 384, 896, 1920, 0, 4096, 16256, 32640, 65408, 0, 131072, 524160, 1048448, 2097024, 4194303, 8388607] (.p 0 (.p 1 (.p 2 (.p 3 (.s 4 (.p 5 (.s 6 (.p 7 (.p 8 (.p 9 (.p 10 (.s 11 (.p 12 (.s 13 (.p 14 (.s 15 (.p 16 (.p 17 (.s 18 (.p 19 (.p 20 (.p 21 (.p 22 (.w 23 [] .nil .stop)))))))))))))))))))))))) (by kernel_rfl) (by kernel_rfl) ?_
    repeat (first | (refine Go.RT.step_p rfl (fun K hK => ?_); go_simp; refine hK _ ?_; clear hK K) | (refine Go.RT.step_s rfl (fun K hK => ?_); go_simp; refine hK _ ?_; clear hK K))
    (refine Go.RT.step_w rfl rfl (fun K hK => ?_) Go.RT.step_stop)
    go_wp2
    refine Go.RT.QK_normal _ _ _ _ (hK _ _ ?_ ?_) <;> clear hK K
    · repeat (first | exact Go.RT.again_nil | (refine Go.RT.again_not rfl rfl ?_) | (refine Go.RT.again_one rfl (by go_simp <;> rfl) ?_))
    refine Go.RT.step_nil ?_
    obtain ⟨w3, hw3⟩ : ∃ W, W = (w2.setCell ⟨bn, m.frm.toNat, none⟩ (.int .i64 (mx 1 (mn (X - 2) m.index + 1)))).drew := ⟨_, rfl⟩
    have qN3 : NodeAt ((w2.setCell ⟨bn, m.frm.toNat, none⟩ (.int .i64 (mx 1 (mn (X - 2) m.index + 1)))).drew) B g ⟨matchNo s.n m, s.out⟩ μ := by rw [HX9.out]; exact (HN2.out.set_n HBn.out (by show _ < s.n.nxt.length; rw [HNV.out]; exact HIN.out)).drew
    have qB3 : Below B w ((w2.setCell ⟨bn, m.frm.toNat, none⟩ (.int .i64 (mx 1 (mn (X - 2) m.index + 1)))).drew) := (HB2.out.setCell (p := ⟨bn, m.frm.toNat, none⟩) (HRn.out.lt _ rfl).1 _).drew
    have qX3 : (((w2.setCell ⟨bn, m.frm.toNat, none⟩ (.int .i64 (mx 1 (mn (X - 2) m.index + 1)))).drew)).heap[bx]? = some (.cells #[.int .i64 m.kind, .int .i64 m.frm, .int .i64 m.to, .int .i64 m.term, .int .i64 m.index, .int .i64 m.logTerm, .bool m.ok, ve, .int .i64 m.commit, .int .i64 m.form] 34 (0, 0)) := ret_far HX2.out (p := ⟨bn, _, none⟩) (ty_ne ⟨_, _, HX2.out⟩ (HRn.out.ty _ rfl) (by decide)) _
    rw [← hw3] at qN3 qB3 qX3 ⊢
    have HN3 := Lib.hid qN3
    have HB3 := Lib.hid qB3
    have HX3 := Lib.hid qX3
    clear qN3 qB3 qX3 hw3 c8 d1 d4 d6 cen fen HRn HBn HX2 HN2 HB2
    have d1 : w3.cell? ⟨bx, 1, none⟩ = some (.int .i64 m.frm) := MM.cell_blk HX3.out rfl
    have HQ := Lib.hid (show -1000000000 ≤ (matchNo s.n m).nxt.getD m.frm.toNat 0 ∧ (matchNo s.n m).nxt.getD m.frm.toNat 0 ≤ 1000000000 from by
      have : (matchNo s.n m).nxt.getD m.frm.toNat 0 = mx 1 (mn (X - 2) m.index + 1) := by
        simp only [matchNo, ← HX9.out]
        rw [List.getD_eq_getElem?_getD, List.getElem?_set_self (by rw [HNV.out]; exact HIN.out)]
        rfl
      rw [this]
      unfold mx
      omega)
    have hent := entries_any w3 B g ⟨matchNo s.n m, s.out⟩ μ m.frm.toNat HN3.out (by show s.out.length ≤ 1000000; omega) (by show s.n.log.length ≤ 1000000; omega) (by show m.frm.toNat < (matchNo s.n m).nxt.length; simp only [matchNo, List.length_set]; rw [HNV.out]; exact HIN.out) HQ.out.1 HQ.out.2
    rw [show ((m.frm.toNat : Nat) : Int) = m.frm from by omega] at hent
    have HENT := Lib.hid hent
    clear hent
    go_wp2_with fail
    refine HENT.out.mono ?_
    rintro e w4 ⟨o4, rfl, hn4, hb4⟩
    go_wp2_with fail
    refine bodyPost_ret (results_none rfl _ _ _) rfl ?_
    exact ⟨_, rfl, by rw [HS2.out]; exact hn4, HB3.out.trans hb4⟩
  rw [hk] at d6
  have HS2 := Lib.hid (show matchS s m = ⟨matchYes s.n m, s.out⟩ from by rw [HS.out, if_neg (by rw [hk]; simp)])
  obtain ⟨bm, hbm⟩ := HN2.out.hm.some_of (by show 0 < s.n.mtch.length; rw [HMV.out]; omega)
  have hrm := HN2.out.hm
  rw [hbm] at hrm
  obtain ⟨capm, em, qm1, qm2⟩ := hrm.form
  have c9 : w2.cell? ⟨g, 9, none⟩ = some (.slice (some ⟨bm, 0, none⟩) s.n.mtch.length capm) := HN2.out.c 9 _ (congrArg some em)
  have HRm := Lib.hid hrm
  have HBm := Lib.hid hbm
  clear em hrm hbm
  have cem : w2.cell? ⟨bm, m.frm.toNat, none⟩ = some (.int .i64 (s.n.mtch.getD (m.frm.toNat) 0)) := HRm.out.cell (intsC_get (by show _ < s.n.mtch.length; rw [HMV.out]; exact HIN.out))
  have fem : w2.frozen? ⟨bm, m.frm.toNat, none⟩ = false := HRm.out.free _
  rw [← hY] at cem
  have HY9 := Lib.hid hY
  clear hX hY hk
  go_wp2
  refine Go.RT.wp_region_tree [0, 1, 3, 7, 15, 0, 32, 0, 128, 384, 896, 1920, 0, 4096, 16256, 32640, 0, 65536, 262016, 524287, 1048575] (.p 0 (.p 1 (.p 2 (.p 3 (.s 4 (.p 5 (.s 6 (.p 7 (.p 8 (.p 9 (.p 10 (.s 11 (.p 12 (.s 13 (.p 14 (.s 15 (.p 16 (.s 17 (.p 18 (.p 19 (.w 20 [] .nil .stop))))))))))))))))))))) (by kernel_rfl) (by kernel_rfl) ?_
  repeat (first | (refine Go.RT.step_p rfl (fun K hK => ?_); go_simp; refine hK _ ?_; clear hK K) | (refine Go.RT.step_s rfl (fun K hK => ?_); go_simp; refine hK _ ?_; clear hK K))
  (refine Go.RT.step_w rfl rfl (fun K hK => ?_) Go.RT.step_stop)
  go_wp2
  refine Go.RT.QK_normal _ _ _ _ (hK _ _ ?_ ?_) <;> clear hK K
  · repeat (first | exact Go.RT.again_nil | (refine Go.RT.again_not rfl rfl ?_) | (refine Go.RT.again_one rfl (by go_simp <;> rfl) ?_))
  refine Go.RT.step_nil ?_
  obtain ⟨w3, hw3⟩ : ∃ W, W = (w2.setCell ⟨bm, m.frm.toNat, none⟩ (.int .i64 (mx Y m.index))).drew := ⟨_, rfl⟩
  have qN3 : NodeAt ((w2.setCell ⟨bm, m.frm.toNat, none⟩ (.int .i64 (mx Y m.index))).drew) B g ⟨{ matchN0 s.n m with mtch := s.n.mtch.set m.frm.toNat (mx Y m.index) }, s.out⟩ μ := (HN2.out.set_m HBm.out (by show _ < s.n.mtch.length; rw [HMV.out]; exact HIN.out)).drew
  have qB3 : Below B w ((w2.setCell ⟨bm, m.frm.toNat, none⟩ (.int .i64 (mx Y m.index))).drew) := (HB2.out.setCell (p := ⟨bm, m.frm.toNat, none⟩) (HRm.out.lt _ rfl).1 _).drew
  have qX3 : (((w2.setCell ⟨bm, m.frm.toNat, none⟩ (.int .i64 (mx Y m.index))).drew)).heap[bx]? = some (.cells #[.int .i64 m.kind, .int .i64 m.frm, .int .i64 m.to, .int .i64 m.term, .int .i64 m.index, .int .i64 m.logTerm, .bool m.ok, ve, .int .i64 m.commit, .int .i64 m.form] 34 (0, 0)) := ret_far HX2.out (p := ⟨bm, _, none⟩) (ty_ne ⟨_, _, HX2.out⟩ (HRm.out.ty _ rfl) (by decide)) _
  rw [← hw3] at qN3 qB3 qX3 ⊢
  have HN3 := Lib.hid qN3
  have HB3 := Lib.hid qB3
  have HX3 := Lib.hid qX3
  clear qN3 qB3 qX3 hw3 c9 d1 d4 d6 cem fem HRm HBm HX2 HN2 HB2
  have d1 : w3.cell? ⟨bx, 1, none⟩ = some (.int .i64 m.frm) := MM.cell_blk HX3.out rfl
  obtain ⟨MT, hMT⟩ : ∃ MT, MT = s.n.mtch.set m.frm.toNat (mx Y m.index) := ⟨_, rfl⟩
  have hMTl : MT.length = s.n.votes.length := by rw [hMT, List.length_set]; exact HMV.out
  have hMTg : MT.getD m.frm.toNat 0 = mx Y m.index := by rw [hMT, List.getD_eq_getElem?_getD, List.getElem?_set_self (by rw [HMV.out]; exact HIN.out)]; rfl
  have hmxl : -1000000 ≤ mx Y m.index := by unfold mx; omega
  have hmxu : mx Y m.index ≤ 1000000 := by unfold mx; omega
  have HN3' := HN3
  clear HN3
  rw [← hMT] at HN3'
  have HMT := Lib.hid hMT
  have HMTl := Lib.hid hMTl
  have hinm : m.frm < (MT.length : Int) := by omega
  clear hMT
  obtain ⟨bm, hbm⟩ := HN3'.out.hm.some_of (by show 0 < MT.length; omega)
  have hrm := HN3'.out.hm
  rw [hbm] at hrm
  obtain ⟨capm, em, qm1, qm2⟩ := hrm.form
  have c9 : w3.cell? ⟨g, 9, none⟩ = some (.slice (some ⟨bm, 0, none⟩) MT.length capm) := HN3'.out.c 9 _ (congrArg some em)
  have HRm := Lib.hid hrm
  have HBm := Lib.hid hbm
  clear em hrm hbm
  have cem : w3.cell? ⟨bm, m.frm.toNat, none⟩ = some (.int .i64 (mx Y m.index)) := by rw [← hMTg]; exact HRm.out.cell (intsC_get (by rw [hMTl]; exact HIN.out))
  obtain ⟨bn, hbn⟩ := HN3'.out.hn.some_of (by show 0 < s.n.nxt.length; rw [HNV.out]; omega)
  have hrn := HN3'.out.hn
  rw [hbn] at hrn
  obtain ⟨capn, en, qn1, qn2⟩ := hrn.form
  have c8 : w3.cell? ⟨g, 8, none⟩ = some (.slice (some ⟨bn, 0, none⟩) s.n.nxt.length capn) := HN3'.out.c 8 _ (congrArg some en)
  have HRn := Lib.hid hrn
  have HBn := Lib.hid hbn
  clear en hrn hbn
  have cen : w3.cell? ⟨bn, m.frm.toNat, none⟩ = some (.int .i64 (s.n.nxt.getD (m.frm.toNat) 0)) := HRn.out.cell (intsC_get (by show _ < s.n.nxt.length; rw [HNV.out]; exact HIN.out))
  have fen : w3.frozen? ⟨bn, m.frm.toNat, none⟩ = false := HRn.out.free _
  clear hMTl hMTg
  go_wp2
  refine Go.RT.wp_region_tree [0, 1, 3, 7, 15, 0, 32, 0, 128, 384, 896, 1920, 0, 4096, 16256, 32640, 65408, 131071, 262143] (.p 0 (.p 1 (.p 2 (.p 3 (.s 4 (.p 5 (.s 6 (.p 7 (.p 8 (.p 9 (.p 10 (.s 11 (.p 12 (.s 13 (.p 14 (.s 15 (.p 16 (.p 17 (.w 18 [] .nil .stop))))))))))))))))))) (by kernel_rfl) (by kernel_rfl) ?_
  repeat (first | (refine Go.RT.step_p rfl (fun K hK => ?_); go_simp; refine hK _ ?_; clear hK K) | (refine Go.RT.step_s rfl (fun K hK => ?_); go_simp; refine hK _ ?_; clear hK K))
  (refine Go.RT.step_w rfl rfl (fun K hK => ?_) Go.RT.step_stop)
  go_wp2
  refine Go.RT.QK_normal _ _ _ _ (hK _ _ ?_ ?_) <;> clear hK K
  · repeat (first | exact Go.RT.again_nil | (refine Go.RT.again_not rfl rfl ?_) | (refine Go.RT.again_one rfl (by go_simp <;> rfl) ?_))
  refine Go.RT.step_nil ?_
  obtain ⟨w4, hw4⟩ : ∃ W, W = (w3.setCell ⟨bn, m.frm.toNat, none⟩ (.int .i64 (mx Y m.index + 1))).drew := ⟨_, rfl⟩
  have qN4 : NodeAt ((w3.setCell ⟨bn, m.frm.toNat, none⟩ (.int .i64 (mx Y m.index + 1))).drew) B g ⟨matchN1 s.n m, s.out⟩ μ := by have h9 := (HN3'.out.set_n (x := mx Y m.index + 1) HBn.out (by show _ < s.n.nxt.length; rw [HNV.out]; exact HIN.out)).drew; rw [HMT.out, HY9.out] at h9; rw [HY9.out]; exact h9
  have qB4 : Below B w ((w3.setCell ⟨bn, m.frm.toNat, none⟩ (.int .i64 (mx Y m.index + 1))).drew) := (HB3.out.setCell (p := ⟨bn, m.frm.toNat, none⟩) (HRn.out.lt _ rfl).1 _).drew
  rw [← hw4] at qN4 qB4 ⊢
  have HN4 := Lib.hid qN4
  have HB4 := Lib.hid qB4
  clear qN4 qB4 hw4 c8 c9 d1 cen fen cem HRn HBn HRm HBm HX3 HN3' HB3
  go_wp2_with fail
  refine (reached_any _ B g _ _ HN4.out hl (by show (matchN1 s.n m).mtch.length ≤ 1000; simp only [matchN1, List.length_set]; rw [HMV.out]; exact hv) (by show 0 < (matchN1 s.n m).mtch.length; simp only [matchN1, List.length_set]; rw [HMV.out]; omega) hc0).mono ?_
  rintro e w5 ⟨rfl, hn5, hb5⟩
  have HN5 := Lib.hid hn5
  have HB5 := Lib.hid (HB4.out.trans hb5)
  have c6 : w5.cell? ⟨g, 6, none⟩ = some (.int .i64 s.n.commit) := hn5.c 6 _ rfl
  have fr6 := hn5.fr 6
  clear hn5 hb5
  go_wp2
  go_end0
  exact ⟨μ, rfl, by rw [HS2.out]; exact HN5.out.setg rfl rfl rfl rfl rfl rfl rfl, HB5.out.setCell HN5.out.hB _⟩

end Go.Proofs.Ytnkmljdkokcdjaa
namespace Go.Proofs.Ytnkmljdkokcdjaa
open Go.RowKit Fed
set_option linter.unusedVariables false
attribute [local go_sem high] Fed.max2_int Fed.min2_int

theorem rd_front {w : World} {ok : Nat → Prop} {sz n c hi m : Nat} {A : Option Addr} {xs : List Value} (h : MM.Rd w ok sz (.slice A n c) n xs) (h1 : hi ≤ n) (h2 : hi ≤ m) (h3 : m ≤ c) : MM.Rd w ok sz (.slice A hi m) hi (xs.take (hi * sz)) := by
  have := h.cut (lo := 0) (Nat.zero_le _) h1 h2 h3
  have e : (if m = 0 then A else A.map (·.add (0 * sz))) = A := by
    split
    · rfl
    · cases A <;> simp [Addr.add]
  rw [e] at this
  simpa using this
set_option maxRecDepth 100000 in
set_option maxHeartbeats 4000000 in
theorem take_any (w : World) (B g : Nat) (s : NS) (μ : NM) (k : Nat) (es : List Fed.Entry) (A : Option Addr) (c : Nat) (h : NodeAt w B g s μ) (hr : MM.Rd w (fun k => k < B) 2 (.slice A es.length c) es.length (entsC es)) (hl : s.n.log.length ≤ 700000) (hk : k ≤ s.n.log.length) (he : es.length ≤ 1000) :
    Calls Try.prog 107 #[.pointer (some ⟨g, 0, none⟩), .int .i64 k, .slice A es.length c] w
      fun e w' => ∃ μ', e = .returned (.tuple #[]) ∧ NodeAt w' B g ⟨{ s.n with log := takeL s.n.log k es }, s.out⟩ μ' ∧ Below B w w' ∧ Keep g w w' ∧ μ'.o = μ.o := by
  obtain ⟨i0, hi, hz0, hz1, hz2⟩ := info_parts info40
  have H := Lib.hid h
  have HR := Lib.hid hr
  clear h hr
  go_enter Try.func107, Try.ntmps107
  go_wp2
  go_loopw [1, 10] (fun t1 t10 wr => ∃ (j : Nat) (L : List Fed.Entry) (μ' : NM), j ≤ es.length ∧ t1 = .int .i64 ((k : Int) + j) ∧ t10 = .int .i64 j ∧ k + j ≤ L.length ∧ L.length ≤ 701000 + j ∧ Hid (takeL L (k + j) (es.drop j) = takeL s.n.log k es) ∧ Hid (NodeAt wr B g ⟨{ s.n with log := L }, s.out⟩ μ') ∧ Hid (Below B w wr) ∧ Hid (Keep g w wr) ∧ Hid (μ'.o = μ.o)) (fun _ t10 _ => es.length - (intOf t10).toNat)
  case atStart => exact ⟨0, s.n.log, μ, by omega, by simp, rfl, by omega, by omega, Lib.hid rfl, H, Lib.hid (Below.refl _ _), Lib.hid (Keep.refl _ _), Lib.hid rfl⟩
  case round =>
    obtain ⟨j, L, μ', hj, rfl, rfl, hkl, hll, HT, HN, HB, HK, HMO⟩ := hrel
    by_cases hlt : j < es.length
    case neg =>
      obtain rfl : j = es.length := by omega
      have HT2 := Lib.hid (show takeL s.n.log k es = L from by rw [← HT.out, List.drop_length]; rfl)
      have hb : decide ((es.length : Int) < es.length) = false := by simp
      go_wp2
      go_end0
      first | exact ⟨μ', rfl, by rw [HT2.out]; exact HN.out, HB.out, HK.out, HMO.out⟩ | exact ⟨rfl, μ', by rw [HT2.out]; exact HN.out, HB.out, HK.out, HMO.out⟩
    have hltb : decide ((j : Int) < es.length) = true := decide_eq_true (by omega)
    obtain ⟨x, hx⟩ : ∃ x, es[j]? = some x := ⟨_, List.getElem?_eq_getElem hlt⟩
    have hrd := HR.out.step (w1 := wr) (fun k hk _ => HB.out.block k hk)
    obtain ⟨_, A', c', ea, hc1, hc2, hrest⟩ := hrd
    injection ea with ea1 _ ea2
    subst ea1 ea2
    obtain ⟨be, oe, rfl, hbB, hbs, hcell⟩ := hrest (by omega)
    have x0 : wr.cell? ⟨be, oe + j * 2, none⟩ = some (.int .i64 x.term) := hcell _ _ (entsC_get hx).1
    have x1 : wr.cell? ⟨be, oe + (j * 2 + 1), none⟩ = some (.string x.data) := hcell _ _ (entsC_get hx).2
    rw [← Nat.add_assoc] at x1
    have HCELL := Lib.hid hcell
    have HX := Lib.hid hx
    have HHR := Lib.hid hrest
    have hst : es.drop j = x :: es.drop (j + 1) := by rw [List.drop_eq_getElem_cons hlt]; congr 1; have := List.getElem?_eq_getElem hlt; rw [hx] at this; injection this with this; exact this.symm
    have HST := Lib.hid (show takeL L (k + j) (es.drop j) = if termAt L ((k : Int) + j + 1) = x.term ∧ k + j + 1 ≤ L.length then takeL L (k + j + 1) (es.drop (j + 1)) else takeL (L.take (k + j) ++ [x]) (k + j + 1) (es.drop (j + 1)) from by
      rw [hst]
      conv => lhs; unfold takeL
      rw [show (((k + j + 1 : Nat) : Nat) : Int) = (k : Int) + j + 1 from by omega])
    have hsz := HN.out.Bsize
    have hB1 : Below B w (wr.alloc (.cells #[.int .i64 x.term, .string x.data] 40)) := HB.out.alloc hsz _
    have hN1 : NodeAt (wr.alloc (.cells #[.int .i64 x.term, .string x.data] 40)) B g ⟨{ s.n with log := L }, s.out⟩ μ' := HN.out.alloc _
    have hY1 := MM.alloc_new wr (.cells #[.int .i64 x.term, .string x.data] 40)
    clear hcell hx hrest hst
    go_upto_region 4 with (fail)
    obtain ⟨bx, hbx⟩ : ∃ bx, bx = wr.heap.size := ⟨_, rfl⟩
    rw [← hbx] at hY1 ⊢
    obtain ⟨w1, hw1⟩ : ∃ W, W = wr.alloc (.cells #[.int .i64 x.term, .string x.data] 40) := ⟨_, rfl⟩
    have qKK1 : Keep g w (wr.alloc (.cells #[.int .i64 x.term, .string x.data] 40)) := HK.out.alloc _
    have qN1 : NodeAt (wr.alloc (.cells #[.int .i64 x.term, .string x.data] 40)) B g ⟨{ s.n with log := L }, s.out⟩ μ' := hN1
    have qB1 : Below B w (wr.alloc (.cells #[.int .i64 x.term, .string x.data] 40)) := hB1
    have qY1 : ((wr.alloc (.cells #[.int .i64 x.term, .string x.data] 40))).heap[bx]? = some (.cells #[.int .i64 x.term, .string x.data] 40 (0, 0)) := hY1
    rw [← hw1] at qKK1 qN1 qB1 qY1 ⊢
    have HKK1 := Lib.hid qKK1
    have HN1 := Lib.hid qN1
    have HB1 := Lib.hid qB1
    have HY1 := Lib.hid qY1
    clear qKK1 qN1 qB1 qY1 hw1 hN1 hB1 hY1 hbx
    have HK1 : Hid (Keep g w w1) := HKK1
    have y0 : w1.cell? ⟨bx, 0, none⟩ = some (.int .i64 x.term) := MM.cell_blk HY1.out rfl
    by_cases hc : termAt L ((k : Int) + j + 1) = x.term ∧ k + j + 1 ≤ L.length
    · obtain ⟨ht, hle⟩ := hc
      have htb : (termAt L ((k : Int) + j + 1) == x.term) = true := by simpa using ht
      have hlb : decide ((k : Int) + j + 1 ≤ L.length) = true := decide_eq_true (by omega)
      have HT2 := Lib.hid (show takeL L (k + (j + 1)) (es.drop (j + 1)) = takeL s.n.log k es from by rw [← HT.out, HST.out, if_pos ⟨ht, hle⟩]; rfl)
      clear ht
      refine Go.RT.wp_region_tree [0, 0, 3, 0, 8, 31, 63, 127, 127, 383, 1023, 2047] (.p 0 (.p 1 (.p 3 (.s 4 (.w 2 [4] (.p 5 (.p 6 (.p 7 (.p 8 (.w 9 [] (.p 10 (.p 11 .nil)) .stop))))) .stop))))) (by kernel_rfl) (by kernel_rfl) ?_
      repeat (first | (refine Go.RT.step_p rfl (fun K hK => ?_); go_simp; refine hK _ ?_; clear hK K) | (refine Go.RT.step_s rfl (fun K hK => ?_); go_simp; refine hK _ ?_; clear hK K))
      (refine Go.RT.step_w rfl rfl (fun K hK => ?_) Go.RT.step_stop)
      go_wp2_with fail
      refine (term_any _ B g ⟨{ s.n with log := L }, s.out⟩ μ' _ (by omega) (by omega) (HN1.out.below (by repeat (first | exact Below.refl _ _ | refine Below.setCell ?_ (by simp) _ | refine Below.alloc ?_ (by simp) _ | refine Below.drew ?_)))).mono ?_
      rintro e w2 ⟨rfl, rfl⟩
      go_wp2_with fail
      refine Go.RT.QK_normal _ _ _ _ (hK _ _ ?_ ?_) <;> clear hK K
      · repeat (first | exact Go.RT.again_nil | (refine Go.RT.again_not rfl rfl ?_) | (refine Go.RT.again_one rfl (by go_simp <;> rfl) ?_))
      repeat (first | (refine Go.RT.step_p rfl (fun K hK => ?_); go_simp; refine hK _ ?_; clear hK K) | (refine Go.RT.step_s rfl (fun K hK => ?_); go_simp; refine hK _ ?_; clear hK K))
      (refine Go.RT.step_w rfl rfl (fun K hK => ?_) Go.RT.step_stop)
      go_wp2_with fail
      refine (last_any _ B g ⟨{ s.n with log := L }, s.out⟩ μ' (HN1.out.below (by repeat (first | exact Below.refl _ _ | refine Below.setCell ?_ (by simp) _ | refine Below.alloc ?_ (by simp) _ | refine Below.drew ?_)))).mono ?_
      rintro e w2 ⟨rfl, rfl⟩
      go_wp2_with fail
      refine Go.RT.QK_normal _ _ _ _ (hK _ _ ?_ ?_) <;> clear hK K
      · repeat (first | exact Go.RT.again_nil | (refine Go.RT.again_not rfl rfl ?_) | (refine Go.RT.again_one rfl (by go_simp <;> rfl) ?_))
      repeat (first | (refine Go.RT.step_p rfl (fun K hK => ?_); go_simp; refine hK _ ?_; clear hK K) | (refine Go.RT.step_s rfl (fun K hK => ?_); go_simp; refine hK _ ?_; clear hK K))
      refine Go.RT.step_nil ?_
      go_wp2
      go_roundw
      case rel => exact ⟨j + 1, L, μ', by omega, by go_num, by go_num, by omega, by omega, HT2, Lib.hid HN1.out.drew, Lib.hid HB1.out.drew, HK1, HMO⟩
      case measure => simp [intOf]; omega
    have HT2 := Lib.hid (show takeL (L.take (k + j) ++ [x]) (k + (j + 1)) (es.drop (j + 1)) = takeL s.n.log k es from by rw [← HT.out, HST.out, if_neg hc]; rfl)
    have HCC := Lib.hid hc
    clear hc
    go_cut [27] (fun v27 wc => v27 = .bool false ∧ wc = w1.drew)
    case first =>
      by_cases ht : termAt L ((k : Int) + j + 1) = x.term
      · have htb : (termAt L ((k : Int) + j + 1) == x.term) = true := by simpa using ht
        have hlb : decide ((k : Int) + j + 1 ≤ L.length) = false := decide_eq_false (fun h9 => HCC.out ⟨ht, by omega⟩)
        clear ht
        refine Go.RT.wp_region_tree [0, 0, 3, 0, 8, 31, 63, 127, 127, 383, 1023, 2047] (.p 0 (.p 1 (.p 3 (.s 4 (.w 2 [4] (.p 5 (.p 6 (.p 7 (.p 8 (.w 9 [] (.p 10 (.p 11 .nil)) .stop))))) .stop))))) (by kernel_rfl) (by kernel_rfl) ?_
        repeat (first | (refine Go.RT.step_p rfl (fun K hK => ?_); go_simp; refine hK _ ?_; clear hK K) | (refine Go.RT.step_s rfl (fun K hK => ?_); go_simp; refine hK _ ?_; clear hK K))
        (refine Go.RT.step_w rfl rfl (fun K hK => ?_) Go.RT.step_stop)
        go_wp2_with fail
        refine (term_any _ B g ⟨{ s.n with log := L }, s.out⟩ μ' _ (by omega) (by omega) (HN1.out.below (by repeat (first | exact Below.refl _ _ | refine Below.setCell ?_ (by simp) _ | refine Below.alloc ?_ (by simp) _ | refine Below.drew ?_)))).mono ?_
        rintro e w2 ⟨rfl, rfl⟩
        go_wp2_with fail
        refine Go.RT.QK_normal _ _ _ _ (hK _ _ ?_ ?_) <;> clear hK K
        · repeat (first | exact Go.RT.again_nil | (refine Go.RT.again_not rfl rfl ?_) | (refine Go.RT.again_one rfl (by go_simp <;> rfl) ?_))
        repeat (first | (refine Go.RT.step_p rfl (fun K hK => ?_); go_simp; refine hK _ ?_; clear hK K) | (refine Go.RT.step_s rfl (fun K hK => ?_); go_simp; refine hK _ ?_; clear hK K))
        (refine Go.RT.step_w rfl rfl (fun K hK => ?_) Go.RT.step_stop)
        go_wp2_with fail
        refine (last_any _ B g ⟨{ s.n with log := L }, s.out⟩ μ' (HN1.out.below (by repeat (first | exact Below.refl _ _ | refine Below.setCell ?_ (by simp) _ | refine Below.alloc ?_ (by simp) _ | refine Below.drew ?_)))).mono ?_
        rintro e w2 ⟨rfl, rfl⟩
        go_wp2_with fail
        refine Go.RT.QK_normal _ _ _ _ (hK _ _ ?_ ?_) <;> clear hK K
        · repeat (first | exact Go.RT.again_nil | (refine Go.RT.again_not rfl rfl ?_) | (refine Go.RT.again_one rfl (by go_simp <;> rfl) ?_))
        repeat (first | (refine Go.RT.step_p rfl (fun K hK => ?_); go_simp; refine hK _ ?_; clear hK K) | (refine Go.RT.step_s rfl (fun K hK => ?_); go_simp; refine hK _ ?_; clear hK K))
        refine Go.RT.step_nil ?_
        go_wp2_with fail
        go_meet
        case rel => exact ⟨rfl, rfl⟩
      · have htb : (termAt L ((k : Int) + j + 1) == x.term) = false := by simpa using ht
        clear ht
        refine Go.RT.wp_region_tree [0, 0, 3, 0, 8, 31, 63, 127, 127, 383, 1023, 2047] (.p 0 (.p 1 (.p 3 (.s 4 (.w 2 [4] (.p 5 (.p 6 (.p 7 (.p 8 (.w 9 [] (.p 10 (.p 11 .nil)) .stop))))) .stop))))) (by kernel_rfl) (by kernel_rfl) ?_
        repeat (first | (refine Go.RT.step_p rfl (fun K hK => ?_); go_simp; refine hK _ ?_; clear hK K) | (refine Go.RT.step_s rfl (fun K hK => ?_); go_simp; refine hK _ ?_; clear hK K))
        (refine Go.RT.step_w rfl rfl (fun K hK => ?_) Go.RT.step_stop)
        go_wp2_with fail
        refine (term_any _ B g ⟨{ s.n with log := L }, s.out⟩ μ' _ (by omega) (by omega) (HN1.out.below (by repeat (first | exact Below.refl _ _ | refine Below.setCell ?_ (by simp) _ | refine Below.alloc ?_ (by simp) _ | refine Below.drew ?_)))).mono ?_
        rintro e w2 ⟨rfl, rfl⟩
        go_wp2_with fail
        refine Go.RT.QK_normal _ _ _ _ (hK _ _ ?_ ?_) <;> clear hK K
        · repeat (first | exact Go.RT.again_nil | (refine Go.RT.again_not rfl rfl ?_) | (refine Go.RT.again_one rfl (by go_simp <;> rfl) ?_))
        repeat (first | (refine Go.RT.step_p rfl (fun K hK => ?_); go_simp; refine hK _ ?_; clear hK K) | (refine Go.RT.step_s rfl (fun K hK => ?_); go_simp; refine hK _ ?_; clear hK K))
        (refine Go.RT.skip_w rfl rfl ?_ Go.RT.step_stop)
        (try simp only [Act.put, List.setIfInBounds_toArray, List.set_cons_zero, List.set_cons_succ])
        repeat (first | (refine Go.RT.step_p rfl (fun K hK => ?_); go_simp; refine hK _ ?_; clear hK K) | (refine Go.RT.step_s rfl (fun K hK => ?_); go_simp; refine hK _ ?_; clear hK K))
        refine Go.RT.step_nil ?_
        go_wp2_with fail
        go_meet
        case rel => exact ⟨rfl, rfl⟩
    case rest =>
      obtain ⟨rfl, rfl⟩ := hcut
      obtain ⟨w2, hw2⟩ : ∃ W, W = w1.drew := ⟨_, rfl⟩
      have qK2 : Keep g w (w1.drew) := HK1.out.drew
      have qN2 : NodeAt (w1.drew) B g ⟨{ s.n with log := L }, s.out⟩ μ' := HN1.out.drew
      have qB2 : Below B w (w1.drew) := HB1.out.drew
      have qY2 : ((w1.drew)).heap[bx]? = some (.cells #[.int .i64 x.term, .string x.data] 40 (0, 0)) := HY1.out
      rw [← hw2] at qK2 qN2 qB2 qY2 ⊢
      have HK2 := Lib.hid qK2
      have HN2 := Lib.hid qN2
      have HB2 := Lib.hid qB2
      have HY2 := Lib.hid qY2
      clear qK2 qN2 qB2 qY2 hw2 HY1 HN1 HB1 y0
      have y0 : w2.cell? ⟨bx, 0, none⟩ = some (.int .i64 x.term) := MM.cell_blk HY2.out rfl
      have y1 : w2.cell? ⟨bx, 1, none⟩ = some (.string x.data) := MM.cell_blk HY2.out rfl
      obtain ⟨A3, k3, e3, u3, _⟩ := HN2.out.hl.slice
      have c3 : w2.cell? ⟨g, 3, none⟩ = some (.slice A3 L.length k3) := HN2.out.c 3 _ (congrArg some e3)
      have E3 := Lib.hid e3
      clear e3
      have hu3 : L.length ≤ k3 := u3
      have hlt2 := HN2.out.lt
      have hlb2 := MM.blk_lt HY2.out
      have hbs2 := HN2.out.Bsize
      have hw2 : 0 ≤ (k : Int) + (j : Int) := by omega
      have hw3 : (k : Int) + (j : Int) ≤ (k3 : Int) := by omega
      have hw4 : (k : Int) + (j : Int) ≤ max ((k : Int) + (j : Int)) 0 := by omega
      have hw5 : ((k : Int) + (j : Int)).toNat = k + j := by omega
      have hw1 : IntKind.i64.wrap ((k : Int) + (j : Int)) = (k : Int) + (j : Int) := IntWalk.i64_in _ (by omega)
      go_wp2
      refine Go.RT.wp_region_tree [0, 0, 2, 6, 14, 30, 0, 64, 0, 256, 1022, 0, 2048, 8190, 16383, 32767, 65535, 131071] (.p 0 (.p 1 (.p 2 (.p 3 (.p 4 (.s 5 (.p 6 (.p 7 (.p 8 (.p 9 (.p 10 (.s 11 (.w 12 [5] (.w 13 [] (.p 14 (.p 15 (.p 16 (.w 17 [] .nil .stop)))) .stop) .stop))))))))))))) (by kernel_rfl) (by kernel_rfl) ?_
      repeat (first | (refine Go.RT.step_p rfl (fun K hK => ?_); go_simp; refine hK _ ?_; clear hK K) | (refine Go.RT.step_s rfl (fun K hK => ?_); go_simp; refine hK _ ?_; clear hK K))
      (refine Go.RT.step_w rfl rfl (fun K hK => ?_) Go.RT.step_stop)
      go_wp2
      refine Go.RT.QK_normal _ _ _ _ (hK _ _ ?_ ?_) <;> clear hK K
      · repeat (first | exact Go.RT.again_nil | (refine Go.RT.again_not rfl rfl ?_) | (refine Go.RT.again_one rfl (by go_simp <;> rfl) ?_))
      (refine Go.RT.step_w rfl rfl (fun K hK => ?_) Go.RT.step_stop)
      refine MM.wpList_append_full _ rfl (.tmp 38) (.tmp 40) 24 rfl 40 i0 _ 2 24 Try.underlying24 hi hz0 hz1 hz2 rfl (by decide) (fun _ => True) _ (k + j) (entsC (L.take (k + j))) rfl ?own (fun _ => True) _ 1 [.int .i64 x.term, .string x.data] rfl ?src ?one (by decide) ?h63 ?hby ?h
      case own =>
        have h9 : MM.Rd w2 (fun _ => True) 2 (.slice A3 L.length k3) L.length (entsC L) := by
          rw [← E3.out]
          exact HN2.out.hl.rd.mono (fun _ _ _ => trivial)
        rw [← entsC_take]
        exact (rd_front h9 hkl (Nat.le_refl _) (by omega)).below (by repeat (first | exact Below.refl _ _ | refine Below.setCell ?_ (by simp) _ | refine Below.alloc ?_ (by simp) _ | refine Below.drew ?_))
      case src => exact MM.Rd.lit (MM.alloc_new _ _) trivial rfl (Nat.le_refl _) (by simp [maxLen]) rfl
      case one => intro u hu; simp at hu; rcases hu with rfl | rfl <;> rfl
      case h63 => simp only [maxLen]; omega
      case hby => omega
      intro v' w3 g' hrow hgr
      obtain ⟨A', k', rfl, _, _⟩ := hrow.slice
      have hlg := hrow.lt g' rfl
      have c3' := HN2.out.gc hgr (by repeat (first | exact Below.refl _ _ | refine Below.setCell ?_ (by simp) _ | refine Below.alloc ?_ (by simp) _ | refine Below.drew ?_)) (fun _ h => by cases h) (t := 40) (by decide) 3 _ rfl
      have fr3' := HN2.out.gfr hgr (by repeat (first | exact Below.refl _ _ | refine Below.setCell ?_ (by simp) _ | refine Below.alloc ?_ (by simp) _ | refine Below.drew ?_)) (fun _ h => by cases h) (t := 40) (by decide) 3
      have HGR := Lib.hid hgr
      have HRW := Lib.hid (show MM.Row w3 B 40 2 (.slice A' (k + j + 1) k') (L.take (k + j) ++ [x]).length (entsC (L.take (k + j) ++ [x])) (some g') from by
        rw [show (L.take (k + j) ++ [x]).length = k + j + 1 from by simp; omega, entsC_append]
        exact hrow.lower (by simp; omega))
      clear hgr hrow
      go_wp2
      refine Go.RT.QK_normal _ _ _ _ (hK _ _ ?_ ?_) <;> clear hK K
      · repeat (first | exact Go.RT.again_nil | (refine Go.RT.again_not rfl rfl ?_) | (refine Go.RT.again_one rfl (by go_simp <;> rfl) ?_))
      repeat (first | (refine Go.RT.step_p rfl (fun K hK => ?_); go_simp; refine hK _ ?_; clear hK K) | (refine Go.RT.step_s rfl (fun K hK => ?_); go_simp; refine hK _ ?_; clear hK K))
      (refine Go.RT.step_w rfl rfl (fun K hK => ?_) Go.RT.step_stop)
      go_wp2
      refine Go.RT.QK_normal _ _ _ _ (hK _ _ ?_ ?_) <;> clear hK K
      · repeat (first | exact Go.RT.again_nil | (refine Go.RT.again_not rfl rfl ?_) | (refine Go.RT.again_one rfl (by go_simp <;> rfl) ?_))
      refine Go.RT.step_nil ?_
      have hN4 := NodeAt.put_log (l' := L.take (k + j) ++ [x]) (HN2.out.below (by repeat (first | exact Below.refl _ _ | refine Below.setCell ?_ (by simp) _ | refine Below.alloc ?_ (by simp) _ | refine Below.drew ?_))) HGR.out (.inl rfl) HRW.out (.inr ⟨g', rfl, hlg.1⟩)
      have hB4 : Below B w (w3.setCell ⟨g, 3, none⟩ (.slice A' (k + j + 1) k')) := (((HB2.out.trans (Below.mono (B' := B) (by repeat (first | exact Below.refl _ _ | refine Below.setCell ?_ (by simp) _ | refine Below.alloc ?_ (by simp) _ | refine Below.drew ?_)) HN2.out.Bsize)).grown HGR.out (by simp; omega) (fun _ h => by cases h))).setCell (p := ⟨g, 3, none⟩) HN2.out.hB _
      have hlen4 : (L.take (k + j) ++ [x]).length = k + j + 1 := by simp; omega
      have HN4 := Lib.hid hN4
      have HB4 := Lib.hid hB4
      have HK4 : Hid (Keep g w (w3.setCell ⟨g, 3, none⟩ (.slice A' (k + j + 1) k'))) := Lib.hid (((HK2.out.alloc _).drew.grown HGR.out).set _)
      clear hw1 hw2 hw3 hw4 hw5 hN4 hB4
      go_wp2
      go_roundw
      case rel => exact ⟨j + 1, L.take (k + j) ++ [x], _, by omega, by go_num, by go_num, by omega, by omega, HT2, HN4, HB4, HK4, HMO⟩
      case measure => simp [intOf]; omega

end Go.Proofs.Ytnkmljdkokcdjaa
