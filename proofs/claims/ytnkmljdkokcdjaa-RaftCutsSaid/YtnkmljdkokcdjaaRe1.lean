/-
  voted counts a vote as the plain votedS says. Conditions: lengths and numbers are bounded as the theorem says.
-/
import Derived.WalkKit
import Derived.WalkSpells
import Derived.Lib.Hide
import Derived.Outline
import Derived.Test.YtnkmljdkokcdjaaChecked
import Derived.Test.YtnkmljdkokcdjaaRg
import Derived.Test.YtnkmljdkokcdjaaMem
import Derived.Test.YtnkmljdkokcdjaaFed
import Derived.Test.YtnkmljdkokcdjaaRe0
import Derived.Test.YtnkmljdkokcdjaaRc3
namespace Go.Proofs.Ytnkmljdkokcdjaa
open Go.RowKit Fed
set_option linter.unusedVariables false
attribute [local go_sem high] Fed.max2_int Fed.min2_int

theorem ret_far {w : World} {b : Nat} {o : Obj} (h : w.heap[b]? = some o) {p : Addr} (hne : b ≠ p.block) (u : Value) : (w.setCell p u).heap[b]? = some o := (Below.heap_setCell w p u b hne).trans h

set_option maxRecDepth 100000 in
set_option maxHeartbeats 4000000 in
theorem voted_any (w : World) (B g : Nat) (s : NS) (μ : NM) (m : Fed.Msg) (ve : Value) (h : NodeAt w B g s μ) (ho : s.out.length ≤ 800000) (hl : s.n.log.length ≤ 800000) (hv : s.n.votes.length ≤ 1000) (hi0 : 0 ≤ s.n.id) (hi1 : s.n.id < s.n.votes.length) (hf0 : 0 ≤ m.frm) (hf1 : m.frm < s.n.votes.length) :
    Calls Try.prog 66 #[.pointer (some ⟨g, 0, none⟩), .agg #[.int .i64 m.kind, .int .i64 m.frm, .int .i64 m.to, .int .i64 m.term, .int .i64 m.index, .int .i64 m.logTerm, .bool m.ok, ve, .int .i64 m.commit, .int .i64 m.form]] w
      fun e w' => ∃ μ', e = .returned (.tuple #[]) ∧ NodeAt w' B g (votedS s m) μ' ∧ Below B w w' := by
  have hbs := h.Bsize
  have hn0 := h.alloc (.cells #[.int .i64 m.kind, .int .i64 m.frm, .int .i64 m.to, .int .i64 m.term, .int .i64 m.index, .int .i64 m.logTerm, .bool m.ok, ve, .int .i64 m.commit, .int .i64 m.form] 34)
  have hB0 : Below B w (w.alloc (.cells #[.int .i64 m.kind, .int .i64 m.frm, .int .i64 m.to, .int .i64 m.term, .int .i64 m.index, .int .i64 m.logTerm, .bool m.ok, ve, .int .i64 m.commit, .int .i64 m.form] 34)) := (Below.refl B w).alloc hbs _
  have hX0 := MM.alloc_new w (.cells #[.int .i64 m.kind, .int .i64 m.frm, .int .i64 m.to, .int .i64 m.term, .int .i64 m.index, .int .i64 m.logTerm, .bool m.ok, ve, .int .i64 m.commit, .int .i64 m.form] 34)
  obtain ⟨bx, hbx⟩ : ∃ bx, bx = w.heap.size := ⟨_, rfl⟩
  rw [← hbx] at hX0
  go_enter Try.func66, Try.ntmps66
  go_wp2
  rw [← hbx]
  obtain ⟨w0, hw0⟩ : ∃ W, W = w.alloc (.cells #[.int .i64 m.kind, .int .i64 m.frm, .int .i64 m.to, .int .i64 m.term, .int .i64 m.index, .int .i64 m.logTerm, .bool m.ok, ve, .int .i64 m.commit, .int .i64 m.form] 34) := ⟨_, rfl⟩
  have qN0 : NodeAt (w.alloc (.cells #[.int .i64 m.kind, .int .i64 m.frm, .int .i64 m.to, .int .i64 m.term, .int .i64 m.index, .int .i64 m.logTerm, .bool m.ok, ve, .int .i64 m.commit, .int .i64 m.form] 34)) B g s μ := hn0
  have qB0 : Below B w (w.alloc (.cells #[.int .i64 m.kind, .int .i64 m.frm, .int .i64 m.to, .int .i64 m.term, .int .i64 m.index, .int .i64 m.logTerm, .bool m.ok, ve, .int .i64 m.commit, .int .i64 m.form] 34)) := hB0
  have qX0 : ((w.alloc (.cells #[.int .i64 m.kind, .int .i64 m.frm, .int .i64 m.to, .int .i64 m.term, .int .i64 m.index, .int .i64 m.logTerm, .bool m.ok, ve, .int .i64 m.commit, .int .i64 m.form] 34))).heap[bx]? = some (.cells #[.int .i64 m.kind, .int .i64 m.frm, .int .i64 m.to, .int .i64 m.term, .int .i64 m.index, .int .i64 m.logTerm, .bool m.ok, ve, .int .i64 m.commit, .int .i64 m.form] 34 (0, 0)) := hX0
  rw [← hw0] at qN0 qB0 qX0 ⊢
  have HN0 := Lib.hid qN0
  have HB0 := Lib.hid qB0
  have HX0 := Lib.hid qX0
  clear qN0 qB0 qX0 hw0 hn0 hB0 hX0 h
  have c1 : w0.cell? ⟨g, 1, none⟩ = some (.int .i64 s.n.term) := HN0.out.c 1 _ rfl
  have c5 : w0.cell? ⟨g, 5, none⟩ = some (.int .i64 s.n.role) := HN0.out.c 5 _ rfl
  obtain ⟨A7, k7, e7, u7, _⟩ := HN0.out.hv.slice
  have c7 : w0.cell? ⟨g, 7, none⟩ = some (.slice A7 s.n.votes.length k7) := HN0.out.c 7 _ (by rw [← e7]; rfl)
  have E7 := Lib.hid e7; clear e7
  have d1 : w0.cell? ⟨bx, 1, none⟩ = some (.int .i64 m.frm) := MM.cell_blk HX0.out rfl
  have d3 : w0.cell? ⟨bx, 3, none⟩ = some (.int .i64 m.term) := MM.cell_blk HX0.out rfl
  have d6 : w0.cell? ⟨bx, 6, none⟩ = some (.bool m.ok) := MM.cell_blk HX0.out rfl
  have hge : B ≤ bx := by omega
  have HBX := Lib.hid hbx
  clear hbx
  by_cases hr : s.n.role = 1
  case neg =>
    have hrb : (s.n.role != 1) = true := by simpa using hr
    obtain hS : votedS s m = s := by unfold votedS; rw [if_pos (Or.inl hr)]
    have HS := Lib.hid hS
    clear hr hS
    refine Go.RT.wp_region_tree [0, 1, 3, 7, 15, 31, 63, 127, 255, 127, 639, 1663, 3711, 7807, 16383, 32767, 65535, 131071, 262143, 524287, 1048575] (.p 0 (.p 1 (.p 2 (.p 3 (.s 4 (.p 5 (.p 6 (.p 7 (.s 8 (.p 9 (.p 10 (.p 11 (.p 12 (.s 13 (.p 14 (.p 15 (.p 16 (.p 17 (.s 18 (.p 19 (.p 20 .nil))))))))))))))))))))) (by kernel_rfl) (by kernel_rfl) ?_
    repeat (first | (refine Go.RT.step_p rfl (fun K hK => ?_); go_simp; refine hK _ ?_; clear hK K) | (refine Go.RT.step_s rfl (fun K hK => ?_); go_simp; refine hK _ ?_; clear hK K))
    refine Go.RT.step_nil ?_
    go_wp2
    refine bodyPost_ret (results_none rfl _ _ _) rfl ?_
    exact ⟨μ, rfl, by rw [HS.out]; exact HN0.out.drew, HB0.out.drew⟩
  have hrb : (s.n.role != 1) = false := by simpa using hr
  by_cases ht : m.term = s.n.term
  case neg =>
    have htb : (m.term != s.n.term) = true := by simpa using ht
    obtain hS : votedS s m = s := by unfold votedS; rw [if_pos (Or.inr (Or.inl ht))]
    have HS := Lib.hid hS
    clear hr hS ht
    refine Go.RT.wp_region_tree [0, 1, 3, 7, 15, 31, 63, 127, 255, 127, 639, 1663, 3711, 7807, 16383, 32767, 65535, 131071, 262143, 524287, 1048575] (.p 0 (.p 1 (.p 2 (.p 3 (.s 4 (.p 5 (.p 6 (.p 7 (.s 8 (.p 9 (.p 10 (.p 11 (.p 12 (.s 13 (.p 14 (.p 15 (.p 16 (.p 17 (.s 18 (.p 19 (.p 20 .nil))))))))))))))))))))) (by kernel_rfl) (by kernel_rfl) ?_
    repeat (first | (refine Go.RT.step_p rfl (fun K hK => ?_); go_simp; refine hK _ ?_; clear hK K) | (refine Go.RT.step_s rfl (fun K hK => ?_); go_simp; refine hK _ ?_; clear hK K))
    refine Go.RT.step_nil ?_
    go_wp2
    refine bodyPost_ret (results_none rfl _ _ _) rfl ?_
    exact ⟨μ, rfl, by rw [HS.out]; exact HN0.out.drew, HB0.out.drew⟩
  have htb : (m.term != s.n.term) = false := by simpa using ht
  cases hk : m.ok
  case false =>
    obtain hS : votedS s m = s := by unfold votedS; rw [if_pos (Or.inr (Or.inr hk))]
    have HS := Lib.hid hS
    rw [hk] at d6
    clear hr hS ht
    refine Go.RT.wp_region_tree [0, 1, 3, 7, 15, 31, 63, 127, 255, 127, 639, 1663, 3711, 7807, 16383, 32767, 65535, 131071, 262143, 524287, 1048575] (.p 0 (.p 1 (.p 2 (.p 3 (.s 4 (.p 5 (.p 6 (.p 7 (.s 8 (.p 9 (.p 10 (.p 11 (.p 12 (.s 13 (.p 14 (.p 15 (.p 16 (.p 17 (.s 18 (.p 19 (.p 20 .nil))))))))))))))))))))) (by kernel_rfl) (by kernel_rfl) ?_
    repeat (first | (refine Go.RT.step_p rfl (fun K hK => ?_); go_simp; refine hK _ ?_; clear hK K) | (refine Go.RT.step_s rfl (fun K hK => ?_); go_simp; refine hK _ ?_; clear hK K))
    refine Go.RT.step_nil ?_
    go_wp2
    refine bodyPost_ret (results_none rfl _ _ _) rfl ?_
    exact ⟨μ, rfl, by rw [HS.out]; exact HN0.out.drew, HB0.out.drew⟩
  rw [hk] at d6
  have HS := Lib.hid (show votedS s m = if s.n.votes.length < 2 * countT (votedN s.n m).votes then leadS ⟨votedN s.n m, s.out⟩ else ⟨votedN s.n m, s.out⟩ from by unfold votedS; rw [if_neg (by simp [hr, ht, hk])])
  clear hr ht hk
  refine Go.RT.wp_region_tree [0, 1, 3, 7, 15, 31, 63, 127, 255, 127, 639, 1663, 3711, 7807, 16383, 32767, 65535, 131071, 262143, 524287, 1048575] (.p 0 (.p 1 (.p 2 (.p 3 (.s 4 (.p 5 (.p 6 (.p 7 (.s 8 (.p 9 (.p 10 (.p 11 (.p 12 (.s 13 (.p 14 (.p 15 (.p 16 (.p 17 (.s 18 (.p 19 (.p 20 .nil))))))))))))))))))))) (by kernel_rfl) (by kernel_rfl) ?_
  repeat (first | (refine Go.RT.step_p rfl (fun K hK => ?_); go_simp; refine hK _ ?_; clear hK K) | (refine Go.RT.step_s rfl (fun K hK => ?_); go_simp; refine hK _ ?_; clear hK K))
  refine Go.RT.step_nil ?_
  obtain ⟨bv, hbv⟩ := HN0.out.hv.some_of (by omega)
  have hrv := HN0.out.hv
  rw [hbv] at hrv
  obtain ⟨capv, ev, q1, q2⟩ := hrv.form
  obtain ⟨w1, hw1⟩ : ∃ W, W = w0.drew := ⟨_, rfl⟩
  have qN1 : NodeAt (w0.drew) B g s μ := HN0.out.drew
  have qB1 : Below B w (w0.drew) := HB0.out.drew
  have qX1 : ((w0.drew)).heap[bx]? = some (.cells #[.int .i64 m.kind, .int .i64 m.frm, .int .i64 m.to, .int .i64 m.term, .int .i64 m.index, .int .i64 m.logTerm, .bool m.ok, ve, .int .i64 m.commit, .int .i64 m.form] 34 (0, 0)) := HX0.out
  rw [← hw1] at qN1 qB1 qX1 ⊢
  have HN1 := Lib.hid qN1
  have HB1 := Lib.hid qB1
  have HX1 := Lib.hid qX1
  clear qN1 qB1 qX1 hw1 c1 c5 c7 d1 d3 d6 hrb htb HX0 HB0 HN0
  have c7 : w1.cell? ⟨g, 7, none⟩ = some (.slice (some ⟨bv, 0, none⟩) s.n.votes.length capv) := HN1.out.c 7 _ (by rw [← ev]; rfl)
  have d1 : w1.cell? ⟨bx, 1, none⟩ = some (.int .i64 m.frm) := MM.cell_blk HX1.out rfl
  have hrv := HN1.out.hv
  rw [hbv] at hrv
  have hin : m.frm.toNat < s.n.votes.length := by omega
  have ce : w1.cell? ⟨bv, m.frm.toNat, none⟩ = some (.bool (s.n.votes.getD m.frm.toNat false)) := hrv.cell (boolsC_get hin)
  have fe : w1.frozen? ⟨bv, m.frm.toNat, none⟩ = false := hrv.free _
  have hge2 := (hrv.lt bv rfl).1
  have HBV := Lib.hid hbv
  have HIN := Lib.hid hin
  clear hrv ev hbv hin
  go_wp2
  refine Go.RT.wp_region_tree [0, 1, 3, 7, 15, 0, 32, 127, 255] (.p 0 (.p 1 (.p 2 (.p 3 (.s 4 (.p 5 (.s 6 (.p 7 (.w 8 [] .nil .stop))))))))) (by kernel_rfl) (by kernel_rfl) ?_
  repeat (first | (refine Go.RT.step_p rfl (fun K hK => ?_); go_simp; refine hK _ ?_; clear hK K) | (refine Go.RT.step_s rfl (fun K hK => ?_); go_simp; refine hK _ ?_; clear hK K))
  (refine Go.RT.step_w rfl rfl (fun K hK => ?_) Go.RT.step_stop)
  go_wp2
  refine Go.RT.QK_normal _ _ _ _ (hK _ _ ?_ ?_) <;> clear hK K
  · repeat (first | exact Go.RT.again_nil | (refine Go.RT.again_not rfl rfl ?_) | (refine Go.RT.again_one rfl (by go_simp <;> rfl) ?_))
  refine Go.RT.step_nil ?_
  obtain ⟨w2, hw2⟩ : ∃ W, W = (w1.setCell ⟨bv, m.frm.toNat, none⟩ (.bool true)).drew := ⟨_, rfl⟩
  have qN2 : NodeAt ((w1.setCell ⟨bv, m.frm.toNat, none⟩ (.bool true)).drew) B g ⟨votedN s.n m, s.out⟩ μ := (HN1.out.set_v (x := true) HBV.out HIN.out).drew
  have qB2 : Below B w ((w1.setCell ⟨bv, m.frm.toNat, none⟩ (.bool true)).drew) := (HB1.out.setCell (p := ⟨bv, m.frm.toNat, none⟩) hge2 _).drew
  rw [← hw2] at qN2 qB2 ⊢
  have HN2 := Lib.hid qN2
  have HB2 := Lib.hid qB2
  clear qN2 qB2 hw2 c7 d1 ce fe HX1 HN1 HB1
  have hln : (votedN s.n m).votes.length = s.n.votes.length := by simp [votedN]
  obtain ⟨V, hV⟩ : ∃ V, V = (votedN s.n m).votes := ⟨_, rfl⟩
  have hVl : V.length = s.n.votes.length := by rw [hV]; exact hln
  have hrv := HN2.out.hv
  rw [HBV.out] at hrv
  obtain ⟨capw, ew, q3, q4⟩ := hrv.form
  have c7 : w2.cell? ⟨g, 7, none⟩ = some (.slice (some ⟨bv, 0, none⟩) V.length capw) := HN2.out.c 7 _ (by rw [hV, ← ew]; rfl)
  have HCE := Lib.hid (show ∀ j, j < V.length → w2.cell? ⟨bv, j, none⟩ = some (.bool (V.getD j false)) from fun j hj => by rw [hV] at hj ⊢; exact hrv.cell (boolsC_get hj))
  have HV := Lib.hid hV
  have HVL := Lib.hid hVl
  have hVm : V.length ≤ 1000 := by omega
  clear hrv ew hV hln hVl
  go_wp2
  go_loop [4, 42] (fun t4 t42 => ∃ j : Nat, j ≤ V.length ∧ t4 = .int .i64 (countT (V.take j)) ∧ t42 = .int .i64 j) (fun _ t42 => V.length - (intOf t42).toNat)
  case atStart => exact ⟨0, by omega, rfl, rfl⟩
  case round =>
    obtain ⟨j, hj, rfl, rfl⟩ := hrel
    have hcl := countT_take_le V j
    by_cases hlt : j < V.length
    · have hce := HCE.out j hlt
      have hts := countT_take_succ hlt
      cases hb : V.getD j false
      · rw [hb] at hce hts
        have HT := Lib.hid (show countT (V.take (j + 1)) = countT (V.take j) from by simpa using hts)
        clear hts hb
        go_wp2
        go_round
        case rel => exact ⟨j + 1, by omega, by rw [HT.out], by go_num⟩
        case measure => simp [intOf]; omega
      · rw [hb] at hce hts
        have HT := Lib.hid (show countT (V.take (j + 1)) = countT (V.take j) + 1 from by simpa using hts)
        clear hts hb
        go_wp2
        go_round
        case rel => exact ⟨j + 1, by omega, by rw [HT.out]; go_num, by go_num⟩
        case measure => simp [intOf]; omega
    · obtain rfl : j = V.length := by omega
      rw [List.take_length] at hcl ⊢
      by_cases hmj : s.n.votes.length < 2 * countT V
      · have HS2 := Lib.hid (show votedS s m = leadS ⟨votedN s.n m, s.out⟩ from by rw [HS.out, if_pos (by rw [← HV.out]; exact hmj)])
        have hb : decide (((⟨votedN s.n m, s.out⟩ : NS).n.votes.length : Int) < 2 * (countT V : Int)) = true := decide_eq_true (by show ((votedN s.n m).votes.length : Int) < _; rw [← HV.out, HVL.out]; omega)
        clear hmj
        go_wp2_with fail
        refine (majority_any _ B g _ _ (countT V) (by omega) (by omega) HN2.out).mono ?_
        rintro e w3 ⟨rfl, rfl⟩
        go_wp2_with fail
        refine (lead_any _ B g _ _ HN2.out (by show s.out.length ≤ 900000; omega) (by show s.n.log.length ≤ 900000; omega) (by show (votedN s.n m).votes.length ≤ 1000; rw [← HV.out]; omega) hi0 (by show s.n.id < ((votedN s.n m).votes.length : Int); rw [← HV.out, HVL.out]; exact hi1)).mono ?_
        rintro e w3 ⟨μ3, rfl, hn3, hb3⟩
        go_wp2_with fail
        go_end0
        exact ⟨μ3, rfl, by rw [HS2.out]; exact hn3, HB2.out.trans hb3⟩
      · have HS2 := Lib.hid (show votedS s m = ⟨votedN s.n m, s.out⟩ from by rw [HS.out, if_neg (by rw [← HV.out]; exact hmj)])
        have hb : decide (((⟨votedN s.n m, s.out⟩ : NS).n.votes.length : Int) < 2 * (countT V : Int)) = false := decide_eq_false (by show ¬ ((votedN s.n m).votes.length : Int) < _; rw [← HV.out, HVL.out]; omega)
        clear hmj
        go_wp2_with fail
        refine (majority_any _ B g _ _ (countT V) (by omega) (by omega) HN2.out).mono ?_
        rintro e w3 ⟨rfl, rfl⟩
        go_wp2_with fail
        go_end0
        exact ⟨μ, rfl, by rw [HS2.out]; exact HN2.out, HB2.out⟩

end Go.Proofs.Ytnkmljdkokcdjaa
