/-
  vote answers one who stands, as the plain voteS says. Conditions: lengths and numbers are bounded as the theorem says.
-/
import Derived.WalkKit
import Derived.WalkSpells
import Derived.Lib.Hide
import Derived.Outline
import Derived.Test.YtnkmljdkokcdjaaChecked
import Derived.Test.YtnkmljdkokcdjaaMn
import Derived.Test.YtnkmljdkokcdjaaMem
import Derived.Test.YtnkmljdkokcdjaaFed
import Derived.Test.YtnkmljdkokcdjaaRe5
import Derived.Deep.DeepCutAuto
import Derived.Deep.CutBlock
import Derived.IntWalk
set_option linter.unusedVariables false
set_option linter.unusedSimpArgs false
namespace Go.Proofs.Ytnkmljdkokcdjaa
open Go.RowKit Fed
set_option linter.unusedVariables false
attribute [local go_sem high] Fed.max2_int Fed.min2_int

set_option maxRecDepth 100000 in
set_option maxHeartbeats 4000000 in
theorem vote_any (w : World) (B g : Nat) (s : NS) (μ : NM) (m : Fed.Msg) (ve : Value) (h : NodeAt w B g s μ) (ho : s.out.length ≤ 800000) (hl : s.n.log.length ≤ 800000)
    (hc0 : -1000000000 ≤ s.n.clock) (hc1 : s.n.clock ≤ 1000000000) (hi0 : -1000000000 ≤ s.n.id) (hi1 : s.n.id ≤ 1000000000) :
    Calls Try.prog 65 #[.pointer (some ⟨g, 0, none⟩), .agg #[.int .i64 m.kind, .int .i64 m.frm, .int .i64 m.to, .int .i64 m.term, .int .i64 m.index, .int .i64 m.logTerm, .bool m.ok, ve, .int .i64 m.commit, .int .i64 m.form]] w
      fun e w' => ∃ μ', e = .returned (.tuple #[]) ∧ NodeAt w' B g (voteS s m) μ' ∧ Below B w w' := by
  have hbs := h.Bsize
  have hn0 := h.alloc (.cells #[.int .i64 m.kind, .int .i64 m.frm, .int .i64 m.to, .int .i64 m.term, .int .i64 m.index, .int .i64 m.logTerm, .bool m.ok, ve, .int .i64 m.commit, .int .i64 m.form] 34)
  have hB0 : Below B w (w.alloc (.cells #[.int .i64 m.kind, .int .i64 m.frm, .int .i64 m.to, .int .i64 m.term, .int .i64 m.index, .int .i64 m.logTerm, .bool m.ok, ve, .int .i64 m.commit, .int .i64 m.form] 34)) := (Below.refl B w).alloc hbs _
  have hX0 := MM.alloc_new w (.cells #[.int .i64 m.kind, .int .i64 m.frm, .int .i64 m.to, .int .i64 m.term, .int .i64 m.index, .int .i64 m.logTerm, .bool m.ok, ve, .int .i64 m.commit, .int .i64 m.form] 34)
  obtain ⟨bx, hbx⟩ : ∃ bx, bx = w.heap.size := ⟨_, rfl⟩
  rw [← hbx] at hX0
  go_enter Try.func65, Try.ntmps65
  go_upto_region 1 with (fail)
  rw [← hbx]
  obtain ⟨w0, hw0⟩ : ∃ W, W = w.alloc (.cells #[.int .i64 m.kind, .int .i64 m.frm, .int .i64 m.to, .int .i64 m.term, .int .i64 m.index, .int .i64 m.logTerm, .bool m.ok, ve, .int .i64 m.commit, .int .i64 m.form] 34) := ⟨_, rfl⟩
  have qN0 : NodeAt (w.alloc (.cells #[.int .i64 m.kind, .int .i64 m.frm, .int .i64 m.to, .int .i64 m.term, .int .i64 m.index, .int .i64 m.logTerm, .bool m.ok, ve, .int .i64 m.commit, .int .i64 m.form] 34)) B g s μ := hn0
  have qB0 : Below B w (w.alloc (.cells #[.int .i64 m.kind, .int .i64 m.frm, .int .i64 m.to, .int .i64 m.term, .int .i64 m.index, .int .i64 m.logTerm, .bool m.ok, ve, .int .i64 m.commit, .int .i64 m.form] 34)) := hB0
  have qX0 : ((w.alloc (.cells #[.int .i64 m.kind, .int .i64 m.frm, .int .i64 m.to, .int .i64 m.term, .int .i64 m.index, .int .i64 m.logTerm, .bool m.ok, ve, .int .i64 m.commit, .int .i64 m.form] 34))).heap[bx]? = some (.cells #[.int .i64 m.kind, .int .i64 m.frm, .int .i64 m.to, .int .i64 m.term, .int .i64 m.index, .int .i64 m.logTerm, .bool m.ok, ve, .int .i64 m.commit, .int .i64 m.form] 34 (0, 0)) := hX0
  rw [← hw0] at qN0 qB0 qX0 ⊢
  have HN0 := Lib.hid qN0
  have HB0 := Lib.hid qB0
  have HX0 := Lib.hid qX0
  clear qN0 qB0 qX0 hw0 hn0 hB0 hX0 h
  have c1 : w0.cell? ⟨g, 1, none⟩ = some (.int .i64 s.n.term) := HN0.out.c 1 _ rfl
  have c2 : w0.cell? ⟨g, 2, none⟩ = some (.int .i64 s.n.vote) := HN0.out.c 2 _ rfl
  have d1 : w0.cell? ⟨bx, 1, none⟩ = some (.int .i64 m.frm) := MM.cell_blk HX0.out rfl
  have d3 : w0.cell? ⟨bx, 3, none⟩ = some (.int .i64 m.term) := MM.cell_blk HX0.out rfl
  have d4 : w0.cell? ⟨bx, 4, none⟩ = some (.int .i64 m.index) := MM.cell_blk HX0.out rfl
  have d5 : w0.cell? ⟨bx, 5, none⟩ = some (.int .i64 m.logTerm) := MM.cell_blk HX0.out rfl
  have hge : B ≤ bx := by omega
  have HBX := Lib.hid hbx
  clear hbx
  go_wp2_with fail
  refine (last_any _ B g s μ HN0.out).mono ?_
  rintro e w2 ⟨rfl, rfl⟩
  go_wp2_with fail
  refine (term_any _ B g s μ _ (by omega) (by omega) HN0.out).mono ?_
  rintro e w2 ⟨rfl, rfl⟩
  go_upto_region 2 with (fail)
  go_cut [5] (fun v5 wc => v5 = .bool (voteOk s.n m) ∧ wc = w0.drew)
  case first =>
    by_cases h1 : m.term = s.n.term
    case neg =>
      have h1b : (m.term == s.n.term) = false := by simpa using h1
      have HF := Lib.hid (show voteOk s.n m = false from by simp [voteOk, h1])
      clear h1
      refine Go.RT.wp_region_tree [0, 1, 0, 4, 12, 28, 60, 127, 255, 511, 1023, 2047, 4095, 8191, 16383, 32767, 65535, 131071, 262143, 524287, 1048575, 65535, 2162687, 8388607, 16777215, 33554431, 67108863, 134217727, 268435455, 134217727, 1073741823, 2147483647, 4294967295, 8589934591, 4294967295, 34359738367, 68719476735, 137438953471, 274877906943, 137438953471, 687194767359, 2199023255551, 4398046511103, 8796093022207, 17592186044415, 35184372088831] (.p 0 (.s 1 (.p 2 (.p 3 (.p 4 (.p 5 (.s 6 (.p 7 (.p 8 (.p 9 (.p 10 (.p 11 (.p 12 (.s 13 (.p 14 (.p 15 (.p 16 (.p 17 (.p 18 (.p 19 (.s 20 (.p 21 (.s 22 (.p 23 (.p 24 (.p 25 (.p 26 (.p 27 (.s 28 (.p 29 (.p 30 (.p 31 (.p 32 (.s 33 (.p 34 (.p 35 (.p 36 (.p 37 (.s 38 (.p 39 (.w 40 [38] (.p 41 (.p 42 (.p 43 (.p 44 (.w 45 [] .nil .stop))))) .stop))))))))))))))))))))))))))))))))))))))))) (by kernel_rfl) (by kernel_rfl) ?_
      repeat (first | (refine Go.RT.step_p rfl (fun K hK => ?_); go_simp; refine hK _ ?_; clear hK K) | (refine Go.RT.step_s rfl (fun K hK => ?_); go_simp; refine hK _ ?_; clear hK K))
      (refine Go.RT.skip_w rfl rfl ?_ Go.RT.step_stop)
      (try simp only [Act.put, List.setIfInBounds_toArray, List.set_cons_zero, List.set_cons_succ])
      repeat (first | (refine Go.RT.step_p rfl (fun K hK => ?_); go_simp; refine hK _ ?_; clear hK K) | (refine Go.RT.step_s rfl (fun K hK => ?_); go_simp; refine hK _ ?_; clear hK K))
      (refine Go.RT.step_w rfl rfl (fun K hK => ?_) Go.RT.step_stop)
      go_wp2
      refine Go.RT.QK_normal _ _ _ _ (hK _ _ ?_ ?_) <;> clear hK K
      · repeat (first | exact Go.RT.again_nil | (refine Go.RT.again_not rfl rfl ?_) | (refine Go.RT.again_one rfl (by go_simp <;> rfl) ?_))
      refine Go.RT.step_nil ?_
      go_wp2_with fail
      go_meet
      case rel => exact ⟨by rw [HF.out], rfl⟩
    have h1b : (m.term == s.n.term) = true := by simpa using h1
    by_cases h2 : s.n.vote = -1
    · have h2b : (s.n.vote == -1) = true := by simpa using h2
      by_cases h4 : termAt s.n.log s.n.log.length < m.logTerm
      · have h4b : decide (termAt s.n.log s.n.log.length < m.logTerm) = true := decide_eq_true h4
        have HF := Lib.hid (show voteOk s.n m = true from by simp [voteOk, h1, h2, h4])
        clear h1 h4 h2
        refine Go.RT.wp_region_tree [0, 1, 0, 4, 12, 28, 60, 127, 255, 511, 1023, 2047, 4095, 8191, 16383, 32767, 65535, 131071, 262143, 524287, 1048575, 65535, 2162687, 8388607, 16777215, 33554431, 67108863, 134217727, 268435455, 134217727, 1073741823, 2147483647, 4294967295, 8589934591, 4294967295, 34359738367, 68719476735, 137438953471, 274877906943, 137438953471, 687194767359, 2199023255551, 4398046511103, 8796093022207, 17592186044415, 35184372088831] (.p 0 (.s 1 (.p 2 (.p 3 (.p 4 (.p 5 (.s 6 (.p 7 (.p 8 (.p 9 (.p 10 (.p 11 (.p 12 (.s 13 (.p 14 (.p 15 (.p 16 (.p 17 (.p 18 (.p 19 (.s 20 (.p 21 (.s 22 (.p 23 (.p 24 (.p 25 (.p 26 (.p 27 (.s 28 (.p 29 (.p 30 (.p 31 (.p 32 (.s 33 (.p 34 (.p 35 (.p 36 (.p 37 (.s 38 (.p 39 (.w 40 [38] (.p 41 (.p 42 (.p 43 (.p 44 (.w 45 [] .nil .stop))))) .stop))))))))))))))))))))))))))))))))))))))))) (by kernel_rfl) (by kernel_rfl) ?_
        repeat (first | (refine Go.RT.step_p rfl (fun K hK => ?_); go_simp; refine hK _ ?_; clear hK K) | (refine Go.RT.step_s rfl (fun K hK => ?_); go_simp; refine hK _ ?_; clear hK K))
        (refine Go.RT.skip_w rfl rfl ?_ Go.RT.step_stop)
        (try simp only [Act.put, List.setIfInBounds_toArray, List.set_cons_zero, List.set_cons_succ])
        repeat (first | (refine Go.RT.step_p rfl (fun K hK => ?_); go_simp; refine hK _ ?_; clear hK K) | (refine Go.RT.step_s rfl (fun K hK => ?_); go_simp; refine hK _ ?_; clear hK K))
        (refine Go.RT.step_w rfl rfl (fun K hK => ?_) Go.RT.step_stop)
        go_wp2
        refine Go.RT.QK_normal _ _ _ _ (hK _ _ ?_ ?_) <;> clear hK K
        · repeat (first | exact Go.RT.again_nil | (refine Go.RT.again_not rfl rfl ?_) | (refine Go.RT.again_one rfl (by go_simp <;> rfl) ?_))
        refine Go.RT.step_nil ?_
        go_wp2_with fail
        go_meet
        case rel => exact ⟨by rw [HF.out], rfl⟩
      have h4b : decide (termAt s.n.log s.n.log.length < m.logTerm) = false := decide_eq_false h4
      by_cases h5 : m.logTerm = termAt s.n.log s.n.log.length
      case neg =>
        have h5b : (m.logTerm == termAt s.n.log s.n.log.length) = false := by simpa using h5
        have HF := Lib.hid (show voteOk s.n m = false from by simp [voteOk, h4, h5])
        clear h1 h4 h5 h2
        refine Go.RT.wp_region_tree [0, 1, 0, 4, 12, 28, 60, 127, 255, 511, 1023, 2047, 4095, 8191, 16383, 32767, 65535, 131071, 262143, 524287, 1048575, 65535, 2162687, 8388607, 16777215, 33554431, 67108863, 134217727, 268435455, 134217727, 1073741823, 2147483647, 4294967295, 8589934591, 4294967295, 34359738367, 68719476735, 137438953471, 274877906943, 137438953471, 687194767359, 2199023255551, 4398046511103, 8796093022207, 17592186044415, 35184372088831] (.p 0 (.s 1 (.p 2 (.p 3 (.p 4 (.p 5 (.s 6 (.p 7 (.p 8 (.p 9 (.p 10 (.p 11 (.p 12 (.s 13 (.p 14 (.p 15 (.p 16 (.p 17 (.p 18 (.p 19 (.s 20 (.p 21 (.s 22 (.p 23 (.p 24 (.p 25 (.p 26 (.p 27 (.s 28 (.p 29 (.p 30 (.p 31 (.p 32 (.s 33 (.p 34 (.p 35 (.p 36 (.p 37 (.s 38 (.p 39 (.w 40 [38] (.p 41 (.p 42 (.p 43 (.p 44 (.w 45 [] .nil .stop))))) .stop))))))))))))))))))))))))))))))))))))))))) (by kernel_rfl) (by kernel_rfl) ?_
        repeat (first | (refine Go.RT.step_p rfl (fun K hK => ?_); go_simp; refine hK _ ?_; clear hK K) | (refine Go.RT.step_s rfl (fun K hK => ?_); go_simp; refine hK _ ?_; clear hK K))
        (refine Go.RT.skip_w rfl rfl ?_ Go.RT.step_stop)
        (try simp only [Act.put, List.setIfInBounds_toArray, List.set_cons_zero, List.set_cons_succ])
        repeat (first | (refine Go.RT.step_p rfl (fun K hK => ?_); go_simp; refine hK _ ?_; clear hK K) | (refine Go.RT.step_s rfl (fun K hK => ?_); go_simp; refine hK _ ?_; clear hK K))
        (refine Go.RT.step_w rfl rfl (fun K hK => ?_) Go.RT.step_stop)
        go_wp2
        refine Go.RT.QK_normal _ _ _ _ (hK _ _ ?_ ?_) <;> clear hK K
        · repeat (first | exact Go.RT.again_nil | (refine Go.RT.again_not rfl rfl ?_) | (refine Go.RT.again_one rfl (by go_simp <;> rfl) ?_))
        refine Go.RT.step_nil ?_
        go_wp2_with fail
        go_meet
        case rel => exact ⟨by rw [HF.out], rfl⟩
      have h5b : (m.logTerm == termAt s.n.log s.n.log.length) = true := by simpa using h5
      by_cases h6 : (s.n.log.length : Int) ≤ m.index
      · have h6b : decide ((s.n.log.length : Int) ≤ m.index) = true := decide_eq_true h6
        have HF := Lib.hid (show voteOk s.n m = true from by simp [voteOk, h1, h2, h4, h5, h6])
        clear h1 h4 h5 h6 h2
        refine Go.RT.wp_region_tree [0, 1, 0, 4, 12, 28, 60, 127, 255, 511, 1023, 2047, 4095, 8191, 16383, 32767, 65535, 131071, 262143, 524287, 1048575, 65535, 2162687, 8388607, 16777215, 33554431, 67108863, 134217727, 268435455, 134217727, 1073741823, 2147483647, 4294967295, 8589934591, 4294967295, 34359738367, 68719476735, 137438953471, 274877906943, 137438953471, 687194767359, 2199023255551, 4398046511103, 8796093022207, 17592186044415, 35184372088831] (.p 0 (.s 1 (.p 2 (.p 3 (.p 4 (.p 5 (.s 6 (.p 7 (.p 8 (.p 9 (.p 10 (.p 11 (.p 12 (.s 13 (.p 14 (.p 15 (.p 16 (.p 17 (.p 18 (.p 19 (.s 20 (.p 21 (.s 22 (.p 23 (.p 24 (.p 25 (.p 26 (.p 27 (.s 28 (.p 29 (.p 30 (.p 31 (.p 32 (.s 33 (.p 34 (.p 35 (.p 36 (.p 37 (.s 38 (.p 39 (.w 40 [38] (.p 41 (.p 42 (.p 43 (.p 44 (.w 45 [] .nil .stop))))) .stop))))))))))))))))))))))))))))))))))))))))) (by kernel_rfl) (by kernel_rfl) ?_
        repeat (first | (refine Go.RT.step_p rfl (fun K hK => ?_); go_simp; refine hK _ ?_; clear hK K) | (refine Go.RT.step_s rfl (fun K hK => ?_); go_simp; refine hK _ ?_; clear hK K))
        (refine Go.RT.step_w rfl rfl (fun K hK => ?_) Go.RT.step_stop)
        go_wp2_with fail
        refine (last_any _ B g s μ (HN0.out.below (by repeat (first | exact Below.refl _ _ | refine Below.setCell ?_ (by simp) _ | refine Below.alloc ?_ (by simp) _ | refine Below.drew ?_)))).mono ?_
        rintro e w2 ⟨rfl, rfl⟩
        go_wp2_with fail
        refine Go.RT.QK_normal _ _ _ _ (hK _ _ ?_ ?_) <;> clear hK K
        · repeat (first | exact Go.RT.again_nil | (refine Go.RT.again_not rfl rfl ?_) | (refine Go.RT.again_one rfl (by go_simp <;> rfl) ?_))
        repeat (first | (refine Go.RT.step_p rfl (fun K hK => ?_); go_simp; refine hK _ ?_; clear hK K) | (refine Go.RT.step_s rfl (fun K hK => ?_); go_simp; refine hK _ ?_; clear hK K))
        (refine Go.RT.step_w rfl rfl (fun K hK => ?_) Go.RT.step_stop)
        go_wp2
        refine Go.RT.QK_normal _ _ _ _ (hK _ _ ?_ ?_) <;> clear hK K
        · repeat (first | exact Go.RT.again_nil | (refine Go.RT.again_not rfl rfl ?_) | (refine Go.RT.again_one rfl (by go_simp <;> rfl) ?_))
        refine Go.RT.step_nil ?_
        go_wp2_with fail
        go_meet
        case rel => exact ⟨by rw [HF.out], rfl⟩
      · have h6b : decide ((s.n.log.length : Int) ≤ m.index) = false := decide_eq_false h6
        have HF := Lib.hid (show voteOk s.n m = false from by simp [voteOk, h4, h5, h6])
        clear h1 h4 h5 h6 h2
        refine Go.RT.wp_region_tree [0, 1, 0, 4, 12, 28, 60, 127, 255, 511, 1023, 2047, 4095, 8191, 16383, 32767, 65535, 131071, 262143, 524287, 1048575, 65535, 2162687, 8388607, 16777215, 33554431, 67108863, 134217727, 268435455, 134217727, 1073741823, 2147483647, 4294967295, 8589934591, 4294967295, 34359738367, 68719476735, 137438953471, 274877906943, 137438953471, 687194767359, 2199023255551, 4398046511103, 8796093022207, 17592186044415, 35184372088831] (.p 0 (.s 1 (.p 2 (.p 3 (.p 4 (.p 5 (.s 6 (.p 7 (.p 8 (.p 9 (.p 10 (.p 11 (.p 12 (.s 13 (.p 14 (.p 15 (.p 16 (.p 17 (.p 18 (.p 19 (.s 20 (.p 21 (.s 22 (.p 23 (.p 24 (.p 25 (.p 26 (.p 27 (.s 28 (.p 29 (.p 30 (.p 31 (.p 32 (.s 33 (.p 34 (.p 35 (.p 36 (.p 37 (.s 38 (.p 39 (.w 40 [38] (.p 41 (.p 42 (.p 43 (.p 44 (.w 45 [] .nil .stop))))) .stop))))))))))))))))))))))))))))))))))))))))) (by kernel_rfl) (by kernel_rfl) ?_
        repeat (first | (refine Go.RT.step_p rfl (fun K hK => ?_); go_simp; refine hK _ ?_; clear hK K) | (refine Go.RT.step_s rfl (fun K hK => ?_); go_simp; refine hK _ ?_; clear hK K))
        (refine Go.RT.step_w rfl rfl (fun K hK => ?_) Go.RT.step_stop)
        go_wp2_with fail
        refine (last_any _ B g s μ (HN0.out.below (by repeat (first | exact Below.refl _ _ | refine Below.setCell ?_ (by simp) _ | refine Below.alloc ?_ (by simp) _ | refine Below.drew ?_)))).mono ?_
        rintro e w2 ⟨rfl, rfl⟩
        go_wp2_with fail
        refine Go.RT.QK_normal _ _ _ _ (hK _ _ ?_ ?_) <;> clear hK K
        · repeat (first | exact Go.RT.again_nil | (refine Go.RT.again_not rfl rfl ?_) | (refine Go.RT.again_one rfl (by go_simp <;> rfl) ?_))
        repeat (first | (refine Go.RT.step_p rfl (fun K hK => ?_); go_simp; refine hK _ ?_; clear hK K) | (refine Go.RT.step_s rfl (fun K hK => ?_); go_simp; refine hK _ ?_; clear hK K))
        (refine Go.RT.step_w rfl rfl (fun K hK => ?_) Go.RT.step_stop)
        go_wp2
        refine Go.RT.QK_normal _ _ _ _ (hK _ _ ?_ ?_) <;> clear hK K
        · repeat (first | exact Go.RT.again_nil | (refine Go.RT.again_not rfl rfl ?_) | (refine Go.RT.again_one rfl (by go_simp <;> rfl) ?_))
        refine Go.RT.step_nil ?_
        go_wp2_with fail
        go_meet
        case rel => exact ⟨by rw [HF.out], rfl⟩
    · have h2b : (s.n.vote == -1) = false := by simpa using h2
      by_cases h3 : s.n.vote = m.frm
      case neg =>
        have h3b : (s.n.vote == m.frm) = false := by simpa using h3
        have HF := Lib.hid (show voteOk s.n m = false from by simp [voteOk, h2, h3])
        clear h1 h2 h3
        refine Go.RT.wp_region_tree [0, 1, 0, 4, 12, 28, 60, 127, 255, 511, 1023, 2047, 4095, 8191, 16383, 32767, 65535, 131071, 262143, 524287, 1048575, 65535, 2162687, 8388607, 16777215, 33554431, 67108863, 134217727, 268435455, 134217727, 1073741823, 2147483647, 4294967295, 8589934591, 4294967295, 34359738367, 68719476735, 137438953471, 274877906943, 137438953471, 687194767359, 2199023255551, 4398046511103, 8796093022207, 17592186044415, 35184372088831] (.p 0 (.s 1 (.p 2 (.p 3 (.p 4 (.p 5 (.s 6 (.p 7 (.p 8 (.p 9 (.p 10 (.p 11 (.p 12 (.s 13 (.p 14 (.p 15 (.p 16 (.p 17 (.p 18 (.p 19 (.s 20 (.p 21 (.s 22 (.p 23 (.p 24 (.p 25 (.p 26 (.p 27 (.s 28 (.p 29 (.p 30 (.p 31 (.p 32 (.s 33 (.p 34 (.p 35 (.p 36 (.p 37 (.s 38 (.p 39 (.w 40 [38] (.p 41 (.p 42 (.p 43 (.p 44 (.w 45 [] .nil .stop))))) .stop))))))))))))))))))))))))))))))))))))))))) (by kernel_rfl) (by kernel_rfl) ?_
        repeat (first | (refine Go.RT.step_p rfl (fun K hK => ?_); go_simp; refine hK _ ?_; clear hK K) | (refine Go.RT.step_s rfl (fun K hK => ?_); go_simp; refine hK _ ?_; clear hK K))
        (refine Go.RT.skip_w rfl rfl ?_ Go.RT.step_stop)
        (try simp only [Act.put, List.setIfInBounds_toArray, List.set_cons_zero, List.set_cons_succ])
        repeat (first | (refine Go.RT.step_p rfl (fun K hK => ?_); go_simp; refine hK _ ?_; clear hK K) | (refine Go.RT.step_s rfl (fun K hK => ?_); go_simp; refine hK _ ?_; clear hK K))
        (refine Go.RT.step_w rfl rfl (fun K hK => ?_) Go.RT.step_stop)
        go_wp2
        refine Go.RT.QK_normal _ _ _ _ (hK _ _ ?_ ?_) <;> clear hK K
        · repeat (first | exact Go.RT.again_nil | (refine Go.RT.again_not rfl rfl ?_) | (refine Go.RT.again_one rfl (by go_simp <;> rfl) ?_))
        refine Go.RT.step_nil ?_
        go_wp2_with fail
        go_meet
        case rel => exact ⟨by rw [HF.out], rfl⟩
      have h3b : (s.n.vote == m.frm) = true := by simpa using h3
      by_cases h4 : termAt s.n.log s.n.log.length < m.logTerm
      · have h4b : decide (termAt s.n.log s.n.log.length < m.logTerm) = true := decide_eq_true h4
        have HF := Lib.hid (show voteOk s.n m = true from by simp [voteOk, h1, h3, h4])
        clear h1 h4 h2 h3
        refine Go.RT.wp_region_tree [0, 1, 0, 4, 12, 28, 60, 127, 255, 511, 1023, 2047, 4095, 8191, 16383, 32767, 65535, 131071, 262143, 524287, 1048575, 65535, 2162687, 8388607, 16777215, 33554431, 67108863, 134217727, 268435455, 134217727, 1073741823, 2147483647, 4294967295, 8589934591, 4294967295, 34359738367, 68719476735, 137438953471, 274877906943, 137438953471, 687194767359, 2199023255551, 4398046511103, 8796093022207, 17592186044415, 35184372088831] (.p 0 (.s 1 (.p 2 (.p 3 (.p 4 (.p 5 (.s 6 (.p 7 (.p 8 (.p 9 (.p 10 (.p 11 (.p 12 (.s 13 (.p 14 (.p 15 (.p 16 (.p 17 (.p 18 (.p 19 (.s 20 (.p 21 (.s 22 (.p 23 (.p 24 (.p 25 (.p 26 (.p 27 (.s 28 (.p 29 (.p 30 (.p 31 (.p 32 (.s 33 (.p 34 (.p 35 (.p 36 (.p 37 (.s 38 (.p 39 (.w 40 [38] (.p 41 (.p 42 (.p 43 (.p 44 (.w 45 [] .nil .stop))))) .stop))))))))))))))))))))))))))))))))))))))))) (by kernel_rfl) (by kernel_rfl) ?_
        repeat (first | (refine Go.RT.step_p rfl (fun K hK => ?_); go_simp; refine hK _ ?_; clear hK K) | (refine Go.RT.step_s rfl (fun K hK => ?_); go_simp; refine hK _ ?_; clear hK K))
        (refine Go.RT.skip_w rfl rfl ?_ Go.RT.step_stop)
        (try simp only [Act.put, List.setIfInBounds_toArray, List.set_cons_zero, List.set_cons_succ])
        repeat (first | (refine Go.RT.step_p rfl (fun K hK => ?_); go_simp; refine hK _ ?_; clear hK K) | (refine Go.RT.step_s rfl (fun K hK => ?_); go_simp; refine hK _ ?_; clear hK K))
        (refine Go.RT.step_w rfl rfl (fun K hK => ?_) Go.RT.step_stop)
        go_wp2
        refine Go.RT.QK_normal _ _ _ _ (hK _ _ ?_ ?_) <;> clear hK K
        · repeat (first | exact Go.RT.again_nil | (refine Go.RT.again_not rfl rfl ?_) | (refine Go.RT.again_one rfl (by go_simp <;> rfl) ?_))
        refine Go.RT.step_nil ?_
        go_wp2_with fail
        go_meet
        case rel => exact ⟨by rw [HF.out], rfl⟩
      have h4b : decide (termAt s.n.log s.n.log.length < m.logTerm) = false := decide_eq_false h4
      by_cases h5 : m.logTerm = termAt s.n.log s.n.log.length
      case neg =>
        have h5b : (m.logTerm == termAt s.n.log s.n.log.length) = false := by simpa using h5
        have HF := Lib.hid (show voteOk s.n m = false from by simp [voteOk, h4, h5])
        clear h1 h4 h5 h2 h3
        refine Go.RT.wp_region_tree [0, 1, 0, 4, 12, 28, 60, 127, 255, 511, 1023, 2047, 4095, 8191, 16383, 32767, 65535, 131071, 262143, 524287, 1048575, 65535, 2162687, 8388607, 16777215, 33554431, 67108863, 134217727, 268435455, 134217727, 1073741823, 2147483647, 4294967295, 8589934591, 4294967295, 34359738367, 68719476735, 137438953471, 274877906943, 137438953471, 687194767359, 2199023255551, 4398046511103, 8796093022207, 17592186044415, 35184372088831] (.p 0 (.s 1 (.p 2 (.p 3 (.p 4 (.p 5 (.s 6 (.p 7 (.p 8 (.p 9 (.p 10 (.p 11 (.p 12 (.s 13 (.p 14 (.p 15 (.p 16 (.p 17 (.p 18 (.p 19 (.s 20 (.p 21 (.s 22 (.p 23 (.p 24 (.p 25 (.p 26 (.p 27 (.s 28 (.p 29 (.p 30 (.p 31 (.p 32 (.s 33 (.p 34 (.p 35 (.p 36 (.p 37 (.s 38 (.p 39 (.w 40 [38] (.p 41 (.p 42 (.p 43 (.p 44 (.w 45 [] .nil .stop))))) .stop))))))))))))))))))))))))))))))))))))))))) (by kernel_rfl) (by kernel_rfl) ?_
        repeat (first | (refine Go.RT.step_p rfl (fun K hK => ?_); go_simp; refine hK _ ?_; clear hK K) | (refine Go.RT.step_s rfl (fun K hK => ?_); go_simp; refine hK _ ?_; clear hK K))
        (refine Go.RT.skip_w rfl rfl ?_ Go.RT.step_stop)
        (try simp only [Act.put, List.setIfInBounds_toArray, List.set_cons_zero, List.set_cons_succ])
        repeat (first | (refine Go.RT.step_p rfl (fun K hK => ?_); go_simp; refine hK _ ?_; clear hK K) | (refine Go.RT.step_s rfl (fun K hK => ?_); go_simp; refine hK _ ?_; clear hK K))
        (refine Go.RT.step_w rfl rfl (fun K hK => ?_) Go.RT.step_stop)
        go_wp2
        refine Go.RT.QK_normal _ _ _ _ (hK _ _ ?_ ?_) <;> clear hK K
        · repeat (first | exact Go.RT.again_nil | (refine Go.RT.again_not rfl rfl ?_) | (refine Go.RT.again_one rfl (by go_simp <;> rfl) ?_))
        refine Go.RT.step_nil ?_
        go_wp2_with fail
        go_meet
        case rel => exact ⟨by rw [HF.out], rfl⟩
      have h5b : (m.logTerm == termAt s.n.log s.n.log.length) = true := by simpa using h5
      by_cases h6 : (s.n.log.length : Int) ≤ m.index
      · have h6b : decide ((s.n.log.length : Int) ≤ m.index) = true := decide_eq_true h6
        have HF := Lib.hid (show voteOk s.n m = true from by simp [voteOk, h1, h3, h4, h5, h6])
        clear h1 h4 h5 h6 h2 h3
        refine Go.RT.wp_region_tree [0, 1, 0, 4, 12, 28, 60, 127, 255, 511, 1023, 2047, 4095, 8191, 16383, 32767, 65535, 131071, 262143, 524287, 1048575, 65535, 2162687, 8388607, 16777215, 33554431, 67108863, 134217727, 268435455, 134217727, 1073741823, 2147483647, 4294967295, 8589934591, 4294967295, 34359738367, 68719476735, 137438953471, 274877906943, 137438953471, 687194767359, 2199023255551, 4398046511103, 8796093022207, 17592186044415, 35184372088831] (.p 0 (.s 1 (.p 2 (.p 3 (.p 4 (.p 5 (.s 6 (.p 7 (.p 8 (.p 9 (.p 10 (.p 11 (.p 12 (.s 13 (.p 14 (.p 15 (.p 16 (.p 17 (.p 18 (.p 19 (.s 20 (.p 21 (.s 22 (.p 23 (.p 24 (.p 25 (.p 26 (.p 27 (.s 28 (.p 29 (.p 30 (.p 31 (.p 32 (.s 33 (.p 34 (.p 35 (.p 36 (.p 37 (.s 38 (.p 39 (.w 40 [38] (.p 41 (.p 42 (.p 43 (.p 44 (.w 45 [] .nil .stop))))) .stop))))))))))))))))))))))))))))))))))))))))) (by kernel_rfl) (by kernel_rfl) ?_
        repeat (first | (refine Go.RT.step_p rfl (fun K hK => ?_); go_simp; refine hK _ ?_; clear hK K) | (refine Go.RT.step_s rfl (fun K hK => ?_); go_simp; refine hK _ ?_; clear hK K))
        (refine Go.RT.step_w rfl rfl (fun K hK => ?_) Go.RT.step_stop)
        go_wp2_with fail
        refine (last_any _ B g s μ (HN0.out.below (by repeat (first | exact Below.refl _ _ | refine Below.setCell ?_ (by simp) _ | refine Below.alloc ?_ (by simp) _ | refine Below.drew ?_)))).mono ?_
        rintro e w2 ⟨rfl, rfl⟩
        go_wp2_with fail
        refine Go.RT.QK_normal _ _ _ _ (hK _ _ ?_ ?_) <;> clear hK K
        · repeat (first | exact Go.RT.again_nil | (refine Go.RT.again_not rfl rfl ?_) | (refine Go.RT.again_one rfl (by go_simp <;> rfl) ?_))
        repeat (first | (refine Go.RT.step_p rfl (fun K hK => ?_); go_simp; refine hK _ ?_; clear hK K) | (refine Go.RT.step_s rfl (fun K hK => ?_); go_simp; refine hK _ ?_; clear hK K))
        (refine Go.RT.step_w rfl rfl (fun K hK => ?_) Go.RT.step_stop)
        go_wp2
        refine Go.RT.QK_normal _ _ _ _ (hK _ _ ?_ ?_) <;> clear hK K
        · repeat (first | exact Go.RT.again_nil | (refine Go.RT.again_not rfl rfl ?_) | (refine Go.RT.again_one rfl (by go_simp <;> rfl) ?_))
        refine Go.RT.step_nil ?_
        go_wp2_with fail
        go_meet
        case rel => exact ⟨by rw [HF.out], rfl⟩
      · have h6b : decide ((s.n.log.length : Int) ≤ m.index) = false := decide_eq_false h6
        have HF := Lib.hid (show voteOk s.n m = false from by simp [voteOk, h4, h5, h6])
        clear h1 h4 h5 h6 h2 h3
        refine Go.RT.wp_region_tree [0, 1, 0, 4, 12, 28, 60, 127, 255, 511, 1023, 2047, 4095, 8191, 16383, 32767, 65535, 131071, 262143, 524287, 1048575, 65535, 2162687, 8388607, 16777215, 33554431, 67108863, 134217727, 268435455, 134217727, 1073741823, 2147483647, 4294967295, 8589934591, 4294967295, 34359738367, 68719476735, 137438953471, 274877906943, 137438953471, 687194767359, 2199023255551, 4398046511103, 8796093022207, 17592186044415, 35184372088831] (.p 0 (.s 1 (.p 2 (.p 3 (.p 4 (.p 5 (.s 6 (.p 7 (.p 8 (.p 9 (.p 10 (.p 11 (.p 12 (.s 13 (.p 14 (.p 15 (.p 16 (.p 17 (.p 18 (.p 19 (.s 20 (.p 21 (.s 22 (.p 23 (.p 24 (.p 25 (.p 26 (.p 27 (.s 28 (.p 29 (.p 30 (.p 31 (.p 32 (.s 33 (.p 34 (.p 35 (.p 36 (.p 37 (.s 38 (.p 39 (.w 40 [38] (.p 41 (.p 42 (.p 43 (.p 44 (.w 45 [] .nil .stop))))) .stop))))))))))))))))))))))))))))))))))))))))) (by kernel_rfl) (by kernel_rfl) ?_
        repeat (first | (refine Go.RT.step_p rfl (fun K hK => ?_); go_simp; refine hK _ ?_; clear hK K) | (refine Go.RT.step_s rfl (fun K hK => ?_); go_simp; refine hK _ ?_; clear hK K))
        (refine Go.RT.step_w rfl rfl (fun K hK => ?_) Go.RT.step_stop)
        go_wp2_with fail
        refine (last_any _ B g s μ (HN0.out.below (by repeat (first | exact Below.refl _ _ | refine Below.setCell ?_ (by simp) _ | refine Below.alloc ?_ (by simp) _ | refine Below.drew ?_)))).mono ?_
        rintro e w2 ⟨rfl, rfl⟩
        go_wp2_with fail
        refine Go.RT.QK_normal _ _ _ _ (hK _ _ ?_ ?_) <;> clear hK K
        · repeat (first | exact Go.RT.again_nil | (refine Go.RT.again_not rfl rfl ?_) | (refine Go.RT.again_one rfl (by go_simp <;> rfl) ?_))
        repeat (first | (refine Go.RT.step_p rfl (fun K hK => ?_); go_simp; refine hK _ ?_; clear hK K) | (refine Go.RT.step_s rfl (fun K hK => ?_); go_simp; refine hK _ ?_; clear hK K))
        (refine Go.RT.step_w rfl rfl (fun K hK => ?_) Go.RT.step_stop)
        go_wp2
        refine Go.RT.QK_normal _ _ _ _ (hK _ _ ?_ ?_) <;> clear hK K
        · repeat (first | exact Go.RT.again_nil | (refine Go.RT.again_not rfl rfl ?_) | (refine Go.RT.again_one rfl (by go_simp <;> rfl) ?_))
        refine Go.RT.step_nil ?_
        go_wp2_with fail
        go_meet
        case rel => exact ⟨by rw [HF.out], rfl⟩
  case rest =>
    obtain ⟨rfl, rfl⟩ := hcut
    have HN1 := Lib.hid (HN0.out.drew)
    have HB1 := Lib.hid (HB0.out.drew)
    have d1 : w0.drew.cell? ⟨bx, 1, none⟩ = some (.int .i64 m.frm) := MM.cell_blk HX0.out rfl
    have c2 : w0.drew.cell? ⟨g, 2, none⟩ = some (.int .i64 s.n.vote) := HN1.out.c 2 _ rfl
    have fr2 := HN1.out.fr 2
    cases hv : voteOk s.n m
    · have HS := Lib.hid (show voteS s m = ⟨s.n, s.out ++ [votedMsg s.n m.frm false]⟩ from by unfold voteS; rw [hv]; rfl)
      clear hv d3 d4 d5 c1
      have hvn := MM.Rd.nil w0.drew (fun k => B ≤ k ∧ MM.Ty w0.drew k 40 ∧ μ.l.ob ≠ some k) 2 none 0 (by simp [maxLen])
      have HVN := Lib.hid hvn
      clear hvn
      go_wp2_with fail
      refine (send_any _ B g s μ 2 0 0 0 _ _ _ _ _ _ [] _ HN1.out (by omega) HVN.out).mono ?_
      rintro e w9 ⟨o9, rfl, hn9, hb9, _⟩
      go_wp2_with fail
      go_end0
      exact ⟨_, rfl, by rw [HS.out]; exact hn9, HB1.out.trans hb9⟩
    · have HS := Lib.hid (show voteS s m = ⟨voteN s.n m, s.out ++ [votedMsg s.n m.frm true]⟩ from by unfold voteS; rw [hv]; rfl)
      clear hv d3 d4 d5 c1
      go_wp2_with fail
      obtain ⟨w2, hw2⟩ : ∃ W, W = (w0.setCell ⟨g, 2, none⟩ (.int .i64 m.frm)).drew := ⟨_, rfl⟩
      have qN2 : NodeAt ((w0.setCell ⟨g, 2, none⟩ (.int .i64 m.frm)).drew) B g ⟨{ s.n with vote := m.frm }, s.out⟩ μ := (HN0.out.setg (i := 2) (u := .int .i64 m.frm) (s' := ⟨{ s.n with vote := m.frm }, s.out⟩) rfl rfl rfl rfl rfl rfl rfl).drew
      have qB2 : Below B w ((w0.setCell ⟨g, 2, none⟩ (.int .i64 m.frm)).drew) := (HB0.out.setCell (p := ⟨g, 2, none⟩) HN0.out.hB _).drew
      have qX2 : (((w0.setCell ⟨g, 2, none⟩ (.int .i64 m.frm)).drew)).heap[bx]? = some (.cells #[.int .i64 m.kind, .int .i64 m.frm, .int .i64 m.to, .int .i64 m.term, .int .i64 m.index, .int .i64 m.logTerm, .bool m.ok, ve, .int .i64 m.commit, .int .i64 m.form] 34 (0, 0)) := ret_far HX0.out (p := ⟨g, 2, none⟩) (ty_ne ⟨_, _, HX0.out⟩ HN0.out.tyg (by decide)) _
      rw [← hw2] at qN2 qB2 qX2 ⊢
      have HN2 := Lib.hid qN2
      have HB2 := Lib.hid qB2
      have HX2 := Lib.hid qX2
      clear qN2 qB2 qX2 hw2 c2 fr2 d1
      refine (anew_keep _ B g _ _ HN2.out hc0 hc1 hi0 hi1).mono ?_
      rintro e w3 ⟨rfl, hn3, hb3, hk3⟩
      have HN3 := Lib.hid (show NodeAt w3 B g ⟨voteN s.n m, s.out⟩ μ from hn3)
      have HB3 := Lib.hid (HB2.out.trans hb3)
      have HX3 := Lib.hid (hk3.blk HX2.out (ty_ne ⟨_, _, HX2.out⟩ HN2.out.tyg (by decide)))
      have d1 : w3.cell? ⟨bx, 1, none⟩ = some (.int .i64 m.frm) := MM.cell_blk HX3.out rfl
      clear hn3 hb3 hk3 HN2 HB2 HX2
      have hvn := MM.Rd.nil w3 (fun k => B ≤ k ∧ MM.Ty w3 k 40 ∧ μ.l.ob ≠ some k) 2 none 0 (by simp [maxLen])
      have HVN := Lib.hid hvn
      clear hvn
      go_wp2_with fail
      refine (send_any _ B g ⟨voteN s.n m, s.out⟩ μ 2 0 0 0 _ _ _ _ _ _ [] _ HN3.out (by show s.out.length ≤ 1000000; omega) HVN.out).mono ?_
      rintro e w9 ⟨o9, rfl, hn9, hb9, _⟩
      go_wp2_with fail
      go_end0
      exact ⟨_, rfl, by rw [HS.out]; exact hn9, HB3.out.trans hb9⟩

end Go.Proofs.Ytnkmljdkokcdjaa
