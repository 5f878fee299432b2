/-
  append answers entries, as the plain appendS says. Conditions: lengths and numbers are bounded as the theorem says.
-/
import Derived.WalkKit
import Derived.WalkSpells
import Derived.Lib.Hide
import Derived.Outline
import Derived.Test.YtnkmljdkokcdjaaChecked
import Derived.Test.YtnkmljdkokcdjaaMn
import Derived.Test.YtnkmljdkokcdjaaMem
import Derived.Test.YtnkmljdkokcdjaaFed
import Derived.Test.YtnkmljdkokcdjaaMf
import Derived.Deep.DeepCutAuto
import Derived.Deep.CutBlock
import Derived.IntWalk
set_option linter.unusedVariables false
set_option linter.unusedSimpArgs false
namespace Go.Proofs.Ytnkmljdkokcdjaa
open Go.RowKit Fed
set_option linter.unusedVariables false
attribute [local go_sem high] Fed.max2_int Fed.min2_int

set_option maxRecDepth 100000 in
theorem anew_keep (w : World) (B g : Nat) (s : NS) (μ : NM) (h : NodeAt w B g s μ) (hc0 : -1000000000 ≤ s.n.clock) (hc1 : s.n.clock ≤ 1000000000) (hi0 : -1000000000 ≤ s.n.id) (hi1 : s.n.id ≤ 1000000000) :
    Calls Try.prog 102 #[.pointer (some ⟨g, 0, none⟩)] w
      fun e w' => e = .returned (.tuple #[]) ∧ NodeAt w' B g ⟨{ s.n with due := s.n.clock + 5 + 2 * s.n.id }, s.out⟩ μ ∧ Below B w w' ∧ Keep g w w' := by
  have c0 : w.cell? ⟨g, 0, none⟩ = some (.int .i64 s.n.id) := h.c 0 _ rfl
  have c11 : w.cell? ⟨g, 11, none⟩ = some (.int .i64 s.n.clock) := h.c 11 _ rfl
  have c12 : w.cell? ⟨g, 12, none⟩ = some (.int .i64 s.n.due) := h.c 12 _ rfl
  have fr12 := h.fr 12
  have H := Lib.hid h
  clear h
  go_enter Try.func102, Try.ntmps102
  go_wp2
  refine Go.RT.wp_region_tree [0, 0, 2, 6, 14, 30, 62, 0, 128, 384, 896, 1920, 3968, 8190, 16383, 32767, 65535, 131071] (.p 0 (.p 1 (.p 2 (.p 3 (.p 4 (.s 5 (.p 6 (.p 7 (.p 8 (.p 9 (.p 10 (.s 11 (.p 12 (.p 13 (.p 14 (.p 15 (.p 16 (.w 17 [] .nil .stop)))))))))))))))))) (by kernel_rfl) (by kernel_rfl) ?_
  (refine Go.RT.step_p rfl (fun K hK => ?_); go_simp; refine hK _ ?_; clear hK K)
  (refine Go.RT.step_p rfl (fun K hK => ?_); go_simp; refine hK _ ?_; clear hK K)
  (refine Go.RT.step_p rfl (fun K hK => ?_); go_simp; refine hK _ ?_; clear hK K)
  (refine Go.RT.step_p rfl (fun K hK => ?_); go_simp; refine hK _ ?_; clear hK K)
  (refine Go.RT.step_p rfl (fun K hK => ?_); go_simp; refine hK _ ?_; clear hK K)
  (refine Go.RT.step_s rfl (fun K hK => ?_); go_simp; refine hK _ ?_; clear hK K)
  (refine Go.RT.step_p rfl (fun K hK => ?_); go_simp; refine hK _ ?_; clear hK K)
  (refine Go.RT.step_p rfl (fun K hK => ?_); go_simp; refine hK _ ?_; clear hK K)
  (refine Go.RT.step_p rfl (fun K hK => ?_); go_simp; refine hK _ ?_; clear hK K)
  (refine Go.RT.step_p rfl (fun K hK => ?_); go_simp; refine hK _ ?_; clear hK K)
  (refine Go.RT.step_p rfl (fun K hK => ?_); go_simp; refine hK _ ?_; clear hK K)
  (refine Go.RT.step_s rfl (fun K hK => ?_); go_simp; refine hK _ ?_; clear hK K)
  (refine Go.RT.step_p rfl (fun K hK => ?_); go_simp; refine hK _ ?_; clear hK K)
  (refine Go.RT.step_p rfl (fun K hK => ?_); go_simp; refine hK _ ?_; clear hK K)
  (refine Go.RT.step_p rfl (fun K hK => ?_); go_simp; refine hK _ ?_; clear hK K)
  (refine Go.RT.step_p rfl (fun K hK => ?_); go_simp; refine hK _ ?_; clear hK K)
  (refine Go.RT.step_p rfl (fun K hK => ?_); go_simp; refine hK _ ?_; clear hK K)
  (refine Go.RT.step_w rfl rfl (fun K hK => ?_) Go.RT.step_stop)
  go_wp2
  refine Go.RT.QK_normal _ _ _ _ (hK _ _ ?_ ?_) <;> clear hK K
  · exact Go.RT.again_nil
  refine Go.RT.step_nil ?_
  go_end0
  refine ⟨rfl, NodeAt.setg H.out.drew (by rfl) rfl rfl rfl rfl rfl rfl, ((Below.refl B w).drew).setCell H.out.hB _, ?_⟩
  exact (Keep.refl g w).drew.set _

set_option maxRecDepth 100000 in
set_option maxHeartbeats 4000000 in
theorem append_any (w : World) (B g : Nat) (s : NS) (μ : NM) (m : Fed.Msg) (A : Option Addr) (c : Nat) (h : NodeAt w B g s μ) (hr : MM.Rd w (fun k => k < B) 2 (.slice A m.entries.length c) m.entries.length (entsC m.entries)) (ho : s.out.length ≤ 800000) (hl : s.n.log.length ≤ 700000) (he : m.entries.length ≤ 1000)
    (hc0 : -1000000000 ≤ s.n.clock) (hc1 : s.n.clock ≤ 1000000000) (hi0 : -1000000000 ≤ s.n.id) (hi1 : s.n.id ≤ 1000000000) (hz : 0 ≤ m.index ∧ m.index ≤ 1000000) :
    Calls Try.prog 67 #[.pointer (some ⟨g, 0, none⟩), .agg #[.int .i64 m.kind, .int .i64 m.frm, .int .i64 m.to, .int .i64 m.term, .int .i64 m.index, .int .i64 m.logTerm, .bool m.ok, .slice A m.entries.length c, .int .i64 m.commit, .int .i64 m.form]] w
      fun e w' => ∃ μ', e = .returned (.tuple #[]) ∧ NodeAt w' B g (appendS s m) μ' ∧ Below B w w' := by
  have HR0 := Lib.hid hr
  clear hr
  have hbs := h.Bsize
  have hn0 := h.alloc (.cells #[.int .i64 m.kind, .int .i64 m.frm, .int .i64 m.to, .int .i64 m.term, .int .i64 m.index, .int .i64 m.logTerm, .bool m.ok, .slice A m.entries.length c, .int .i64 m.commit, .int .i64 m.form] 34)
  have hB0 : Below B w (w.alloc (.cells #[.int .i64 m.kind, .int .i64 m.frm, .int .i64 m.to, .int .i64 m.term, .int .i64 m.index, .int .i64 m.logTerm, .bool m.ok, .slice A m.entries.length c, .int .i64 m.commit, .int .i64 m.form] 34)) := (Below.refl B w).alloc hbs _
  have hX0 := MM.alloc_new w (.cells #[.int .i64 m.kind, .int .i64 m.frm, .int .i64 m.to, .int .i64 m.term, .int .i64 m.index, .int .i64 m.logTerm, .bool m.ok, .slice A m.entries.length c, .int .i64 m.commit, .int .i64 m.form] 34)
  obtain ⟨bx, hbx⟩ : ∃ bx, bx = w.heap.size := ⟨_, rfl⟩
  rw [← hbx] at hX0
  go_enter Try.func67, Try.ntmps67
  go_wp2
  rw [← hbx]
  obtain ⟨w0, hw0⟩ : ∃ W, W = w.alloc (.cells #[.int .i64 m.kind, .int .i64 m.frm, .int .i64 m.to, .int .i64 m.term, .int .i64 m.index, .int .i64 m.logTerm, .bool m.ok, .slice A m.entries.length c, .int .i64 m.commit, .int .i64 m.form] 34) := ⟨_, rfl⟩
  have qN0 : NodeAt (w.alloc (.cells #[.int .i64 m.kind, .int .i64 m.frm, .int .i64 m.to, .int .i64 m.term, .int .i64 m.index, .int .i64 m.logTerm, .bool m.ok, .slice A m.entries.length c, .int .i64 m.commit, .int .i64 m.form] 34)) B g s μ := hn0
  have qB0 : Below B w (w.alloc (.cells #[.int .i64 m.kind, .int .i64 m.frm, .int .i64 m.to, .int .i64 m.term, .int .i64 m.index, .int .i64 m.logTerm, .bool m.ok, .slice A m.entries.length c, .int .i64 m.commit, .int .i64 m.form] 34)) := hB0
  have qX0 : ((w.alloc (.cells #[.int .i64 m.kind, .int .i64 m.frm, .int .i64 m.to, .int .i64 m.term, .int .i64 m.index, .int .i64 m.logTerm, .bool m.ok, .slice A m.entries.length c, .int .i64 m.commit, .int .i64 m.form] 34))).heap[bx]? = some (.cells #[.int .i64 m.kind, .int .i64 m.frm, .int .i64 m.to, .int .i64 m.term, .int .i64 m.index, .int .i64 m.logTerm, .bool m.ok, .slice A m.entries.length c, .int .i64 m.commit, .int .i64 m.form] 34 (0, 0)) := hX0
  rw [← hw0] at qN0 qB0 qX0 ⊢
  have HN0 := Lib.hid qN0
  have HB0 := Lib.hid qB0
  have HX0 := Lib.hid qX0
  clear qN0 qB0 qX0 hw0 hn0 hB0 hX0 h
  have c1 : w0.cell? ⟨g, 1, none⟩ = some (.int .i64 s.n.term) := HN0.out.c 1 _ rfl
  have c4 : w0.cell? ⟨g, 4, none⟩ = some (.int .i64 s.n.form) := HN0.out.c 4 _ rfl
  have hge : B ≤ bx := by omega
  have HBX := Lib.hid hbx
  clear hbx
  have d1 : w0.cell? ⟨bx, 1, none⟩ = some (.int .i64 m.frm) := MM.cell_blk HX0.out rfl
  have d3 : w0.cell? ⟨bx, 3, none⟩ = some (.int .i64 m.term) := MM.cell_blk HX0.out rfl
  have d4 : w0.cell? ⟨bx, 4, none⟩ = some (.int .i64 m.index) := MM.cell_blk HX0.out rfl
  have d5 : w0.cell? ⟨bx, 5, none⟩ = some (.int .i64 m.logTerm) := MM.cell_blk HX0.out rfl
  have d7 : w0.cell? ⟨bx, 7, none⟩ = some (.slice A m.entries.length c) := MM.cell_blk HX0.out rfl
  have d8 : w0.cell? ⟨bx, 8, none⟩ = some (.int .i64 m.commit) := MM.cell_blk HX0.out rfl
  have hlt0 := HN0.out.lt
  have hlx0 := MM.blk_lt HX0.out
  go_upto_region 1 with (fail)
  go_cut [4] (fun v4 wc => ∃ b : Nat, v4 = .pointer (some ⟨b, 0, none⟩) ∧ Hid (wc.heap[b]? = some (.cells #[.int .i64 4, .int .i64 0, .int .i64 0, .int .i64 0, .int .i64 (s.n.log.length), .int .i64 0, .bool false, .slice none 0 0, .int .i64 0, .int .i64 s.n.form] 34 (0, 0))) ∧ Hid (wc.heap[bx]? = some (.cells #[.int .i64 m.kind, .int .i64 m.frm, .int .i64 m.to, .int .i64 m.term, .int .i64 m.index, .int .i64 m.logTerm, .bool m.ok, .slice A m.entries.length c, .int .i64 m.commit, .int .i64 m.form] 34 (0, 0))) ∧ Hid (NodeAt wc B g s μ) ∧ Hid (Below B w wc) ∧ Hid (B ≤ b ∧ b ≠ bx ∧ μ.o.ob ≠ some b))
  case first =>
    refine Go.RT.wp_region_tree [0, 1, 0, 4, 12, 28, 60, 127, 0, 511] (.p 0 (.p 2 (.p 3 (.p 4 (.p 5 (.s 6 (.w 1 [6] (.p 7 (.w 8 [6] (.w 9 [] .nil .stop) .stop)) (.w 8 [6] (.w 1 [6] (.p 7 (.w 9 [] .nil .stop)) .stop) .stop)))))))) (by kernel_rfl) (by kernel_rfl) ?_
    repeat (first | (refine Go.RT.step_p rfl (fun K hK => ?_); go_simp; refine hK _ ?_; clear hK K) | (refine Go.RT.step_s rfl (fun K hK => ?_); go_simp; refine hK _ ?_; clear hK K))
    (refine Go.RT.step_w rfl rfl (fun K hK => ?_) ?_)
    · go_wp2_with fail
      refine (last_any _ B g s μ (HN0.out.below (by repeat (first | exact Below.refl _ _ | refine Below.setCell ?_ (by simp) _ | refine Below.alloc ?_ (by simp) _ | refine Below.drew ?_)))).mono ?_
      rintro e w2 ⟨rfl, rfl⟩
      go_wp2_with fail
      refine Go.RT.QK_normal _ _ _ _ (hK _ _ ?_ ?_) <;> clear hK K
      · repeat (first | exact Go.RT.again_nil | (refine Go.RT.again_not rfl rfl ?_) | (refine Go.RT.again_one rfl (by go_simp <;> rfl) ?_))
      repeat (first | (refine Go.RT.step_p rfl (fun K hK => ?_); go_simp; refine hK _ ?_; clear hK K) | (refine Go.RT.step_s rfl (fun K hK => ?_); go_simp; refine hK _ ?_; clear hK K))
      (refine Go.RT.step_w rfl rfl (fun K hK => ?_) Go.RT.step_stop)
      go_wp2
      refine Go.RT.QK_normal _ _ _ _ (hK _ _ ?_ ?_) <;> clear hK K
      · repeat (first | exact Go.RT.again_nil | (refine Go.RT.again_not rfl rfl ?_) | (refine Go.RT.again_one rfl (by go_simp <;> rfl) ?_))
      (refine Go.RT.step_w rfl rfl (fun K hK => ?_) Go.RT.step_stop)
      go_wp2
      refine Go.RT.QK_normal _ _ _ _ (hK _ _ ?_ ?_) <;> clear hK K
      · repeat (first | exact Go.RT.again_nil | (refine Go.RT.again_not rfl rfl ?_) | (refine Go.RT.again_one rfl (by go_simp <;> rfl) ?_))
      refine Go.RT.step_nil ?_
      go_wp2_with fail
      go_meet
      case rel => exact ⟨w0.heap.size, rfl, Lib.hid (MM.alloc_new w0 _), Lib.hid ((Below.heap_alloc w0 _ bx hlx0).trans HX0.out), Lib.hid (HN0.out.alloc _).drew, Lib.hid (HB0.out.alloc HN0.out.Bsize _).drew, Lib.hid ⟨HN0.out.Bsize, by omega, fun e => by obtain ⟨cs, hro, _⟩ := HN0.out.ho; have := (hro.lt _ e).2; omega⟩⟩
    (refine Go.RT.step_w rfl rfl (fun K hK => ?_) Go.RT.step_stop)
    go_wp2
    refine Go.RT.QK_normal _ _ _ _ (hK _ _ ?_ ?_) <;> clear hK K
    · repeat (first | exact Go.RT.again_nil | (refine Go.RT.again_not rfl rfl ?_) | (refine Go.RT.again_one rfl (by go_simp <;> rfl) ?_))
    (refine Go.RT.step_w rfl rfl (fun K hK => ?_) Go.RT.step_stop)
    go_wp2_with fail
    refine (last_any _ B g s μ (HN0.out.below (by repeat (first | exact Below.refl _ _ | refine Below.setCell ?_ (by simp) _ | refine Below.alloc ?_ (by simp) _ | refine Below.drew ?_)))).mono ?_
    rintro e w2 ⟨rfl, rfl⟩
    go_wp2_with fail
    refine Go.RT.QK_normal _ _ _ _ (hK _ _ ?_ ?_) <;> clear hK K
    · repeat (first | exact Go.RT.again_nil | (refine Go.RT.again_not rfl rfl ?_) | (refine Go.RT.again_one rfl (by go_simp <;> rfl) ?_))
    repeat (first | (refine Go.RT.step_p rfl (fun K hK => ?_); go_simp; refine hK _ ?_; clear hK K) | (refine Go.RT.step_s rfl (fun K hK => ?_); go_simp; refine hK _ ?_; clear hK K))
    (refine Go.RT.step_w rfl rfl (fun K hK => ?_) Go.RT.step_stop)
    go_wp2
    refine Go.RT.QK_normal _ _ _ _ (hK _ _ ?_ ?_) <;> clear hK K
    · repeat (first | exact Go.RT.again_nil | (refine Go.RT.again_not rfl rfl ?_) | (refine Go.RT.again_one rfl (by go_simp <;> rfl) ?_))
    refine Go.RT.step_nil ?_
    go_wp2_with fail
    go_meet
    case rel => exact ⟨w0.heap.size, rfl, Lib.hid (MM.alloc_new w0 _), Lib.hid ((Below.heap_alloc w0 _ bx hlx0).trans HX0.out), Lib.hid (HN0.out.alloc _).drew, Lib.hid (HB0.out.alloc HN0.out.Bsize _).drew, Lib.hid ⟨HN0.out.Bsize, by omega, fun e => by obtain ⟨cs, hro, _⟩ := HN0.out.ho; have := (hro.lt _ e).2; omega⟩⟩
  case rest =>
    obtain ⟨bz, rfl, HZ, HX, HN, HB, HG⟩ := hcut
    clear HX0 HN0 HB0 hlt0 hlx0 c1 c4 d1 d3 d4 d5 d7 d8
    have c1 : wc.cell? ⟨g, 1, none⟩ = some (.int .i64 s.n.term) := HN.out.c 1 _ rfl
    have d3 : wc.cell? ⟨bx, 3, none⟩ = some (.int .i64 m.term) := MM.cell_blk HX.out rfl
    go_wp2
    refine Go.RT.wp_region_tree [0, 1, 0, 4, 12, 28, 60, 127] (.p 0 (.s 1 (.p 2 (.p 3 (.p 4 (.p 5 (.s 6 (.p 7 .nil)))))))) (by kernel_rfl) (by kernel_rfl) ?_
    repeat (first | (refine Go.RT.step_p rfl (fun K hK => ?_); go_simp; refine hK _ ?_; clear hK K) | (refine Go.RT.step_s rfl (fun K hK => ?_); go_simp; refine hK _ ?_; clear hK K))
    refine Go.RT.step_nil ?_
    obtain ⟨wq, hwq⟩ : ∃ W, W = wc.drew := ⟨_, rfl⟩
    have qNq : NodeAt (wc.drew) B g s μ := HN.out.drew
    have qBq : Below B w (wc.drew) := HB.out.drew
    have qZq : ((wc.drew)).heap[bz]? = some (.cells #[.int .i64 4, .int .i64 0, .int .i64 0, .int .i64 0, .int .i64 (s.n.log.length), .int .i64 0, .bool false, .slice none 0 0, .int .i64 0, .int .i64 s.n.form] 34 (0, 0)) := HZ.out
    have qXq : ((wc.drew)).heap[bx]? = some (.cells #[.int .i64 m.kind, .int .i64 m.frm, .int .i64 m.to, .int .i64 m.term, .int .i64 m.index, .int .i64 m.logTerm, .bool m.ok, .slice A m.entries.length c, .int .i64 m.commit, .int .i64 m.form] 34 (0, 0)) := HX.out
    rw [← hwq] at qNq qBq qZq qXq ⊢
    have HNq := Lib.hid qNq
    have HBq := Lib.hid qBq
    have HZq := Lib.hid qZq
    have HXq := Lib.hid qXq
    clear qNq qBq qZq qXq hwq HZ HX HN HB c1 d3
    go_upto_if 20 with (fail)
    go_cut [] (fun wc => ∃ (n' : Fed.Node) (ix : Int) (ok : Bool) (μ' : NM), Hid (appendS s m = ⟨n', s.out ++ [⟨4, n'.id, m.frm, n'.term, ix, 0, ok, [], 0, s.n.form⟩]⟩) ∧ Hid (wc.heap[bz]? = some (.cells #[.int .i64 4, .int .i64 0, .int .i64 0, .int .i64 0, .int .i64 (ix), .int .i64 0, .bool ok, .slice none 0 0, .int .i64 0, .int .i64 s.n.form] 34 (0, 0))) ∧ Hid (wc.heap[bx]? = some (.cells #[.int .i64 m.kind, .int .i64 m.frm, .int .i64 m.to, .int .i64 m.term, .int .i64 m.index, .int .i64 m.logTerm, .bool m.ok, .slice A m.entries.length c, .int .i64 m.commit, .int .i64 m.form] 34 (0, 0))) ∧ Hid (NodeAt wc B g ⟨n', s.out⟩ μ') ∧ Hid (Below B w wc))
    case first =>
      by_cases ht : m.term = s.n.term
      case neg =>
        have htb : (m.term == s.n.term) = false := by simpa using ht
        have HS := Lib.hid (show appendS s m = ⟨s.n, s.out ++ [matchMsg s.n m.frm s.n.log.length false]⟩ from by unfold appendS; rw [if_pos ht])
        clear ht
        go_wp2
        go_meet
        case rel => exact ⟨s.n, s.n.log.length, false, μ, HS, HZq, HXq, HNq, HBq⟩
      have htb : (m.term == s.n.term) = true := by simpa using ht
      have HS := Lib.hid (show appendS s m = if fits s.n m = false then ⟨appendN0 s.n, s.out ++ [matchMsg s.n m.frm (mn s.n.log.length (m.index - 1)) false]⟩ else ⟨appendN s.n m, s.out ++ [matchMsg s.n m.frm (m.index + m.entries.length) true]⟩ from by unfold appendS; rw [if_neg (by simp [ht])])
      clear ht
      have c5 : wq.cell? ⟨g, 5, none⟩ = some (.int .i64 s.n.role) := HNq.out.c 5 _ rfl
      have fr5 := HNq.out.fr 5
      go_wp2_with fail
      obtain ⟨w2, hw2⟩ : ∃ W, W = wq.setCell ⟨g, 5, none⟩ (.int .i64 0) := ⟨_, rfl⟩
      have qN2 : NodeAt (wq.setCell ⟨g, 5, none⟩ (.int .i64 0)) B g ⟨{ s.n with role := 0 }, s.out⟩ μ := HNq.out.setg rfl rfl rfl rfl rfl rfl rfl
      have qB2 : Below B w (wq.setCell ⟨g, 5, none⟩ (.int .i64 0)) := HBq.out.setCell (p := ⟨g, 5, none⟩) HNq.out.hB _
      have qZ2 : ((wq.setCell ⟨g, 5, none⟩ (.int .i64 0))).heap[bz]? = some (.cells #[.int .i64 4, .int .i64 0, .int .i64 0, .int .i64 0, .int .i64 (s.n.log.length), .int .i64 0, .bool false, .slice none 0 0, .int .i64 0, .int .i64 s.n.form] 34 (0, 0)) := ret_far HZq.out (p := ⟨g, 5, none⟩) (ty_ne ⟨_, _, HZq.out⟩ HNq.out.tyg (by decide)) _
      have qX2 : ((wq.setCell ⟨g, 5, none⟩ (.int .i64 0))).heap[bx]? = some (.cells #[.int .i64 m.kind, .int .i64 m.frm, .int .i64 m.to, .int .i64 m.term, .int .i64 m.index, .int .i64 m.logTerm, .bool m.ok, .slice A m.entries.length c, .int .i64 m.commit, .int .i64 m.form] 34 (0, 0)) := ret_far HXq.out (p := ⟨g, 5, none⟩) (ty_ne ⟨_, _, HXq.out⟩ HNq.out.tyg (by decide)) _
      rw [← hw2] at qN2 qB2 qZ2 qX2 ⊢
      have HN2 := Lib.hid qN2
      have HB2 := Lib.hid qB2
      have HZ2 := Lib.hid qZ2
      have HX2 := Lib.hid qX2
      clear qN2 qB2 qZ2 qX2 hw2
      clear HZq HXq HNq HBq c5 fr5
      refine (anew_keep _ B g _ _ HN2.out hc0 hc1 hi0 hi1).mono ?_
      rintro e w3 ⟨rfl, hn3, hb3, hk3⟩
      have HN3 := Lib.hid (show NodeAt w3 B g ⟨appendN0 s.n, s.out⟩ μ from hn3)
      have HB3 := Lib.hid (HB2.out.trans hb3)
      have HZ3 := Lib.hid (hk3.blk HZ2.out (ty_ne ⟨_, _, HZ2.out⟩ HN2.out.tyg (by decide)))
      have HX3 := Lib.hid (hk3.blk HX2.out (ty_ne ⟨_, _, HX2.out⟩ HN2.out.tyg (by decide)))
      clear hn3 hb3 hk3 HN2 HB2 HZ2 HX2
      have d4 : w3.cell? ⟨bx, 4, none⟩ = some (.int .i64 m.index) := MM.cell_blk HX3.out rfl
      have d5 : w3.cell? ⟨bx, 5, none⟩ = some (.int .i64 m.logTerm) := MM.cell_blk HX3.out rfl
      go_upto_region 5 with (fail)
      go_cut [45] (fun v45 wc => v45 = .bool (!fits s.n m) ∧ Hid (wc.heap[bz]? = some (.cells #[.int .i64 4, .int .i64 0, .int .i64 0, .int .i64 0, .int .i64 (s.n.log.length), .int .i64 0, .bool false, .slice none 0 0, .int .i64 0, .int .i64 s.n.form] 34 (0, 0))) ∧ Hid (wc.heap[bx]? = some (.cells #[.int .i64 m.kind, .int .i64 m.frm, .int .i64 m.to, .int .i64 m.term, .int .i64 m.index, .int .i64 m.logTerm, .bool m.ok, .slice A m.entries.length c, .int .i64 m.commit, .int .i64 m.form] 34 (0, 0))) ∧ Hid (NodeAt wc B g ⟨appendN0 s.n, s.out⟩ μ) ∧ Hid (Below B w wc))
      case first =>
        have REL5 : ∀ b : Bool, (!fits s.n m) = b → (Value.bool b = .bool (!fits s.n m) ∧ Hid (w3.drew.heap[bz]? = some (.cells #[.int .i64 4, .int .i64 0, .int .i64 0, .int .i64 0, .int .i64 (s.n.log.length), .int .i64 0, .bool false, .slice none 0 0, .int .i64 0, .int .i64 s.n.form] 34 (0, 0))) ∧ Hid (w3.drew.heap[bx]? = some (.cells #[.int .i64 m.kind, .int .i64 m.frm, .int .i64 m.to, .int .i64 m.term, .int .i64 m.index, .int .i64 m.logTerm, .bool m.ok, .slice A m.entries.length c, .int .i64 m.commit, .int .i64 m.form] 34 (0, 0))) ∧ Hid (NodeAt w3.drew B g ⟨appendN0 s.n, s.out⟩ μ) ∧ Hid (Below B w w3.drew)) := fun b hb => ⟨by rw [hb], HZ3, HX3, Lib.hid HN3.out.drew, Lib.hid HB3.out.drew⟩
        have HREL := Lib.hid REL5
        clear REL5
        by_cases h1 : (s.n.log.length : Int) < m.index
        · have h1b : decide ((s.n.log.length : Int) < m.index) = true := decide_eq_true h1
          have HF := Lib.hid (show (!fits s.n m) = true from by simp [fits, h1])
          clear h1
          refine Go.RT.wp_region_tree [0, 1, 0, 4, 15, 31, 63, 127, 255, 511, 1023, 1023, 3071, 8191, 1023, 17407, 65535, 131071, 262143] (.p 0 (.s 1 (.p 2 (.w 3 [1] (.p 4 (.p 5 (.p 6 (.s 7 (.p 8 (.p 9 (.p 10 (.p 11 (.s 12 (.p 14 (.s 15 (.w 13 [15] (.p 16 (.p 17 (.p 18 .nil))) .stop)))))))))))) .stop)))) (by kernel_rfl) (by kernel_rfl) ?_
          repeat (first | (refine Go.RT.step_p rfl (fun K hK => ?_); go_simp; refine hK _ ?_; clear hK K) | (refine Go.RT.step_s rfl (fun K hK => ?_); go_simp; refine hK _ ?_; clear hK K))
          (refine Go.RT.step_w rfl rfl (fun K hK => ?_) Go.RT.step_stop)
          go_wp2_with fail
          refine ((show Calls Try.prog 98 #[.pointer (some ⟨g, 0, none⟩)] _ (fun e w' => e = .returned (.int .i64 s.n.log.length) ∧ _ = w') from last_any _ B g ⟨appendN0 s.n, s.out⟩ μ (HN3.out.below (by repeat (first | exact Below.refl _ _ | refine Below.setCell ?_ (by simp) _ | refine Below.alloc ?_ (by simp) _ | refine Below.drew ?_))))).mono ?_
          rintro e w2 ⟨rfl, rfl⟩
          go_wp2_with fail
          refine Go.RT.QK_normal _ _ _ _ (hK _ _ ?_ ?_) <;> clear hK K
          · repeat (first | exact Go.RT.again_nil | (refine Go.RT.again_not rfl rfl ?_) | (refine Go.RT.again_one rfl (by go_simp <;> rfl) ?_))
          repeat (first | (refine Go.RT.step_p rfl (fun K hK => ?_); go_simp; refine hK _ ?_; clear hK K) | (refine Go.RT.step_s rfl (fun K hK => ?_); go_simp; refine hK _ ?_; clear hK K))
          (refine Go.RT.skip_w rfl rfl ?_ Go.RT.step_stop)
          (try simp only [Act.put, List.setIfInBounds_toArray, List.set_cons_zero, List.set_cons_succ])
          repeat (first | (refine Go.RT.step_p rfl (fun K hK => ?_); go_simp; refine hK _ ?_; clear hK K) | (refine Go.RT.step_s rfl (fun K hK => ?_); go_simp; refine hK _ ?_; clear hK K))
          refine Go.RT.step_nil ?_
          go_wp2_with fail
          go_meet
          case rel => exact HREL.out _ HF.out
        have h1b : decide ((s.n.log.length : Int) < m.index) = false := decide_eq_false h1
        by_cases h2 : 0 < m.index
        case neg =>
          have h2b : decide (0 < m.index) = false := decide_eq_false h2
          have HF := Lib.hid (show (!fits s.n m) = false from by simp [fits, h1, h2])
          clear h1 h2
          refine Go.RT.wp_region_tree [0, 1, 0, 4, 15, 31, 63, 127, 255, 511, 1023, 1023, 3071, 8191, 1023, 17407, 65535, 131071, 262143] (.p 0 (.s 1 (.p 2 (.w 3 [1] (.p 4 (.p 5 (.p 6 (.s 7 (.p 8 (.p 9 (.p 10 (.p 11 (.s 12 (.p 14 (.s 15 (.w 13 [15] (.p 16 (.p 17 (.p 18 .nil))) .stop)))))))))))) .stop)))) (by kernel_rfl) (by kernel_rfl) ?_
          repeat (first | (refine Go.RT.step_p rfl (fun K hK => ?_); go_simp; refine hK _ ?_; clear hK K) | (refine Go.RT.step_s rfl (fun K hK => ?_); go_simp; refine hK _ ?_; clear hK K))
          (refine Go.RT.step_w rfl rfl (fun K hK => ?_) Go.RT.step_stop)
          go_wp2_with fail
          refine ((show Calls Try.prog 98 #[.pointer (some ⟨g, 0, none⟩)] _ (fun e w' => e = .returned (.int .i64 s.n.log.length) ∧ _ = w') from last_any _ B g ⟨appendN0 s.n, s.out⟩ μ (HN3.out.below (by repeat (first | exact Below.refl _ _ | refine Below.setCell ?_ (by simp) _ | refine Below.alloc ?_ (by simp) _ | refine Below.drew ?_))))).mono ?_
          rintro e w2 ⟨rfl, rfl⟩
          go_wp2_with fail
          refine Go.RT.QK_normal _ _ _ _ (hK _ _ ?_ ?_) <;> clear hK K
          · repeat (first | exact Go.RT.again_nil | (refine Go.RT.again_not rfl rfl ?_) | (refine Go.RT.again_one rfl (by go_simp <;> rfl) ?_))
          repeat (first | (refine Go.RT.step_p rfl (fun K hK => ?_); go_simp; refine hK _ ?_; clear hK K) | (refine Go.RT.step_s rfl (fun K hK => ?_); go_simp; refine hK _ ?_; clear hK K))
          (refine Go.RT.skip_w rfl rfl ?_ Go.RT.step_stop)
          (try simp only [Act.put, List.setIfInBounds_toArray, List.set_cons_zero, List.set_cons_succ])
          repeat (first | (refine Go.RT.step_p rfl (fun K hK => ?_); go_simp; refine hK _ ?_; clear hK K) | (refine Go.RT.step_s rfl (fun K hK => ?_); go_simp; refine hK _ ?_; clear hK K))
          refine Go.RT.step_nil ?_
          go_wp2_with fail
          go_meet
          case rel => exact HREL.out _ HF.out
        have h2b : decide (0 < m.index) = true := decide_eq_true h2
        by_cases h3 : termAt s.n.log m.index = m.logTerm
        · have h3b : (termAt s.n.log m.index != m.logTerm) = false := by simpa using h3
          have HF := Lib.hid (show (!fits s.n m) = false from by simp [fits, h1, h2, h3])
          clear h1 h2 h3
          refine Go.RT.wp_region_tree [0, 1, 0, 4, 15, 31, 63, 127, 255, 511, 1023, 1023, 3071, 8191, 1023, 17407, 65535, 131071, 262143] (.p 0 (.s 1 (.p 2 (.w 3 [1] (.p 4 (.p 5 (.p 6 (.s 7 (.p 8 (.p 9 (.p 10 (.p 11 (.s 12 (.p 14 (.s 15 (.w 13 [15] (.p 16 (.p 17 (.p 18 .nil))) .stop)))))))))))) .stop)))) (by kernel_rfl) (by kernel_rfl) ?_
          repeat (first | (refine Go.RT.step_p rfl (fun K hK => ?_); go_simp; refine hK _ ?_; clear hK K) | (refine Go.RT.step_s rfl (fun K hK => ?_); go_simp; refine hK _ ?_; clear hK K))
          (refine Go.RT.step_w rfl rfl (fun K hK => ?_) Go.RT.step_stop)
          go_wp2_with fail
          refine ((show Calls Try.prog 98 #[.pointer (some ⟨g, 0, none⟩)] _ (fun e w' => e = .returned (.int .i64 s.n.log.length) ∧ _ = w') from last_any _ B g ⟨appendN0 s.n, s.out⟩ μ (HN3.out.below (by repeat (first | exact Below.refl _ _ | refine Below.setCell ?_ (by simp) _ | refine Below.alloc ?_ (by simp) _ | refine Below.drew ?_))))).mono ?_
          rintro e w2 ⟨rfl, rfl⟩
          go_wp2_with fail
          refine Go.RT.QK_normal _ _ _ _ (hK _ _ ?_ ?_) <;> clear hK K
          · repeat (first | exact Go.RT.again_nil | (refine Go.RT.again_not rfl rfl ?_) | (refine Go.RT.again_one rfl (by go_simp <;> rfl) ?_))
          repeat (first | (refine Go.RT.step_p rfl (fun K hK => ?_); go_simp; refine hK _ ?_; clear hK K) | (refine Go.RT.step_s rfl (fun K hK => ?_); go_simp; refine hK _ ?_; clear hK K))
          (refine Go.RT.step_w rfl rfl (fun K hK => ?_) Go.RT.step_stop)
          go_wp2_with fail
          refine ((show Calls Try.prog 100 #[.pointer (some ⟨g, 0, none⟩), .int .i64 m.index] _ (fun e w' => e = .returned (.int .i64 (termAt s.n.log m.index)) ∧ _ = w') from term_any _ B g ⟨appendN0 s.n, s.out⟩ μ _ (by omega) (by omega) (HN3.out.below (by repeat (first | exact Below.refl _ _ | refine Below.setCell ?_ (by simp) _ | refine Below.alloc ?_ (by simp) _ | refine Below.drew ?_))))).mono ?_
          rintro e w2 ⟨rfl, rfl⟩
          go_wp2_with fail
          refine Go.RT.QK_normal _ _ _ _ (hK _ _ ?_ ?_) <;> clear hK K
          · repeat (first | exact Go.RT.again_nil | (refine Go.RT.again_not rfl rfl ?_) | (refine Go.RT.again_one rfl (by go_simp <;> rfl) ?_))
          repeat (first | (refine Go.RT.step_p rfl (fun K hK => ?_); go_simp; refine hK _ ?_; clear hK K) | (refine Go.RT.step_s rfl (fun K hK => ?_); go_simp; refine hK _ ?_; clear hK K))
          refine Go.RT.step_nil ?_
          go_wp2_with fail
          go_meet
          case rel => exact HREL.out _ HF.out
        · have h3b : (termAt s.n.log m.index != m.logTerm) = true := by simpa using h3
          have HF := Lib.hid (show (!fits s.n m) = true from by simp [fits, h1, h2, h3])
          clear h1 h2 h3
          refine Go.RT.wp_region_tree [0, 1, 0, 4, 15, 31, 63, 127, 255, 511, 1023, 1023, 3071, 8191, 1023, 17407, 65535, 131071, 262143] (.p 0 (.s 1 (.p 2 (.w 3 [1] (.p 4 (.p 5 (.p 6 (.s 7 (.p 8 (.p 9 (.p 10 (.p 11 (.s 12 (.p 14 (.s 15 (.w 13 [15] (.p 16 (.p 17 (.p 18 .nil))) .stop)))))))))))) .stop)))) (by kernel_rfl) (by kernel_rfl) ?_
          repeat (first | (refine Go.RT.step_p rfl (fun K hK => ?_); go_simp; refine hK _ ?_; clear hK K) | (refine Go.RT.step_s rfl (fun K hK => ?_); go_simp; refine hK _ ?_; clear hK K))
          (refine Go.RT.step_w rfl rfl (fun K hK => ?_) Go.RT.step_stop)
          go_wp2_with fail
          refine ((show Calls Try.prog 98 #[.pointer (some ⟨g, 0, none⟩)] _ (fun e w' => e = .returned (.int .i64 s.n.log.length) ∧ _ = w') from last_any _ B g ⟨appendN0 s.n, s.out⟩ μ (HN3.out.below (by repeat (first | exact Below.refl _ _ | refine Below.setCell ?_ (by simp) _ | refine Below.alloc ?_ (by simp) _ | refine Below.drew ?_))))).mono ?_
          rintro e w2 ⟨rfl, rfl⟩
          go_wp2_with fail
          refine Go.RT.QK_normal _ _ _ _ (hK _ _ ?_ ?_) <;> clear hK K
          · repeat (first | exact Go.RT.again_nil | (refine Go.RT.again_not rfl rfl ?_) | (refine Go.RT.again_one rfl (by go_simp <;> rfl) ?_))
          repeat (first | (refine Go.RT.step_p rfl (fun K hK => ?_); go_simp; refine hK _ ?_; clear hK K) | (refine Go.RT.step_s rfl (fun K hK => ?_); go_simp; refine hK _ ?_; clear hK K))
          (refine Go.RT.step_w rfl rfl (fun K hK => ?_) Go.RT.step_stop)
          go_wp2_with fail
          refine ((show Calls Try.prog 100 #[.pointer (some ⟨g, 0, none⟩), .int .i64 m.index] _ (fun e w' => e = .returned (.int .i64 (termAt s.n.log m.index)) ∧ _ = w') from term_any _ B g ⟨appendN0 s.n, s.out⟩ μ _ (by omega) (by omega) (HN3.out.below (by repeat (first | exact Below.refl _ _ | refine Below.setCell ?_ (by simp) _ | refine Below.alloc ?_ (by simp) _ | refine Below.drew ?_))))).mono ?_
          rintro e w2 ⟨rfl, rfl⟩
          go_wp2_with fail
          refine Go.RT.QK_normal _ _ _ _ (hK _ _ ?_ ?_) <;> clear hK K
          · repeat (first | exact Go.RT.again_nil | (refine Go.RT.again_not rfl rfl ?_) | (refine Go.RT.again_one rfl (by go_simp <;> rfl) ?_))
          repeat (first | (refine Go.RT.step_p rfl (fun K hK => ?_); go_simp; refine hK _ ?_; clear hK K) | (refine Go.RT.step_s rfl (fun K hK => ?_); go_simp; refine hK _ ?_; clear hK K))
          refine Go.RT.step_nil ?_
          go_wp2_with fail
          go_meet
          case rel => exact HREL.out _ HF.out
      case rest =>
        obtain ⟨rfl, HZ4, HX4, HN4, HB4⟩ := hcut
        clear HZ3 HX3 HN3 HB3 d4 d5
        have hlt4 := HN4.out.lt
        have d4 : wc.cell? ⟨bx, 4, none⟩ = some (.int .i64 m.index) := MM.cell_blk HX4.out rfl
        have d7 : wc.cell? ⟨bx, 7, none⟩ = some (.slice A m.entries.length c) := MM.cell_blk HX4.out rfl
        have d8 : wc.cell? ⟨bx, 8, none⟩ = some (.int .i64 m.commit) := MM.cell_blk HX4.out rfl
        have b4 : wc.cell? ⟨bz, 4, none⟩ = some (.int .i64 (s.n.log.length)) := MM.cell_blk HZ4.out rfl
        have b6 : wc.cell? ⟨bz, 6, none⟩ = some (.bool false) := MM.cell_blk HZ4.out rfl
        have z4 : wc.frozen? ⟨bz, 4, none⟩ = false := MM.free_blk HZ4.out
        have z6 : wc.frozen? ⟨bz, 6, none⟩ = false := MM.free_blk HZ4.out
        cases hfit : fits s.n m
        · have HS2 := Lib.hid (show appendS s m = ⟨appendN0 s.n, s.out ++ [matchMsg s.n m.frm (mn s.n.log.length (m.index - 1)) false]⟩ from by rw [HS.out, if_pos hfit])
          clear hfit
          simp only [Bool.not_false]
          go_upto_region 6 with (fail)
          refine Go.RT.wp_region_tree [0, 1, 0, 4, 12, 31, 63, 127] (.p 0 (.p 2 (.s 3 (.p 4 (.w 1 [3] (.p 5 (.p 6 (.w 7 [] .nil .stop))) .stop))))) (by kernel_rfl) (by kernel_rfl) ?_
          repeat (first | (refine Go.RT.step_p rfl (fun K hK => ?_); go_simp; refine hK _ ?_; clear hK K) | (refine Go.RT.step_s rfl (fun K hK => ?_); go_simp; refine hK _ ?_; clear hK K))
          (refine Go.RT.step_w rfl rfl (fun K hK => ?_) Go.RT.step_stop)
          go_wp2_with fail
          refine ((show Calls Try.prog 98 #[.pointer (some ⟨g, 0, none⟩)] _ (fun e w' => e = .returned (.int .i64 s.n.log.length) ∧ _ = w') from last_any _ B g ⟨appendN0 s.n, s.out⟩ μ (HN4.out.below (by repeat (first | exact Below.refl _ _ | refine Below.setCell ?_ (by simp) _ | refine Below.alloc ?_ (by simp) _ | refine Below.drew ?_))))).mono ?_
          rintro e w2 ⟨rfl, rfl⟩
          go_wp2_with fail
          refine Go.RT.QK_normal _ _ _ _ (hK _ _ ?_ ?_) <;> clear hK K
          · repeat (first | exact Go.RT.again_nil | (refine Go.RT.again_not rfl rfl ?_) | (refine Go.RT.again_one rfl (by go_simp <;> rfl) ?_))
          repeat (first | (refine Go.RT.step_p rfl (fun K hK => ?_); go_simp; refine hK _ ?_; clear hK K) | (refine Go.RT.step_s rfl (fun K hK => ?_); go_simp; refine hK _ ?_; clear hK K))
          (refine Go.RT.step_w rfl rfl (fun K hK => ?_) Go.RT.step_stop)
          go_wp2
          refine Go.RT.QK_normal _ _ _ _ (hK _ _ ?_ ?_) <;> clear hK K
          · repeat (first | exact Go.RT.again_nil | (refine Go.RT.again_not rfl rfl ?_) | (refine Go.RT.again_one rfl (by go_simp <;> rfl) ?_))
          refine Go.RT.step_nil ?_
          go_wp2_with fail
          go_meet
          case rel => exact ⟨appendN0 s.n, mn s.n.log.length (m.index - 1), false, μ, HS2, Lib.hid ((setCell_blk _ HZ4.out).trans rfl), Lib.hid (ret_far HX4.out (p := ⟨bz, _, none⟩) HG.out.2.1.symm _), Lib.hid (HN4.out.far34 ⟨_, _, HZ4.out⟩ HG.out.2.2).drew, Lib.hid (HB4.out.setCell (p := ⟨bz, _, none⟩) HG.out.1 _).drew⟩
        · have HS2 := Lib.hid (show appendS s m = ⟨appendN s.n m, s.out ++ [matchMsg s.n m.frm (m.index + m.entries.length) true]⟩ from by rw [HS.out, if_neg (by rw [hfit]; simp)])
          have HIX := Lib.hid (show m.index ≤ (s.n.log.length : Int) from by simp [fits] at hfit; omega)
          clear hfit
          have hix : m.index ≤ (s.n.log.length : Int) := HIX.out
          have hmx : mx m.index 0 = m.index := by unfold mx; omega
          have HRD := Lib.hid (HR0.out.step (w1 := wc) (fun k hk _ => HB4.out.block k hk))
          have htk := take_any wc B g ⟨appendN0 s.n, s.out⟩ μ (mx m.index 0).toNat m.entries A c HN4.out HRD.out hl (by show (mx m.index 0).toNat ≤ s.n.log.length; rw [hmx]; omega) he
          rw [show (((mx m.index 0).toNat : Nat) : Int) = mx m.index 0 from by rw [hmx]; omega] at htk
          have HTK := Lib.hid htk
          have HMX := Lib.hid hmx
          clear htk hmx
          simp only [Bool.not_true]
          go_wp2_with fail
          refine HTK.out.mono ?_
          rintro e w5 ⟨μ5, rfl, hn5, hb5, hk5, ho5⟩
          have HN5 := Lib.hid (show NodeAt w5 B g ⟨{ appendN0 s.n with log := takeL s.n.log (mx m.index 0).toNat m.entries }, s.out⟩ μ5 from hn5)
          have HB5 := Lib.hid (HB4.out.trans hb5)
          have HZ5 := Lib.hid (hk5.blk HZ4.out (ty_ne ⟨_, _, HZ4.out⟩ HN4.out.tyg (by decide)))
          have HX5 := Lib.hid (hk5.blk HX4.out (ty_ne ⟨_, _, HX4.out⟩ HN4.out.tyg (by decide)))
          have HO5 := Lib.hid (show μ5.o.ob ≠ some bz from by rw [ho5]; exact HG.out.2.2)
          clear hn5 hb5 hk5 ho5 HN4 HB4 HZ4 HX4 d4 d7 d8 b4 b6 z4 z6 HTK
          have d4 : w5.cell? ⟨bx, 4, none⟩ = some (.int .i64 m.index) := MM.cell_blk HX5.out rfl
          have d7 : w5.cell? ⟨bx, 7, none⟩ = some (.slice A m.entries.length c) := MM.cell_blk HX5.out rfl
          have b4 : w5.cell? ⟨bz, 4, none⟩ = some (.int .i64 (s.n.log.length)) := MM.cell_blk HZ5.out rfl
          have b6 : w5.cell? ⟨bz, 6, none⟩ = some (.bool false) := MM.cell_blk HZ5.out rfl
          have z4 : w5.frozen? ⟨bz, 4, none⟩ = false := MM.free_blk HZ5.out
          have z6 : w5.frozen? ⟨bz, 6, none⟩ = false := MM.free_blk HZ5.out
          go_wp2_with fail
          refine Go.RT.wp_region_tree [0, 1, 0, 4, 12, 31, 0, 64, 255, 511] (.p 0 (.s 1 (.p 2 (.s 3 (.p 4 (.p 5 (.p 6 (.w 7 [1, 3] (.p 8 (.w 9 [] .nil .stop)) .stop)))))))) (by kernel_rfl) (by kernel_rfl) ?_
          repeat (first | (refine Go.RT.step_p rfl (fun K hK => ?_); go_simp; refine hK _ ?_; clear hK K) | (refine Go.RT.step_s rfl (fun K hK => ?_); go_simp; refine hK _ ?_; clear hK K))
          (refine Go.RT.step_w rfl rfl (fun K hK => ?_) Go.RT.step_stop)
          go_wp2
          refine Go.RT.QK_normal _ _ _ _ (hK _ _ ?_ ?_) <;> clear hK K
          · repeat (first | exact Go.RT.again_nil | (refine Go.RT.again_not rfl rfl ?_) | (refine Go.RT.again_one rfl (by go_simp <;> rfl) ?_))
          repeat (first | (refine Go.RT.step_p rfl (fun K hK => ?_); go_simp; refine hK _ ?_; clear hK K) | (refine Go.RT.step_s rfl (fun K hK => ?_); go_simp; refine hK _ ?_; clear hK K))
          (refine Go.RT.step_w rfl rfl (fun K hK => ?_) Go.RT.step_stop)
          go_wp2
          refine Go.RT.QK_normal _ _ _ _ (hK _ _ ?_ ?_) <;> clear hK K
          · repeat (first | exact Go.RT.again_nil | (refine Go.RT.again_not rfl rfl ?_) | (refine Go.RT.again_one rfl (by go_simp <;> rfl) ?_))
          refine Go.RT.step_nil ?_
          obtain ⟨w6, hw6⟩ : ∃ W, W = ((w5.setCell ⟨bz, 6, none⟩ (.bool true)).setCell ⟨bz, 4, none⟩ (.int .i64 (m.index + m.entries.length))).drew := ⟨_, rfl⟩
          have qN6 : NodeAt (((w5.setCell ⟨bz, 6, none⟩ (.bool true)).setCell ⟨bz, 4, none⟩ (.int .i64 (m.index + m.entries.length))).drew) B g ⟨{ appendN0 s.n with log := takeL s.n.log (mx m.index 0).toNat m.entries }, s.out⟩ μ5 := ((HN5.out.far34 ⟨_, _, HZ5.out⟩ HO5.out).far34 ⟨_, _, setCell_blk _ HZ5.out⟩ HO5.out).drew
          have qB6 : Below B w (((w5.setCell ⟨bz, 6, none⟩ (.bool true)).setCell ⟨bz, 4, none⟩ (.int .i64 (m.index + m.entries.length))).drew) := ((HB5.out.setCell (p := ⟨bz, _, none⟩) HG.out.1 _).setCell (p := ⟨bz, _, none⟩) HG.out.1 _).drew
          have qZ6 : ((((w5.setCell ⟨bz, 6, none⟩ (.bool true)).setCell ⟨bz, 4, none⟩ (.int .i64 (m.index + m.entries.length))).drew)).heap[bz]? = some (.cells #[.int .i64 4, .int .i64 0, .int .i64 0, .int .i64 0, .int .i64 (m.index + m.entries.length), .int .i64 0, .bool true, .slice none 0 0, .int .i64 0, .int .i64 s.n.form] 34 (0, 0)) := (setCell_blk _ (setCell_blk _ HZ5.out)).trans rfl
          have qX6 : ((((w5.setCell ⟨bz, 6, none⟩ (.bool true)).setCell ⟨bz, 4, none⟩ (.int .i64 (m.index + m.entries.length))).drew)).heap[bx]? = some (.cells #[.int .i64 m.kind, .int .i64 m.frm, .int .i64 m.to, .int .i64 m.term, .int .i64 m.index, .int .i64 m.logTerm, .bool m.ok, .slice A m.entries.length c, .int .i64 m.commit, .int .i64 m.form] 34 (0, 0)) := ret_far (p := ⟨bz, _, none⟩) (ret_far HX5.out (p := ⟨bz, _, none⟩) HG.out.2.1.symm _) HG.out.2.1.symm _
          rw [← hw6] at qN6 qB6 qZ6 qX6 ⊢
          have HN6 := Lib.hid qN6
          have HB6 := Lib.hid qB6
          have HZ6 := Lib.hid qZ6
          have HX6 := Lib.hid qX6
          clear qN6 qB6 qZ6 qX6 hw6 HN5 HB5 HZ5 HX5 d4 d7 b4 b6 z4 z6
          have d8 : w6.cell? ⟨bx, 8, none⟩ = some (.int .i64 m.commit) := MM.cell_blk HX6.out rfl
          have b4 : w6.cell? ⟨bz, 4, none⟩ = some (.int .i64 (m.index + m.entries.length)) := MM.cell_blk HZ6.out rfl
          have c6 : w6.cell? ⟨g, 6, none⟩ = some (.int .i64 s.n.commit) := HN6.out.c 6 _ rfl
          have fr6 := HN6.out.fr 6
          go_wp2_with fail
          refine Go.RT.wp_region_tree [0, 0, 2, 6, 14, 30, 0, 64, 0, 256, 960, 2046, 4095, 8191, 16383, 32767] (.p 0 (.p 1 (.p 2 (.p 3 (.p 4 (.s 5 (.p 6 (.s 7 (.p 8 (.s 9 (.p 10 (.p 11 (.p 12 (.p 13 (.p 14 (.w 15 [] .nil .stop)))))))))))))))) (by kernel_rfl) (by kernel_rfl) ?_
          repeat (first | (refine Go.RT.step_p rfl (fun K hK => ?_); go_simp; refine hK _ ?_; clear hK K) | (refine Go.RT.step_s rfl (fun K hK => ?_); go_simp; refine hK _ ?_; clear hK K))
          (refine Go.RT.step_w rfl rfl (fun K hK => ?_) Go.RT.step_stop)
          go_wp2
          refine Go.RT.QK_normal _ _ _ _ (hK _ _ ?_ ?_) <;> clear hK K
          · repeat (first | exact Go.RT.again_nil | (refine Go.RT.again_not rfl rfl ?_) | (refine Go.RT.again_one rfl (by go_simp <;> rfl) ?_))
          refine Go.RT.step_nil ?_
          go_wp2_with fail
          go_meet
          case rel => exact ⟨appendN s.n m, m.index + m.entries.length, true, μ5, HS2, Lib.hid (ret_far HZ6.out (p := ⟨g, 6, none⟩) (ty_ne ⟨_, _, HZ6.out⟩ HN6.out.tyg (by decide)) _), Lib.hid (ret_far HX6.out (p := ⟨g, 6, none⟩) (ty_ne ⟨_, _, HX6.out⟩ HN6.out.tyg (by decide)) _), Lib.hid (HN6.out.setg (i := 6) (s' := ⟨appendN s.n m, s.out⟩) rfl rfl rfl rfl rfl rfl rfl).drew, Lib.hid (HB6.out.setCell HN6.out.hB _).drew⟩
    case rest =>
      obtain ⟨n', ix, ok, μ', HS, HZ, HX, HN, HB⟩ := hcut
      have d1 : wc.cell? ⟨bx, 1, none⟩ = some (.int .i64 m.frm) := MM.cell_blk HX.out rfl
      obtain ⟨b0, b1, b2, b3, b4, b5, b6, b7, b8, b9⟩ := MM.cells10 HZ.out
      have hvn := MM.Rd.nil wc (fun k => B ≤ k ∧ MM.Ty wc k 40 ∧ μ'.l.ob ≠ some k) 2 none 0 (by simp [maxLen])
      have HVN := Lib.hid hvn
      clear hvn HZq HXq HNq HBq
      go_wp2_with fail
      refine (send_any _ B g ⟨n', s.out⟩ μ' 4 0 0 0 _ _ _ _ _ _ [] _ HN.out (by show s.out.length ≤ 1000000; omega) HVN.out).mono ?_
      rintro e w9 ⟨o9, rfl, hn9, hb9, _⟩
      go_wp2_with fail
      go_end0
      exact ⟨_, rfl, by rw [HS.out]; exact hn9, HB.out.trans hb9⟩

end Go.Proofs.Ytnkmljdkokcdjaa
