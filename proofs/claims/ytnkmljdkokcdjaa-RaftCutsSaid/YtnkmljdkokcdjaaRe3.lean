/-
  match hears how far a node has what it has, as the plain matchS says. Conditions: lengths and numbers are bounded as the theorem says.
-/
import Derived.WalkKit
import Derived.WalkSpells
import Derived.Lib.Hide
import Derived.Outline
import Derived.Test.YtnkmljdkokcdjaaChecked
import Derived.Test.YtnkmljdkokcdjaaRg
import Derived.Test.YtnkmljdkokcdjaaMem
import Derived.Test.YtnkmljdkokcdjaaFed
import Derived.Test.YtnkmljdkokcdjaaRe2
namespace Go.Proofs.Ytnkmljdkokcdjaa
open Go.RowKit Fed
set_option linter.unusedVariables false
attribute [local go_sem high] Fed.max2_int Fed.min2_int

set_option maxRecDepth 100000 in
set_option maxHeartbeats 4000000 in
theorem match_any (w : World) (B g : Nat) (s : NS) (μ : NM) (m : Fed.Msg) (ve : Value) (h : NodeAt w B g s μ) (ho : s.out.length ≤ 800000) (hl : s.n.log.length ≤ 800000) (hv : s.n.votes.length ≤ 1000) (hf0 : 0 ≤ m.frm) (hf1 : m.frm < s.n.votes.length)
    (hn : s.n.nxt.length = s.n.votes.length) (hm : s.n.mtch.length = s.n.votes.length) (hf : s.n.forms.length = s.n.votes.length) (hc0 : 0 ≤ s.n.commit) (hx : ∀ i, i < s.n.nxt.length → -1000000 ≤ s.n.nxt.getD i 0 ∧ s.n.nxt.getD i 0 ≤ 1000000) (hy : ∀ i, i < s.n.mtch.length → -1000000 ≤ s.n.mtch.getD i 0 ∧ s.n.mtch.getD i 0 ≤ 1000000) (hz : -1000000 ≤ m.index ∧ m.index ≤ 1000000) :
    Calls Try.prog 68 #[.pointer (some ⟨g, 0, none⟩), .agg #[.int .i64 m.kind, .int .i64 m.frm, .int .i64 m.to, .int .i64 m.term, .int .i64 m.index, .int .i64 m.logTerm, .bool m.ok, ve, .int .i64 m.commit, .int .i64 m.form]] w
      fun e w' => ∃ μ', e = .returned (.tuple #[]) ∧ NodeAt w' B g (matchS s m) μ' ∧ Below B w w' := by
  have hbs := h.Bsize
  have hn0 := h.alloc (.cells #[.int .i64 m.kind, .int .i64 m.frm, .int .i64 m.to, .int .i64 m.term, .int .i64 m.index, .int .i64 m.logTerm, .bool m.ok, ve, .int .i64 m.commit, .int .i64 m.form] 34)
  have hB0 : Below B w (w.alloc (.cells #[.int .i64 m.kind, .int .i64 m.frm, .int .i64 m.to, .int .i64 m.term, .int .i64 m.index, .int .i64 m.logTerm, .bool m.ok, ve, .int .i64 m.commit, .int .i64 m.form] 34)) := (Below.refl B w).alloc hbs _
  have hX0 := MM.alloc_new w (.cells #[.int .i64 m.kind, .int .i64 m.frm, .int .i64 m.to, .int .i64 m.term, .int .i64 m.index, .int .i64 m.logTerm, .bool m.ok, ve, .int .i64 m.commit, .int .i64 m.form] 34)
  obtain ⟨bx, hbx⟩ : ∃ bx, bx = w.heap.size := ⟨_, rfl⟩
  rw [← hbx] at hX0
  go_enter Try.func68, Try.ntmps68
  go_wp2
  rw [← hbx]
  obtain ⟨w0, hw0⟩ : ∃ W, W = w.alloc (.cells #[.int .i64 m.kind, .int .i64 m.frm, .int .i64 m.to, .int .i64 m.term, .int .i64 m.index, .int .i64 m.logTerm, .bool m.ok, ve, .int .i64 m.commit, .int .i64 m.form] 34) := ⟨_, rfl⟩
  have qN0 : NodeAt (w.alloc (.cells #[.int .i64 m.kind, .int .i64 m.frm, .int .i64 m.to, .int .i64 m.term, .int .i64 m.index, .int .i64 m.logTerm, .bool m.ok, ve, .int .i64 m.commit, .int .i64 m.form] 34)) B g s μ := hn0
  have qB0 : Below B w (w.alloc (.cells #[.int .i64 m.kind, .int .i64 m.frm, .int .i64 m.to, .int .i64 m.term, .int .i64 m.index, .int .i64 m.logTerm, .bool m.ok, ve, .int .i64 m.commit, .int .i64 m.form] 34)) := hB0
  have qX0 : ((w.alloc (.cells #[.int .i64 m.kind, .int .i64 m.frm, .int .i64 m.to, .int .i64 m.term, .int .i64 m.index, .int .i64 m.logTerm, .bool m.ok, ve, .int .i64 m.commit, .int .i64 m.form] 34))).heap[bx]? = some (.cells #[.int .i64 m.kind, .int .i64 m.frm, .int .i64 m.to, .int .i64 m.term, .int .i64 m.index, .int .i64 m.logTerm, .bool m.ok, ve, .int .i64 m.commit, .int .i64 m.form] 34 (0, 0)) := hX0
  rw [← hw0] at qN0 qB0 qX0 ⊢
  have HN0 := Lib.hid qN0
  have HB0 := Lib.hid qB0
  have HX0 := Lib.hid qX0
  clear qN0 qB0 qX0 hw0 hn0 hB0 hX0 h
  have c1 : w0.cell? ⟨g, 1, none⟩ = some (.int .i64 s.n.term) := HN0.out.c 1 _ rfl
  have c5 : w0.cell? ⟨g, 5, none⟩ = some (.int .i64 s.n.role) := HN0.out.c 5 _ rfl
  have d1 : w0.cell? ⟨bx, 1, none⟩ = some (.int .i64 m.frm) := MM.cell_blk HX0.out rfl
  have d3 : w0.cell? ⟨bx, 3, none⟩ = some (.int .i64 m.term) := MM.cell_blk HX0.out rfl
  have d4 : w0.cell? ⟨bx, 4, none⟩ = some (.int .i64 m.index) := MM.cell_blk HX0.out rfl
  have d6 : w0.cell? ⟨bx, 6, none⟩ = some (.bool m.ok) := MM.cell_blk HX0.out rfl
  have d9 : w0.cell? ⟨bx, 9, none⟩ = some (.int .i64 m.form) := MM.cell_blk HX0.out rfl
  have hge : B ≤ bx := by omega
  have HBX := Lib.hid hbx
  clear hbx
  by_cases hr : s.n.role = 2
  case neg =>
    have hrb : (s.n.role != 2) = true := by simpa using hr
    have HS := Lib.hid (show matchS s m = s from by unfold matchS; rw [if_pos (Or.inl hr)])
    clear hr hx hy
    refine Go.RT.wp_region_tree [0, 1, 3, 7, 15, 31, 63, 127, 255, 127, 639, 1663, 3711, 7807, 16383, 32767] (.p 0 (.p 1 (.p 2 (.p 3 (.s 4 (.p 5 (.p 6 (.p 7 (.s 8 (.p 9 (.p 10 (.p 11 (.p 12 (.s 13 (.p 14 (.p 15 .nil)))))))))))))))) (by kernel_rfl) (by kernel_rfl) ?_
    repeat (first | (refine Go.RT.step_p rfl (fun K hK => ?_); go_simp; refine hK _ ?_; clear hK K) | (refine Go.RT.step_s rfl (fun K hK => ?_); go_simp; refine hK _ ?_; clear hK K))
    refine Go.RT.step_nil ?_
    go_wp2
    refine bodyPost_ret (results_none rfl _ _ _) rfl ?_
    exact ⟨μ, rfl, by rw [HS.out]; exact HN0.out.drew, HB0.out.drew⟩
  have hrb : (s.n.role != 2) = false := by simpa using hr
  by_cases ht : m.term = s.n.term
  case neg =>
    have htb : (m.term != s.n.term) = true := by simpa using ht
    have HS := Lib.hid (show matchS s m = s from by unfold matchS; rw [if_pos (Or.inr ht)])
    clear hr ht hx hy
    refine Go.RT.wp_region_tree [0, 1, 3, 7, 15, 31, 63, 127, 255, 127, 639, 1663, 3711, 7807, 16383, 32767] (.p 0 (.p 1 (.p 2 (.p 3 (.s 4 (.p 5 (.p 6 (.p 7 (.s 8 (.p 9 (.p 10 (.p 11 (.p 12 (.s 13 (.p 14 (.p 15 .nil)))))))))))))))) (by kernel_rfl) (by kernel_rfl) ?_
    repeat (first | (refine Go.RT.step_p rfl (fun K hK => ?_); go_simp; refine hK _ ?_; clear hK K) | (refine Go.RT.step_s rfl (fun K hK => ?_); go_simp; refine hK _ ?_; clear hK K))
    refine Go.RT.step_nil ?_
    go_wp2
    refine bodyPost_ret (results_none rfl _ _ _) rfl ?_
    exact ⟨μ, rfl, by rw [HS.out]; exact HN0.out.drew, HB0.out.drew⟩
  have htb : (m.term != s.n.term) = false := by simpa using ht
  have HS := Lib.hid (show matchS s m = if m.ok = false then ⟨matchNo s.n m, s.out ++ [entriesMsg (matchNo s.n m) m.frm]⟩ else ⟨matchYes s.n m, s.out⟩ from by unfold matchS; rw [if_neg (by simp [hr, ht])])
  clear hr ht
  have HXX := Lib.hid hx
  have HYY := Lib.hid hy
  obtain ⟨ln, ln1⟩ := HXX.out m.frm.toNat (by omega)
  obtain ⟨lm, lm1⟩ := HYY.out m.frm.toNat (by omega)
  obtain ⟨X, hX⟩ : ∃ X, X = s.n.nxt.getD m.frm.toNat 0 := ⟨_, rfl⟩
  obtain ⟨Y, hY⟩ : ∃ Y, Y = s.n.mtch.getD m.frm.toNat 0 := ⟨_, rfl⟩
  rw [← hX] at ln ln1
  rw [← hY] at lm lm1
  have HNV := Lib.hid hn
  have HMV := Lib.hid hm
  have HFV := Lib.hid hf
  have hin : m.frm.toNat < s.n.votes.length := by omega
  have hinf : m.frm < (s.n.forms.length : Int) := by omega
  have hinn : m.frm < (s.n.nxt.length : Int) := by omega
  have hinm : m.frm < (s.n.mtch.length : Int) := by omega
  have HIN := Lib.hid hin
  clear hx hy hn hm hf hin
  refine Go.RT.wp_region_tree [0, 1, 3, 7, 15, 31, 63, 127, 255, 127, 639, 1663, 3711, 7807, 16383, 32767] (.p 0 (.p 1 (.p 2 (.p 3 (.s 4 (.p 5 (.p 6 (.p 7 (.s 8 (.p 9 (.p 10 (.p 11 (.p 12 (.s 13 (.p 14 (.p 15 .nil)))))))))))))))) (by kernel_rfl) (by kernel_rfl) ?_
  repeat (first | (refine Go.RT.step_p rfl (fun K hK => ?_); go_simp; refine hK _ ?_; clear hK K) | (refine Go.RT.step_s rfl (fun K hK => ?_); go_simp; refine hK _ ?_; clear hK K))
  refine Go.RT.step_nil ?_
  obtain ⟨w1, hw1⟩ : ∃ W, W = w0.drew := ⟨_, rfl⟩
  have qN1 : NodeAt (w0.drew) B g s μ := HN0.out.drew
  have qB1 : Below B w (w0.drew) := HB0.out.drew
  have qX1 : ((w0.drew)).heap[bx]? = some (.cells #[.int .i64 m.kind, .int .i64 m.frm, .int .i64 m.to, .int .i64 m.term, .int .i64 m.index, .int .i64 m.logTerm, .bool m.ok, ve, .int .i64 m.commit, .int .i64 m.form] 34 (0, 0)) := HX0.out
  rw [← hw1] at qN1 qB1 qX1 ⊢
  have HN1 := Lib.hid qN1
  have HB1 := Lib.hid qB1
  have HX1 := Lib.hid qX1
  clear qN1 qB1 qX1 hw1 c1 c5 d1 d3 d4 d6 d9 hrb htb HX0 HB0 HN0
  have d1 : w1.cell? ⟨bx, 1, none⟩ = some (.int .i64 m.frm) := MM.cell_blk HX1.out rfl
  have d4 : w1.cell? ⟨bx, 4, none⟩ = some (.int .i64 m.index) := MM.cell_blk HX1.out rfl
  have d6 : w1.cell? ⟨bx, 6, none⟩ = some (.bool m.ok) := MM.cell_blk HX1.out rfl
  have d9 : w1.cell? ⟨bx, 9, none⟩ = some (.int .i64 m.form) := MM.cell_blk HX1.out rfl
  obtain ⟨bf, hbf⟩ := HN1.out.hf.some_of (by rw [HFV.out]; omega)
  have hrf := HN1.out.hf
  rw [hbf] at hrf
  obtain ⟨capf, ef, qf1, qf2⟩ := hrf.form
  have c10 : w1.cell? ⟨g, 10, none⟩ = some (.slice (some ⟨bf, 0, none⟩) s.n.forms.length capf) := HN1.out.c 10 _ (congrArg some ef)
  have HRf := Lib.hid hrf
  have HBf := Lib.hid hbf
  clear ef hrf hbf
  have cef : w1.cell? ⟨bf, m.frm.toNat, none⟩ = some (.int .i64 (s.n.forms.getD (m.frm.toNat) 0)) := HRf.out.cell (intsC_get (by show _ < s.n.forms.length; rw [HFV.out]; exact HIN.out))
  have fef : w1.frozen? ⟨bf, m.frm.toNat, none⟩ = false := HRf.out.free _
  go_wp2
  refine Go.RT.wp_region_tree [0, 1, 3, 7, 15, 0, 32, 0, 128, 511, 1023] (.p 0 (.p 1 (.p 2 (.p 3 (.s 4 (.p 5 (.s 6 (.p 7 (.s 8 (.p 9 (.w 10 [] .nil .stop))))))))))) (by kernel_rfl) (by kernel_rfl) ?_
  repeat (first | (refine Go.RT.step_p rfl (fun K hK => ?_); go_simp; refine hK _ ?_; clear hK K) | (refine Go.RT.step_s rfl (fun K hK => ?_); go_simp; refine hK _ ?_; clear hK K))
  (refine Go.RT.step_w rfl rfl (fun K hK => ?_) Go.RT.step_stop)
  go_wp2
  refine Go.RT.QK_normal _ _ _ _ (hK _ _ ?_ ?_) <;> clear hK K
  · repeat (first | exact Go.RT.again_nil | (refine Go.RT.again_not rfl rfl ?_) | (refine Go.RT.again_one rfl (by go_simp <;> rfl) ?_))
  refine Go.RT.step_nil ?_
  obtain ⟨w2, hw2⟩ : ∃ W, W = (w1.setCell ⟨bf, m.frm.toNat, none⟩ (.int .i64 m.form)).drew := ⟨_, rfl⟩
  have qN2 : NodeAt ((w1.setCell ⟨bf, m.frm.toNat, none⟩ (.int .i64 m.form)).drew) B g ⟨matchN0 s.n m, s.out⟩ μ := (HN1.out.set_f (x := m.form) HBf.out (by rw [HFV.out]; exact HIN.out)).drew
  have qB2 : Below B w ((w1.setCell ⟨bf, m.frm.toNat, none⟩ (.int .i64 m.form)).drew) := (HB1.out.setCell (p := ⟨bf, m.frm.toNat, none⟩) (HRf.out.lt _ rfl).1 _).drew
  have qX2 : (((w1.setCell ⟨bf, m.frm.toNat, none⟩ (.int .i64 m.form)).drew)).heap[bx]? = some (.cells #[.int .i64 m.kind, .int .i64 m.frm, .int .i64 m.to, .int .i64 m.term, .int .i64 m.index, .int .i64 m.logTerm, .bool m.ok, ve, .int .i64 m.commit, .int .i64 m.form] 34 (0, 0)) := ret_far HX1.out (p := ⟨bf, _, none⟩) (ty_ne ⟨_, _, HX1.out⟩ (HRf.out.ty _ rfl) (by decide)) _
  rw [← hw2] at qN2 qB2 qX2 ⊢
  have HN2 := Lib.hid qN2
  have HB2 := Lib.hid qB2
  have HX2 := Lib.hid qX2
  clear qN2 qB2 qX2 hw2 c10 d1 d4 d6 d9 cef fef HRf HBf HX1 HN1 HB1
  have d1 : w2.cell? ⟨bx, 1, none⟩ = some (.int .i64 m.frm) := MM.cell_blk HX2.out rfl
  have d4 : w2.cell? ⟨bx, 4, none⟩ = some (.int .i64 m.index) := MM.cell_blk HX2.out rfl
  have d6 : w2.cell? ⟨bx, 6, none⟩ = some (.bool m.ok) := MM.cell_blk HX2.out rfl
  cases hk : m.ok
  case false =>
    rw [hk] at d6
    have HS2 := Lib.hid (show matchS s m = ⟨matchNo s.n m, s.out ++ [entriesMsg (matchNo s.n m) m.frm]⟩ from by rw [HS.out, if_pos hk])
    obtain ⟨bn, hbn⟩ := HN2.out.hn.some_of (by show 0 < s.n.nxt.length; rw [HNV.out]; omega)
    have hrn := HN2.out.hn
    rw [hbn] at hrn
    obtain ⟨capn, en, qn1, qn2⟩ := hrn.form
    have c8 : w2.cell? ⟨g, 8, none⟩ = some (.slice (some ⟨bn, 0, none⟩) s.n.nxt.length capn) := HN2.out.c 8 _ (congrArg some en)
    have HRn := Lib.hid hrn
    have HBn := Lib.hid hbn
    clear en hrn hbn
    have cen : w2.cell? ⟨bn, m.frm.toNat, none⟩ = some (.int .i64 (s.n.nxt.getD (m.frm.toNat) 0)) := HRn.out.cell (intsC_get (by show _ < s.n.nxt.length; rw [HNV.out]; exact HIN.out))
    have fen : w2.frozen? ⟨bn, m.frm.toNat, none⟩ = false := HRn.out.free _
    rw [← hX] at cen
    have HX9 := Lib.hid hX
    have e1 : 0 < mn (X - 2) m.index + 1 ∨ True := Or.inr trivial
    have hmnl : -1000002 ≤ mn (X - 2) m.index := by unfold mn; omega
    have hmnu : mn (X - 2) m.index ≤ 1000000 := by unfold mn; omega
    clear hX hY hk e1
    go_wp2
    refine Go.RT.wp_region_tree [0, 1, 3, 7, 15, 0, 32, 0, 128, 384, 896, 1920, 0, 4096, 16256, 32640, 65408, 0, 131072, 524160, 1048448, 2097024, 4194303, 8388607] (.p 0 (.p 1 (.p 2 (.p 3 (.s 4 (.p 5 (.s 6 (.p 7 (.p 8 (.p 9 (.p 10 (.s 11 (.p 12 (.s 13 (.p 14 (.s 15 (.p 16 (.p 17 (.s 18 (.p 19 (.p 20 (.p 21 (.p 22 (.w 23 [] .nil .stop)))))))))))))))))))))))) (by kernel_rfl) (by kernel_rfl) ?_
    repeat (first | (refine Go.RT.step_p rfl (fun K hK => ?_); go_simp; refine hK _ ?_; clear hK K) | (refine Go.RT.step_s rfl (fun K hK => ?_); go_simp; refine hK _ ?_; clear hK K))
    (refine Go.RT.step_w rfl rfl (fun K hK => ?_) Go.RT.step_stop)
    go_wp2
    refine Go.RT.QK_normal _ _ _ _ (hK _ _ ?_ ?_) <;> clear hK K
    · repeat (first | exact Go.RT.again_nil | (refine Go.RT.again_not rfl rfl ?_) | (refine Go.RT.again_one rfl (by go_simp <;> rfl) ?_))
    refine Go.RT.step_nil ?_
    obtain ⟨w3, hw3⟩ : ∃ W, W = (w2.setCell ⟨bn, m.frm.toNat, none⟩ (.int .i64 (mx 1 (mn (X - 2) m.index + 1)))).drew := ⟨_, rfl⟩
    have qN3 : NodeAt ((w2.setCell ⟨bn, m.frm.toNat, none⟩ (.int .i64 (mx 1 (mn (X - 2) m.index + 1)))).drew) B g ⟨matchNo s.n m, s.out⟩ μ := by rw [HX9.out]; exact (HN2.out.set_n HBn.out (by show _ < s.n.nxt.length; rw [HNV.out]; exact HIN.out)).drew
    have qB3 : Below B w ((w2.setCell ⟨bn, m.frm.toNat, none⟩ (.int .i64 (mx 1 (mn (X - 2) m.index + 1)))).drew) := (HB2.out.setCell (p := ⟨bn, m.frm.toNat, none⟩) (HRn.out.lt _ rfl).1 _).drew
    have qX3 : (((w2.setCell ⟨bn, m.frm.toNat, none⟩ (.int .i64 (mx 1 (mn (X - 2) m.index + 1)))).drew)).heap[bx]? = some (.cells #[.int .i64 m.kind, .int .i64 m.frm, .int .i64 m.to, .int .i64 m.term, .int .i64 m.index, .int .i64 m.logTerm, .bool m.ok, ve, .int .i64 m.commit, .int .i64 m.form] 34 (0, 0)) := ret_far HX2.out (p := ⟨bn, _, none⟩) (ty_ne ⟨_, _, HX2.out⟩ (HRn.out.ty _ rfl) (by decide)) _
    rw [← hw3] at qN3 qB3 qX3 ⊢
    have HN3 := Lib.hid qN3
    have HB3 := Lib.hid qB3
    have HX3 := Lib.hid qX3
    clear qN3 qB3 qX3 hw3 c8 d1 d4 d6 cen fen HRn HBn HX2 HN2 HB2
    have d1 : w3.cell? ⟨bx, 1, none⟩ = some (.int .i64 m.frm) := MM.cell_blk HX3.out rfl
    have HQ := Lib.hid (show -1000000000 ≤ (matchNo s.n m).nxt.getD m.frm.toNat 0 ∧ (matchNo s.n m).nxt.getD m.frm.toNat 0 ≤ 1000000000 from by
      have : (matchNo s.n m).nxt.getD m.frm.toNat 0 = mx 1 (mn (X - 2) m.index + 1) := by
        simp only [matchNo, ← HX9.out]
        rw [List.getD_eq_getElem?_getD, List.getElem?_set_self (by rw [HNV.out]; exact HIN.out)]
        rfl
      rw [this]
      unfold mx
      omega)
    have hent := entries_any w3 B g ⟨matchNo s.n m, s.out⟩ μ m.frm.toNat HN3.out (by show s.out.length ≤ 1000000; omega) (by show s.n.log.length ≤ 1000000; omega) (by show m.frm.toNat < (matchNo s.n m).nxt.length; simp only [matchNo, List.length_set]; rw [HNV.out]; exact HIN.out) HQ.out.1 HQ.out.2
    rw [show ((m.frm.toNat : Nat) : Int) = m.frm from by omega] at hent
    have HENT := Lib.hid hent
    clear hent
    go_wp2_with fail
    refine HENT.out.mono ?_
    rintro e w4 ⟨o4, rfl, hn4, hb4⟩
    go_wp2_with fail
    refine bodyPost_ret (results_none rfl _ _ _) rfl ?_
    exact ⟨_, rfl, by rw [HS2.out]; exact hn4, HB3.out.trans hb4⟩
  rw [hk] at d6
  have HS2 := Lib.hid (show matchS s m = ⟨matchYes s.n m, s.out⟩ from by rw [HS.out, if_neg (by rw [hk]; simp)])
  obtain ⟨bm, hbm⟩ := HN2.out.hm.some_of (by show 0 < s.n.mtch.length; rw [HMV.out]; omega)
  have hrm := HN2.out.hm
  rw [hbm] at hrm
  obtain ⟨capm, em, qm1, qm2⟩ := hrm.form
  have c9 : w2.cell? ⟨g, 9, none⟩ = some (.slice (some ⟨bm, 0, none⟩) s.n.mtch.length capm) := HN2.out.c 9 _ (congrArg some em)
  have HRm := Lib.hid hrm
  have HBm := Lib.hid hbm
  clear em hrm hbm
  have cem : w2.cell? ⟨bm, m.frm.toNat, none⟩ = some (.int .i64 (s.n.mtch.getD (m.frm.toNat) 0)) := HRm.out.cell (intsC_get (by show _ < s.n.mtch.length; rw [HMV.out]; exact HIN.out))
  have fem : w2.frozen? ⟨bm, m.frm.toNat, none⟩ = false := HRm.out.free _
  rw [← hY] at cem
  have HY9 := Lib.hid hY
  clear hX hY hk
  go_wp2
  refine Go.RT.wp_region_tree [0, 1, 3, 7, 15, 0, 32, 0, 128, 384, 896, 1920, 0, 4096, 16256, 32640, 0, 65536, 262016, 524287, 1048575] (.p 0 (.p 1 (.p 2 (.p 3 (.s 4 (.p 5 (.s 6 (.p 7 (.p 8 (.p 9 (.p 10 (.s 11 (.p 12 (.s 13 (.p 14 (.s 15 (.p 16 (.s 17 (.p 18 (.p 19 (.w 20 [] .nil .stop))))))))))))))))))))) (by kernel_rfl) (by kernel_rfl) ?_
  repeat (first | (refine Go.RT.step_p rfl (fun K hK => ?_); go_simp; refine hK _ ?_; clear hK K) | (refine Go.RT.step_s rfl (fun K hK => ?_); go_simp; refine hK _ ?_; clear hK K))
  (refine Go.RT.step_w rfl rfl (fun K hK => ?_) Go.RT.step_stop)
  go_wp2
  refine Go.RT.QK_normal _ _ _ _ (hK _ _ ?_ ?_) <;> clear hK K
  · repeat (first | exact Go.RT.again_nil | (refine Go.RT.again_not rfl rfl ?_) | (refine Go.RT.again_one rfl (by go_simp <;> rfl) ?_))
  refine Go.RT.step_nil ?_
  obtain ⟨w3, hw3⟩ : ∃ W, W = (w2.setCell ⟨bm, m.frm.toNat, none⟩ (.int .i64 (mx Y m.index))).drew := ⟨_, rfl⟩
  have qN3 : NodeAt ((w2.setCell ⟨bm, m.frm.toNat, none⟩ (.int .i64 (mx Y m.index))).drew) B g ⟨{ matchN0 s.n m with mtch := s.n.mtch.set m.frm.toNat (mx Y m.index) }, s.out⟩ μ := (HN2.out.set_m HBm.out (by show _ < s.n.mtch.length; rw [HMV.out]; exact HIN.out)).drew
  have qB3 : Below B w ((w2.setCell ⟨bm, m.frm.toNat, none⟩ (.int .i64 (mx Y m.index))).drew) := (HB2.out.setCell (p := ⟨bm, m.frm.toNat, none⟩) (HRm.out.lt _ rfl).1 _).drew
  have qX3 : (((w2.setCell ⟨bm, m.frm.toNat, none⟩ (.int .i64 (mx Y m.index))).drew)).heap[bx]? = some (.cells #[.int .i64 m.kind, .int .i64 m.frm, .int .i64 m.to, .int .i64 m.term, .int .i64 m.index, .int .i64 m.logTerm, .bool m.ok, ve, .int .i64 m.commit, .int .i64 m.form] 34 (0, 0)) := ret_far HX2.out (p := ⟨bm, _, none⟩) (ty_ne ⟨_, _, HX2.out⟩ (HRm.out.ty _ rfl) (by decide)) _
  rw [← hw3] at qN3 qB3 qX3 ⊢
  have HN3 := Lib.hid qN3
  have HB3 := Lib.hid qB3
  have HX3 := Lib.hid qX3
  clear qN3 qB3 qX3 hw3 c9 d1 d4 d6 cem fem HRm HBm HX2 HN2 HB2
  have d1 : w3.cell? ⟨bx, 1, none⟩ = some (.int .i64 m.frm) := MM.cell_blk HX3.out rfl
  obtain ⟨MT, hMT⟩ : ∃ MT, MT = s.n.mtch.set m.frm.toNat (mx Y m.index) := ⟨_, rfl⟩
  have hMTl : MT.length = s.n.votes.length := by rw [hMT, List.length_set]; exact HMV.out
  have hMTg : MT.getD m.frm.toNat 0 = mx Y m.index := by rw [hMT, List.getD_eq_getElem?_getD, List.getElem?_set_self (by rw [HMV.out]; exact HIN.out)]; rfl
  have hmxl : -1000000 ≤ mx Y m.index := by unfold mx; omega
  have hmxu : mx Y m.index ≤ 1000000 := by unfold mx; omega
  have HN3' := HN3
  clear HN3
  rw [← hMT] at HN3'
  have HMT := Lib.hid hMT
  have HMTl := Lib.hid hMTl
  have hinm : m.frm < (MT.length : Int) := by omega
  clear hMT
  obtain ⟨bm, hbm⟩ := HN3'.out.hm.some_of (by show 0 < MT.length; omega)
  have hrm := HN3'.out.hm
  rw [hbm] at hrm
  obtain ⟨capm, em, qm1, qm2⟩ := hrm.form
  have c9 : w3.cell? ⟨g, 9, none⟩ = some (.slice (some ⟨bm, 0, none⟩) MT.length capm) := HN3'.out.c 9 _ (congrArg some em)
  have HRm := Lib.hid hrm
  have HBm := Lib.hid hbm
  clear em hrm hbm
  have cem : w3.cell? ⟨bm, m.frm.toNat, none⟩ = some (.int .i64 (mx Y m.index)) := by rw [← hMTg]; exact HRm.out.cell (intsC_get (by rw [hMTl]; exact HIN.out))
  obtain ⟨bn, hbn⟩ := HN3'.out.hn.some_of (by show 0 < s.n.nxt.length; rw [HNV.out]; omega)
  have hrn := HN3'.out.hn
  rw [hbn] at hrn
  obtain ⟨capn, en, qn1, qn2⟩ := hrn.form
  have c8 : w3.cell? ⟨g, 8, none⟩ = some (.slice (some ⟨bn, 0, none⟩) s.n.nxt.length capn) := HN3'.out.c 8 _ (congrArg some en)
  have HRn := Lib.hid hrn
  have HBn := Lib.hid hbn
  clear en hrn hbn
  have cen : w3.cell? ⟨bn, m.frm.toNat, none⟩ = some (.int .i64 (s.n.nxt.getD (m.frm.toNat) 0)) := HRn.out.cell (intsC_get (by show _ < s.n.nxt.length; rw [HNV.out]; exact HIN.out))
  have fen : w3.frozen? ⟨bn, m.frm.toNat, none⟩ = false := HRn.out.free _
  clear hMTl hMTg
  go_wp2
  refine Go.RT.wp_region_tree [0, 1, 3, 7, 15, 0, 32, 0, 128, 384, 896, 1920, 0, 4096, 16256, 32640, 65408, 131071, 262143] (.p 0 (.p 1 (.p 2 (.p 3 (.s 4 (.p 5 (.s 6 (.p 7 (.p 8 (.p 9 (.p 10 (.s 11 (.p 12 (.s 13 (.p 14 (.s 15 (.p 16 (.p 17 (.w 18 [] .nil .stop))))))))))))))))))) (by kernel_rfl) (by kernel_rfl) ?_
  repeat (first | (refine Go.RT.step_p rfl (fun K hK => ?_); go_simp; refine hK _ ?_; clear hK K) | (refine Go.RT.step_s rfl (fun K hK => ?_); go_simp; refine hK _ ?_; clear hK K))
  (refine Go.RT.step_w rfl rfl (fun K hK => ?_) Go.RT.step_stop)
  go_wp2
  refine Go.RT.QK_normal _ _ _ _ (hK _ _ ?_ ?_) <;> clear hK K
  · repeat (first | exact Go.RT.again_nil | (refine Go.RT.again_not rfl rfl ?_) | (refine Go.RT.again_one rfl (by go_simp <;> rfl) ?_))
  refine Go.RT.step_nil ?_
  obtain ⟨w4, hw4⟩ : ∃ W, W = (w3.setCell ⟨bn, m.frm.toNat, none⟩ (.int .i64 (mx Y m.index + 1))).drew := ⟨_, rfl⟩
  have qN4 : NodeAt ((w3.setCell ⟨bn, m.frm.toNat, none⟩ (.int .i64 (mx Y m.index + 1))).drew) B g ⟨matchN1 s.n m, s.out⟩ μ := by have h9 := (HN3'.out.set_n (x := mx Y m.index + 1) HBn.out (by show _ < s.n.nxt.length; rw [HNV.out]; exact HIN.out)).drew; rw [HMT.out, HY9.out] at h9; rw [HY9.out]; exact h9
  have qB4 : Below B w ((w3.setCell ⟨bn, m.frm.toNat, none⟩ (.int .i64 (mx Y m.index + 1))).drew) := (HB3.out.setCell (p := ⟨bn, m.frm.toNat, none⟩) (HRn.out.lt _ rfl).1 _).drew
  rw [← hw4] at qN4 qB4 ⊢
  have HN4 := Lib.hid qN4
  have HB4 := Lib.hid qB4
  clear qN4 qB4 hw4 c8 c9 d1 cen fen cem HRn HBn HRm HBm HX3 HN3' HB3
  go_wp2_with fail
  refine (reached_any _ B g _ _ HN4.out hl (by show (matchN1 s.n m).mtch.length ≤ 1000; simp only [matchN1, List.length_set]; rw [HMV.out]; exact hv) (by show 0 < (matchN1 s.n m).mtch.length; simp only [matchN1, List.length_set]; rw [HMV.out]; omega) hc0).mono ?_
  rintro e w5 ⟨rfl, hn5, hb5⟩
  have HN5 := Lib.hid hn5
  have HB5 := Lib.hid (HB4.out.trans hb5)
  have c6 : w5.cell? ⟨g, 6, none⟩ = some (.int .i64 s.n.commit) := hn5.c 6 _ rfl
  have fr6 := hn5.fr 6
  clear hn5 hb5
  go_wp2
  go_end0
  exact ⟨μ, rfl, by rw [HS2.out]; exact HN5.out.setg rfl rfl rfl rfl rfl rfl rfl, HB5.out.setCell HN5.out.hB _⟩

end Go.Proofs.Ytnkmljdkokcdjaa
