/-
  The document's Handle answers as the plain handleS. Conditions: the lengths and numbers are bounded as the theorem says.
-/
import Derived.WalkKit
import Derived.WalkSpells
import Derived.Lib.Hide
import Derived.Outline
import Derived.Test.YtnkmljdkokcdjaaChecked
import Derived.Test.YtnkmljdkokcdjaaMn
import Derived.Test.YtnkmljdkokcdjaaMem
import Derived.Test.YtnkmljdkokcdjaaFed
import Derived.Test.YtnkmljdkokcdjaaRn10
import Derived.Test.YtnkmljdkokcdjaaRn9
import Derived.Test.YtnkmljdkokcdjaaRn5
import Derived.Deep.DeepCutAuto
import Derived.Deep.CutBlock
import Derived.Deep.OwnRows
import Derived.IntWalk
set_option linter.unusedVariables false
set_option linter.unusedSimpArgs false
namespace Go.Proofs.Ytnkmljdkokcdjaa
open Go.RowKit Fed
set_option linter.unusedVariables false
attribute [local go_sem high] Fed.max2_int Fed.min2_int

set_option maxRecDepth 100000 in
set_option maxHeartbeats 40000000 in
theorem rhandle_any (w : World) (ok : Nat → Prop) (n : Fed.Node) (σ : Sl5) (h : NodeVs w ok n σ) (m : Fed.Msg) (A : Option Addr) (c : Nat) (ok2 : Nat → Prop) (hr : MM.Rd w ok2 2 (.slice A m.entries.length c) m.entries.length (entsC m.entries))
    (l1 : n.log.length ≤ 700000) (l2 : n.votes.length ≤ 1000) (l3 : n.nxt.length = n.votes.length) (l4 : n.mtch.length = n.votes.length) (l5 : n.forms.length = n.votes.length) (he : m.entries.length ≤ 1000)
    (hc0 : -1000000000 ≤ n.clock) (hc1 : n.clock ≤ 1000000000) (hcm : 0 ≤ n.commit) (hz : 0 ≤ m.index ∧ m.index ≤ 1000000) (hi0 : 0 ≤ n.id) (hi1 : n.id < n.votes.length) (hf0 : 0 ≤ m.frm) (hf1 : m.frm < n.votes.length) (hkd : 1 ≤ m.kind ∧ m.kind ≤ 4)
    (hx : ∀ i, i < n.nxt.length → -1000000 ≤ n.nxt.getD i 0 ∧ n.nxt.getD i 0 ≤ 1000000) (hy : ∀ i, i < n.mtch.length → -1000000 ≤ n.mtch.getD i 0 ∧ n.mtch.getD i 0 ≤ 1000000)
    (hs : n.role = 2 → m.term = n.term → m.kind = 4 → m.ok = false → 1 ≤ n.nxt.getD m.frm.toNat 0 ∧ n.nxt.getD m.frm.toNat 0 ≤ n.log.length + 1) :
    Calls Try.prog 71 #[.agg #[.int .i64 n.id, .int .i64 n.term, .int .i64 n.vote, .slice σ.A3 n.log.length σ.k3, .int .i64 n.form, .int .i64 n.role, .int .i64 n.commit, .slice σ.A7 n.votes.length σ.k7, .slice σ.A8 n.nxt.length σ.k8, .slice σ.A9 n.mtch.length σ.k9, .slice σ.A10 n.forms.length σ.k10, .int .i64 n.clock, .int .i64 n.due], .agg #[.int .i64 m.kind, .int .i64 m.frm, .int .i64 m.to, .int .i64 m.term, .int .i64 m.index, .int .i64 m.logTerm, .bool m.ok, .slice A m.entries.length c, .int .i64 m.commit, .int .i64 m.form]] w fun e w' => ∃ (τ : Sl5) (A' : Option Addr) (c' : Nat), e = .returned (.tuple #[.agg #[.int .i64 (handleS n m).n.id, .int .i64 (handleS n m).n.term, .int .i64 (handleS n m).n.vote, .slice τ.A3 (handleS n m).n.log.length τ.k3, .int .i64 (handleS n m).n.form, .int .i64 (handleS n m).n.role, .int .i64 (handleS n m).n.commit, .slice τ.A7 (handleS n m).n.votes.length τ.k7, .slice τ.A8 (handleS n m).n.nxt.length τ.k8, .slice τ.A9 (handleS n m).n.mtch.length τ.k9, .slice τ.A10 (handleS n m).n.forms.length τ.k10, .int .i64 (handleS n m).n.clock, .int .i64 (handleS n m).n.due], .slice A' (handleS n m).out.length c']) ∧ NodeVs w' (fun k => w.heap.size ≤ k) (handleS n m).n τ ∧ MsgsV w' (fun k => w.heap.size ≤ k) (.slice A' (handleS n m).out.length c') (handleS n m).out ∧ Below w.heap.size w w' := by
  have HS := Lib.hid (show handleS n m = handleIn ⟨bump n m, []⟩ m from by unfold handleS; rw [if_pos ⟨⟨hf0, hf1⟩, hi0, hi1⟩])
  generalize handleS n m = s1 at HS ⊢
  have H := Lib.hid (h.mono (ok' := fun k => k < w.heap.size) (fun k _ hk => hk))
  have HR0 := Lib.hid (hr.mono (ok' := fun k => k < w.heap.size) (fun k _ hk => hk))
  have HX := Lib.hid (hx m.frm.toNat (by omega))
  have HY := Lib.hid (hy m.frm.toNat (by omega))
  have HSN := Lib.hid hs
  have L3 := Lib.hid l3
  have L4 := Lib.hid l4
  have L5 := Lib.hid l5
  have k3 : n.nxt.length ≤ 1000 := by omega
  have k4 : n.mtch.length ≤ 1000 := by omega
  have k5 : n.forms.length ≤ 1000 := by omega
  clear h hr hx hy hs l3 l4 l5
  go_enter Try.func71, Try.ntmps71
  go_upto_region 1 with (fail)
  refine name_world (F := fun W => Hid (W.heap[w.heap.size]? = some (.cells #[.int .i64 n.id, .int .i64 n.term, .int .i64 n.vote, .slice σ.A3 n.log.length σ.k3, .int .i64 n.form, .int .i64 n.role, .int .i64 n.commit, .slice σ.A7 n.votes.length σ.k7, .slice σ.A8 n.nxt.length σ.k8, .slice σ.A9 n.mtch.length σ.k9, .slice σ.A10 n.forms.length σ.k10, .int .i64 n.clock, .int .i64 n.due] 28 (0, 0))) ∧ Hid (W.heap[w.heap.size + 1]? = some (.cells #[.int .i64 m.kind, .int .i64 m.frm, .int .i64 m.to, .int .i64 m.term, .int .i64 m.index, .int .i64 m.logTerm, .bool m.ok, .slice A m.entries.length c, .int .i64 m.commit, .int .i64 m.form] 34 (0, 0))) ∧ Hid (W.heap[w.heap.size + 2]? = some (.cells #[.int .i64 0, .int .i64 0, .int .i64 0, .slice none 0 0, .int .i64 0, .int .i64 0, .int .i64 0, .slice none 0 0, .slice none 0 0, .slice none 0 0, .slice none 0 0, .int .i64 0, .int .i64 0] 28 (0, 0))) ∧ Hid (NodeVs W (fun k => k < w.heap.size) n σ) ∧ Hid (MM.Rd W (fun k => k < w.heap.size) 2 (.slice A m.entries.length c) m.entries.length (entsC m.entries)) ∧ Hid (Below w.heap.size w W)) _ ⟨Lib.hid ((Below.heap_alloc _ _ _ (by simp; omega)).trans ((Below.heap_alloc _ _ _ (by simp)).trans (MM.alloc_new w _))), Lib.hid (alloc_mid w _ _ _), Lib.hid (alloc_new2 w _ _ _), Lib.hid (H.out.step (fun k hk _ => (Below.heap_alloc _ _ k (by simp; omega)).trans ((Below.heap_alloc _ _ k (by simp; omega)).trans (Below.heap_alloc w _ k hk)))), Lib.hid (HR0.out.step (fun k hk _ => (Below.heap_alloc _ _ k (by simp; omega)).trans ((Below.heap_alloc _ _ k (by simp; omega)).trans (Below.heap_alloc w _ k hk)))), Lib.hid ((((Below.refl _ w).alloc (Nat.le_refl _) _).alloc (by simp) _).alloc (by simp; omega) _)⟩ ?_
  clear H HR0
  intro w1 ⟨X, M, Y, V, HR, HB⟩
  obtain ⟨c0, c1, c2, c3, c4, c5, c6, c7, c8, c9, c10, c11, c12⟩ := MM.cells13 X.out
  go_wp2_with fail
  refine (rown_any _ _ n σ V.out (by omega) (by omega) (by omega) (by omega) (by omega)).mono ?_
  rintro e w2 ⟨τ, υ, rfl, hn2, hb2⟩
  have X2 := Lib.hid ((hb2.block _ (MM.blk_lt X.out)).trans X.out)
  have Y2 := Lib.hid ((hb2.block _ (MM.blk_lt Y.out)).trans Y.out)
  have HB2 := Lib.hid (HB.out.trans (hb2.mono HB.out.size))
  have HN2 := Lib.hid (hn2.lower HB.out.size)
  have M2 := Lib.hid ((hb2.block _ (MM.blk_lt M.out)).trans M.out)
  have HR2 := Lib.hid (HR.out.below hb2)
  clear hn2 hb2 c0 c1 c2 c3 c4 c5 c6 c7 c8 c9 c10 c11 c12
  obtain ⟨c0, c1, c2, c3, c4, c5, c6, c7, c8, c9, c10, c11, c12⟩ := MM.cells13 X2.out
  obtain ⟨g0, g1, g2, g3, g4, g5, g6, g7, g8, g9, g10, g11, g12⟩ := MM.frees13 X2.out
  go_upto_region 2 with (fail)
  refine name_world (F := fun W => Hid (NB W w.heap.size w.heap.size n τ υ) ∧ Hid (W.heap[w.heap.size + 2]? = some (.cells #[.int .i64 0, .int .i64 0, .int .i64 0, .slice none 0 0, .int .i64 0, .int .i64 0, .int .i64 0, .slice none 0 0, .slice none 0 0, .slice none 0 0, .slice none 0 0, .int .i64 0, .int .i64 0] 28 (0, 0))) ∧ Hid (Below w.heap.size w W) ∧ Hid (W.heap[w.heap.size + 1]? = some (.cells #[.int .i64 m.kind, .int .i64 m.frm, .int .i64 m.to, .int .i64 m.term, .int .i64 m.index, .int .i64 m.logTerm, .bool m.ok, .slice A m.entries.length c, .int .i64 m.commit, .int .i64 m.form] 34 (0, 0))) ∧ Hid (MM.Rd W (fun k => k < w.heap.size) 2 (.slice A m.entries.length c) m.entries.length (entsC m.entries))) _ ⟨Lib.hid (NB.mk13 (Nat.le_refl _) X2.out HN2.out), Lib.hid ((far13 (by show w.heap.size + 2 ≠ w.heap.size; omega)).trans Y2.out), Lib.hid (below13 HB2.out (Nat.le_refl _)), Lib.hid ((far13 (by show w.heap.size + 1 ≠ w.heap.size; omega)).trans M2.out), Lib.hid (HR2.out.step (fun k hk _ => far13 (by show k ≠ w.heap.size; omega)))⟩ ?_
  clear X Y V HB X2 Y2 HB2 HN2 M M2 HR HR2 g0 c0 g1 c1 g2 c2 g3 c3 g4 c4 g5 c5 g6 c6 g7 c7 g8 c8 g9 c9 g10 c10 g11 c11 g12 c12
  intro w3 ⟨N, Y, HB, M, HR⟩
  have c1 : w3.cell? ⟨w.heap.size, 1, none⟩ = some (.int .i64 n.term) := N.out.c 1 _ rfl
  have c2 : w3.cell? ⟨w.heap.size, 2, none⟩ = some (.int .i64 n.vote) := N.out.c 2 _ rfl
  have c5 : w3.cell? ⟨w.heap.size, 5, none⟩ = some (.int .i64 n.role) := N.out.c 5 _ rfl
  have g1 : w3.frozen? ⟨w.heap.size, 1, none⟩ = false := N.out.fr 1
  have g2 : w3.frozen? ⟨w.heap.size, 2, none⟩ = false := N.out.fr 2
  have g5 : w3.frozen? ⟨w.heap.size, 5, none⟩ = false := N.out.fr 5
  have d3 : w3.cell? ⟨w.heap.size + 1, 3, none⟩ = some (.int .i64 m.term) := MM.cell_blk M.out rfl
  go_upto_if 12 with (fail)
  go_cut [] (fun wc => Hid (NB wc w.heap.size w.heap.size (bump n m) τ υ) ∧ Hid (wc.heap[w.heap.size + 1]? = some (.cells #[.int .i64 m.kind, .int .i64 m.frm, .int .i64 m.to, .int .i64 m.term, .int .i64 m.index, .int .i64 m.logTerm, .bool m.ok, .slice A m.entries.length c, .int .i64 m.commit, .int .i64 m.form] 34 (0, 0))) ∧ Hid (wc.heap[w.heap.size + 2]? = some (.cells #[.int .i64 0, .int .i64 0, .int .i64 0, .slice none 0 0, .int .i64 0, .int .i64 0, .int .i64 0, .slice none 0 0, .slice none 0 0, .slice none 0 0, .slice none 0 0, .int .i64 0, .int .i64 0] 28 (0, 0))) ∧ Hid (Below w.heap.size w wc) ∧ Hid (MM.Rd wc (fun k => k < w.heap.size) 2 (.slice A m.entries.length c) m.entries.length (entsC m.entries)))
  case first => as_aux_lemma =>
    by_cases ht : n.term < m.term
    · rw [decide_eq_true ht]
      have HBP := Lib.hid (show bump n m = { n with term := m.term, vote := -1, role := 0 } from by unfold bump; rw [if_pos ht])
      clear ht
      go_wp2_with fail
      have NF := Lib.hid (((N.out.set (i := 1) (u := .int .i64 m.term) (n' := { n with term := m.term }) rfl ⟨rfl, rfl, rfl, rfl, rfl⟩).set (i := 2) (u := .int .i64 (-1)) (n' := { n with term := m.term, vote := -1 }) rfl ⟨rfl, rfl, rfl, rfl, rfl⟩).set (i := 5) (u := .int .i64 0) (n' := { n with term := m.term, vote := -1, role := 0 }) rfl ⟨rfl, rfl, rfl, rfl, rfl⟩)
      rw [← HBP.out] at NF
      go_meet
      case rel => exact ⟨NF, Lib.hid ((far3 (by show w.heap.size + 1 ≠ w.heap.size; omega)).trans M.out), Lib.hid ((far3 (by show w.heap.size + 2 ≠ w.heap.size; omega)).trans Y.out), Lib.hid (((HB.out.setCell (Nat.le_refl _) _).setCell (Nat.le_refl _) _).setCell (Nat.le_refl _) _), Lib.hid (HR.out.step (fun k hk _ => far3 (by show k ≠ w.heap.size; omega)))⟩
    · rw [decide_eq_false ht]
      have HBP := Lib.hid (show bump n m = n from by unfold bump; rw [if_neg ht])
      clear ht
      go_wp2_with fail
      go_meet
      case rel => exact ⟨by rw [HBP.out]; exact N, M, Y, HB, HR⟩
  case rest =>
    clear N M Y HB HR c1 c2 c5 g1 g2 g5 d3
    obtain ⟨N, M, Y, HB, HR⟩ := hcut
    have HG := Lib.hid (show (bump n m).votes = n.votes ∧ (bump n m).log = n.log ∧ (bump n m).id = n.id ∧ (bump n m).clock = n.clock ∧ (bump n m).nxt = n.nxt ∧ (bump n m).mtch = n.mtch ∧ (bump n m).forms = n.forms ∧ (bump n m).commit = n.commit from ⟨bump_votes n m, bump_log n m, bump_id n m, bump_clock n m, bump_nxt n m, bump_mtch n m, bump_forms n m, bump_commit n m⟩)
    have HSM := Lib.hid (show (bump n m).role = 2 → m.term = (bump n m).term → m.kind = 4 → m.ok = false → 1 ≤ n.nxt.getD m.frm.toNat 0 ∧ n.nxt.getD m.frm.toNat 0 ≤ n.log.length + 1 from by
      unfold bump
      split
      · intro q; simp at q
      · exact HSN.out)
    have HLT := Lib.hid (show m.term ≤ (bump n m).term from by
      unfold bump
      split
      · exact Int.le_refl _
      · omega)
    obtain ⟨n1, hn1⟩ : ∃ x, x = bump n m := ⟨_, rfl⟩
    rw [← hn1] at N HG HSM HLT HS
    clear hn1 HSN
    obtain ⟨e1, e2, e3, e4, e5, e6, e7, e8⟩ := HG.out
    have l1' : n1.log.length ≤ 700000 := by rw [e2]; exact l1
    have l2' : n1.votes.length ≤ 1000 := by rw [e1]; exact l2
    have L3' := Lib.hid (show n1.nxt.length = n1.votes.length by rw [e5, e1]; exact L3.out)
    have L4' := Lib.hid (show n1.mtch.length = n1.votes.length by rw [e6, e1]; exact L4.out)
    have L5' := Lib.hid (show n1.forms.length = n1.votes.length by rw [e7, e1]; exact L5.out)
    have hi0' : 0 ≤ n1.id := by rw [e3]; exact hi0
    have hi1' : n1.id < n1.votes.length := by rw [e3, e1]; exact hi1
    have hf1' : m.frm < n1.votes.length := by rw [e1]; exact hf1
    have hc0' : -1000000000 ≤ n1.clock := by rw [e4]; exact hc0
    have hc1' : n1.clock ≤ 1000000000 := by rw [e4]; exact hc1
    have hcm' : 0 ≤ n1.commit := by rw [e8]; exact hcm
    rw [← e5] at HX HSM
    rw [← e6] at HY
    rw [← e2] at HSM
    clear e1 e2 e3 e4 e5 e6 e7 e8 HG L3 L4 L5 l1 l2 hi0 hi1 hf1 hc0 hc1 hcm k3 k4 k5
    have hsw : w.heap.size + 2 < wc.heap.size := MM.blk_lt Y.out
    obtain ⟨hk0, hk9⟩ := hkd
    by_cases h1 : m.kind = 1
    · have kb : (m.kind == 1) = true := by simpa using h1
      have HE := Lib.hid (show s1 = voteS ⟨n1, []⟩ m from by rw [HS.out]; unfold handleIn; rw [if_pos h1])
      clear h1 HS
      have d0 : wc.cell? ⟨w.heap.size + 1, 0, none⟩ = some (.int .i64 m.kind) := MM.cell_blk M.out rfl
      go_upto_region 6 with (fail)
      clear kb d0
      obtain ⟨c0, c1, c2, c3, c4, c5, c6, c7, c8, c9, c10, c11, c12⟩ := MM.cells13 N.out.blk
      obtain ⟨d0, d1, d2, d3, d4, d5, d6, d7, d8, d9⟩ := MM.cells10 M.out
      go_wp2_with fail
      refine (rasked_any _ w.heap.size n1 τ υ N.out.rows (by omega) m A c (by omega) (by omega) (by omega) hc0' hc1').mono ?_
      rintro e w8 ⟨τ2, υ2, As, cs, os, rfl, hn8, ho8, hb8, hk8⟩
      have Y8 := Lib.hid (hk8.blk Y.out (by decide) (by decide))
      have HM8 := Lib.hid ho8.toV
      have HB8 := Lib.hid (HB.out.trans hb8)
      have HO8 := Lib.hid ho8
      have HN8 := Lib.hid hn8
      clear hn8 hb8 ho8 hk8
      obtain ⟨y0, y1, y2, y3, y4, y5, y6, y7, y8, y9, y10, y11, y12⟩ := MM.cells13 Y8.out
      obtain ⟨z0, z1, z2, z3, z4, z5, z6, z7, z8, z9, z10, z11, z12⟩ := MM.frees13 Y8.out
      go_wp2_with fail
      refine name_world (F := fun W => Hid (W.heap[w.heap.size + 2]? = some (.cells #[.int .i64 (voteS ⟨n1, []⟩ m).n.id, .int .i64 (voteS ⟨n1, []⟩ m).n.term, .int .i64 (voteS ⟨n1, []⟩ m).n.vote, .slice τ2.A3 (voteS ⟨n1, []⟩ m).n.log.length τ2.k3, .int .i64 (voteS ⟨n1, []⟩ m).n.form, .int .i64 (voteS ⟨n1, []⟩ m).n.role, .int .i64 (voteS ⟨n1, []⟩ m).n.commit, .slice τ2.A7 (voteS ⟨n1, []⟩ m).n.votes.length τ2.k7, .slice τ2.A8 (voteS ⟨n1, []⟩ m).n.nxt.length τ2.k8, .slice τ2.A9 (voteS ⟨n1, []⟩ m).n.mtch.length τ2.k9, .slice τ2.A10 (voteS ⟨n1, []⟩ m).n.forms.length τ2.k10, .int .i64 (voteS ⟨n1, []⟩ m).n.clock, .int .i64 (voteS ⟨n1, []⟩ m).n.due] 28 (0, 0))) ∧ Hid (NodeOs W w.heap.size (voteS ⟨n1, []⟩ m).n τ2 υ2) ∧ Hid (Below w.heap.size w W) ∧ Hid (OutAt W w.heap.size (.slice As (voteS ⟨n1, []⟩ m).out.length cs) (voteS ⟨n1, []⟩ m).out os)) _ ⟨Lib.hid ((set13 Y8.out).trans rfl), Lib.hid (HN8.out.types (fun k t hk ht' => far13 (ty_ne hk ⟨_, _, Y8.out⟩ (by rcases ht' with rfl | rfl | rfl <;> decide)))), Lib.hid (below13 HB8.out (by omega)), Lib.hid (HO8.out.types (fun k t hk ht' => far13 (ty_ne hk ⟨_, _, Y8.out⟩ (by rcases ht' with rfl | rfl <;> decide))))⟩ ?_
      intro wf ⟨Y9, N9, B9, O9⟩
      obtain ⟨u0, u1, u2, u3, u4, u5, u6, u7, u8, u9, u10, u11, u12⟩ := MM.cells13 Y9.out
      refine bodyPost_ret (v := .tuple #[.agg #[.int .i64 (voteS ⟨n1, []⟩ m).n.id, .int .i64 (voteS ⟨n1, []⟩ m).n.term, .int .i64 (voteS ⟨n1, []⟩ m).n.vote, .slice τ2.A3 (voteS ⟨n1, []⟩ m).n.log.length τ2.k3, .int .i64 (voteS ⟨n1, []⟩ m).n.form, .int .i64 (voteS ⟨n1, []⟩ m).n.role, .int .i64 (voteS ⟨n1, []⟩ m).n.commit, .slice τ2.A7 (voteS ⟨n1, []⟩ m).n.votes.length τ2.k7, .slice τ2.A8 (voteS ⟨n1, []⟩ m).n.nxt.length τ2.k8, .slice τ2.A9 (voteS ⟨n1, []⟩ m).n.mtch.length τ2.k9, .slice τ2.A10 (voteS ⟨n1, []⟩ m).n.forms.length τ2.k10, .int .i64 (voteS ⟨n1, []⟩ m).n.clock, .int .i64 (voteS ⟨n1, []⟩ m).n.due], .slice As (voteS ⟨n1, []⟩ m).out.length cs]) (by simp [results, Try.results71, go_sem, u0, u1, u2, u3, u4, u5, u6, u7, u8, u9, u10, u11, u12]) rfl ?_
      rw [HE.out]
      exact ⟨τ2, As, cs, rfl, N9.out.toV, O9.out.toV, B9.out⟩
    by_cases h2 : m.kind = 2
    · have kb1 : (m.kind == 1) = false := by simpa using h1
      have kb2 : (m.kind == 2) = true := by simpa using h2
      have HE0 := Lib.hid (show s1 = votedS ⟨n1, []⟩ m from by rw [HS.out]; unfold handleIn; rw [if_neg h1, if_pos h2])
      clear h1 h2 HS
      have d0 : wc.cell? ⟨w.heap.size + 1, 0, none⟩ = some (.int .i64 m.kind) := MM.cell_blk M.out rfl
      go_upto_region 8 with (fail)
      clear kb1 kb2 d0
      have c1 : wc.cell? ⟨w.heap.size, 1, none⟩ = some (.int .i64 n1.term) := N.out.c 1 _ rfl
      have c5 : wc.cell? ⟨w.heap.size, 5, none⟩ = some (.int .i64 n1.role) := N.out.c 5 _ rfl
      have d3 : wc.cell? ⟨w.heap.size + 1, 3, none⟩ = some (.int .i64 m.term) := MM.cell_blk M.out rfl
      have d6 : wc.cell? ⟨w.heap.size + 1, 6, none⟩ = some (.bool m.ok) := MM.cell_blk M.out rfl
      by_cases hg : n1.role ≠ 1 ∨ m.term ≠ n1.term ∨ m.ok = false
      · have HE := Lib.hid (show s1 = ⟨n1, []⟩ from by rw [HE0.out]; unfold votedS; rw [if_pos hg])
        have hg' : n1.role ≠ 1 ∨ (n1.role = 1 ∧ m.term ≠ n1.term) ∨ (n1.role = 1 ∧ m.term = n1.term ∧ m.ok = false) := by
          by_cases q1 : n1.role = 1
          · by_cases q2 : m.term = n1.term
            · exact .inr (.inr ⟨q1, q2, by rcases hg with h | h | h; exact absurd q1 h; exact absurd q2 h; exact h⟩)
            · exact .inr (.inl ⟨q1, q2⟩)
          · exact .inl q1
        clear hg HE0
        rcases hg' with q1 | ⟨q1, q2⟩ | ⟨q1, q2, q3⟩
        · have b1 : (n1.role != 1) = true := by simpa using q1
          clear q1
          go_upto_region 9 with (fail)
          clear b1 c1 c5 d3 d6
          obtain ⟨c0, c1, c2, c3, c4, c5, c6, c7, c8, c9, c10, c11, c12⟩ := MM.cells13 N.out.blk
          obtain ⟨y0, y1, y2, y3, y4, y5, y6, y7, y8, y9, y10, y11, y12⟩ := MM.cells13 Y.out
          obtain ⟨z0, z1, z2, z3, z4, z5, z6, z7, z8, z9, z10, z11, z12⟩ := MM.frees13 Y.out
          go_wp2_with fail
          refine name_world (F := fun W => Hid (W.heap[w.heap.size + 2]? = some (.cells #[.int .i64 n1.id, .int .i64 n1.term, .int .i64 n1.vote, .slice τ.A3 n1.log.length τ.k3, .int .i64 n1.form, .int .i64 n1.role, .int .i64 n1.commit, .slice τ.A7 n1.votes.length τ.k7, .slice τ.A8 n1.nxt.length τ.k8, .slice τ.A9 n1.mtch.length τ.k9, .slice τ.A10 n1.forms.length τ.k10, .int .i64 n1.clock, .int .i64 n1.due] 28 (0, 0))) ∧ Hid (NodeOs W w.heap.size n1 τ υ) ∧ Hid (Below w.heap.size w W)) _ ⟨Lib.hid ((set13 Y.out).trans rfl), Lib.hid (N.out.rows.types (fun k t hk ht' => far13 (ty_ne hk ⟨_, _, Y.out⟩ (by rcases ht' with rfl | rfl | rfl <;> decide)))), Lib.hid (below13 HB.out (by omega))⟩ ?_
          intro wf ⟨Y9, N9, B9⟩
          obtain ⟨u0, u1, u2, u3, u4, u5, u6, u7, u8, u9, u10, u11, u12⟩ := MM.cells13 Y9.out
          refine bodyPost_ret (v := .tuple #[.agg #[.int .i64 n1.id, .int .i64 n1.term, .int .i64 n1.vote, .slice τ.A3 n1.log.length τ.k3, .int .i64 n1.form, .int .i64 n1.role, .int .i64 n1.commit, .slice τ.A7 n1.votes.length τ.k7, .slice τ.A8 n1.nxt.length τ.k8, .slice τ.A9 n1.mtch.length τ.k9, .slice τ.A10 n1.forms.length τ.k10, .int .i64 n1.clock, .int .i64 n1.due], .slice none 0 0]) (by simp [results, Try.results71, go_sem, u0, u1, u2, u3, u4, u5, u6, u7, u8, u9, u10, u11, u12]) rfl ?_
          rw [HE.out]
          exact ⟨τ, none, 0, rfl, N9.out.toV, ⟨[], MM.Rd.nil _ _ _ _ _ (by simp [maxLen]), rfl⟩, B9.out⟩
        · have b1 : (n1.role != 1) = false := by simpa using q1
          have b2 : (m.term != n1.term) = true := by simpa using q2
          clear q1 q2
          go_upto_region 9 with (fail)
          clear b1 b2 c1 c5 d3 d6
          obtain ⟨c0, c1, c2, c3, c4, c5, c6, c7, c8, c9, c10, c11, c12⟩ := MM.cells13 N.out.blk
          obtain ⟨y0, y1, y2, y3, y4, y5, y6, y7, y8, y9, y10, y11, y12⟩ := MM.cells13 Y.out
          obtain ⟨z0, z1, z2, z3, z4, z5, z6, z7, z8, z9, z10, z11, z12⟩ := MM.frees13 Y.out
          go_wp2_with fail
          refine name_world (F := fun W => Hid (W.heap[w.heap.size + 2]? = some (.cells #[.int .i64 n1.id, .int .i64 n1.term, .int .i64 n1.vote, .slice τ.A3 n1.log.length τ.k3, .int .i64 n1.form, .int .i64 n1.role, .int .i64 n1.commit, .slice τ.A7 n1.votes.length τ.k7, .slice τ.A8 n1.nxt.length τ.k8, .slice τ.A9 n1.mtch.length τ.k9, .slice τ.A10 n1.forms.length τ.k10, .int .i64 n1.clock, .int .i64 n1.due] 28 (0, 0))) ∧ Hid (NodeOs W w.heap.size n1 τ υ) ∧ Hid (Below w.heap.size w W)) _ ⟨Lib.hid ((set13 Y.out).trans rfl), Lib.hid (N.out.rows.types (fun k t hk ht' => far13 (ty_ne hk ⟨_, _, Y.out⟩ (by rcases ht' with rfl | rfl | rfl <;> decide)))), Lib.hid (below13 HB.out (by omega))⟩ ?_
          intro wf ⟨Y9, N9, B9⟩
          obtain ⟨u0, u1, u2, u3, u4, u5, u6, u7, u8, u9, u10, u11, u12⟩ := MM.cells13 Y9.out
          refine bodyPost_ret (v := .tuple #[.agg #[.int .i64 n1.id, .int .i64 n1.term, .int .i64 n1.vote, .slice τ.A3 n1.log.length τ.k3, .int .i64 n1.form, .int .i64 n1.role, .int .i64 n1.commit, .slice τ.A7 n1.votes.length τ.k7, .slice τ.A8 n1.nxt.length τ.k8, .slice τ.A9 n1.mtch.length τ.k9, .slice τ.A10 n1.forms.length τ.k10, .int .i64 n1.clock, .int .i64 n1.due], .slice none 0 0]) (by simp [results, Try.results71, go_sem, u0, u1, u2, u3, u4, u5, u6, u7, u8, u9, u10, u11, u12]) rfl ?_
          rw [HE.out]
          exact ⟨τ, none, 0, rfl, N9.out.toV, ⟨[], MM.Rd.nil _ _ _ _ _ (by simp [maxLen]), rfl⟩, B9.out⟩
        · have b1 : (n1.role != 1) = false := by simpa using q1
          have b2 : (m.term != n1.term) = false := by simpa using q2
          rw [q3] at d6
          clear q1 q2 q3
          go_upto_region 9 with (fail)
          clear b1 b2 c1 c5 d3 d6
          obtain ⟨c0, c1, c2, c3, c4, c5, c6, c7, c8, c9, c10, c11, c12⟩ := MM.cells13 N.out.blk
          obtain ⟨y0, y1, y2, y3, y4, y5, y6, y7, y8, y9, y10, y11, y12⟩ := MM.cells13 Y.out
          obtain ⟨z0, z1, z2, z3, z4, z5, z6, z7, z8, z9, z10, z11, z12⟩ := MM.frees13 Y.out
          go_wp2_with fail
          refine name_world (F := fun W => Hid (W.heap[w.heap.size + 2]? = some (.cells #[.int .i64 n1.id, .int .i64 n1.term, .int .i64 n1.vote, .slice τ.A3 n1.log.length τ.k3, .int .i64 n1.form, .int .i64 n1.role, .int .i64 n1.commit, .slice τ.A7 n1.votes.length τ.k7, .slice τ.A8 n1.nxt.length τ.k8, .slice τ.A9 n1.mtch.length τ.k9, .slice τ.A10 n1.forms.length τ.k10, .int .i64 n1.clock, .int .i64 n1.due] 28 (0, 0))) ∧ Hid (NodeOs W w.heap.size n1 τ υ) ∧ Hid (Below w.heap.size w W)) _ ⟨Lib.hid ((set13 Y.out).trans rfl), Lib.hid (N.out.rows.types (fun k t hk ht' => far13 (ty_ne hk ⟨_, _, Y.out⟩ (by rcases ht' with rfl | rfl | rfl <;> decide)))), Lib.hid (below13 HB.out (by omega))⟩ ?_
          intro wf ⟨Y9, N9, B9⟩
          obtain ⟨u0, u1, u2, u3, u4, u5, u6, u7, u8, u9, u10, u11, u12⟩ := MM.cells13 Y9.out
          refine bodyPost_ret (v := .tuple #[.agg #[.int .i64 n1.id, .int .i64 n1.term, .int .i64 n1.vote, .slice τ.A3 n1.log.length τ.k3, .int .i64 n1.form, .int .i64 n1.role, .int .i64 n1.commit, .slice τ.A7 n1.votes.length τ.k7, .slice τ.A8 n1.nxt.length τ.k8, .slice τ.A9 n1.mtch.length τ.k9, .slice τ.A10 n1.forms.length τ.k10, .int .i64 n1.clock, .int .i64 n1.due], .slice none 0 0]) (by simp [results, Try.results71, go_sem, u0, u1, u2, u3, u4, u5, u6, u7, u8, u9, u10, u11, u12]) rfl ?_
          rw [HE.out]
          exact ⟨τ, none, 0, rfl, N9.out.toV, ⟨[], MM.Rd.nil _ _ _ _ _ (by simp [maxLen]), rfl⟩, B9.out⟩
      · have hok : m.ok = true := by cases q : m.ok; exact absurd (.inr (.inr q)) hg; rfl
        have b1 : (n1.role != 1) = false := by simp; omega
        have b2 : (m.term != n1.term) = false := by simp; omega
        have HS2 := Lib.hid (show s1 = if n1.votes.length < 2 * countT (votedN n1 m).votes then leadS ⟨votedN n1 m, []⟩ else ⟨votedN n1 m, []⟩ from by rw [HE0.out]; unfold votedS; rw [if_neg hg])
        rw [hok] at d6
        clear hg hok HE0
        go_upto_region 10 with (fail)
        clear b1 b2 c1 c5 d3 d6
        have hfl : m.frm.toNat < n1.votes.length := by omega
        obtain ⟨p7, hp7⟩ := N.out.rows.hv.some_of (by omega)
        have hr7 := N.out.rows.hv
        rw [hp7] at hr7
        obtain ⟨cap7, e7, q71, q72⟩ := hr7.form
        have c7 : wc.cell? ⟨w.heap.size, 7, none⟩ = some (.slice (some ⟨p7, 0, none⟩) n1.votes.length cap7) := N.out.c 7 _ (congrArg some e7)
        have HP7 := Lib.hid hp7
        have HR7 := Lib.hid hr7
        clear e7 hp7 hr7
        have ce7 : wc.cell? ⟨p7, m.frm.toNat, none⟩ = some (.bool (n1.votes.getD (m.frm.toNat) false)) := HR7.out.cell (boolsC_get (by omega))
        have fe7 : wc.frozen? ⟨p7, m.frm.toNat, none⟩ = false := HR7.out.free _
        have d1 : wc.cell? ⟨w.heap.size + 1, 1, none⟩ = some (.int .i64 m.frm) := MM.cell_blk M.out rfl
        go_upto_region 11 with (fail)
        refine name_world (F := fun W => Hid (NB W w.heap.size w.heap.size (votedN n1 m) τ υ) ∧ Hid (W.heap[w.heap.size + 2]? = some (.cells #[.int .i64 0, .int .i64 0, .int .i64 0, .slice none 0 0, .int .i64 0, .int .i64 0, .int .i64 0, .slice none 0 0, .slice none 0 0, .slice none 0 0, .slice none 0 0, .int .i64 0, .int .i64 0] 28 (0, 0))) ∧ Hid (Below w.heap.size w W)) _ ⟨Lib.hid (N.out.set_v HP7.out hfl), Lib.hid ((Below.heap_setCell _ _ _ _ (ty_ne ⟨_, _, Y.out⟩ (HR7.out.ty _ rfl) (by decide))).trans Y.out), Lib.hid (HB.out.setCell (HR7.out.lt _ rfl).1 _)⟩ ?_
        clear N Y HB c7 ce7 fe7 d1 HP7 HR7 M HR
        intro w5 ⟨N5, Y5, HB5⟩
        have HV := Lib.hid (show (votedN n1 m).votes.length = n1.votes.length ∧ (votedN n1 m).log = n1.log ∧ (votedN n1 m).nxt = n1.nxt ∧ (votedN n1 m).mtch = n1.mtch ∧ (votedN n1 m).id = n1.id from ⟨by show (n1.votes.set _ _).length = _; rw [List.length_set], rfl, rfl, rfl, rfl⟩)
        obtain ⟨n2, hn2⟩ : ∃ x, x = votedN n1 m := ⟨_, rfl⟩
        rw [← hn2] at N5 HS2 HV
        clear hn2
        obtain ⟨v1, v2, v3, v4, v5⟩ := HV.out
        have HV1 := Lib.hid v1
        have g1 : n2.log.length ≤ 700000 := by rw [v2]; exact l1'
        have g2 : n2.votes.length ≤ 1000 := by rw [v1]; exact l2'
        have G3 := Lib.hid (show n2.nxt.length = n2.votes.length by rw [v3, v1]; exact L3'.out)
        have G4 := Lib.hid (show n2.mtch.length = n2.votes.length by rw [v4, v1]; exact L4'.out)
        have g5 : 0 ≤ n2.id := by rw [v5]; exact hi0'
        have g6 : n2.id < n2.votes.length := by rw [v5, v1]; exact hi1'
        rw [← v1] at HS2
        clear v1 v2 v3 v4 v5 HV
        have hct := countT_le n2.votes
        have hs5 : w.heap.size + 2 < w5.heap.size := MM.blk_lt Y5.out
        have HWR := Lib.hid (show IntKind.i64.wrap (2 * (countT n2.votes : Int)) = 2 * (countT n2.votes : Int) from IntWalk.i64_in _ (by omega))
        have c7 : w5.cell? ⟨w.heap.size, 7, none⟩ = some (.slice τ.A7 n2.votes.length τ.k7) := N5.out.c 7 _ rfl
        go_cut [57] (fun t57 wd => t57 = .bool (decide (n2.votes.length < 2 * countT n2.votes)) ∧ w5.drew = wd)
        case first => as_aux_lemma =>
          have hwr := HWR.out
          go_wp2_with fail
          refine Go.RT.wp_region_tree [0, 1, 3, 7, 0, 16, 48, 127] (.p 0 (.s 1 (.p 4 (.s 5 (.p 6 (.w 2 [5] (.p 3 (.p 7 .nil)) .stop)))))) (by kernel_rfl) (by kernel_rfl) ?_
          repeat (first | (refine Go.RT.step_p rfl (fun K hK => ?_); go_simp; refine hK _ ?_; clear hK K) | (refine Go.RT.step_s rfl (fun K hK => ?_); go_simp; refine hK _ ?_; clear hK K))
          (refine Go.RT.step_w rfl rfl (fun K hK => ?_) Go.RT.step_stop)
          go_wp2_with fail
          refine (rcount_any _ _ n2.votes τ.A7 τ.k7 N5.out.toV.hv.drew (by omega)).mono ?_
          rintro e w6 ⟨rfl, rfl⟩
          go_wp2_with fail
          refine Go.RT.QK_normal _ _ _ _ (hK _ _ ?_ ?_) <;> clear hK K
          · repeat (first | exact Go.RT.again_nil | (refine Go.RT.again_not rfl rfl ?_) | (refine Go.RT.again_one rfl (by go_simp <;> rfl) ?_))
          repeat (first | (refine Go.RT.step_p rfl (fun K hK => ?_); go_simp; refine hK _ ?_; clear hK K) | (refine Go.RT.step_s rfl (fun K hK => ?_); go_simp; refine hK _ ?_; clear hK K))
          refine Go.RT.step_nil ?_
          clear hwr
          go_wp2_with fail
          go_meet
          case rel => exact ⟨by first | rfl | (congr 1; rw [decide_eq_decide]; omega), rfl⟩
        case rest =>
          obtain ⟨rfl, hw6⟩ := hcut
          subst hw6
          refine name_world (F := fun W => Hid (NB W w.heap.size w.heap.size n2 τ υ) ∧ Hid (W.heap[w.heap.size + 2]? = some (.cells #[.int .i64 0, .int .i64 0, .int .i64 0, .slice none 0 0, .int .i64 0, .int .i64 0, .int .i64 0, .slice none 0 0, .slice none 0 0, .slice none 0 0, .slice none 0 0, .int .i64 0, .int .i64 0] 28 (0, 0))) ∧ Hid (Below w.heap.size w W)) _ ⟨Lib.hid (N5.out.drew), Lib.hid (Y5.out), Lib.hid (HB5.out.drew)⟩ ?_
          clear c7
          intro w6 ⟨N, Y, HB⟩
          have hs6 : w.heap.size + 2 < w6.heap.size := MM.blk_lt Y.out
          by_cases hq : n2.votes.length < 2 * countT n2.votes
          · rw [decide_eq_true hq]
            have HE := Lib.hid (show s1 = ⟨leadsN n2, spreadMsgs (leadsN n2) n2.votes.length⟩ from by
              rw [HS2.out, if_pos hq]
              rfl)
            clear hq HS2
            obtain ⟨c0, c1, c2, c3, c4, c5, c6, c7, c8, c9, c10, c11, c12⟩ := MM.cells13 N.out.blk
            go_wp2_with fail
            refine (rleads_any _ w.heap.size n2 τ υ N.out.rows (by omega) (by omega) g2 G3.out G4.out g5 g6).mono ?_
            rintro e w8 ⟨τ2, υ2, As, cs, os, rfl, hn8, ho8, hb8, hk8⟩
            have Y8 := Lib.hid (hk8.blk Y.out (by decide) (by decide))
            have HM8 := Lib.hid ho8.toV
            have HB8 := Lib.hid (HB.out.trans hb8)
            have HO8 := Lib.hid ho8
            have HN8 := Lib.hid hn8
            clear hn8 hb8 ho8 hk8
            obtain ⟨y0, y1, y2, y3, y4, y5, y6, y7, y8, y9, y10, y11, y12⟩ := MM.cells13 Y8.out
            obtain ⟨z0, z1, z2, z3, z4, z5, z6, z7, z8, z9, z10, z11, z12⟩ := MM.frees13 Y8.out
            go_wp2_with fail
            refine name_world (F := fun W => Hid (W.heap[w.heap.size + 2]? = some (.cells #[.int .i64 (leadsN n2).id, .int .i64 (leadsN n2).term, .int .i64 (leadsN n2).vote, .slice τ2.A3 (leadsN n2).log.length τ2.k3, .int .i64 (leadsN n2).form, .int .i64 (leadsN n2).role, .int .i64 (leadsN n2).commit, .slice τ2.A7 (leadsN n2).votes.length τ2.k7, .slice τ2.A8 (leadsN n2).nxt.length τ2.k8, .slice τ2.A9 (leadsN n2).mtch.length τ2.k9, .slice τ2.A10 (leadsN n2).forms.length τ2.k10, .int .i64 (leadsN n2).clock, .int .i64 (leadsN n2).due] 28 (0, 0))) ∧ Hid (NodeOs W w.heap.size (leadsN n2) τ2 υ2) ∧ Hid (Below w.heap.size w W) ∧ Hid (OutAt W w.heap.size (.slice As (spreadMsgs (leadsN n2) n2.votes.length).length cs) (spreadMsgs (leadsN n2) n2.votes.length) os)) _ ⟨Lib.hid ((set13 Y8.out).trans rfl), Lib.hid (HN8.out.types (fun k t hk ht' => far13 (ty_ne hk ⟨_, _, Y8.out⟩ (by rcases ht' with rfl | rfl | rfl <;> decide)))), Lib.hid (below13 HB8.out (by omega)), Lib.hid (HO8.out.types (fun k t hk ht' => far13 (ty_ne hk ⟨_, _, Y8.out⟩ (by rcases ht' with rfl | rfl <;> decide))))⟩ ?_
            intro wf ⟨Y9, N9, B9, O9⟩
            obtain ⟨u0, u1, u2, u3, u4, u5, u6, u7, u8, u9, u10, u11, u12⟩ := MM.cells13 Y9.out
            refine bodyPost_ret (v := .tuple #[.agg #[.int .i64 (leadsN n2).id, .int .i64 (leadsN n2).term, .int .i64 (leadsN n2).vote, .slice τ2.A3 (leadsN n2).log.length τ2.k3, .int .i64 (leadsN n2).form, .int .i64 (leadsN n2).role, .int .i64 (leadsN n2).commit, .slice τ2.A7 (leadsN n2).votes.length τ2.k7, .slice τ2.A8 (leadsN n2).nxt.length τ2.k8, .slice τ2.A9 (leadsN n2).mtch.length τ2.k9, .slice τ2.A10 (leadsN n2).forms.length τ2.k10, .int .i64 (leadsN n2).clock, .int .i64 (leadsN n2).due], .slice As (spreadMsgs (leadsN n2) n2.votes.length).length cs]) (by simp [results, Try.results71, go_sem, u0, u1, u2, u3, u4, u5, u6, u7, u8, u9, u10, u11, u12]) rfl ?_
            rw [HE.out]
            exact ⟨τ2, As, cs, rfl, N9.out.toV, O9.out.toV, B9.out⟩
          · rw [decide_eq_false hq]
            have HE := Lib.hid (show s1 = ⟨n2, []⟩ from by rw [HS2.out, if_neg hq])
            clear hq HS2
            obtain ⟨c0, c1, c2, c3, c4, c5, c6, c7, c8, c9, c10, c11, c12⟩ := MM.cells13 N.out.blk
            obtain ⟨y0, y1, y2, y3, y4, y5, y6, y7, y8, y9, y10, y11, y12⟩ := MM.cells13 Y.out
            obtain ⟨z0, z1, z2, z3, z4, z5, z6, z7, z8, z9, z10, z11, z12⟩ := MM.frees13 Y.out
            go_wp2_with fail
            refine name_world (F := fun W => Hid (W.heap[w.heap.size + 2]? = some (.cells #[.int .i64 n2.id, .int .i64 n2.term, .int .i64 n2.vote, .slice τ.A3 n2.log.length τ.k3, .int .i64 n2.form, .int .i64 n2.role, .int .i64 n2.commit, .slice τ.A7 n2.votes.length τ.k7, .slice τ.A8 n2.nxt.length τ.k8, .slice τ.A9 n2.mtch.length τ.k9, .slice τ.A10 n2.forms.length τ.k10, .int .i64 n2.clock, .int .i64 n2.due] 28 (0, 0))) ∧ Hid (NodeOs W w.heap.size n2 τ υ) ∧ Hid (Below w.heap.size w W)) _ ⟨Lib.hid ((set13 Y.out).trans rfl), Lib.hid (N.out.rows.types (fun k t hk ht' => far13 (ty_ne hk ⟨_, _, Y.out⟩ (by rcases ht' with rfl | rfl | rfl <;> decide)))), Lib.hid (below13 HB.out (by omega))⟩ ?_
            intro wf ⟨Y9, N9, B9⟩
            obtain ⟨u0, u1, u2, u3, u4, u5, u6, u7, u8, u9, u10, u11, u12⟩ := MM.cells13 Y9.out
            refine bodyPost_ret (v := .tuple #[.agg #[.int .i64 n2.id, .int .i64 n2.term, .int .i64 n2.vote, .slice τ.A3 n2.log.length τ.k3, .int .i64 n2.form, .int .i64 n2.role, .int .i64 n2.commit, .slice τ.A7 n2.votes.length τ.k7, .slice τ.A8 n2.nxt.length τ.k8, .slice τ.A9 n2.mtch.length τ.k9, .slice τ.A10 n2.forms.length τ.k10, .int .i64 n2.clock, .int .i64 n2.due], .slice none 0 0]) (by simp [results, Try.results71, go_sem, u0, u1, u2, u3, u4, u5, u6, u7, u8, u9, u10, u11, u12]) rfl ?_
            rw [HE.out]
            exact ⟨τ, none, 0, rfl, N9.out.toV, ⟨[], MM.Rd.nil _ _ _ _ _ (by simp [maxLen]), rfl⟩, B9.out⟩
    by_cases h3 : m.kind = 3
    · have kb1 : (m.kind == 1) = false := by simpa using h1
      have kb2 : (m.kind == 2) = false := by simpa using h2
      have kb3 : (m.kind == 3) = true := by simpa using h3
      have HE := Lib.hid (show s1 = appendS ⟨n1, []⟩ m from by rw [HS.out]; unfold handleIn; rw [if_neg h1, if_neg h2, if_pos h3])
      clear h1 h2 h3 HS
      have d0 : wc.cell? ⟨w.heap.size + 1, 0, none⟩ = some (.int .i64 m.kind) := MM.cell_blk M.out rfl
      go_upto_region 15 with (fail)
      clear kb1 kb2 kb3 d0
      obtain ⟨c0, c1, c2, c3, c4, c5, c6, c7, c8, c9, c10, c11, c12⟩ := MM.cells13 N.out.blk
      obtain ⟨d0, d1, d2, d3, d4, d5, d6, d7, d8, d9⟩ := MM.cells10 M.out
      go_wp2_with fail
      refine (rappended_any _ w.heap.size n1 τ υ N.out.rows (by omega) m A c (HR.out.mono (fun k hk _ => by have hk9 : k < w.heap.size := hk; omega)) l1' he hz (by omega) (by omega) hc0' hc1' HLT.out).mono ?_
      rintro e w8 ⟨τ2, υ2, As, cs, rfl, hn8, hm8, hb8⟩
      have Y8 := Lib.hid ((hb8.block _ (MM.blk_lt Y.out)).trans Y.out)
      have HM8 := Lib.hid hm8
      have HB8 := Lib.hid (HB.out.trans (hb8.mono HB.out.size))
      have HN8 := Lib.hid hn8
      clear hn8 hb8 hm8
      obtain ⟨y0, y1, y2, y3, y4, y5, y6, y7, y8, y9, y10, y11, y12⟩ := MM.cells13 Y8.out
      obtain ⟨z0, z1, z2, z3, z4, z5, z6, z7, z8, z9, z10, z11, z12⟩ := MM.frees13 Y8.out
      go_wp2_with fail
      refine name_world (F := fun W => Hid (W.heap[w.heap.size + 2]? = some (.cells #[.int .i64 (appendS ⟨n1, []⟩ m).n.id, .int .i64 (appendS ⟨n1, []⟩ m).n.term, .int .i64 (appendS ⟨n1, []⟩ m).n.vote, .slice τ2.A3 (appendS ⟨n1, []⟩ m).n.log.length τ2.k3, .int .i64 (appendS ⟨n1, []⟩ m).n.form, .int .i64 (appendS ⟨n1, []⟩ m).n.role, .int .i64 (appendS ⟨n1, []⟩ m).n.commit, .slice τ2.A7 (appendS ⟨n1, []⟩ m).n.votes.length τ2.k7, .slice τ2.A8 (appendS ⟨n1, []⟩ m).n.nxt.length τ2.k8, .slice τ2.A9 (appendS ⟨n1, []⟩ m).n.mtch.length τ2.k9, .slice τ2.A10 (appendS ⟨n1, []⟩ m).n.forms.length τ2.k10, .int .i64 (appendS ⟨n1, []⟩ m).n.clock, .int .i64 (appendS ⟨n1, []⟩ m).n.due] 28 (0, 0))) ∧ Hid (NodeOs W w.heap.size (appendS ⟨n1, []⟩ m).n τ2 υ2) ∧ Hid (Below w.heap.size w W) ∧ Hid (MsgsV W (fun k => w.heap.size ≤ k) (.slice As (appendS ⟨n1, []⟩ m).out.length cs) (appendS ⟨n1, []⟩ m).out)) _ ⟨Lib.hid ((set13 Y8.out).trans rfl), Lib.hid (HN8.out.types (fun k t hk ht' => far13 (ty_ne hk ⟨_, _, Y8.out⟩ (by rcases ht' with rfl | rfl | rfl <;> decide)))), Lib.hid (below13 HB8.out (by omega)), Lib.hid ((HM8.out.step (fun k hk _ => far13 (by have hk9 : wc.heap.size ≤ k := hk; show k ≠ w.heap.size + 2; omega))).mono (fun k hk _ => by have hk9 : wc.heap.size ≤ k := hk; omega))⟩ ?_
      intro wf ⟨Y9, N9, B9, O9⟩
      obtain ⟨u0, u1, u2, u3, u4, u5, u6, u7, u8, u9, u10, u11, u12⟩ := MM.cells13 Y9.out
      refine bodyPost_ret (v := .tuple #[.agg #[.int .i64 (appendS ⟨n1, []⟩ m).n.id, .int .i64 (appendS ⟨n1, []⟩ m).n.term, .int .i64 (appendS ⟨n1, []⟩ m).n.vote, .slice τ2.A3 (appendS ⟨n1, []⟩ m).n.log.length τ2.k3, .int .i64 (appendS ⟨n1, []⟩ m).n.form, .int .i64 (appendS ⟨n1, []⟩ m).n.role, .int .i64 (appendS ⟨n1, []⟩ m).n.commit, .slice τ2.A7 (appendS ⟨n1, []⟩ m).n.votes.length τ2.k7, .slice τ2.A8 (appendS ⟨n1, []⟩ m).n.nxt.length τ2.k8, .slice τ2.A9 (appendS ⟨n1, []⟩ m).n.mtch.length τ2.k9, .slice τ2.A10 (appendS ⟨n1, []⟩ m).n.forms.length τ2.k10, .int .i64 (appendS ⟨n1, []⟩ m).n.clock, .int .i64 (appendS ⟨n1, []⟩ m).n.due], .slice As (appendS ⟨n1, []⟩ m).out.length cs]) (by simp [results, Try.results71, go_sem, u0, u1, u2, u3, u4, u5, u6, u7, u8, u9, u10, u11, u12]) rfl ?_
      rw [HE.out]
      exact ⟨τ2, As, cs, rfl, N9.out.toV, O9.out, B9.out⟩
    have h4 : m.kind = 4 := by omega
    have kb1 : (m.kind == 1) = false := by simpa using h1
    have kb2 : (m.kind == 2) = false := by simpa using h2
    have kb3 : (m.kind == 3) = false := by simpa using h3
    have HE := Lib.hid (show s1 = matchS ⟨n1, []⟩ m from by rw [HS.out]; unfold handleIn; rw [if_neg h1, if_neg h2, if_neg h3, if_pos h4])
    have HS4 := Lib.hid (show n1.role = 2 → m.term = n1.term → m.ok = false → 1 ≤ n1.nxt.getD m.frm.toNat 0 ∧ n1.nxt.getD m.frm.toNat 0 ≤ n1.log.length + 1 from fun a b c => HSM.out a b h4 c)
    clear h1 h2 h3 h4 HS HSM
    have d0 : wc.cell? ⟨w.heap.size + 1, 0, none⟩ = some (.int .i64 m.kind) := MM.cell_blk M.out rfl
    go_upto_region 16 with (fail)
    clear kb1 kb2 kb3 d0
    obtain ⟨c0, c1, c2, c3, c4, c5, c6, c7, c8, c9, c10, c11, c12⟩ := MM.cells13 N.out.blk
    obtain ⟨d0, d1, d2, d3, d4, d5, d6, d7, d8, d9⟩ := MM.cells10 M.out
    go_wp2_with fail
    refine (ranswered_any _ w.heap.size n1 τ υ N.out.rows (by omega) m A c (by omega) l2' L3'.out L4'.out L5'.out hf0 hf1' hcm' hz HX.out HY.out HS4.out).mono ?_
    rintro e w8 ⟨τ2, υ2, As, cs, os, rfl, hn8, ho8, hb8, hk8⟩
    have Y8 := Lib.hid (hk8.blk Y.out (by decide) (by decide))
    have HM8 := Lib.hid ho8.toV
    have HB8 := Lib.hid (HB.out.trans hb8)
    have HO8 := Lib.hid ho8
    have HN8 := Lib.hid hn8
    clear hn8 hb8 ho8 hk8
    obtain ⟨y0, y1, y2, y3, y4, y5, y6, y7, y8, y9, y10, y11, y12⟩ := MM.cells13 Y8.out
    obtain ⟨z0, z1, z2, z3, z4, z5, z6, z7, z8, z9, z10, z11, z12⟩ := MM.frees13 Y8.out
    go_wp2_with fail
    refine name_world (F := fun W => Hid (W.heap[w.heap.size + 2]? = some (.cells #[.int .i64 (matchS ⟨n1, []⟩ m).n.id, .int .i64 (matchS ⟨n1, []⟩ m).n.term, .int .i64 (matchS ⟨n1, []⟩ m).n.vote, .slice τ2.A3 (matchS ⟨n1, []⟩ m).n.log.length τ2.k3, .int .i64 (matchS ⟨n1, []⟩ m).n.form, .int .i64 (matchS ⟨n1, []⟩ m).n.role, .int .i64 (matchS ⟨n1, []⟩ m).n.commit, .slice τ2.A7 (matchS ⟨n1, []⟩ m).n.votes.length τ2.k7, .slice τ2.A8 (matchS ⟨n1, []⟩ m).n.nxt.length τ2.k8, .slice τ2.A9 (matchS ⟨n1, []⟩ m).n.mtch.length τ2.k9, .slice τ2.A10 (matchS ⟨n1, []⟩ m).n.forms.length τ2.k10, .int .i64 (matchS ⟨n1, []⟩ m).n.clock, .int .i64 (matchS ⟨n1, []⟩ m).n.due] 28 (0, 0))) ∧ Hid (NodeOs W w.heap.size (matchS ⟨n1, []⟩ m).n τ2 υ2) ∧ Hid (Below w.heap.size w W) ∧ Hid (OutAt W w.heap.size (.slice As (matchS ⟨n1, []⟩ m).out.length cs) (matchS ⟨n1, []⟩ m).out os)) _ ⟨Lib.hid ((set13 Y8.out).trans rfl), Lib.hid (HN8.out.types (fun k t hk ht' => far13 (ty_ne hk ⟨_, _, Y8.out⟩ (by rcases ht' with rfl | rfl | rfl <;> decide)))), Lib.hid (below13 HB8.out (by omega)), Lib.hid (HO8.out.types (fun k t hk ht' => far13 (ty_ne hk ⟨_, _, Y8.out⟩ (by rcases ht' with rfl | rfl <;> decide))))⟩ ?_
    intro wf ⟨Y9, N9, B9, O9⟩
    obtain ⟨u0, u1, u2, u3, u4, u5, u6, u7, u8, u9, u10, u11, u12⟩ := MM.cells13 Y9.out
    refine bodyPost_ret (v := .tuple #[.agg #[.int .i64 (matchS ⟨n1, []⟩ m).n.id, .int .i64 (matchS ⟨n1, []⟩ m).n.term, .int .i64 (matchS ⟨n1, []⟩ m).n.vote, .slice τ2.A3 (matchS ⟨n1, []⟩ m).n.log.length τ2.k3, .int .i64 (matchS ⟨n1, []⟩ m).n.form, .int .i64 (matchS ⟨n1, []⟩ m).n.role, .int .i64 (matchS ⟨n1, []⟩ m).n.commit, .slice τ2.A7 (matchS ⟨n1, []⟩ m).n.votes.length τ2.k7, .slice τ2.A8 (matchS ⟨n1, []⟩ m).n.nxt.length τ2.k8, .slice τ2.A9 (matchS ⟨n1, []⟩ m).n.mtch.length τ2.k9, .slice τ2.A10 (matchS ⟨n1, []⟩ m).n.forms.length τ2.k10, .int .i64 (matchS ⟨n1, []⟩ m).n.clock, .int .i64 (matchS ⟨n1, []⟩ m).n.due], .slice As (matchS ⟨n1, []⟩ m).out.length cs]) (by simp [results, Try.results71, go_sem, u0, u1, u2, u3, u4, u5, u6, u7, u8, u9, u10, u11, u12]) rfl ?_
    rw [HE.out]
    exact ⟨τ2, As, cs, rfl, N9.out.toV, O9.out.toV, B9.out⟩


end Go.Proofs.Ytnkmljdkokcdjaa
