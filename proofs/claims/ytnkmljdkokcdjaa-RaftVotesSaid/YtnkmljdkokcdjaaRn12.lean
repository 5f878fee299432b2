/-
  The document's Propose and Restart answer as the plain functions. Conditions: the lengths and numbers are bounded as the theorems say.
-/
import Derived.WalkKit
import Derived.WalkSpells
import Derived.Lib.Hide
import Derived.Outline
import Derived.Test.YtnkmljdkokcdjaaChecked
import Derived.Test.YtnkmljdkokcdjaaMn
import Derived.Test.YtnkmljdkokcdjaaMem
import Derived.Test.YtnkmljdkokcdjaaFed
import Derived.Test.YtnkmljdkokcdjaaRn5
import Derived.Test.YtnkmljdkokcdjaaRk1
import Derived.Deep.DeepCutAuto
import Derived.Deep.CutBlock
import Derived.Deep.OwnRows
import Derived.IntWalk
set_option linter.unusedVariables false
set_option linter.unusedSimpArgs false
namespace Go.Proofs.Ytnkmljdkokcdjaa
open Go.RowKit Fed
set_option linter.unusedVariables false
attribute [local go_sem high] Fed.max2_int Fed.min2_int

theorem putN_nxt (n : Fed.Node) (d : ByteArray) : (putN n d).nxt = n.nxt ∧ (putN n d).votes = n.votes ∧ (putN n d).id = n.id ∧ (putN n d).log.length = n.log.length + 1 := ⟨rfl, rfl, rfl, by simp [putN]⟩
set_option maxRecDepth 100000 in
set_option maxHeartbeats 40000000 in
theorem rpropose_any (w : World) (ok : Nat → Prop) (n : Fed.Node) (σ : Sl5) (d : ByteArray) (h : NodeVs w ok n σ) (l1 : n.log.length ≤ 900000) (l2 : n.votes.length ≤ 1000) (l3 : n.nxt.length = n.votes.length) (l4 : n.mtch.length = n.votes.length) (l5 : n.forms.length ≤ 1000) (hi0 : 0 ≤ n.id) (hi1 : n.id < n.votes.length)
    (hx : n.role = 2 → ∀ i : Nat, i < n.votes.length → (i : Int) ≠ n.id → 1 ≤ n.nxt.getD i 0 ∧ n.nxt.getD i 0 ≤ n.log.length + 1) :
    Calls Try.prog 73 #[.agg #[.int .i64 n.id, .int .i64 n.term, .int .i64 n.vote, .slice σ.A3 n.log.length σ.k3, .int .i64 n.form, .int .i64 n.role, .int .i64 n.commit, .slice σ.A7 n.votes.length σ.k7, .slice σ.A8 n.nxt.length σ.k8, .slice σ.A9 n.mtch.length σ.k9, .slice σ.A10 n.forms.length σ.k10, .int .i64 n.clock, .int .i64 n.due], .string d] w fun e w' => ∃ (τ : Sl5) (A : Option Addr) (c : Nat), e = .returned (.tuple #[.agg #[.int .i64 (proposeS n d).n.id, .int .i64 (proposeS n d).n.term, .int .i64 (proposeS n d).n.vote, .slice τ.A3 (proposeS n d).n.log.length τ.k3, .int .i64 (proposeS n d).n.form, .int .i64 (proposeS n d).n.role, .int .i64 (proposeS n d).n.commit, .slice τ.A7 (proposeS n d).n.votes.length τ.k7, .slice τ.A8 (proposeS n d).n.nxt.length τ.k8, .slice τ.A9 (proposeS n d).n.mtch.length τ.k9, .slice τ.A10 (proposeS n d).n.forms.length τ.k10, .int .i64 (proposeS n d).n.clock, .int .i64 (proposeS n d).n.due], .slice A (proposeS n d).out.length c, .bool (decide (n.role = 2))]) ∧ NodeVs w' (fun k => w.heap.size ≤ k) (proposeS n d).n τ ∧ MsgsV w' (fun k => w.heap.size ≤ k) (.slice A (proposeS n d).out.length c) (proposeS n d).out ∧ Below w.heap.size w w' := by
  have HS := Lib.hid (show proposeS n d = if n.role = 2 then ⟨putN n d, spreadMsgs (putN n d) n.votes.length⟩ else ⟨n, []⟩ from by
    unfold proposeS
    by_cases q : n.role = 2
    · rw [if_pos ⟨q, hi0, hi1⟩, if_pos q]; rfl
    · rw [if_neg (fun h => q h.1), if_neg q])
  generalize proposeS n d = s1 at HS ⊢
  have H := Lib.hid (h.mono (ok' := fun k => k < w.heap.size) (fun k _ hk => hk))
  have HXX := Lib.hid hx
  have L3 := Lib.hid l3
  have L4 := Lib.hid l4
  have k3 : n.nxt.length ≤ 1000 := by omega
  have k4 : n.mtch.length ≤ 1000 := by omega
  clear h hx l3 l4
  go_enter Try.func73, Try.ntmps73
  go_upto_region 1 with (fail)
  refine name_world (F := fun W => Hid (W.heap[w.heap.size]? = some (.cells #[.int .i64 n.id, .int .i64 n.term, .int .i64 n.vote, .slice σ.A3 n.log.length σ.k3, .int .i64 n.form, .int .i64 n.role, .int .i64 n.commit, .slice σ.A7 n.votes.length σ.k7, .slice σ.A8 n.nxt.length σ.k8, .slice σ.A9 n.mtch.length σ.k9, .slice σ.A10 n.forms.length σ.k10, .int .i64 n.clock, .int .i64 n.due] 28 (0, 0))) ∧ Hid (W.heap[w.heap.size + 1]? = some (.cells #[.int .i64 0, .int .i64 0, .int .i64 0, .slice none 0 0, .int .i64 0, .int .i64 0, .int .i64 0, .slice none 0 0, .slice none 0 0, .slice none 0 0, .slice none 0 0, .int .i64 0, .int .i64 0] 28 (0, 0))) ∧ Hid (NodeVs W (fun k => k < w.heap.size) n σ) ∧ Hid (Below w.heap.size w W)) _ ⟨Lib.hid ((Below.heap_alloc _ _ _ (by simp)).trans (MM.alloc_new w _)), Lib.hid (MM.alloc_new1 w _ _), Lib.hid (H.out.step (fun k hk _ => (Below.heap_alloc _ _ k (by simp; omega)).trans (Below.heap_alloc w _ k hk))), Lib.hid (((Below.refl _ w).alloc (Nat.le_refl _) _).alloc (by simp) _)⟩ ?_
  clear H
  intro w1 ⟨X, Y, V, HB⟩
  obtain ⟨c0, c1, c2, c3, c4, c5, c6, c7, c8, c9, c10, c11, c12⟩ := MM.cells13 X.out
  go_wp2_with fail
  refine (rown_any _ _ n σ V.out (by omega) (by omega) (by omega) (by omega) (by omega)).mono ?_
  rintro e w2 ⟨τ, υ, rfl, hn2, hb2⟩
  have X2 := Lib.hid ((hb2.block _ (MM.blk_lt X.out)).trans X.out)
  have Y2 := Lib.hid ((hb2.block _ (MM.blk_lt Y.out)).trans Y.out)
  have HB2 := Lib.hid (HB.out.trans (hb2.mono HB.out.size))
  have HN2 := Lib.hid (hn2.lower HB.out.size)
  clear hn2 hb2 c0 c1 c2 c3 c4 c5 c6 c7 c8 c9 c10 c11 c12
  obtain ⟨c0, c1, c2, c3, c4, c5, c6, c7, c8, c9, c10, c11, c12⟩ := MM.cells13 X2.out
  obtain ⟨g0, g1, g2, g3, g4, g5, g6, g7, g8, g9, g10, g11, g12⟩ := MM.frees13 X2.out
  go_upto_region 2 with (fail)
  refine name_world (F := fun W => Hid (NB W w.heap.size w.heap.size n τ υ) ∧ Hid (W.heap[w.heap.size + 1]? = some (.cells #[.int .i64 0, .int .i64 0, .int .i64 0, .slice none 0 0, .int .i64 0, .int .i64 0, .int .i64 0, .slice none 0 0, .slice none 0 0, .slice none 0 0, .slice none 0 0, .int .i64 0, .int .i64 0] 28 (0, 0))) ∧ Hid (Below w.heap.size w W)) _ ⟨Lib.hid (NB.mk13 (Nat.le_refl _) X2.out HN2.out), Lib.hid ((far13 (by show w.heap.size + 1 ≠ w.heap.size; omega)).trans Y2.out), Lib.hid (below13 HB2.out (Nat.le_refl _))⟩ ?_
  clear X Y V HB X2 Y2 HB2 HN2 g0 c0 g1 c1 g2 c2 g3 c3 g4 c4 g5 c5 g6 c6 g7 c7 g8 c8 g9 c9 g10 c10 g11 c11 g12 c12
  intro w3 ⟨N, Y, HB⟩
  have c5 : w3.cell? ⟨w.heap.size, 5, none⟩ = some (.int .i64 n.role) := N.out.c 5 _ rfl
  by_cases hr : n.role = 2
  case neg =>
    have hrb : (n.role != 2) = true := by simpa using hr
    have HE := Lib.hid (HS.out.trans (if_neg hr))
    have HDR := Lib.hid (decide_eq_false hr)
    clear hr HS HXX
    go_upto_region 3 with (fail)
    clear hrb c5
    obtain ⟨c0, c1, c2, c3, c4, c5, c6, c7, c8, c9, c10, c11, c12⟩ := MM.cells13 N.out.blk
    obtain ⟨y0, y1, y2, y3, y4, y5, y6, y7, y8, y9, y10, y11, y12⟩ := MM.cells13 Y.out
    obtain ⟨z0, z1, z2, z3, z4, z5, z6, z7, z8, z9, z10, z11, z12⟩ := MM.frees13 Y.out
    go_wp2_with fail
    refine name_world (F := fun W => Hid (W.heap[w.heap.size + 1]? = some (.cells #[.int .i64 n.id, .int .i64 n.term, .int .i64 n.vote, .slice τ.A3 n.log.length τ.k3, .int .i64 n.form, .int .i64 n.role, .int .i64 n.commit, .slice τ.A7 n.votes.length τ.k7, .slice τ.A8 n.nxt.length τ.k8, .slice τ.A9 n.mtch.length τ.k9, .slice τ.A10 n.forms.length τ.k10, .int .i64 n.clock, .int .i64 n.due] 28 (0, 0))) ∧ Hid (NodeOs W w.heap.size n τ υ) ∧ Hid (Below w.heap.size w W)) _ ⟨Lib.hid ((set13 Y.out).trans rfl), Lib.hid (N.out.rows.types (fun k t hk ht' => far13 (ty_ne hk ⟨_, _, Y.out⟩ (by rcases ht' with rfl | rfl | rfl <;> decide)))), Lib.hid (below13 HB.out (by omega))⟩ ?_
    intro wf ⟨Y9, N9, B9⟩
    obtain ⟨u0, u1, u2, u3, u4, u5, u6, u7, u8, u9, u10, u11, u12⟩ := MM.cells13 Y9.out
    refine bodyPost_ret (v := .tuple #[.agg #[.int .i64 n.id, .int .i64 n.term, .int .i64 n.vote, .slice τ.A3 n.log.length τ.k3, .int .i64 n.form, .int .i64 n.role, .int .i64 n.commit, .slice τ.A7 n.votes.length τ.k7, .slice τ.A8 n.nxt.length τ.k8, .slice τ.A9 n.mtch.length τ.k9, .slice τ.A10 n.forms.length τ.k10, .int .i64 n.clock, .int .i64 n.due], .slice none 0 0, .bool false]) (by simp [results, Try.results73, go_sem, u0, u1, u2, u3, u4, u5, u6, u7, u8, u9, u10, u11, u12]) rfl ?_
    rw [HE.out]
    exact ⟨τ, none, 0, by rw [HDR.out]; rfl, N9.out.toV, ⟨[], MM.Rd.nil _ _ _ _ _ (by simp [maxLen]), rfl⟩, B9.out⟩
  have hrb : (n.role != 2) = false := by simpa using hr
  have HE0 := Lib.hid (HS.out.trans (if_pos hr))
  have HDR := Lib.hid (decide_eq_true hr)
  have HX1 := Lib.hid (HXX.out hr)
  clear hr HS HXX
  go_upto_region 4 with (fail)
  clear hrb c5
  have hs3 : w.heap.size + 1 < w3.heap.size := MM.blk_lt Y.out
  obtain ⟨c0, c1, c2, c3, c4, c5, c6, c7, c8, c9, c10, c11, c12⟩ := MM.cells13 N.out.blk
  go_wp2_with fail
  refine (rput_any _ w.heap.size n τ υ d N.out.rows (by omega) (by omega) l2 hi0 (by rw [L4.out]; exact hi1)).mono ?_
  rintro e w4 ⟨τ2, υ2, rfl, hn4, hb4, hk4⟩
  have X4 := Lib.hid (hk4.blk N.out.blk (by decide) (by decide))
  have Y4 := Lib.hid (hk4.blk Y.out (by decide) (by decide))
  have HB4 := Lib.hid (HB.out.trans hb4)
  have HN4 := Lib.hid hn4
  clear hn4 hb4 hk4 N Y HB c0 c1 c2 c3 c4 c5 c6 c7 c8 c9 c10 c11 c12
  obtain ⟨ca0, ca1, ca2, ca3, ca4, ca5, ca6, ca7, ca8, ca9, ca10, ca11, ca12⟩ := MM.cells13 X4.out
  obtain ⟨g0, g1, g2, g3, g4, g5, g6, g7, g8, g9, g10, g11, g12⟩ := MM.frees13 X4.out
  go_upto_region 5 with (fail)
  refine name_world (F := fun W => Hid (NB W w.heap.size w.heap.size (putN n d) τ2 υ2) ∧ Hid (W.heap[w.heap.size + 1]? = some (.cells #[.int .i64 0, .int .i64 0, .int .i64 0, .slice none 0 0, .int .i64 0, .int .i64 0, .int .i64 0, .slice none 0 0, .slice none 0 0, .slice none 0 0, .slice none 0 0, .int .i64 0, .int .i64 0] 28 (0, 0))) ∧ Hid (Below w.heap.size w W)) _ ⟨Lib.hid (NB.mk13 (Nat.le_refl _) X4.out HN4.out), Lib.hid ((far13 (by show w.heap.size + 1 ≠ w.heap.size; omega)).trans Y4.out), Lib.hid (below13 HB4.out (Nat.le_refl _))⟩ ?_
  clear X4 Y4 HB4 HN4 ca0 g0 ca1 g1 ca2 g2 ca3 g3 ca4 g4 ca5 g5 ca6 g6 ca7 g7 ca8 g8 ca9 g9 ca10 g10 ca11 g11 ca12 g12
  intro w5 ⟨N5, Y5, HB5⟩
  have PN := Lib.hid (putN_nxt n d)
  obtain ⟨nl, hnl⟩ : ∃ x, x = putN n d := ⟨_, rfl⟩
  rw [← hnl] at N5 PN HE0
  clear hnl
  have XX := Lib.hid (show ∀ i : Nat, i < nl.votes.length → (i : Int) ≠ nl.id → 1 ≤ nl.nxt.getD i 0 ∧ nl.nxt.getD i 0 ≤ nl.log.length + 1 from fun i h1 h2 => by
    rw [PN.out.2.1] at h1
    rw [PN.out.2.2.1] at h2
    have := HX1.out i h1 h2
    rw [PN.out.1, PN.out.2.2.2]
    omega)
  have p1 : nl.log.length ≤ 1000000 := by rw [PN.out.2.2.2]; omega
  have p2 : nl.votes.length ≤ 1000 := by rw [PN.out.2.1]; exact l2
  have P3 := Lib.hid (show nl.votes.length ≤ nl.nxt.length by rw [PN.out.2.1, PN.out.1, L3.out]; exact Nat.le_refl _)
  have PV := Lib.hid (show n.votes.length = nl.votes.length by rw [PN.out.2.1])
  have HE := Lib.hid (show s1 = ⟨nl, spreadMsgs nl nl.votes.length⟩ by rw [HE0.out, PV.out])
  clear HE0
  obtain ⟨c0, c1, c2, c3, c4, c5, c6, c7, c8, c9, c10, c11, c12⟩ := MM.cells13 N5.out.blk
  go_wp2_with fail
  refine Go.RT.wp_region_tree [0, 0, 2, 7, 15, 31] (.s 0 (.s 1 (.w 2 [0] (.w 3 [] (.w 4 [] (.w 5 [] .nil .stop) .stop) .stop) .stop))) (by kernel_rfl) (by kernel_rfl) ?_
  repeat (first | (refine Go.RT.step_p rfl (fun K hK => ?_); go_simp; refine hK _ ?_; clear hK K) | (refine Go.RT.step_s rfl (fun K hK => ?_); go_simp; refine hK _ ?_; clear hK K))
  (refine Go.RT.step_w rfl rfl (fun K hK => ?_) Go.RT.step_stop)
  go_wp2_with fail
  refine (rspread_any _ _ nl τ2 (N5.out.drew.toV) p1 p2 P3.out XX.out).mono ?_
  rintro e v6 ⟨As, cs, os, rfl, ho6, hb6⟩
  have X6 := Lib.hid ((hb6.block _ (MM.blk_lt N5.out.blk)).trans N5.out.blk)
  have Y6 := Lib.hid ((hb6.block _ (MM.blk_lt Y5.out)).trans Y5.out)
  have N6 := Lib.hid (N5.out.rows.drew.below hb6)
  have B6 := Lib.hid (HB5.out.drew.trans (hb6.mono (Nat.le_trans N5.out.hB (Nat.le_of_lt N5.out.lt))))
  have K6 := Lib.hid ((Kp.old (w := w) (fun k hk => HB5.out.block k hk)).trans (Kp.old (fun k hk => hb6.block k hk)))
  have O6 := Lib.hid (ho6.lower (Nat.le_trans N5.out.hB (Nat.le_of_lt N5.out.lt)))
  clear ho6 hb6
  obtain ⟨cs0, cs1, cs2, cs3, cs4, cs5, cs6, cs7, cs8, cs9, cs10, cs11, cs12⟩ := MM.cells13 X6.out
  obtain ⟨ys0, ys1, ys2, ys3, ys4, ys5, ys6, ys7, ys8, ys9, ys10, ys11, ys12⟩ := MM.cells13 Y6.out
  obtain ⟨zs0, zs1, zs2, zs3, zs4, zs5, zs6, zs7, zs8, zs9, zs10, zs11, zs12⟩ := MM.frees13 Y6.out
  go_wp2_with fail
  refine Go.RT.QK_normal _ _ _ _ (hK _ _ ?_ ?_) <;> clear hK K
  · repeat (first | exact Go.RT.again_nil | (refine Go.RT.again_not rfl rfl ?_) | (refine Go.RT.again_one rfl (by go_simp <;> rfl) ?_))
  (refine Go.RT.step_w rfl rfl (fun K hK => ?_) Go.RT.step_stop)
  go_wp2
  refine Go.RT.QK_normal _ _ _ _ (hK _ _ ?_ ?_) <;> clear hK K
  · repeat (first | exact Go.RT.again_nil | (refine Go.RT.again_not rfl rfl ?_) | (refine Go.RT.again_one rfl (by go_simp <;> rfl) ?_))
  (refine Go.RT.step_w rfl rfl (fun K hK => ?_) Go.RT.step_stop)
  go_wp2
  refine Go.RT.QK_normal _ _ _ _ (hK _ _ ?_ ?_) <;> clear hK K
  · repeat (first | exact Go.RT.again_nil | (refine Go.RT.again_not rfl rfl ?_) | (refine Go.RT.again_one rfl (by go_simp <;> rfl) ?_))
  (refine Go.RT.step_w rfl rfl (fun K hK => ?_) Go.RT.step_stop)
  go_wp2
  refine Go.RT.QK_normal _ _ _ _ (hK _ _ ?_ ?_) <;> clear hK K
  · repeat (first | exact Go.RT.again_nil | (refine Go.RT.again_not rfl rfl ?_) | (refine Go.RT.again_one rfl (by go_simp <;> rfl) ?_))
  refine Go.RT.step_nil ?_
  go_wp2_with fail
  refine name_world (F := fun W => Hid (W.heap[w.heap.size + 1]? = some (.cells #[.int .i64 nl.id, .int .i64 nl.term, .int .i64 nl.vote, .slice τ2.A3 nl.log.length τ2.k3, .int .i64 nl.form, .int .i64 nl.role, .int .i64 nl.commit, .slice τ2.A7 nl.votes.length τ2.k7, .slice τ2.A8 nl.nxt.length τ2.k8, .slice τ2.A9 nl.mtch.length τ2.k9, .slice τ2.A10 nl.forms.length τ2.k10, .int .i64 nl.clock, .int .i64 nl.due] 28 (0, 0))) ∧ Hid (NodeOs W w.heap.size nl τ2 υ2) ∧ Hid (Below w.heap.size w W) ∧ Hid (Kp w W) ∧ Hid (OutAt W w.heap.size (.slice As (spreadMsgs nl nl.votes.length).length cs) (spreadMsgs nl nl.votes.length) os)) _ ⟨Lib.hid ((set13 Y6.out).trans rfl), Lib.hid (N6.out.types (fun k t hk ht' => far13 (ty_ne hk ⟨_, _, Y6.out⟩ (by rcases ht' with rfl | rfl | rfl <;> decide)))), Lib.hid (below13 B6.out (Nat.le_trans N5.out.hB (by omega))), Lib.hid (K6.out.new13 (by omega)), Lib.hid (O6.out.types (fun k t hk ht' => far13 (ty_ne hk ⟨_, _, Y6.out⟩ (by rcases ht' with rfl | rfl <;> decide))))⟩ ?_
  intro wf ⟨Y9, N9, B9, K9, O9⟩
  obtain ⟨u0, u1, u2, u3, u4, u5, u6, u7, u8, u9, u10, u11, u12⟩ := MM.cells13 Y9.out
  refine bodyPost_ret (v := .tuple #[.agg #[.int .i64 nl.id, .int .i64 nl.term, .int .i64 nl.vote, .slice τ2.A3 nl.log.length τ2.k3, .int .i64 nl.form, .int .i64 nl.role, .int .i64 nl.commit, .slice τ2.A7 nl.votes.length τ2.k7, .slice τ2.A8 nl.nxt.length τ2.k8, .slice τ2.A9 nl.mtch.length τ2.k9, .slice τ2.A10 nl.forms.length τ2.k10, .int .i64 nl.clock, .int .i64 nl.due], .slice As (spreadMsgs nl nl.votes.length).length cs, .bool true]) (by simp [results, Try.results73, go_sem, u0, u1, u2, u3, u4, u5, u6, u7, u8, u9, u10, u11, u12]) rfl ?_
  rw [HE.out]
  exact ⟨τ2, As, cs, by rw [HDR.out], N9.out.toV, O9.out.toV, B9.out⟩
set_option maxRecDepth 100000 in
set_option maxHeartbeats 40000000 in
theorem rrestart_any (w : World) (ok : Nat → Prop) (n : Fed.Node) (σ : Sl5) (form : Int) (h : NodeVs w ok n σ) (l1 : n.log.length ≤ 900000) (l2 : n.votes.length ≤ 1000) (hi0 : -1000000000 ≤ n.id) (hi1 : n.id ≤ 1000000000) :
    Calls Try.prog 74 #[.agg #[.int .i64 n.id, .int .i64 n.term, .int .i64 n.vote, .slice σ.A3 n.log.length σ.k3, .int .i64 n.form, .int .i64 n.role, .int .i64 n.commit, .slice σ.A7 n.votes.length σ.k7, .slice σ.A8 n.nxt.length σ.k8, .slice σ.A9 n.mtch.length σ.k9, .slice σ.A10 n.forms.length σ.k10, .int .i64 n.clock, .int .i64 n.due], .int .i64 form] w fun e w' => ∃ τ : Sl5, e = .returned (.agg #[.int .i64 (restartN n form).id, .int .i64 (restartN n form).term, .int .i64 (restartN n form).vote, .slice τ.A3 (restartN n form).log.length τ.k3, .int .i64 (restartN n form).form, .int .i64 (restartN n form).role, .int .i64 (restartN n form).commit, .slice τ.A7 (restartN n form).votes.length τ.k7, .slice τ.A8 (restartN n form).nxt.length τ.k8, .slice τ.A9 (restartN n form).mtch.length τ.k9, .slice τ.A10 (restartN n form).forms.length τ.k10, .int .i64 (restartN n form).clock, .int .i64 (restartN n form).due]) ∧ NodeVs w' (fun k => w.heap.size ≤ k) (restartN n form) τ ∧ Below w.heap.size w w' := by
  have H := Lib.hid (h.mono (ok' := fun k => k < w.heap.size) (fun k _ hk => hk))
  clear h
  go_enter Try.func74, Try.ntmps74
  go_upto_region 1 with (fail)
  refine name_world (F := fun W => Hid (W.heap[w.heap.size]? = some (.cells #[.int .i64 n.id, .int .i64 n.term, .int .i64 n.vote, .slice σ.A3 n.log.length σ.k3, .int .i64 n.form, .int .i64 n.role, .int .i64 n.commit, .slice σ.A7 n.votes.length σ.k7, .slice σ.A8 n.nxt.length σ.k8, .slice σ.A9 n.mtch.length σ.k9, .slice σ.A10 n.forms.length σ.k10, .int .i64 n.clock, .int .i64 n.due] 28 (0, 0))) ∧ Hid (W.heap[w.heap.size + 1]? = some (.cells #[.int .i64 0, .int .i64 0, .int .i64 0, .slice none 0 0, .int .i64 0, .int .i64 0, .int .i64 0, .slice none 0 0, .slice none 0 0, .slice none 0 0, .slice none 0 0, .int .i64 0, .int .i64 0] 28 (0, 0))) ∧ Hid (NodeVs W (fun k => k < w.heap.size) n σ) ∧ Hid (Below w.heap.size w W) ∧ Hid (W.heap.size = w.heap.size + 2)) _ ⟨Lib.hid ((Below.heap_alloc _ _ _ (by simp)).trans (MM.alloc_new w _)), Lib.hid (MM.alloc_new1 w _ _), Lib.hid (H.out.step (fun k hk _ => (Below.heap_alloc _ _ k (by simp; omega)).trans (Below.heap_alloc w _ k hk))), Lib.hid (((Below.refl _ w).alloc (Nat.le_refl _) _).alloc (by simp) _), Lib.hid (by simp)⟩ ?_
  clear H
  intro w1 ⟨X, Y, V, HB, Z⟩
  have c0 : w1.cell? ⟨w.heap.size, 0, none⟩ = some (.int .i64 n.id) := MM.cell_blk X.out rfl
  have c4 : w1.cell? ⟨w.heap.size, 4, none⟩ = some (.int .i64 n.form) := MM.cell_blk X.out rfl
  have c7 : w1.cell? ⟨w.heap.size, 7, none⟩ = some (.slice σ.A7 n.votes.length σ.k7) := MM.cell_blk X.out rfl
  go_wp2_with fail
  refine (rnew_c _ n.id (mx form n.form) (n.votes.length : Int) n.votes.length rfl l2 hi0 hi1).mono ?_
  rintro e w2 ⟨σ2, rfl, hb2, hn2⟩
  have hz2 : w.heap.size + 2 ≤ w2.heap.size := by have h1 := hb2.size; have h2 := Z.out; omega
  have hz1 : w.heap.size + 1 < w2.heap.size := by omega
  have X2 := Lib.hid ((hb2.block _ (MM.blk_lt X.out)).trans X.out)
  have Y2 := Lib.hid ((hb2.block _ (MM.blk_lt Y.out)).trans Y.out)
  have V2 := Lib.hid (V.out.below hb2)
  have HB2 := Lib.hid (HB.out.trans (hb2.mono HB.out.size))
  have HN2 := Lib.hid (hn2.mono (ok' := fun k => w.heap.size + 2 ≤ k ∧ k < w2.heap.size) (fun k hk hl => ⟨by have hk9 : w1.heap.size ≤ k := hk; have h2 := Z.out; omega, hl⟩))
  have HRS := Lib.hid (show ({ (newN n.id n.votes.length (mx form n.form)) with term := n.term, vote := n.vote, log := n.log } : Fed.Node) = restartN n form from by
    unfold newN restartN
    rw [mx_eq, mx_eq, Int.max_comm])
  obtain ⟨n0, hn0⟩ : ∃ x, x = (newN n.id n.votes.length (mx form n.form)) := ⟨_, rfl⟩
  rw [← hn0] at HN2 HRS ⊢
  clear hn0 hn2 hb2 X Y V HB
  go_upto_region 2 with (fail)
  obtain ⟨o, ho⟩ : ∃ o, o = w2.heap.size := ⟨_, rfl⟩
  rw [← ho]
  have hz1' : w.heap.size + 2 ≤ o := by omega
  refine name_world (F := fun W => Hid (W.heap[w.heap.size]? = some (.cells #[.int .i64 n.id, .int .i64 n.term, .int .i64 n.vote, .slice σ.A3 n.log.length σ.k3, .int .i64 n.form, .int .i64 n.role, .int .i64 n.commit, .slice σ.A7 n.votes.length σ.k7, .slice σ.A8 n.nxt.length σ.k8, .slice σ.A9 n.mtch.length σ.k9, .slice σ.A10 n.forms.length σ.k10, .int .i64 n.clock, .int .i64 n.due] 28 (0, 0))) ∧ Hid (W.heap[w.heap.size + 1]? = some (.cells #[.int .i64 0, .int .i64 0, .int .i64 0, .slice none 0 0, .int .i64 0, .int .i64 0, .int .i64 0, .slice none 0 0, .slice none 0 0, .slice none 0 0, .slice none 0 0, .int .i64 0, .int .i64 0] 28 (0, 0))) ∧ Hid (W.heap[o]? = some (.cells #[.int .i64 n0.id, .int .i64 n0.term, .int .i64 n0.vote, .slice σ2.A3 n0.log.length σ2.k3, .int .i64 n0.form, .int .i64 n0.role, .int .i64 n0.commit, .slice σ2.A7 n0.votes.length σ2.k7, .slice σ2.A8 n0.nxt.length σ2.k8, .slice σ2.A9 n0.mtch.length σ2.k9, .slice σ2.A10 n0.forms.length σ2.k10, .int .i64 n0.clock, .int .i64 n0.due] 28 (0, 0))) ∧ Hid (NodeVs W (fun k => k < w.heap.size) n σ) ∧ Hid (NodeVs W (fun k => w.heap.size + 2 ≤ k ∧ k < o) n0 σ2) ∧ Hid (Below w.heap.size w W)) _ ⟨Lib.hid ((Below.heap_alloc _ _ _ (MM.blk_lt X2.out)).trans X2.out), Lib.hid ((Below.heap_alloc _ _ _ (MM.blk_lt Y2.out)).trans Y2.out), Lib.hid (by rw [ho]; exact MM.alloc_new w2 _), Lib.hid (V2.out.step (fun k _ hk => Below.heap_alloc _ _ k hk)), Lib.hid ((HN2.out.step (fun k _ hk => Below.heap_alloc _ _ k hk)).mono (fun k hk _ => by rw [ho]; exact hk)), Lib.hid (HB2.out.alloc HB2.out.size _)⟩ ?_
  clear X2 Y2 V2 HN2 HB2 c0 c4 c7
  intro w3 ⟨X, Y, O, V, W, HB⟩
  clear ho hz2 hz1
  have hs3 : o < w3.heap.size := MM.blk_lt O.out
  have hs31 : w.heap.size < o := by omega
  have hs32 : w.heap.size < w3.heap.size := by omega
  have c1 : w3.cell? ⟨w.heap.size, 1, none⟩ = some (.int .i64 n.term) := MM.cell_blk X.out rfl
  have c2 : w3.cell? ⟨w.heap.size, 2, none⟩ = some (.int .i64 n.vote) := MM.cell_blk X.out rfl
  have c3 : w3.cell? ⟨w.heap.size, 3, none⟩ = some (.slice σ.A3 n.log.length σ.k3) := MM.cell_blk X.out rfl
  go_wp2_with fail
  refine Go.RT.wp_region_tree [0, 1, 0, 4, 0, 16, 48, 3, 243, 511, 1023, 2047, 4095] (.p 0 (.s 1 (.p 2 (.s 3 (.p 4 (.s 5 (.p 7 (.w 6 [1, 3] (.w 8 [3] (.p 9 (.w 10 [] (.p 11 (.w 12 [] .nil .stop)) .stop)) .stop) .stop)))))))) (by kernel_rfl) (by kernel_rfl) ?_
  repeat (first | (refine Go.RT.step_p rfl (fun K hK => ?_); go_simp; refine hK _ ?_; clear hK K) | (refine Go.RT.step_s rfl (fun K hK => ?_); go_simp; refine hK _ ?_; clear hK K))
  (refine Go.RT.step_w rfl rfl (fun K hK => ?_) Go.RT.step_stop)
  go_wp2_with fail
  refine (rentries _ _ _ _ _ _ V.out.hl.drew (entsC_one _) (by omega)).mono ?_
  rintro e v ⟨A', c', ob, rfl, hr, hb4⟩
  have X4 := Lib.hid ((hb4.block _ (MM.blk_lt X.out)).trans X.out)
  have Y4 := Lib.hid ((hb4.block _ (MM.blk_lt Y.out)).trans Y.out)
  have O4 := Lib.hid ((hb4.block _ (MM.blk_lt O.out)).trans O.out)
  have W4 := Lib.hid (W.out.step (w1 := v) (fun k _ hk => hb4.block k hk))
  have HB4 := Lib.hid (HB.out.drew.trans (hb4.mono HB.out.size))
  have HR4 := Lib.hid (hr.lower (base' := o + 1) (by have e9 : w3.drew.heap.size = w3.heap.size := rfl; omega))
  clear hr hb4
  have hne : w.heap.size ≠ o := by omega
  have ca1 : v.cell? ⟨w.heap.size, 1, none⟩ = some (.int .i64 n.term) := MM.cell_blk X4.out rfl
  have ca2 : v.cell? ⟨w.heap.size, 2, none⟩ = some (.int .i64 n.vote) := MM.cell_blk X4.out rfl
  have co1 : v.cell? ⟨o, 1, none⟩ = some (.int .i64 n0.term) := MM.cell_blk O4.out rfl
  have co2 : v.cell? ⟨o, 2, none⟩ = some (.int .i64 n0.vote) := MM.cell_blk O4.out rfl
  have co3 : v.cell? ⟨o, 3, none⟩ = some (.slice σ2.A3 n0.log.length σ2.k3) := MM.cell_blk O4.out rfl
  have fo1 : v.frozen? ⟨o, 1, none⟩ = false := MM.free_blk O4.out
  have fo2 : v.frozen? ⟨o, 2, none⟩ = false := MM.free_blk O4.out
  have fo3 : v.frozen? ⟨o, 3, none⟩ = false := MM.free_blk O4.out
  go_wp2_with fail
  refine Go.RT.QK_normal _ _ _ _ (hK _ _ ?_ ?_) <;> clear hK K
  · repeat (first | exact Go.RT.again_nil | (refine Go.RT.again_not rfl rfl ?_) | (refine Go.RT.again_one rfl (by go_simp <;> rfl) ?_))
  (refine Go.RT.step_w rfl rfl (fun K hK => ?_) Go.RT.step_stop)
  go_wp2
  refine Go.RT.QK_normal _ _ _ _ (hK _ _ ?_ ?_) <;> clear hK K
  · repeat (first | exact Go.RT.again_nil | (refine Go.RT.again_not rfl rfl ?_) | (refine Go.RT.again_one rfl (by go_simp <;> rfl) ?_))
  repeat (first | (refine Go.RT.step_p rfl (fun K hK => ?_); go_simp; refine hK _ ?_; clear hK K) | (refine Go.RT.step_s rfl (fun K hK => ?_); go_simp; refine hK _ ?_; clear hK K))
  (refine Go.RT.step_w rfl rfl (fun K hK => ?_) Go.RT.step_stop)
  go_wp2
  refine Go.RT.QK_normal _ _ _ _ (hK _ _ ?_ ?_) <;> clear hK K
  · repeat (first | exact Go.RT.again_nil | (refine Go.RT.again_not rfl rfl ?_) | (refine Go.RT.again_one rfl (by go_simp <;> rfl) ?_))
  repeat (first | (refine Go.RT.step_p rfl (fun K hK => ?_); go_simp; refine hK _ ?_; clear hK K) | (refine Go.RT.step_s rfl (fun K hK => ?_); go_simp; refine hK _ ?_; clear hK K))
  (refine Go.RT.step_w rfl rfl (fun K hK => ?_) Go.RT.step_stop)
  go_wp2
  refine Go.RT.QK_normal _ _ _ _ (hK _ _ ?_ ?_) <;> clear hK K
  · repeat (first | exact Go.RT.again_nil | (refine Go.RT.again_not rfl rfl ?_) | (refine Go.RT.again_one rfl (by go_simp <;> rfl) ?_))
  refine Go.RT.step_nil ?_
  go_upto_region 3 with (fail)
  refine name_world (F := fun W => Hid (W.heap[w.heap.size + 1]? = some (.cells #[.int .i64 0, .int .i64 0, .int .i64 0, .slice none 0 0, .int .i64 0, .int .i64 0, .int .i64 0, .slice none 0 0, .slice none 0 0, .slice none 0 0, .slice none 0 0, .int .i64 0, .int .i64 0] 28 (0, 0))) ∧ Hid (W.heap[o]? = some (.cells #[.int .i64 n0.id, .int .i64 n.term, .int .i64 n.vote, .slice A' n.log.length c', .int .i64 n0.form, .int .i64 n0.role, .int .i64 n0.commit, .slice σ2.A7 n0.votes.length σ2.k7, .slice σ2.A8 n0.nxt.length σ2.k8, .slice σ2.A9 n0.mtch.length σ2.k9, .slice σ2.A10 n0.forms.length σ2.k10, .int .i64 n0.clock, .int .i64 n0.due] 28 (0, 0))) ∧ Hid (NodeVs W (fun k => w.heap.size + 2 ≤ k ∧ k < o) n0 σ2) ∧ Hid (MM.Rd W (fun k => o + 1 ≤ k) 2 (.slice A' n.log.length c') n.log.length (entsC n.log)) ∧ Hid (Below w.heap.size w W)) _ ⟨Lib.hid ((far3 (by show w.heap.size + 1 ≠ o; omega)).trans Y4.out), Lib.hid (((setCell_blk _ (setCell_blk _ (setCell_blk _ O4.out))).trans rfl)), Lib.hid (W4.out.step (fun k hk _ => far3 (by have h9 := hk.2; show k ≠ o; omega))), Lib.hid ((HR4.out.rd.mono (fun k hk _ => (HR4.out.lt k hk).1)).step (fun k hk _ => far3 (by have h9 : o + 1 ≤ k := hk; show k ≠ o; omega))), Lib.hid (((HB4.out.setCell (by show w.heap.size ≤ o; omega) _).setCell (by show w.heap.size ≤ o; omega) _).setCell (by show w.heap.size ≤ o; omega) _)⟩ ?_
  intro w5 ⟨Y5, O5, W5, R5, B5⟩
  obtain ⟨c0, c1, c2, c3, c4, c5, c6, c7, c8, c9, c10, c11, c12⟩ := MM.cells13 O5.out
  obtain ⟨y0, y1, y2, y3, y4, y5, y6, y7, y8, y9, y10, y11, y12⟩ := MM.cells13 Y5.out
  obtain ⟨z0, z1, z2, z3, z4, z5, z6, z7, z8, z9, z10, z11, z12⟩ := MM.frees13 Y5.out
  go_wp2_with fail
  refine name_world (F := fun W => Hid (W.heap[w.heap.size + 1]? = some (.cells #[.int .i64 n0.id, .int .i64 n.term, .int .i64 n.vote, .slice A' n.log.length c', .int .i64 n0.form, .int .i64 n0.role, .int .i64 n0.commit, .slice σ2.A7 n0.votes.length σ2.k7, .slice σ2.A8 n0.nxt.length σ2.k8, .slice σ2.A9 n0.mtch.length σ2.k9, .slice σ2.A10 n0.forms.length σ2.k10, .int .i64 n0.clock, .int .i64 n0.due] 28 (0, 0))) ∧ Hid (NodeVs W (fun k => w.heap.size + 2 ≤ k ∧ k < o) n0 σ2) ∧ Hid (MM.Rd W (fun k => o + 1 ≤ k) 2 (.slice A' n.log.length c') n.log.length (entsC n.log)) ∧ Hid (Below w.heap.size w W)) _ ⟨Lib.hid ((set13 Y5.out).trans rfl), Lib.hid (W5.out.step (fun k hk _ => far13 (by have h9 := hk.1; show k ≠ w.heap.size + 1; omega))), Lib.hid (R5.out.step (fun k hk _ => far13 (by have h9 : o + 1 ≤ k := hk; show k ≠ w.heap.size + 1; omega))), Lib.hid (below13 B5.out (by omega))⟩ ?_
  intro wf ⟨Y9, W9, R9, B9⟩
  obtain ⟨u0, u1, u2, u3, u4, u5, u6, u7, u8, u9, u10, u11, u12⟩ := MM.cells13 Y9.out
  refine bodyPost_ret (v := .agg #[.int .i64 n0.id, .int .i64 n.term, .int .i64 n.vote, .slice A' n.log.length c', .int .i64 n0.form, .int .i64 n0.role, .int .i64 n0.commit, .slice σ2.A7 n0.votes.length σ2.k7, .slice σ2.A8 n0.nxt.length σ2.k8, .slice σ2.A9 n0.mtch.length σ2.k9, .slice σ2.A10 n0.forms.length σ2.k10, .int .i64 n0.clock, .int .i64 n0.due]) (by simp [results, Try.results74, go_sem, u0, u1, u2, u3, u4, u5, u6, u7, u8, u9, u10, u11, u12]) rfl ?_
  rw [← HRS.out]
  exact ⟨{ σ2 with A3 := A', k3 := c' }, rfl, ⟨R9.out.mono (fun k hk _ => by have h9 : o + 1 ≤ k := hk; omega), W9.out.hv.mono (fun k hk _ => by have h9 := hk.1; omega), W9.out.hn.mono (fun k hk _ => by have h9 := hk.1; omega), W9.out.hm.mono (fun k hk _ => by have h9 := hk.1; omega), W9.out.hf.mono (fun k hk _ => by have h9 := hk.1; omega)⟩, B9.out⟩

end Go.Proofs.Ytnkmljdkokcdjaa
