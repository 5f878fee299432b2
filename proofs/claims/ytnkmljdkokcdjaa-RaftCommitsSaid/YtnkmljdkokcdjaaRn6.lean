/-
  The document's Tick answers as the plain tickS. Conditions: the lengths and numbers are bounded as the theorem says.
-/
import Derived.WalkKit
import Derived.WalkSpells
import Derived.Lib.Hide
import Derived.Outline
import Derived.Test.YtnkmljdkokcdjaaChecked
import Derived.Test.YtnkmljdkokcdjaaMn
import Derived.Test.YtnkmljdkokcdjaaMem
import Derived.Test.YtnkmljdkokcdjaaFed
import Derived.Test.YtnkmljdkokcdjaaRn5
import Derived.Test.YtnkmljdkokcdjaaRk1
import Derived.Test.YtnkmljdkokcdjaaRc3
import Derived.Deep.DeepCutAuto
import Derived.Deep.CutBlock
import Derived.Deep.OwnRows
import Derived.IntWalk
set_option linter.unusedVariables false
set_option linter.unusedSimpArgs false
namespace Go.Proofs.Ytnkmljdkokcdjaa
open Go.RowKit Fed
set_option linter.unusedVariables false
attribute [local go_sem high] Fed.max2_int Fed.min2_int

/-- Whose place is id: as far as i; then what was there. -/
def votesTo (l : List Bool) (id : Int) (i : Nat) : List Bool := (List.range i).map (fun j : Nat => decide ((j : Int) = id)) ++ l.drop i
theorem votesTo_len {l : List Bool} {id : Int} {i : Nat} (h : i ≤ l.length) : (votesTo l id i).length = l.length := by simp [votesTo]; omega
theorem votesTo_set {l : List Bool} {id : Int} {i : Nat} (h : i < l.length) : (votesTo l id i).set i (decide ((i : Int) = id)) = votesTo l id (i + 1) := by
  unfold votesTo
  rw [List.set_append_right _ _ (by simp), List.length_map, List.length_range, Nat.sub_self, List.drop_eq_getElem_cons h, List.set_cons_zero, List.range_succ]
  simp
theorem votesTo_zero (l : List Bool) (id : Int) : votesTo l id 0 = l := by simp [votesTo]
theorem votesTo_all {l : List Bool} {id : Int} (h0 : 0 ≤ id) (h1 : id < l.length) : votesTo l id l.length = (List.replicate l.length false).set id.toNat true := by
  apply List.ext_getElem
  · simp [votesTo]
  · intro i h2 h3
    simp only [votesTo, List.drop_length, List.append_nil, List.getElem_map, List.getElem_range, List.getElem_set, List.getElem_replicate]
    by_cases h : id.toNat = i
    · rw [if_pos h]; simp; omega
    · rw [if_neg h]; simp; omega
def standAt (n : Fed.Node) (i : Nat) : Fed.Node := { n with term := n.term + 1, role := 1, vote := n.id, votes := votesTo n.votes n.id i }
theorem askMsgs_one {n : Fed.Node} (h : n.id = 0) : askMsgs n 1 = [] := by
  have := askMsgs_skip (n := n) (k := 0) (by rw [h]; rfl)
  rw [this]
  rfl
set_option maxRecDepth 100000 in
set_option maxHeartbeats 40000000 in
theorem rtick_any (w : World) (ok : Nat → Prop) (n : Fed.Node) (σ : Sl5) (h : NodeVs w ok n σ) (l1 : n.log.length ≤ 900000) (l2 : n.votes.length ≤ 1000) (l3 : n.nxt.length = n.votes.length) (l4 : n.mtch.length = n.votes.length) (l5 : n.forms.length ≤ 1000) (hi0 : 0 ≤ n.id) (hi1 : n.id < n.votes.length)
    (ht0 : -1000000000 ≤ n.term) (ht1 : n.term ≤ 1000000000) (hc0 : -999999999 ≤ n.clock) (hc1 : n.clock ≤ 999999999) (hx : n.role = 2 → ∀ i : Nat, i < n.votes.length → (i : Int) ≠ n.id → 1 ≤ n.nxt.getD i 0 ∧ n.nxt.getD i 0 ≤ n.log.length + 1) :
    Calls Try.prog 70 #[.agg #[.int .i64 n.id, .int .i64 n.term, .int .i64 n.vote, .slice σ.A3 n.log.length σ.k3, .int .i64 n.form, .int .i64 n.role, .int .i64 n.commit, .slice σ.A7 n.votes.length σ.k7, .slice σ.A8 n.nxt.length σ.k8, .slice σ.A9 n.mtch.length σ.k9, .slice σ.A10 n.forms.length σ.k10, .int .i64 n.clock, .int .i64 n.due]] w fun e w' => ∃ (τ : Sl5) (A : Option Addr) (c : Nat), e = .returned (.tuple #[.agg #[.int .i64 (tickS n).n.id, .int .i64 (tickS n).n.term, .int .i64 (tickS n).n.vote, .slice τ.A3 (tickS n).n.log.length τ.k3, .int .i64 (tickS n).n.form, .int .i64 (tickS n).n.role, .int .i64 (tickS n).n.commit, .slice τ.A7 (tickS n).n.votes.length τ.k7, .slice τ.A8 (tickS n).n.nxt.length τ.k8, .slice τ.A9 (tickS n).n.mtch.length τ.k9, .slice τ.A10 (tickS n).n.forms.length τ.k10, .int .i64 (tickS n).n.clock, .int .i64 (tickS n).n.due], .slice A (tickS n).out.length c]) ∧ NodeVs w' (fun k => w.heap.size ≤ k) (tickS n).n τ ∧ MsgsV w' (fun k => w.heap.size ≤ k) (.slice A (tickS n).out.length c) (tickS n).out ∧ Below w.heap.size w w' := by
  have HS := Lib.hid (show tickS n = _ from by unfold tickS; rw [if_neg (by simp; omega)])
  generalize tickS n = s1 at HS ⊢
  have H := Lib.hid (h.mono (ok' := fun k => k < w.heap.size) (fun k _ hk => hk))
  have HXX := Lib.hid hx
  have L3 := Lib.hid l3
  have L4 := Lib.hid l4
  have k3 : n.nxt.length ≤ 1000 := by omega
  have k4 : n.mtch.length ≤ 1000 := by omega
  clear h hx l3 l4
  go_enter Try.func70, Try.ntmps70
  go_upto_region 1 with (fail)
  refine name_world (F := fun W => Hid (W.heap[w.heap.size]? = some (.cells #[.int .i64 n.id, .int .i64 n.term, .int .i64 n.vote, .slice σ.A3 n.log.length σ.k3, .int .i64 n.form, .int .i64 n.role, .int .i64 n.commit, .slice σ.A7 n.votes.length σ.k7, .slice σ.A8 n.nxt.length σ.k8, .slice σ.A9 n.mtch.length σ.k9, .slice σ.A10 n.forms.length σ.k10, .int .i64 n.clock, .int .i64 n.due] 28 (0, 0))) ∧ Hid (W.heap[w.heap.size + 1]? = some (.cells #[.int .i64 0, .int .i64 0, .int .i64 0, .slice none 0 0, .int .i64 0, .int .i64 0, .int .i64 0, .slice none 0 0, .slice none 0 0, .slice none 0 0, .slice none 0 0, .int .i64 0, .int .i64 0] 28 (0, 0))) ∧ Hid (NodeVs W (fun k => k < w.heap.size) n σ) ∧ Hid (Below w.heap.size w W)) _ ⟨Lib.hid ((Below.heap_alloc _ _ _ (by simp)).trans (MM.alloc_new w _)), Lib.hid (MM.alloc_new1 w _ _), Lib.hid (H.out.step (fun k hk _ => (Below.heap_alloc _ _ k (by simp; omega)).trans (Below.heap_alloc w _ k hk))), Lib.hid (((Below.refl _ w).alloc (Nat.le_refl _) _).alloc (by simp) _)⟩ ?_
  clear H
  intro w1 ⟨X, Y, V, HB⟩
  obtain ⟨c0, c1, c2, c3, c4, c5, c6, c7, c8, c9, c10, c11, c12⟩ := MM.cells13 X.out
  go_wp2_with fail
  refine (rown_any _ _ n σ V.out (by omega) (by omega) (by omega) (by omega) (by omega)).mono ?_
  rintro e w2 ⟨τ, υ, rfl, hn2, hb2⟩
  have X2 := Lib.hid ((hb2.block _ (MM.blk_lt X.out)).trans X.out)
  have Y2 := Lib.hid ((hb2.block _ (MM.blk_lt Y.out)).trans Y.out)
  have HB2 := Lib.hid (HB.out.trans (hb2.mono HB.out.size))
  have HN2 := Lib.hid (hn2.lower HB.out.size)
  clear hn2 hb2 c0 c1 c2 c3 c4 c5 c6 c7 c8 c9 c10 c11 c12
  obtain ⟨c0, c1, c2, c3, c4, c5, c6, c7, c8, c9, c10, c11, c12⟩ := MM.cells13 X2.out
  obtain ⟨g0, g1, g2, g3, g4, g5, g6, g7, g8, g9, g10, g11, g12⟩ := MM.frees13 X2.out
  go_upto_region 2 with (fail)
  refine name_world (F := fun W => Hid (NB W w.heap.size w.heap.size n τ υ) ∧ Hid (W.heap[w.heap.size + 1]? = some (.cells #[.int .i64 0, .int .i64 0, .int .i64 0, .slice none 0 0, .int .i64 0, .int .i64 0, .int .i64 0, .slice none 0 0, .slice none 0 0, .slice none 0 0, .slice none 0 0, .int .i64 0, .int .i64 0] 28 (0, 0))) ∧ Hid (Below w.heap.size w W)) _ ⟨Lib.hid (NB.mk13 (Nat.le_refl _) X2.out HN2.out), Lib.hid ((far13 (by show w.heap.size + 1 ≠ w.heap.size; omega)).trans Y2.out), Lib.hid (below13 HB2.out (Nat.le_refl _))⟩ ?_
  clear X Y V HB X2 Y2 HB2 HN2 g0 c0 g1 c1 g2 c2 g3 c3 g4 c4 g5 c5 g6 c6 g7 c7 g8 c8 g9 c9 g10 c10 g11 c11 g12 c12
  intro w3 ⟨N, Y, HB⟩
  have c11 : w3.cell? ⟨w.heap.size, 11, none⟩ = some (.int .i64 n.clock) := N.out.c 11 _ rfl
  have g11 : w3.frozen? ⟨w.heap.size, 11, none⟩ = false := N.out.fr 11
  go_upto_region 3 with (fail)
  refine name_world (F := fun W => Hid (NB W w.heap.size w.heap.size { n with clock := n.clock + 1 } τ υ) ∧ Hid (W.heap[w.heap.size + 1]? = some (.cells #[.int .i64 0, .int .i64 0, .int .i64 0, .slice none 0 0, .int .i64 0, .int .i64 0, .int .i64 0, .slice none 0 0, .slice none 0 0, .slice none 0 0, .slice none 0 0, .int .i64 0, .int .i64 0] 28 (0, 0))) ∧ Hid (Below w.heap.size w W)) _ ⟨Lib.hid (N.out.set rfl ⟨rfl, rfl, rfl, rfl, rfl⟩), Lib.hid ((Below.heap_setCell _ _ _ _ (by show w.heap.size + 1 ≠ w.heap.size; omega)).trans Y.out), Lib.hid (HB.out.setCell (Nat.le_refl _) _)⟩ ?_
  clear N Y HB c11 g11
  intro w4 ⟨N4, Y4, HB4⟩
  obtain ⟨n1, hn1⟩ : ∃ x : Fed.Node, x = { n with clock := n.clock + 1 } := ⟨_, rfl⟩
  rw [← hn1] at N4 HS
  have HEn1 := Lib.hid hn1
  clear hn1
  have b1 : n1.id = n.id ∧ n1.term = n.term ∧ n1.clock = n.clock + 1 ∧ n1.votes = n.votes ∧ n1.role = n.role ∧ n1.due = n.due ∧ n1.log = n.log ∧ n1.nxt = n.nxt ∧ n1.mtch = n.mtch := by rw [HEn1.out]; exact ⟨rfl, rfl, rfl, rfl, rfl, rfl, rfl, rfl, rfl⟩
  obtain ⟨e1, e2, e3, e4, e5, e6, e7, e8, e9⟩ := b1
  rw [← e6, ← e3, ← e5, ← e4] at HS
  rw [← e4, ← e5, ← e1, ← e7, ← e8] at HXX
  have hi0' : 0 ≤ n1.id := by rw [e1]; exact hi0
  have hi1' : n1.id < n1.votes.length := by rw [e1, e4]; exact hi1
  have l1' : n1.log.length ≤ 900000 := by rw [e7]; exact l1
  have l2' : n1.votes.length ≤ 1000 := by rw [e4]; exact l2
  have L3' := Lib.hid (show n1.nxt.length = n1.votes.length by rw [e8, e4]; exact L3.out)
  have L4' := Lib.hid (show n1.mtch.length = n1.votes.length by rw [e9, e4]; exact L4.out)
  have ht0' : -1000000000 ≤ n1.term := by rw [e2]; exact ht0
  have ht1' : n1.term ≤ 1000000000 := by rw [e2]; exact ht1
  have hc0' : -999999998 ≤ n1.clock := by rw [e3]; omega
  have hc1' : n1.clock ≤ 1000000000 := by rw [e3]; omega
  clear e1 e2 e3 e4 e5 e6 e7 e8 e9 L3 L4 k3 k4 HEn1 hi0 hi1 l1 l2 l5 ht0 ht1 hc0 hc1
  have hs4 : w.heap.size + 1 < w4.heap.size := MM.blk_lt Y4.out
  have c5 : w4.cell? ⟨w.heap.size, 5, none⟩ = some (.int .i64 n1.role) := N4.out.c 5 _ rfl
  have c11 : w4.cell? ⟨w.heap.size, 11, none⟩ = some (.int .i64 n1.clock) := N4.out.c 11 _ rfl
  have c12 : w4.cell? ⟨w.heap.size, 12, none⟩ = some (.int .i64 n1.due) := N4.out.c 12 _ rfl
  by_cases hr : n1.role = 2
  · have hrb : (n1.role == 2) = true := by simpa using hr
    have HX1 := Lib.hid (HXX.out hr)
    have HS2 := Lib.hid (HS.out.trans (if_pos hr))
    clear hr HS HXX
    by_cases hm : n1.clock.tmod 2 = 0
    · have hmb : (n1.clock.tmod 2 == 0) = true := by simpa using hm
      obtain rfl : s1 = ⟨n1, spreadMsgs n1 n1.votes.length⟩ := HS2.out.trans (if_pos hm)
      clear hm HS2 c5 c11 c12
      obtain ⟨c0, c1, c2, c3, c4, c5, c6, c7, c8, c9, c10, c11, c12⟩ := MM.cells13 N4.out.blk
      go_wp2_with fail
      refine Go.RT.wp_region_tree [0, 0, 2, 7, 15] (.s 0 (.s 1 (.w 2 [0] (.w 3 [] (.w 4 [] .nil .stop) .stop) .stop))) (by kernel_rfl) (by kernel_rfl) ?_
      repeat (first | (refine Go.RT.step_p rfl (fun K hK => ?_); go_simp; refine hK _ ?_; clear hK K) | (refine Go.RT.step_s rfl (fun K hK => ?_); go_simp; refine hK _ ?_; clear hK K))
      (refine Go.RT.step_w rfl rfl (fun K hK => ?_) Go.RT.step_stop)
      go_wp2_with fail
      refine (rspread_any _ _ n1 τ (N4.out.drew.toV) (Nat.le_trans l1' (by decide)) l2' (by rw [L3'.out]; exact Nat.le_refl _) HX1.out).mono ?_
      rintro e v6 ⟨As, cs, os, rfl, ho6, hb6⟩
      have X6 := Lib.hid ((hb6.block _ (MM.blk_lt N4.out.blk)).trans N4.out.blk)
      have Y6 := Lib.hid ((hb6.block _ (MM.blk_lt Y4.out)).trans Y4.out)
      have N6 := Lib.hid (N4.out.rows.drew.below hb6)
      have B6 := Lib.hid (HB4.out.drew.trans (hb6.mono (Nat.le_trans N4.out.hB (Nat.le_of_lt N4.out.lt))))
      have K6 := Lib.hid ((Kp.old (w := w) (fun k hk => HB4.out.block k hk)).trans (Kp.old (fun k hk => hb6.block k hk)))
      have O6 := Lib.hid (ho6.lower (Nat.le_trans N4.out.hB (Nat.le_of_lt N4.out.lt)))
      clear ho6 hb6
      obtain ⟨cs0, cs1, cs2, cs3, cs4, cs5, cs6, cs7, cs8, cs9, cs10, cs11, cs12⟩ := MM.cells13 X6.out
      obtain ⟨ys0, ys1, ys2, ys3, ys4, ys5, ys6, ys7, ys8, ys9, ys10, ys11, ys12⟩ := MM.cells13 Y6.out
      obtain ⟨zs0, zs1, zs2, zs3, zs4, zs5, zs6, zs7, zs8, zs9, zs10, zs11, zs12⟩ := MM.frees13 Y6.out
      go_wp2_with fail
      refine Go.RT.QK_normal _ _ _ _ (hK _ _ ?_ ?_) <;> clear hK K
      · repeat (first | exact Go.RT.again_nil | (refine Go.RT.again_not rfl rfl ?_) | (refine Go.RT.again_one rfl (by go_simp <;> rfl) ?_))
      (refine Go.RT.step_w rfl rfl (fun K hK => ?_) Go.RT.step_stop)
      go_wp2
      refine Go.RT.QK_normal _ _ _ _ (hK _ _ ?_ ?_) <;> clear hK K
      · repeat (first | exact Go.RT.again_nil | (refine Go.RT.again_not rfl rfl ?_) | (refine Go.RT.again_one rfl (by go_simp <;> rfl) ?_))
      (refine Go.RT.step_w rfl rfl (fun K hK => ?_) Go.RT.step_stop)
      go_wp2
      refine Go.RT.QK_normal _ _ _ _ (hK _ _ ?_ ?_) <;> clear hK K
      · repeat (first | exact Go.RT.again_nil | (refine Go.RT.again_not rfl rfl ?_) | (refine Go.RT.again_one rfl (by go_simp <;> rfl) ?_))
      refine Go.RT.step_nil ?_
      go_wp2_with fail
      refine name_world (F := fun W => Hid (W.heap[w.heap.size + 1]? = some (.cells #[.int .i64 n1.id, .int .i64 n1.term, .int .i64 n1.vote, .slice τ.A3 n1.log.length τ.k3, .int .i64 n1.form, .int .i64 n1.role, .int .i64 n1.commit, .slice τ.A7 n1.votes.length τ.k7, .slice τ.A8 n1.nxt.length τ.k8, .slice τ.A9 n1.mtch.length τ.k9, .slice τ.A10 n1.forms.length τ.k10, .int .i64 n1.clock, .int .i64 n1.due] 28 (0, 0))) ∧ Hid (NodeOs W w.heap.size n1 τ υ) ∧ Hid (Below w.heap.size w W) ∧ Hid (Kp w W) ∧ Hid (OutAt W w.heap.size (.slice As (spreadMsgs n1 n1.votes.length).length cs) (spreadMsgs n1 n1.votes.length) os)) _ ⟨Lib.hid ((set13 Y6.out).trans rfl), Lib.hid (N6.out.types (fun k t hk ht' => far13 (ty_ne hk ⟨_, _, Y6.out⟩ (by rcases ht' with rfl | rfl | rfl <;> decide)))), Lib.hid (below13 B6.out (Nat.le_trans N4.out.hB (by omega))), Lib.hid (K6.out.new13 (by omega)), Lib.hid (O6.out.types (fun k t hk ht' => far13 (ty_ne hk ⟨_, _, Y6.out⟩ (by rcases ht' with rfl | rfl <;> decide))))⟩ ?_
      intro wf ⟨Y9, N9, B9, K9, O9⟩
      obtain ⟨u0, u1, u2, u3, u4, u5, u6, u7, u8, u9, u10, u11, u12⟩ := MM.cells13 Y9.out
      refine bodyPost_ret (v := .tuple #[.agg #[.int .i64 n1.id, .int .i64 n1.term, .int .i64 n1.vote, .slice τ.A3 n1.log.length τ.k3, .int .i64 n1.form, .int .i64 n1.role, .int .i64 n1.commit, .slice τ.A7 n1.votes.length τ.k7, .slice τ.A8 n1.nxt.length τ.k8, .slice τ.A9 n1.mtch.length τ.k9, .slice τ.A10 n1.forms.length τ.k10, .int .i64 n1.clock, .int .i64 n1.due], .slice As (spreadMsgs n1 n1.votes.length).length cs]) (by simp [results, Try.results70, go_sem, u0, u1, u2, u3, u4, u5, u6, u7, u8, u9, u10, u11, u12]) rfl ?_
      exact ⟨τ, As, cs, rfl, N9.out.toV, O9.out.toV, B9.out⟩
    · have hmb : (n1.clock.tmod 2 == 0) = false := by simpa using hm
      obtain rfl : s1 = ⟨n1, []⟩ := HS2.out.trans (if_neg hm)
      clear hm HS2 c5 c11 c12
      obtain ⟨c0, c1, c2, c3, c4, c5, c6, c7, c8, c9, c10, c11, c12⟩ := MM.cells13 N4.out.blk
      obtain ⟨y0, y1, y2, y3, y4, y5, y6, y7, y8, y9, y10, y11, y12⟩ := MM.cells13 Y4.out
      obtain ⟨z0, z1, z2, z3, z4, z5, z6, z7, z8, z9, z10, z11, z12⟩ := MM.frees13 Y4.out
      go_wp2_with fail
      refine name_world (F := fun W => Hid (W.heap[w.heap.size + 1]? = some (.cells #[.int .i64 n1.id, .int .i64 n1.term, .int .i64 n1.vote, .slice τ.A3 n1.log.length τ.k3, .int .i64 n1.form, .int .i64 n1.role, .int .i64 n1.commit, .slice τ.A7 n1.votes.length τ.k7, .slice τ.A8 n1.nxt.length τ.k8, .slice τ.A9 n1.mtch.length τ.k9, .slice τ.A10 n1.forms.length τ.k10, .int .i64 n1.clock, .int .i64 n1.due] 28 (0, 0))) ∧ Hid (NodeOs W w.heap.size n1 τ υ) ∧ Hid (Below w.heap.size w W)) _ ⟨Lib.hid ((set13 Y4.out).trans rfl), Lib.hid (N4.out.rows.types (fun k t hk ht' => far13 (ty_ne hk ⟨_, _, Y4.out⟩ (by rcases ht' with rfl | rfl | rfl <;> decide)))), Lib.hid (below13 HB4.out (by omega))⟩ ?_
      intro wf ⟨Y9, N9, B9⟩
      obtain ⟨u0, u1, u2, u3, u4, u5, u6, u7, u8, u9, u10, u11, u12⟩ := MM.cells13 Y9.out
      refine bodyPost_ret (v := .tuple #[.agg #[.int .i64 n1.id, .int .i64 n1.term, .int .i64 n1.vote, .slice τ.A3 n1.log.length τ.k3, .int .i64 n1.form, .int .i64 n1.role, .int .i64 n1.commit, .slice τ.A7 n1.votes.length τ.k7, .slice τ.A8 n1.nxt.length τ.k8, .slice τ.A9 n1.mtch.length τ.k9, .slice τ.A10 n1.forms.length τ.k10, .int .i64 n1.clock, .int .i64 n1.due], .slice none 0 0]) (by simp [results, Try.results70, go_sem, u0, u1, u2, u3, u4, u5, u6, u7, u8, u9, u10, u11, u12]) rfl ?_
      exact ⟨τ, none, 0, rfl, N9.out.toV, ⟨[], MM.Rd.nil _ _ _ _ _ (by simp [maxLen]), rfl⟩, B9.out⟩
  · have hrb : (n1.role == 2) = false := by simpa using hr
    have HS2 := Lib.hid (HS.out.trans (if_neg hr))
    clear hr HS HXX
    by_cases hd : n1.due ≤ n1.clock
    case neg =>
      have hdb : decide (n1.clock < n1.due) = true := by simp; omega
      obtain rfl : s1 = ⟨n1, []⟩ := HS2.out.trans (if_neg hd)
      clear hd HS2 c5 c11 c12
      obtain ⟨c0, c1, c2, c3, c4, c5, c6, c7, c8, c9, c10, c11, c12⟩ := MM.cells13 N4.out.blk
      obtain ⟨y0, y1, y2, y3, y4, y5, y6, y7, y8, y9, y10, y11, y12⟩ := MM.cells13 Y4.out
      obtain ⟨z0, z1, z2, z3, z4, z5, z6, z7, z8, z9, z10, z11, z12⟩ := MM.frees13 Y4.out
      go_wp2_with fail
      refine name_world (F := fun W => Hid (W.heap[w.heap.size + 1]? = some (.cells #[.int .i64 n1.id, .int .i64 n1.term, .int .i64 n1.vote, .slice τ.A3 n1.log.length τ.k3, .int .i64 n1.form, .int .i64 n1.role, .int .i64 n1.commit, .slice τ.A7 n1.votes.length τ.k7, .slice τ.A8 n1.nxt.length τ.k8, .slice τ.A9 n1.mtch.length τ.k9, .slice τ.A10 n1.forms.length τ.k10, .int .i64 n1.clock, .int .i64 n1.due] 28 (0, 0))) ∧ Hid (NodeOs W w.heap.size n1 τ υ) ∧ Hid (Below w.heap.size w W)) _ ⟨Lib.hid ((set13 Y4.out).trans rfl), Lib.hid (N4.out.rows.types (fun k t hk ht' => far13 (ty_ne hk ⟨_, _, Y4.out⟩ (by rcases ht' with rfl | rfl | rfl <;> decide)))), Lib.hid (below13 HB4.out (by omega))⟩ ?_
      intro wf ⟨Y9, N9, B9⟩
      obtain ⟨u0, u1, u2, u3, u4, u5, u6, u7, u8, u9, u10, u11, u12⟩ := MM.cells13 Y9.out
      refine bodyPost_ret (v := .tuple #[.agg #[.int .i64 n1.id, .int .i64 n1.term, .int .i64 n1.vote, .slice τ.A3 n1.log.length τ.k3, .int .i64 n1.form, .int .i64 n1.role, .int .i64 n1.commit, .slice τ.A7 n1.votes.length τ.k7, .slice τ.A8 n1.nxt.length τ.k8, .slice τ.A9 n1.mtch.length τ.k9, .slice τ.A10 n1.forms.length τ.k10, .int .i64 n1.clock, .int .i64 n1.due], .slice none 0 0]) (by simp [results, Try.results70, go_sem, u0, u1, u2, u3, u4, u5, u6, u7, u8, u9, u10, u11, u12]) rfl ?_
      exact ⟨τ, none, 0, rfl, N9.out.toV, ⟨[], MM.Rd.nil _ _ _ _ _ (by simp [maxLen]), rfl⟩, B9.out⟩
    case pos =>
      have hdb : decide (n1.clock < n1.due) = false := by simp; omega
      have HS3 := Lib.hid (HS2.out.trans (if_pos hd))
      clear hd HS2 c5 c11 c12
      have c0 : w4.cell? ⟨w.heap.size, 0, none⟩ = some (.int .i64 n1.id) := N4.out.c 0 _ rfl
      have c1 : w4.cell? ⟨w.heap.size, 1, none⟩ = some (.int .i64 n1.term) := N4.out.c 1 _ rfl
      have c5 : w4.cell? ⟨w.heap.size, 5, none⟩ = some (.int .i64 n1.role) := N4.out.c 5 _ rfl
      have c2 : w4.cell? ⟨w.heap.size, 2, none⟩ = some (.int .i64 n1.vote) := N4.out.c 2 _ rfl
      have c11 : w4.cell? ⟨w.heap.size, 11, none⟩ = some (.int .i64 n1.clock) := N4.out.c 11 _ rfl
      have c12 : w4.cell? ⟨w.heap.size, 12, none⟩ = some (.int .i64 n1.due) := N4.out.c 12 _ rfl
      have g1 : w4.frozen? ⟨w.heap.size, 1, none⟩ = false := N4.out.fr 1
      have g5 : w4.frozen? ⟨w.heap.size, 5, none⟩ = false := N4.out.fr 5
      have g2 : w4.frozen? ⟨w.heap.size, 2, none⟩ = false := N4.out.fr 2
      go_upto_region 11 with (fail)
      refine name_world (F := fun W => Hid (NB W w.heap.size w.heap.size (standAt n1 0) τ υ) ∧ Hid (W.heap[w.heap.size + 1]? = some (.cells #[.int .i64 0, .int .i64 0, .int .i64 0, .slice none 0 0, .int .i64 0, .int .i64 0, .int .i64 0, .slice none 0 0, .slice none 0 0, .slice none 0 0, .slice none 0 0, .int .i64 0, .int .i64 0] 28 (0, 0))) ∧ Hid (Below w.heap.size w W)) _ ⟨Lib.hid ((show NB _ w.heap.size w.heap.size { n1 with term := n1.term + 1, role := 1, vote := n1.id } τ υ from ((N4.out.set (n' := { n1 with term := n1.term + 1 }) rfl ⟨rfl, rfl, rfl, rfl, rfl⟩).set (n' := { n1 with term := n1.term + 1, role := 1 }) rfl ⟨rfl, rfl, rfl, rfl, rfl⟩).set rfl ⟨rfl, rfl, rfl, rfl, rfl⟩)), Lib.hid ((Below.heap_setCell _ _ _ _ (by show w.heap.size + 1 ≠ w.heap.size; omega)).trans ((Below.heap_setCell _ _ _ _ (by show w.heap.size + 1 ≠ w.heap.size; omega)).trans ((Below.heap_setCell _ _ _ _ (by show w.heap.size + 1 ≠ w.heap.size; omega)).trans Y4.out))), Lib.hid (((HB4.out.setCell (Nat.le_refl _) _).setCell (Nat.le_refl _) _).setCell (Nat.le_refl _) _)⟩ ?_
      clear N4 Y4 HB4 c0 c1 c5 c2 c11 c12 g1 g5 g2 hrb hdb
      intro w5 ⟨N, Y5, HB5⟩
      go_wp2_with fail
      go_loopw [4] (fun t4 wr => ∃ (i : Nat) (m : Fed.Node), i ≤ n1.votes.length ∧ t4 = .int .i64 i ∧ Hid (m = standAt n1 i) ∧ Hid (NB wr w.heap.size w.heap.size m τ υ) ∧ Hid (wr.heap[w.heap.size + 1]? = some (.cells #[.int .i64 0, .int .i64 0, .int .i64 0, .slice none 0 0, .int .i64 0, .int .i64 0, .int .i64 0, .slice none 0 0, .slice none 0 0, .slice none 0 0, .slice none 0 0, .int .i64 0, .int .i64 0] 28 (0, 0))) ∧ Hid (Below w.heap.size w wr)) (fun t4 _ => n1.votes.length - (intOf t4).toNat)
      case atStart => exact ⟨0, standAt n1 0, by omega, rfl, Lib.hid rfl, N, Y5, HB5⟩
      case round =>
        obtain ⟨i, m, hi, rfl, HM, N, Y, HB⟩ := hrel
        clear Y5 HB5
        have hs1 : w.heap.size + 1 < wr.heap.size := MM.blk_lt Y.out
        have ev : m.votes.length = n1.votes.length := by rw [HM.out]; exact votesTo_len hi
        have EV := Lib.hid ev
        clear ev
        have ei : m.id = n1.id ∧ m.log.length = n1.log.length ∧ m.term = n1.term + 1 ∧ m.clock = n1.clock := by rw [HM.out]; exact ⟨rfl, rfl, rfl, rfl⟩
        have EI := Lib.hid ei
        clear ei
        have c7 : wr.cell? ⟨w.heap.size, 7, none⟩ = some (.slice τ.A7 m.votes.length τ.k7) := N.out.c 7 _ rfl
        have c0 : wr.cell? ⟨w.heap.size, 0, none⟩ = some (.int .i64 m.id) := N.out.c 0 _ rfl
        by_cases hlt : i < n1.votes.length
        · have hltn : i < m.votes.length := by rw [EV.out]; exact hlt
          clear c7
          obtain ⟨p7, hp7⟩ := N.out.rows.hv.some_of (by omega)
          have hr7 := N.out.rows.hv
          rw [hp7] at hr7
          obtain ⟨cap7, e7, q71, q72⟩ := hr7.form
          have c7 : wr.cell? ⟨w.heap.size, 7, none⟩ = some (.slice (some ⟨p7, 0, none⟩) m.votes.length cap7) := N.out.c 7 _ (congrArg some e7)
          have HP7 := Lib.hid hp7
          have HR7 := Lib.hid hr7
          clear e7 hp7 hr7
          have ce7 : wr.cell? ⟨p7, i, none⟩ = some (.bool (m.votes.getD (i) false)) := HR7.out.cell (boolsC_get (by omega))
          have fe7 : wr.frozen? ⟨p7, i, none⟩ = false := HR7.out.free _
          have VS := Lib.hid (votesTo_set (l := n1.votes) (id := n1.id) hlt)
          by_cases hne : (i : Int) = m.id
          · have hneb : ((i : Int) == m.id) = true := by simpa using hne
            have HNE := Lib.hid hne
            clear hne
            go_wp2_with fail
            go_roundw
            case rel => exact ⟨i + 1, _, by omega, by go_num, Lib.hid (show ({ m with votes := m.votes.set i true } : Fed.Node) = standAt n1 (i + 1) from by
              have h9 := VS.out
              rw [decide_eq_true (by rw [← EI.out.1]; exact HNE.out)] at h9
              unfold standAt
              rw [← h9, HM.out]
              rfl), Lib.hid (N.out.set_v HP7.out hltn), Lib.hid ((Below.heap_setCell _ _ _ _ (ty_ne ⟨_, _, Y.out⟩ (HR7.out.ty _ rfl) (by decide))).trans Y.out), Lib.hid (HB.out.setCell (HR7.out.lt _ rfl).1 _)⟩
            case measure => simp [intOf]; omega
          · have hneb : ((i : Int) == m.id) = false := by simpa using hne
            have HNE := Lib.hid hne
            clear hne
            go_wp2_with fail
            go_roundw
            case rel => exact ⟨i + 1, _, by omega, by go_num, Lib.hid (show ({ m with votes := m.votes.set i false } : Fed.Node) = standAt n1 (i + 1) from by
              have h9 := VS.out
              rw [decide_eq_false (by rw [← EI.out.1]; exact HNE.out)] at h9
              unfold standAt
              rw [← h9, HM.out]
              rfl), Lib.hid (N.out.set_v HP7.out hltn), Lib.hid ((Below.heap_setCell _ _ _ _ (ty_ne ⟨_, _, Y.out⟩ (HR7.out.ty _ rfl) (by decide))).trans Y.out), Lib.hid (HB.out.setCell (HR7.out.lt _ rfl).1 _)⟩
            case measure => simp [intOf]; omega
        · obtain rfl : i = n1.votes.length := by omega
          have hltn : ¬ n1.votes.length < m.votes.length := by rw [EV.out]; omega
          have k0 : -1000000000 ≤ m.clock ∧ m.clock ≤ 1000000000 := by rw [EI.out.2.2.2]; omega
          have k1 : -1000000000 ≤ m.id ∧ m.id ≤ 1000000000 := by rw [EI.out.1]; omega
          obtain ⟨k01, k02⟩ := k0
          obtain ⟨k03, k04⟩ := k1
          clear hlt
          have c1 : wr.cell? ⟨w.heap.size, 1, none⟩ = some (.int .i64 m.term) := N.out.c 1 _ rfl
          have c2 : wr.cell? ⟨w.heap.size, 2, none⟩ = some (.int .i64 m.vote) := N.out.c 2 _ rfl
          have c3 : wr.cell? ⟨w.heap.size, 3, none⟩ = some (.slice τ.A3 m.log.length τ.k3) := N.out.c 3 _ rfl
          have c4 : wr.cell? ⟨w.heap.size, 4, none⟩ = some (.int .i64 m.form) := N.out.c 4 _ rfl
          have c5 : wr.cell? ⟨w.heap.size, 5, none⟩ = some (.int .i64 m.role) := N.out.c 5 _ rfl
          have c6 : wr.cell? ⟨w.heap.size, 6, none⟩ = some (.int .i64 m.commit) := N.out.c 6 _ rfl
          have c8 : wr.cell? ⟨w.heap.size, 8, none⟩ = some (.slice τ.A8 m.nxt.length τ.k8) := N.out.c 8 _ rfl
          have c9 : wr.cell? ⟨w.heap.size, 9, none⟩ = some (.slice τ.A9 m.mtch.length τ.k9) := N.out.c 9 _ rfl
          have c10 : wr.cell? ⟨w.heap.size, 10, none⟩ = some (.slice τ.A10 m.forms.length τ.k10) := N.out.c 10 _ rfl
          have c11 : wr.cell? ⟨w.heap.size, 11, none⟩ = some (.int .i64 m.clock) := N.out.c 11 _ rfl
          have c12 : wr.cell? ⟨w.heap.size, 12, none⟩ = some (.int .i64 m.due) := N.out.c 12 _ rfl
          go_wp2_with fail
          refine (rdue_any _ m.id m.clock _ _ _ _ _ _ _ _ _ _ _ k01 k02 k03 k04).mono ?_
          rintro e w6 ⟨rfl, hb6⟩
          have N6 := Lib.hid (N.out.below hb6)
          have Y6 := Lib.hid ((hb6.block _ (MM.blk_lt Y.out)).trans Y.out)
          have HB6 := Lib.hid (HB.out.trans (hb6.mono HB.out.size))
          clear hb6 N Y HB c0 c1 c2 c3 c4 c5 c6 c7 c8 c9 c10 c11 c12
          have c12 : w6.cell? ⟨w.heap.size, 12, none⟩ = some (.int .i64 m.due) := N6.out.c 12 _ rfl
          have c7 : w6.cell? ⟨w.heap.size, 7, none⟩ = some (.slice τ.A7 m.votes.length τ.k7) := N6.out.c 7 _ rfl
          have g12 : w6.frozen? ⟨w.heap.size, 12, none⟩ = false := N6.out.fr 12
          go_upto_region 16 with (fail)
          refine name_world (F := fun W => Hid (NB W w.heap.size w.heap.size { m with due := m.clock + 5 + 2 * m.id } τ υ) ∧ Hid (W.heap[w.heap.size + 1]? = some (.cells #[.int .i64 0, .int .i64 0, .int .i64 0, .slice none 0 0, .int .i64 0, .int .i64 0, .int .i64 0, .slice none 0 0, .slice none 0 0, .slice none 0 0, .slice none 0 0, .int .i64 0, .int .i64 0] 28 (0, 0))) ∧ Hid (Below w.heap.size w W)) _ ⟨Lib.hid (N6.out.set rfl ⟨rfl, rfl, rfl, rfl, rfl⟩), Lib.hid ((Below.heap_setCell _ _ _ _ (by show w.heap.size + 1 ≠ w.heap.size; omega)).trans Y6.out), Lib.hid (HB6.out.setCell (Nat.le_refl _) _)⟩ ?_
          clear N6 Y6 HB6 c12 c7 g12
          intro w7 ⟨N, Y, HB⟩
          obtain ⟨n2, hn2⟩ : ∃ x : Fed.Node, x = { m with due := m.clock + 5 + 2 * m.id } := ⟨_, rfl⟩
          rw [← hn2] at N
          have HEn2 := Lib.hid hn2
          clear hn2
          have e2 : n2 = standN n1 := by
            rw [HEn2.out, EI.out.1, EI.out.2.2.2, HM.out]
            unfold standAt standN
            rw [votesTo_all hi0' hi1']
          have HN2 := Lib.hid e2
          have EV2 := Lib.hid (show n2.votes.length = n1.votes.length by rw [e2]; simp [standN])
          have ef2 : n2.id = n1.id ∧ n2.log = n1.log ∧ n2.nxt = n1.nxt ∧ n2.mtch = n1.mtch := by rw [e2]; exact ⟨rfl, rfl, rfl, rfl⟩
          have EF2 := Lib.hid ef2
          have i20 : 0 ≤ n2.id := by rw [ef2.1]; exact hi0'
          have i21 : n2.id < n2.votes.length := by rw [ef2.1, EV2.out]; exact hi1'
          have g20 : n2.log.length ≤ 900000 := by rw [ef2.2.1]; exact l1'
          have g21 : n2.votes.length ≤ 1000 := by rw [EV2.out]; exact l2'
          have G22 := Lib.hid (show n2.nxt.length = n2.votes.length by rw [ef2.2.2.1, EV2.out]; exact L3'.out)
          have G23 := Lib.hid (show n2.mtch.length = n2.votes.length by rw [ef2.2.2.2, EV2.out]; exact L4'.out)
          have HS4 := Lib.hid (show s1 = if n2.votes.length = 1 then leadS ⟨n2, askMsgs n2 n2.votes.length⟩ else ⟨n2, askMsgs n2 n2.votes.length⟩ from by
            rw [HS3.out, EV2.out, HN2.out]
            unfold standS
            rfl)
          clear e2 ef2 HS3 HEn2 HM EI EV k01 k02 k03 k04
          have hs7 : w.heap.size + 1 < w7.heap.size := MM.blk_lt Y.out
          obtain ⟨c0, c1, c2, c3, c4, c5, c6, c7, c8, c9, c10, c11, c12⟩ := MM.cells13 N.out.blk
          by_cases h1 : n2.votes.length = 1
          · have h1b : ((n2.votes.length : Int) == 1) = true := by simp only [beq_iff_eq]; omega
            have ea : askMsgs n2 n2.votes.length = [] := by rw [h1]; exact askMsgs_one (by omega)
            have HS5 := Lib.hid (show s1 = ⟨leadsN n2, spreadMsgs (leadsN n2) n2.votes.length⟩ from by
              rw [HS4.out, if_pos h1, ea]
              rfl)
            clear ea
            clear HS4
            go_upto_region 17 with (fail)
            clear h1 h1b
            go_wp2_with fail
            refine (rleads_any _ w.heap.size n2 τ υ N.out.rows (by omega) (by omega) g21 G22.out G23.out i20 i21).mono ?_
            rintro e w8 ⟨τ2, υ2, As, cs, os, rfl, hn8, ho8, hb8, hk8⟩
            have Y8 := Lib.hid (hk8.blk Y.out (by decide) (by decide))
            have HB8 := Lib.hid (HB.out.trans hb8)
            have HN8 := Lib.hid hn8
            have HO8 := Lib.hid ho8
            clear hn8 ho8 hb8 hk8
            obtain ⟨y0, y1, y2, y3, y4, y5, y6, y7, y8, y9, y10, y11, y12⟩ := MM.cells13 Y8.out
            obtain ⟨z0, z1, z2, z3, z4, z5, z6, z7, z8, z9, z10, z11, z12⟩ := MM.frees13 Y8.out
            go_wp2_with fail
            refine name_world (F := fun W => Hid (W.heap[w.heap.size + 1]? = some (.cells #[.int .i64 (leadsN n2).id, .int .i64 (leadsN n2).term, .int .i64 (leadsN n2).vote, .slice τ2.A3 (leadsN n2).log.length τ2.k3, .int .i64 (leadsN n2).form, .int .i64 (leadsN n2).role, .int .i64 (leadsN n2).commit, .slice τ2.A7 (leadsN n2).votes.length τ2.k7, .slice τ2.A8 (leadsN n2).nxt.length τ2.k8, .slice τ2.A9 (leadsN n2).mtch.length τ2.k9, .slice τ2.A10 (leadsN n2).forms.length τ2.k10, .int .i64 (leadsN n2).clock, .int .i64 (leadsN n2).due] 28 (0, 0))) ∧ Hid (NodeOs W w.heap.size (leadsN n2) τ2 υ2) ∧ Hid (Below w.heap.size w W) ∧ Hid (OutAt W w.heap.size (.slice As (spreadMsgs (leadsN n2) n2.votes.length).length cs) (spreadMsgs (leadsN n2) n2.votes.length) os)) _ ⟨Lib.hid ((set13 Y8.out).trans rfl), Lib.hid (HN8.out.types (fun k t hk ht' => far13 (ty_ne hk ⟨_, _, Y8.out⟩ (by rcases ht' with rfl | rfl | rfl <;> decide)))), Lib.hid (below13 HB8.out (by omega)), Lib.hid (HO8.out.types (fun k t hk ht' => far13 (ty_ne hk ⟨_, _, Y8.out⟩ (by rcases ht' with rfl | rfl <;> decide))))⟩ ?_
            intro wf ⟨Y9, N9, B9, O9⟩
            obtain ⟨u0, u1, u2, u3, u4, u5, u6, u7, u8, u9, u10, u11, u12⟩ := MM.cells13 Y9.out
            refine bodyPost_ret (v := .tuple #[.agg #[.int .i64 (leadsN n2).id, .int .i64 (leadsN n2).term, .int .i64 (leadsN n2).vote, .slice τ2.A3 (leadsN n2).log.length τ2.k3, .int .i64 (leadsN n2).form, .int .i64 (leadsN n2).role, .int .i64 (leadsN n2).commit, .slice τ2.A7 (leadsN n2).votes.length τ2.k7, .slice τ2.A8 (leadsN n2).nxt.length τ2.k8, .slice τ2.A9 (leadsN n2).mtch.length τ2.k9, .slice τ2.A10 (leadsN n2).forms.length τ2.k10, .int .i64 (leadsN n2).clock, .int .i64 (leadsN n2).due], .slice As (spreadMsgs (leadsN n2) n2.votes.length).length cs]) (by simp [results, Try.results70, go_sem, u0, u1, u2, u3, u4, u5, u6, u7, u8, u9, u10, u11, u12]) rfl ?_
            rw [HS5.out]
            exact ⟨τ2, As, cs, rfl, N9.out.toV, O9.out.toV, B9.out⟩
          · have h1b : ((n2.votes.length : Int) == 1) = false := by simp only [beq_eq_false_iff_ne, ne_eq]; omega
            have HS5 := Lib.hid (HS4.out.trans (if_neg h1))
            clear h1 HS4
            go_upto_region 18 with (fail)
            clear h1b
            have X := Lib.hid N.out.blk
            have R := Lib.hid N.out.rows
            clear N c0 c1 c2 c3 c4 c5 c6 c7 c8 c9 c10 c11 c12
            go_wp2_with fail
            go_loopw [5, 6] (fun t5 t6 wr => ∃ (i : Nat) (A : Option Addr) (c : Nat) (ob : Option Nat), i ≤ n2.votes.length ∧ t5 = .slice A (askMsgs n2 i).length c ∧ t6 = .int .i64 i ∧ Hid (wr.heap[w.heap.size]? = some (.cells #[.int .i64 n2.id, .int .i64 n2.term, .int .i64 n2.vote, .slice τ.A3 n2.log.length τ.k3, .int .i64 n2.form, .int .i64 n2.role, .int .i64 n2.commit, .slice τ.A7 n2.votes.length τ.k7, .slice τ.A8 n2.nxt.length τ.k8, .slice τ.A9 n2.mtch.length τ.k9, .slice τ.A10 n2.forms.length τ.k10, .int .i64 n2.clock, .int .i64 n2.due] 28 (0, 0))) ∧ Hid (wr.heap[w.heap.size + 1]? = some (.cells #[.int .i64 0, .int .i64 0, .int .i64 0, .slice none 0 0, .int .i64 0, .int .i64 0, .int .i64 0, .slice none 0 0, .slice none 0 0, .slice none 0 0, .slice none 0 0, .int .i64 0, .int .i64 0] 28 (0, 0))) ∧ Hid (NodeOs wr w.heap.size n2 τ υ) ∧ Hid (OutAt wr w.heap.size (.slice A (askMsgs n2 i).length c) (askMsgs n2 i) ob) ∧ Hid (Below w.heap.size w wr)) (fun _ t6 _ => n2.votes.length - (intOf t6).toNat)
            case atStart => exact ⟨0, none, 0, none, by omega, rfl, rfl, X, Y, R, Lib.hid (OutAt.nil _ _ _), HB⟩
            case round =>
              obtain ⟨i, A, c, ob, hi, rfl, rfl, X, Y, R, O, HB⟩ := hrel
              have hsp := askMsgs_le n2 i
              have hsx : w.heap.size + 1 < wr.heap.size := MM.blk_lt Y.out
              have hsx0 : w.heap.size < wr.heap.size := by omega
              obtain ⟨c0, c1, c2, c3, c4, c5, c6, c7, c8, c9, c10, c11, c12⟩ := MM.cells13 X.out
              by_cases hlt : i < n2.votes.length
              · have hltb : decide ((i : Int) < (n2.votes.length : Int)) = true := decide_eq_true (by omega)
                by_cases hne : (i : Int) = n2.id
                · have hneb : ((i : Int) != n2.id) = false := by simpa using hne
                  have HNE := Lib.hid hne
                  clear hne
                  go_wp2_with fail
                  go_roundw
                  case rel => exact ⟨i + 1, A, c, ob, by omega, by rw [askMsgs_skip HNE.out], by go_num, X, Y, R, Lib.hid (by rw [askMsgs_skip HNE.out]; exact O.out), HB⟩
                  case measure => simp [intOf]; omega
                · have hneb : ((i : Int) != n2.id) = true := by simpa using hne
                  have HNE := Lib.hid hne
                  clear hne
                  go_wp2_with fail
                  refine Go.RT.wp_region_tree [0, 0, 2, 0, 0, 16, 0, 64, 192, 0, 0, 1024, 3072, 7680, 16382, 32766, 65535, 131071] (.p 0 (.p 1 (.s 2 (.p 3 (.p 4 (.s 5 (.p 6 (.s 7 (.p 8 (.s 9 (.p 10 (.s 11 (.p 12 (.w 13 [2, 5, 7] (.p 14 (.w 15 [] (.w 16 [] (.w 17 [] .nil .stop) .stop) .stop)) .stop)))))))))))))) (by kernel_rfl) (by kernel_rfl) ?_
                  repeat (first | (refine Go.RT.step_p rfl (fun K hK => ?_); go_simp; refine hK _ ?_; clear hK K) | (refine Go.RT.step_s rfl (fun K hK => ?_); go_simp; refine hK _ ?_; clear hK K))
                  (refine Go.RT.step_w rfl rfl (fun K hK => ?_) Go.RT.step_stop)
                  go_wp2_with fail
                  refine (rterm_any _ _ n2.log _ _ _ _ _ _ _ _ _ _ _ _ τ.A3 τ.k3 (n2.log.length : Int) (by omega) (by omega) R.out.drew.toV.hl).mono ?_
                  rintro e w8 ⟨rfl, hb8⟩
                  have X8 := Lib.hid ((hb8.block _ (MM.blk_lt X.out)).trans X.out)
                  have Y8 := Lib.hid ((hb8.block _ (MM.blk_lt Y.out)).trans Y.out)
                  have R8 := Lib.hid (R.out.drew.below hb8)
                  have O8 := Lib.hid (O.out.drew.below hb8)
                  have HB8 := Lib.hid (HB.out.drew.trans (hb8.mono HB.out.size))
                  clear hb8
                  have cx0 : w8.cell? ⟨w.heap.size, 0, none⟩ = some (.int .i64 n2.id) := MM.cell_blk X8.out rfl
                  have cx1 : w8.cell? ⟨w.heap.size, 1, none⟩ = some (.int .i64 n2.term) := MM.cell_blk X8.out rfl
                  have cx3 : w8.cell? ⟨w.heap.size, 3, none⟩ = some (.slice τ.A3 n2.log.length τ.k3) := MM.cell_blk X8.out rfl
                  go_wp2_with fail
                  refine Go.RT.QK_normal _ _ _ _ (hK _ _ ?_ ?_) <;> clear hK K
                  · repeat (first | exact Go.RT.again_nil | (refine Go.RT.again_not rfl rfl ?_) | (refine Go.RT.again_one rfl (by go_simp <;> rfl) ?_))
                  repeat (first | (refine Go.RT.step_p rfl (fun K hK => ?_); go_simp; refine hK _ ?_; clear hK K) | (refine Go.RT.step_s rfl (fun K hK => ?_); go_simp; refine hK _ ?_; clear hK K))
                  (refine Go.RT.step_w rfl rfl (fun K hK => ?_) Go.RT.step_stop)
                  go_wp2
                  refine Go.RT.QK_normal _ _ _ _ (hK _ _ ?_ ?_) <;> clear hK K
                  · repeat (first | exact Go.RT.again_nil | (refine Go.RT.again_not rfl rfl ?_) | (refine Go.RT.again_one rfl (by go_simp <;> rfl) ?_))
                  (refine Go.RT.step_w rfl rfl (fun K hK => ?_) Go.RT.step_stop)
                  refine append_msg _ rfl (.tmp 75) (.tmp 90) rfl rfl w.heap.size _ _ ob rfl (O8.out.below ((Below.refl _ _).alloc (Nat.le_refl _) _)) w8.heap.size (voteMsg n2 i) none 0 rfl (MM.alloc_new _ _) (MM.Rd.nil _ _ _ _ _ (by simp [maxLen])) (by omega) (by have := HB8.out.size; simp; omega) ?_
                  intro A9 c9 w9 ob9 ho9 hk9 hbl9
                  have al : ∀ k, k < w8.heap.size → (w8.alloc (.cells #[.int .i64 1, .int .i64 n2.id, .int .i64 i, .int .i64 n2.term, .int .i64 n2.log.length, .int .i64 (termAt n2.log n2.log.length), .bool false, .slice none 0 0, .int .i64 0, .int .i64 0] 34 (0, 0))).heap[k]? = w8.heap[k]? := fun k hk => Below.heap_alloc _ _ k hk
                  have X9 := Lib.hid ((hk9 _ 28 ⟨_, _, (al _ (MM.blk_lt X8.out)).trans X8.out⟩ (by decide)).trans ((al _ (MM.blk_lt X8.out)).trans X8.out))
                  have Y9 := Lib.hid ((hk9 _ 28 ⟨_, _, (al _ (MM.blk_lt Y8.out)).trans Y8.out⟩ (by decide)).trans ((al _ (MM.blk_lt Y8.out)).trans Y8.out))
                  have R9 := Lib.hid ((R8.out.alloc _).types (fun k t hk ht => hk9 k t hk (by rcases ht with rfl | rfl | rfl <;> decide)))
                  have O9 := Lib.hid ho9
                  have HB9 := Lib.hid ((HB8.out.alloc HB8.out.size _).trans hbl9)
                  clear ho9 hk9 hbl9 al
                  go_wp2_with fail
                  refine Go.RT.QK_normal _ _ _ _ (hK _ _ ?_ ?_) <;> clear hK K
                  · repeat (first | exact Go.RT.again_nil | (refine Go.RT.again_not rfl rfl ?_) | (refine Go.RT.again_one rfl (by go_simp <;> rfl) ?_))
                  (refine Go.RT.step_w rfl rfl (fun K hK => ?_) Go.RT.step_stop)
                  go_wp2
                  refine Go.RT.QK_normal _ _ _ _ (hK _ _ ?_ ?_) <;> clear hK K
                  · repeat (first | exact Go.RT.again_nil | (refine Go.RT.again_not rfl rfl ?_) | (refine Go.RT.again_one rfl (by go_simp <;> rfl) ?_))
                  refine Go.RT.step_nil ?_
                  go_wp2_with fail
                  go_roundw
                  case rel => exact ⟨i + 1, A9, c9, ob9, by omega, by rw [askMsgs_step HNE.out, List.length_append]; rfl, by go_num, X9, Y9, R9, Lib.hid (by rw [askMsgs_step HNE.out, List.length_append]; exact O9.out), HB9⟩
                  case measure => simp [intOf]; omega
              · obtain rfl : i = n2.votes.length := by omega
                have hltb : decide ((n2.votes.length : Int) < (n2.votes.length : Int)) = false := by simp
                clear hlt
                obtain ⟨y0, y1, y2, y3, y4, y5, y6, y7, y8, y9, y10, y11, y12⟩ := MM.cells13 Y.out
                obtain ⟨z0, z1, z2, z3, z4, z5, z6, z7, z8, z9, z10, z11, z12⟩ := MM.frees13 Y.out
                go_wp2_with fail
                refine name_world (F := fun W => Hid (W.heap[w.heap.size + 1]? = some (.cells #[.int .i64 n2.id, .int .i64 n2.term, .int .i64 n2.vote, .slice τ.A3 n2.log.length τ.k3, .int .i64 n2.form, .int .i64 n2.role, .int .i64 n2.commit, .slice τ.A7 n2.votes.length τ.k7, .slice τ.A8 n2.nxt.length τ.k8, .slice τ.A9 n2.mtch.length τ.k9, .slice τ.A10 n2.forms.length τ.k10, .int .i64 n2.clock, .int .i64 n2.due] 28 (0, 0))) ∧ Hid (NodeOs W w.heap.size n2 τ υ) ∧ Hid (Below w.heap.size w W) ∧ Hid (OutAt W w.heap.size (.slice A (askMsgs n2 n2.votes.length).length c) (askMsgs n2 n2.votes.length) ob)) _ ⟨Lib.hid ((set13 Y.out).trans rfl), Lib.hid (R.out.types (fun k t hk ht' => far13 (ty_ne hk ⟨_, _, Y.out⟩ (by rcases ht' with rfl | rfl | rfl <;> decide)))), Lib.hid (below13 HB.out (by omega)), Lib.hid (O.out.types (fun k t hk ht' => far13 (ty_ne hk ⟨_, _, Y.out⟩ (by rcases ht' with rfl | rfl <;> decide))))⟩ ?_
                intro wf ⟨Y9, N9, B9, O9⟩
                obtain ⟨u0, u1, u2, u3, u4, u5, u6, u7, u8, u9, u10, u11, u12⟩ := MM.cells13 Y9.out
                refine bodyPost_ret (v := .tuple #[.agg #[.int .i64 n2.id, .int .i64 n2.term, .int .i64 n2.vote, .slice τ.A3 n2.log.length τ.k3, .int .i64 n2.form, .int .i64 n2.role, .int .i64 n2.commit, .slice τ.A7 n2.votes.length τ.k7, .slice τ.A8 n2.nxt.length τ.k8, .slice τ.A9 n2.mtch.length τ.k9, .slice τ.A10 n2.forms.length τ.k10, .int .i64 n2.clock, .int .i64 n2.due], .slice A (askMsgs n2 n2.votes.length).length c]) (by simp [results, Try.results70, go_sem, u0, u1, u2, u3, u4, u5, u6, u7, u8, u9, u10, u11, u12]) rfl ?_
                rw [HS5.out]
                exact ⟨τ, A, c, rfl, N9.out.toV, O9.out.toV, B9.out⟩

end Go.Proofs.Ytnkmljdkokcdjaa
