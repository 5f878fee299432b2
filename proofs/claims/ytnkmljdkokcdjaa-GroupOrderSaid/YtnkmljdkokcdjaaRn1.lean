/-
  The document's entries and own copy rows. Conditions: the lengths are bounded as the theorems say.
-/
import Derived.WalkKit
import Derived.WalkSpells
import Derived.Lib.Hide
import Derived.Outline
import Derived.Test.YtnkmljdkokcdjaaChecked
import Derived.Test.YtnkmljdkokcdjaaMn
import Derived.Test.YtnkmljdkokcdjaaMem
import Derived.Test.YtnkmljdkokcdjaaFed
import Derived.Test.YtnkmljdkokcdjaaRn0
import Derived.Test.YtnkmljdkokcdjaaClone
import Derived.Test.YtnkmljdkokcdjaaRe0
import Derived.Deep.DeepCutAuto
import Derived.Deep.CutBlock
import Derived.Deep.OwnRows
import Derived.IntWalk
set_option linter.unusedVariables false
set_option linter.unusedSimpArgs false
namespace Go.Proofs.Ytnkmljdkokcdjaa
open Go.RowKit Fed
set_option linter.unusedVariables false
attribute [local go_sem high] Fed.max2_int Fed.min2_int

set_option maxRecDepth 100000 in
set_option maxHeartbeats 4000000 in
theorem rentries (w : World) (ok : Nat → Prop) (A : Option Addr) (c n : Nat) (xs : List Value) (h : MM.Rd w ok 2 (.slice A n c) n xs) (h1 : ∀ u ∈ xs, u.oneCell' = true) (hn : n * 24 ≤ 140737488355328) :
    Calls Try.prog 118 #[.slice A n c] w fun e w' => ∃ A' c' ob, e = .returned (.slice A' n c') ∧ MM.Row w' w.heap.size 40 2 (.slice A' n c') n xs ob ∧ Below w.heap.size w w' := by
  obtain ⟨i0, hi, hz0, hz1, hz2⟩ := info_parts info40
  have hmax : 0 + n ≤ maxLen := by obtain ⟨_, _, _, _, q1, q2, _⟩ := h; omega
  have hby : (0 + n) * 24 ≤ 140737488355328 := by omega
  have H := Lib.hid h
  have H1 := Lib.hid h1
  clear h h1 hn
  go_enter Try.func118, Try.ntmps118
  go_wp2_with (at_builtin; refine MM.wpList_append_row _ rfl (.tmp 3) (.tmp 4) 24 rfl w.heap.size 40 i0 (.agg #[.int .i64 0, .string ByteArray.empty]) 2 24 Try.underlying24 hi hz0 hz1 hz2 rfl (by decide) _ 0 [] none rfl (MM.Row.nil _ _ _ _ _) ok _ n xs rfl ?_ H1.out hmax hby ?_ ?_)
  · exact H.out.alloc _
  · simp
  · intro v' w' ob' hr hg _
    obtain ⟨A', c', rfl, _, _⟩ := hr.slice
    go_wp2
    go_ret
    exact ⟨A', c', ob', rfl, hr, ((Below.refl _ _).alloc (Nat.le_refl _) _).grown hg (by simp) (by simp)⟩
set_option maxRecDepth 100000 in
set_option maxHeartbeats 4000000 in
theorem rown_any (w : World) (ok : Nat → Prop) (n : Fed.Node) (σ : Sl5) (h : NodeVs w ok n σ) (l1 : n.log.length ≤ 1000000) (l2 : n.votes.length ≤ 1000000) (l3 : n.nxt.length ≤ 1000000) (l4 : n.mtch.length ≤ 1000000) (l5 : n.forms.length ≤ 1000000) :
    Calls Try.prog 109 #[.agg #[.int .i64 n.id, .int .i64 n.term, .int .i64 n.vote, .slice σ.A3 n.log.length σ.k3, .int .i64 n.form, .int .i64 n.role, .int .i64 n.commit, .slice σ.A7 n.votes.length σ.k7, .slice σ.A8 n.nxt.length σ.k8, .slice σ.A9 n.mtch.length σ.k9, .slice σ.A10 n.forms.length σ.k10, .int .i64 n.clock, .int .i64 n.due]] w fun e w' => ∃ (τ : Sl5) (ω : O5), e = .returned (.agg #[.int .i64 n.id, .int .i64 n.term, .int .i64 n.vote, .slice τ.A3 n.log.length τ.k3, .int .i64 n.form, .int .i64 n.role, .int .i64 n.commit, .slice τ.A7 n.votes.length τ.k7, .slice τ.A8 n.nxt.length τ.k8, .slice τ.A9 n.mtch.length τ.k9, .slice τ.A10 n.forms.length τ.k10, .int .i64 n.clock, .int .i64 n.due]) ∧ NodeOs w' w.heap.size n τ ω ∧ Below w.heap.size w w' := by
  obtain ⟨i4, hi4, hz40, hz41, hz42⟩ := info_parts info4
  obtain ⟨i3, hi3, hz30, hz31, hz32⟩ := info_parts info3
  have H := Lib.hid (h.mono (ok' := fun k => k < w.heap.size) (fun k _ hk => hk))
  clear h
  go_enter Try.func109, Try.ntmps109
  go_upto_region 1 with (fail)
  refine name_world (F := fun W => Hid (W.heap[w.heap.size]? = some (.cells #[.int .i64 n.id, .int .i64 n.term, .int .i64 n.vote, .slice σ.A3 n.log.length σ.k3, .int .i64 n.form, .int .i64 n.role, .int .i64 n.commit, .slice σ.A7 n.votes.length σ.k7, .slice σ.A8 n.nxt.length σ.k8, .slice σ.A9 n.mtch.length σ.k9, .slice σ.A10 n.forms.length σ.k10, .int .i64 n.clock, .int .i64 n.due] 28 (0, 0))) ∧ Hid (W.heap[w.heap.size + 1]? = some (.cells #[.int .i64 0, .int .i64 0, .int .i64 0, .slice none 0 0, .int .i64 0, .int .i64 0, .int .i64 0, .slice none 0 0, .slice none 0 0, .slice none 0 0, .slice none 0 0, .int .i64 0, .int .i64 0] 28 (0, 0))) ∧ Hid (NodeVs W (fun k => k < w.heap.size) n σ) ∧ Hid (Below w.heap.size w W)) _ ⟨Lib.hid ((Below.heap_alloc _ _ _ (by simp)).trans (MM.alloc_new w _)), Lib.hid (MM.alloc_new1 w _ _), Lib.hid (H.out.step (fun k hk _ => (Below.heap_alloc _ _ k (by simp; omega)).trans (Below.heap_alloc w _ k hk))), Lib.hid (((Below.refl _ w).alloc (Nat.le_refl _) _).alloc (by simp) _)⟩ ?_
  clear H
  intro w1 ⟨X, Y, V, HB⟩
  have s0 : w.heap.size < w1.heap.size := by have := MM.blk_lt Y.out; omega
  have t0 : w.heap.size + 2 ≤ w1.heap.size := by have := MM.blk_lt Y.out; omega
  have c3 : w1.cell? ⟨w.heap.size, 3, none⟩ = some (.slice σ.A3 n.log.length σ.k3) := MM.cell_blk X.out rfl
  have g3 : w1.frozen? ⟨w.heap.size, 3, none⟩ = false := MM.free_blk X.out
  go_wp2_with fail
  refine (rentries _ _ _ _ _ _ V.out.hl (entsC_one _) (by omega)).mono ?_
  rintro e v1 ⟨a3, p3, o3, rfl, hr, hb⟩
  have X1 := Lib.hid ((hb.block _ (MM.blk_lt X.out)).trans X.out)
  have Y1 := Lib.hid ((hb.block _ (MM.blk_lt Y.out)).trans Y.out)
  have HR := Lib.hid hr
  have HBB := Lib.hid hb
  clear hr hb c3 g3
  have g3 : v1.frozen? ⟨w.heap.size, 3, none⟩ = false := MM.free_blk X1.out
  have c3' : v1.cell? ⟨w.heap.size, 3, none⟩ = some (.slice σ.A3 n.log.length σ.k3) := MM.cell_blk X1.out rfl
  go_upto_region 2 with (fail)
  refine name_world (F := fun W => Hid (W.heap[w.heap.size]? = some (.cells #[.int .i64 n.id, .int .i64 n.term, .int .i64 n.vote, .slice a3 n.log.length p3, .int .i64 n.form, .int .i64 n.role, .int .i64 n.commit, .slice σ.A7 n.votes.length σ.k7, .slice σ.A8 n.nxt.length σ.k8, .slice σ.A9 n.mtch.length σ.k9, .slice σ.A10 n.forms.length σ.k10, .int .i64 n.clock, .int .i64 n.due] 28 (0, 0))) ∧ Hid (W.heap[w.heap.size + 1]? = some (.cells #[.int .i64 0, .int .i64 0, .int .i64 0, .slice none 0 0, .int .i64 0, .int .i64 0, .int .i64 0, .slice none 0 0, .slice none 0 0, .slice none 0 0, .slice none 0 0, .int .i64 0, .int .i64 0] 28 (0, 0))) ∧ Hid (NodeVs W (fun k => k < w.heap.size) n σ) ∧ Hid (Below w.heap.size w W) ∧ Hid (MM.Row W w1.heap.size 40 2 (.slice a3 n.log.length p3) n.log.length (entsC n.log) o3) ∧ Hid (∀ k, o3 = some k → k < W.heap.size) ∧ Hid (w1.heap.size ≤ W.heap.size)) _ ⟨Lib.hid ((setCell_blk _ X1.out).trans rfl), Lib.hid ((Below.heap_setCell _ _ _ _ (by show w.heap.size + 1 ≠ w.heap.size; omega)).trans Y1.out), Lib.hid (V.out.step (fun k hk hlt => (Below.heap_setCell _ _ _ k (by show k ≠ w.heap.size; omega)).trans (HBB.out.block k hlt))), Lib.hid ((HB.out.trans (HBB.out.mono (by omega))).setCell (Nat.le_refl _) _), Lib.hid (HR.out.far (fun k hk => by have := (HR.out.lt k hk).1; show k ≠ w.heap.size; omega) _), Lib.hid (fun k hk => by have := (HR.out.lt k hk).2; simpa [World.setCell] using this), Lib.hid (by have := HBB.out.size; simpa [World.setCell] using this)⟩ ?_
  clear X1 Y1 HR c3' g3
  intro w2 ⟨X, Y, V, HB, R3, L3, Z3⟩
  have s1 : w.heap.size < w2.heap.size := by have := MM.blk_lt Y.out; omega
  have t1 : w.heap.size + 2 ≤ w2.heap.size := by have := MM.blk_lt Y.out; omega
  have c7 : w2.cell? ⟨w.heap.size, 7, none⟩ = some (.slice σ.A7 n.votes.length σ.k7) := MM.cell_blk X.out rfl
  have g7 : w2.frozen? ⟨w.heap.size, 7, none⟩ = false := MM.free_blk X.out
  go_wp2_with (at_builtin; refine MM.wpList_append_row _ rfl (.tmp 7) (.tmp 9) 25 rfl w2.heap.size 4 i4 (.bool false) 1 1 Try.underlying25 hi4 hz40 hz41 hz42 rfl (by decide) _ 0 [] none rfl (MM.Row.nil _ _ _ _ _) _ _ n.votes.length (boolsC n.votes) rfl (V.out.hv.alloc _) (boolsC_one _) (by unfold maxLen; omega) (by omega) (by simp) ?_)
  intro v' v1 o7 hr hg _
  obtain ⟨a7, p7, rfl, _, _⟩ := hr.slice
  have hb := (((Below.refl _ w2).alloc (Nat.le_refl _) _).grown hg (by simp) (by simp) : Below w2.heap.size w2 v1)
  have X1 := Lib.hid ((hb.block _ (MM.blk_lt X.out)).trans X.out)
  have Y1 := Lib.hid ((hb.block _ (MM.blk_lt Y.out)).trans Y.out)
  have HR := Lib.hid hr
  have HBB := Lib.hid hb
  clear hr hb hg c7 g7
  have g7 : v1.frozen? ⟨w.heap.size, 7, none⟩ = false := MM.free_blk X1.out
  have c7' : v1.cell? ⟨w.heap.size, 7, none⟩ = some (.slice σ.A7 n.votes.length σ.k7) := MM.cell_blk X1.out rfl
  go_upto_region 3 with (fail)
  refine name_world (F := fun W => Hid (W.heap[w.heap.size]? = some (.cells #[.int .i64 n.id, .int .i64 n.term, .int .i64 n.vote, .slice a3 n.log.length p3, .int .i64 n.form, .int .i64 n.role, .int .i64 n.commit, .slice a7 n.votes.length p7, .slice σ.A8 n.nxt.length σ.k8, .slice σ.A9 n.mtch.length σ.k9, .slice σ.A10 n.forms.length σ.k10, .int .i64 n.clock, .int .i64 n.due] 28 (0, 0))) ∧ Hid (W.heap[w.heap.size + 1]? = some (.cells #[.int .i64 0, .int .i64 0, .int .i64 0, .slice none 0 0, .int .i64 0, .int .i64 0, .int .i64 0, .slice none 0 0, .slice none 0 0, .slice none 0 0, .slice none 0 0, .int .i64 0, .int .i64 0] 28 (0, 0))) ∧ Hid (NodeVs W (fun k => k < w.heap.size) n σ) ∧ Hid (Below w.heap.size w W) ∧ Hid (MM.Row W w1.heap.size 40 2 (.slice a3 n.log.length p3) n.log.length (entsC n.log) o3) ∧ Hid (MM.Row W w2.heap.size 4 1 (.slice a7 n.votes.length p7) n.votes.length (boolsC n.votes) o7) ∧ Hid (∀ k, o7 = some k → k < W.heap.size) ∧ Hid (w2.heap.size ≤ W.heap.size)) _ ⟨Lib.hid ((setCell_blk _ X1.out).trans rfl), Lib.hid ((Below.heap_setCell _ _ _ _ (by show w.heap.size + 1 ≠ w.heap.size; omega)).trans Y1.out), Lib.hid (V.out.step (fun k hk hlt => (Below.heap_setCell _ _ _ k (by show k ≠ w.heap.size; omega)).trans (HBB.out.block k hlt))), Lib.hid ((HB.out.trans (HBB.out.mono (by omega))).setCell (Nat.le_refl _) _), Lib.hid ((R3.out.below HBB.out).far (fun k hk => by have := (R3.out.lt k hk).1; show k ≠ w.heap.size; omega) _), Lib.hid (HR.out.far (fun k hk => by have := (HR.out.lt k hk).1; show k ≠ w.heap.size; omega) _), Lib.hid (fun k hk => by have := (HR.out.lt k hk).2; simpa [World.setCell] using this), Lib.hid (by have := HBB.out.size; simpa [World.setCell] using this)⟩ ?_
  clear X1 Y1 HR c7' g7
  intro w3 ⟨X, Y, V, HB, R3, R7, L7, Z7⟩
  have s2 : w.heap.size < w3.heap.size := by have := MM.blk_lt Y.out; omega
  have t2 : w.heap.size + 2 ≤ w3.heap.size := by have := MM.blk_lt Y.out; omega
  have c8 : w3.cell? ⟨w.heap.size, 8, none⟩ = some (.slice σ.A8 n.nxt.length σ.k8) := MM.cell_blk X.out rfl
  have g8 : w3.frozen? ⟨w.heap.size, 8, none⟩ = false := MM.free_blk X.out
  go_wp2_with (at_builtin; refine MM.wpList_append_row _ rfl (.tmp 12) (.tmp 14) 26 rfl w3.heap.size 3 i3 (.int .i64 0) 1 8 Try.underlying26 hi3 hz30 hz31 hz32 rfl (by decide) _ 0 [] none rfl (MM.Row.nil _ _ _ _ _) _ _ n.nxt.length (intsC n.nxt) rfl (V.out.hn.alloc _) (intsC_one _) (by unfold maxLen; omega) (by omega) (by simp) ?_)
  intro v' v1 o8 hr hg _
  obtain ⟨a8, p8, rfl, _, _⟩ := hr.slice
  have hb := (((Below.refl _ w3).alloc (Nat.le_refl _) _).grown hg (by simp) (by simp) : Below w3.heap.size w3 v1)
  have X1 := Lib.hid ((hb.block _ (MM.blk_lt X.out)).trans X.out)
  have Y1 := Lib.hid ((hb.block _ (MM.blk_lt Y.out)).trans Y.out)
  have HR := Lib.hid hr
  have HBB := Lib.hid hb
  clear hr hb hg c8 g8
  have g8 : v1.frozen? ⟨w.heap.size, 8, none⟩ = false := MM.free_blk X1.out
  have c8' : v1.cell? ⟨w.heap.size, 8, none⟩ = some (.slice σ.A8 n.nxt.length σ.k8) := MM.cell_blk X1.out rfl
  go_upto_region 4 with (fail)
  refine name_world (F := fun W => Hid (W.heap[w.heap.size]? = some (.cells #[.int .i64 n.id, .int .i64 n.term, .int .i64 n.vote, .slice a3 n.log.length p3, .int .i64 n.form, .int .i64 n.role, .int .i64 n.commit, .slice a7 n.votes.length p7, .slice a8 n.nxt.length p8, .slice σ.A9 n.mtch.length σ.k9, .slice σ.A10 n.forms.length σ.k10, .int .i64 n.clock, .int .i64 n.due] 28 (0, 0))) ∧ Hid (W.heap[w.heap.size + 1]? = some (.cells #[.int .i64 0, .int .i64 0, .int .i64 0, .slice none 0 0, .int .i64 0, .int .i64 0, .int .i64 0, .slice none 0 0, .slice none 0 0, .slice none 0 0, .slice none 0 0, .int .i64 0, .int .i64 0] 28 (0, 0))) ∧ Hid (NodeVs W (fun k => k < w.heap.size) n σ) ∧ Hid (Below w.heap.size w W) ∧ Hid (MM.Row W w1.heap.size 40 2 (.slice a3 n.log.length p3) n.log.length (entsC n.log) o3) ∧ Hid (MM.Row W w2.heap.size 4 1 (.slice a7 n.votes.length p7) n.votes.length (boolsC n.votes) o7) ∧ Hid (MM.Row W w3.heap.size 3 1 (.slice a8 n.nxt.length p8) n.nxt.length (intsC n.nxt) o8) ∧ Hid (∀ k, o8 = some k → k < W.heap.size) ∧ Hid (w3.heap.size ≤ W.heap.size)) _ ⟨Lib.hid ((setCell_blk _ X1.out).trans rfl), Lib.hid ((Below.heap_setCell _ _ _ _ (by show w.heap.size + 1 ≠ w.heap.size; omega)).trans Y1.out), Lib.hid (V.out.step (fun k hk hlt => (Below.heap_setCell _ _ _ k (by show k ≠ w.heap.size; omega)).trans (HBB.out.block k hlt))), Lib.hid ((HB.out.trans (HBB.out.mono (by omega))).setCell (Nat.le_refl _) _), Lib.hid ((R3.out.below HBB.out).far (fun k hk => by have := (R3.out.lt k hk).1; show k ≠ w.heap.size; omega) _), Lib.hid ((R7.out.below HBB.out).far (fun k hk => by have := (R7.out.lt k hk).1; show k ≠ w.heap.size; omega) _), Lib.hid (HR.out.far (fun k hk => by have := (HR.out.lt k hk).1; show k ≠ w.heap.size; omega) _), Lib.hid (fun k hk => by have := (HR.out.lt k hk).2; simpa [World.setCell] using this), Lib.hid (by have := HBB.out.size; simpa [World.setCell] using this)⟩ ?_
  clear X1 Y1 HR c8' g8
  intro w4 ⟨X, Y, V, HB, R3, R7, R8, L8, Z8⟩
  have s3 : w.heap.size < w4.heap.size := by have := MM.blk_lt Y.out; omega
  have t3 : w.heap.size + 2 ≤ w4.heap.size := by have := MM.blk_lt Y.out; omega
  have c9 : w4.cell? ⟨w.heap.size, 9, none⟩ = some (.slice σ.A9 n.mtch.length σ.k9) := MM.cell_blk X.out rfl
  have g9 : w4.frozen? ⟨w.heap.size, 9, none⟩ = false := MM.free_blk X.out
  go_wp2_with (at_builtin; refine MM.wpList_append_row _ rfl (.tmp 17) (.tmp 19) 26 rfl w4.heap.size 3 i3 (.int .i64 0) 1 8 Try.underlying26 hi3 hz30 hz31 hz32 rfl (by decide) _ 0 [] none rfl (MM.Row.nil _ _ _ _ _) _ _ n.mtch.length (intsC n.mtch) rfl (V.out.hm.alloc _) (intsC_one _) (by unfold maxLen; omega) (by omega) (by simp) ?_)
  intro v' v1 o9 hr hg _
  obtain ⟨a9, p9, rfl, _, _⟩ := hr.slice
  have hb := (((Below.refl _ w4).alloc (Nat.le_refl _) _).grown hg (by simp) (by simp) : Below w4.heap.size w4 v1)
  have X1 := Lib.hid ((hb.block _ (MM.blk_lt X.out)).trans X.out)
  have Y1 := Lib.hid ((hb.block _ (MM.blk_lt Y.out)).trans Y.out)
  have HR := Lib.hid hr
  have HBB := Lib.hid hb
  clear hr hb hg c9 g9
  have g9 : v1.frozen? ⟨w.heap.size, 9, none⟩ = false := MM.free_blk X1.out
  have c9' : v1.cell? ⟨w.heap.size, 9, none⟩ = some (.slice σ.A9 n.mtch.length σ.k9) := MM.cell_blk X1.out rfl
  go_upto_region 5 with (fail)
  refine name_world (F := fun W => Hid (W.heap[w.heap.size]? = some (.cells #[.int .i64 n.id, .int .i64 n.term, .int .i64 n.vote, .slice a3 n.log.length p3, .int .i64 n.form, .int .i64 n.role, .int .i64 n.commit, .slice a7 n.votes.length p7, .slice a8 n.nxt.length p8, .slice a9 n.mtch.length p9, .slice σ.A10 n.forms.length σ.k10, .int .i64 n.clock, .int .i64 n.due] 28 (0, 0))) ∧ Hid (W.heap[w.heap.size + 1]? = some (.cells #[.int .i64 0, .int .i64 0, .int .i64 0, .slice none 0 0, .int .i64 0, .int .i64 0, .int .i64 0, .slice none 0 0, .slice none 0 0, .slice none 0 0, .slice none 0 0, .int .i64 0, .int .i64 0] 28 (0, 0))) ∧ Hid (NodeVs W (fun k => k < w.heap.size) n σ) ∧ Hid (Below w.heap.size w W) ∧ Hid (MM.Row W w1.heap.size 40 2 (.slice a3 n.log.length p3) n.log.length (entsC n.log) o3) ∧ Hid (MM.Row W w2.heap.size 4 1 (.slice a7 n.votes.length p7) n.votes.length (boolsC n.votes) o7) ∧ Hid (MM.Row W w3.heap.size 3 1 (.slice a8 n.nxt.length p8) n.nxt.length (intsC n.nxt) o8) ∧ Hid (MM.Row W w4.heap.size 3 1 (.slice a9 n.mtch.length p9) n.mtch.length (intsC n.mtch) o9) ∧ Hid (∀ k, o9 = some k → k < W.heap.size) ∧ Hid (w4.heap.size ≤ W.heap.size)) _ ⟨Lib.hid ((setCell_blk _ X1.out).trans rfl), Lib.hid ((Below.heap_setCell _ _ _ _ (by show w.heap.size + 1 ≠ w.heap.size; omega)).trans Y1.out), Lib.hid (V.out.step (fun k hk hlt => (Below.heap_setCell _ _ _ k (by show k ≠ w.heap.size; omega)).trans (HBB.out.block k hlt))), Lib.hid ((HB.out.trans (HBB.out.mono (by omega))).setCell (Nat.le_refl _) _), Lib.hid ((R3.out.below HBB.out).far (fun k hk => by have := (R3.out.lt k hk).1; show k ≠ w.heap.size; omega) _), Lib.hid ((R7.out.below HBB.out).far (fun k hk => by have := (R7.out.lt k hk).1; show k ≠ w.heap.size; omega) _), Lib.hid ((R8.out.below HBB.out).far (fun k hk => by have := (R8.out.lt k hk).1; show k ≠ w.heap.size; omega) _), Lib.hid (HR.out.far (fun k hk => by have := (HR.out.lt k hk).1; show k ≠ w.heap.size; omega) _), Lib.hid (fun k hk => by have := (HR.out.lt k hk).2; simpa [World.setCell] using this), Lib.hid (by have := HBB.out.size; simpa [World.setCell] using this)⟩ ?_
  clear X1 Y1 HR c9' g9
  intro w5 ⟨X, Y, V, HB, R3, R7, R8, R9, L9, Z9⟩
  have s4 : w.heap.size < w5.heap.size := by have := MM.blk_lt Y.out; omega
  have t4 : w.heap.size + 2 ≤ w5.heap.size := by have := MM.blk_lt Y.out; omega
  have c10 : w5.cell? ⟨w.heap.size, 10, none⟩ = some (.slice σ.A10 n.forms.length σ.k10) := MM.cell_blk X.out rfl
  have g10 : w5.frozen? ⟨w.heap.size, 10, none⟩ = false := MM.free_blk X.out
  go_wp2_with (at_builtin; refine MM.wpList_append_row _ rfl (.tmp 22) (.tmp 24) 26 rfl w5.heap.size 3 i3 (.int .i64 0) 1 8 Try.underlying26 hi3 hz30 hz31 hz32 rfl (by decide) _ 0 [] none rfl (MM.Row.nil _ _ _ _ _) _ _ n.forms.length (intsC n.forms) rfl (V.out.hf.alloc _) (intsC_one _) (by unfold maxLen; omega) (by omega) (by simp) ?_)
  intro v' v1 o10 hr hg _
  obtain ⟨a10, p10, rfl, _, _⟩ := hr.slice
  have hb := (((Below.refl _ w5).alloc (Nat.le_refl _) _).grown hg (by simp) (by simp) : Below w5.heap.size w5 v1)
  have X1 := Lib.hid ((hb.block _ (MM.blk_lt X.out)).trans X.out)
  have Y1 := Lib.hid ((hb.block _ (MM.blk_lt Y.out)).trans Y.out)
  have HR := Lib.hid hr
  have HBB := Lib.hid hb
  clear hr hb hg c10 g10
  have g10 : v1.frozen? ⟨w.heap.size, 10, none⟩ = false := MM.free_blk X1.out
  have c10' : v1.cell? ⟨w.heap.size, 10, none⟩ = some (.slice σ.A10 n.forms.length σ.k10) := MM.cell_blk X1.out rfl
  go_upto_region 6 with (fail)
  refine name_world (F := fun W => Hid (W.heap[w.heap.size]? = some (.cells #[.int .i64 n.id, .int .i64 n.term, .int .i64 n.vote, .slice a3 n.log.length p3, .int .i64 n.form, .int .i64 n.role, .int .i64 n.commit, .slice a7 n.votes.length p7, .slice a8 n.nxt.length p8, .slice a9 n.mtch.length p9, .slice a10 n.forms.length p10, .int .i64 n.clock, .int .i64 n.due] 28 (0, 0))) ∧ Hid (W.heap[w.heap.size + 1]? = some (.cells #[.int .i64 0, .int .i64 0, .int .i64 0, .slice none 0 0, .int .i64 0, .int .i64 0, .int .i64 0, .slice none 0 0, .slice none 0 0, .slice none 0 0, .slice none 0 0, .int .i64 0, .int .i64 0] 28 (0, 0))) ∧ Hid (NodeVs W (fun k => k < w.heap.size) n σ) ∧ Hid (Below w.heap.size w W) ∧ Hid (MM.Row W w1.heap.size 40 2 (.slice a3 n.log.length p3) n.log.length (entsC n.log) o3) ∧ Hid (MM.Row W w2.heap.size 4 1 (.slice a7 n.votes.length p7) n.votes.length (boolsC n.votes) o7) ∧ Hid (MM.Row W w3.heap.size 3 1 (.slice a8 n.nxt.length p8) n.nxt.length (intsC n.nxt) o8) ∧ Hid (MM.Row W w4.heap.size 3 1 (.slice a9 n.mtch.length p9) n.mtch.length (intsC n.mtch) o9) ∧ Hid (MM.Row W w5.heap.size 3 1 (.slice a10 n.forms.length p10) n.forms.length (intsC n.forms) o10) ∧ Hid (∀ k, o10 = some k → k < W.heap.size) ∧ Hid (w5.heap.size ≤ W.heap.size)) _ ⟨Lib.hid ((setCell_blk _ X1.out).trans rfl), Lib.hid ((Below.heap_setCell _ _ _ _ (by show w.heap.size + 1 ≠ w.heap.size; omega)).trans Y1.out), Lib.hid (V.out.step (fun k hk hlt => (Below.heap_setCell _ _ _ k (by show k ≠ w.heap.size; omega)).trans (HBB.out.block k hlt))), Lib.hid ((HB.out.trans (HBB.out.mono (by omega))).setCell (Nat.le_refl _) _), Lib.hid ((R3.out.below HBB.out).far (fun k hk => by have := (R3.out.lt k hk).1; show k ≠ w.heap.size; omega) _), Lib.hid ((R7.out.below HBB.out).far (fun k hk => by have := (R7.out.lt k hk).1; show k ≠ w.heap.size; omega) _), Lib.hid ((R8.out.below HBB.out).far (fun k hk => by have := (R8.out.lt k hk).1; show k ≠ w.heap.size; omega) _), Lib.hid ((R9.out.below HBB.out).far (fun k hk => by have := (R9.out.lt k hk).1; show k ≠ w.heap.size; omega) _), Lib.hid (HR.out.far (fun k hk => by have := (HR.out.lt k hk).1; show k ≠ w.heap.size; omega) _), Lib.hid (fun k hk => by have := (HR.out.lt k hk).2; simpa [World.setCell] using this), Lib.hid (by have := HBB.out.size; simpa [World.setCell] using this)⟩ ?_
  clear X1 Y1 HR c10' g10
  intro w6 ⟨X, Y, V, HB, R3, R7, R8, R9, R10, L10, Z10⟩
  obtain ⟨c0, c1, c2, c3, c4, c5, c6, c7, c8, c9, c10, c11, c12⟩ := MM.cells13 X.out
  obtain ⟨y0, y1, y2, y3, y4, y5, y6, y7, y8, y9, y10, y11, y12⟩ := MM.cells13 Y.out
  obtain ⟨z0, z1, z2, z3, z4, z5, z6, z7, z8, z9, z10, z11, z12⟩ := MM.frees13 Y.out
  go_wp2_with fail
  refine name_world (F := fun W => Hid (W.heap[w.heap.size + 1]? = some (.cells #[.int .i64 n.id, .int .i64 n.term, .int .i64 n.vote, .slice a3 n.log.length p3, .int .i64 n.form, .int .i64 n.role, .int .i64 n.commit, .slice a7 n.votes.length p7, .slice a8 n.nxt.length p8, .slice a9 n.mtch.length p9, .slice a10 n.forms.length p10, .int .i64 n.clock, .int .i64 n.due] 28 (0, 0))) ∧ Hid (Below w.heap.size w W) ∧ Hid (MM.Row W w1.heap.size 40 2 (.slice a3 n.log.length p3) n.log.length (entsC n.log) o3) ∧ Hid (MM.Row W w2.heap.size 4 1 (.slice a7 n.votes.length p7) n.votes.length (boolsC n.votes) o7) ∧ Hid (MM.Row W w3.heap.size 3 1 (.slice a8 n.nxt.length p8) n.nxt.length (intsC n.nxt) o8) ∧ Hid (MM.Row W w4.heap.size 3 1 (.slice a9 n.mtch.length p9) n.mtch.length (intsC n.mtch) o9) ∧ Hid (MM.Row W w5.heap.size 3 1 (.slice a10 n.forms.length p10) n.forms.length (intsC n.forms) o10)) _ ⟨Lib.hid ((set13 Y.out).trans rfl), Lib.hid (below13 HB.out (by omega)), Lib.hid (R3.out.step (fun k hk _ => far13 (by have := (R3.out.lt k hk).1; show k ≠ w.heap.size + 1; omega))), Lib.hid (R7.out.step (fun k hk _ => far13 (by have := (R7.out.lt k hk).1; show k ≠ w.heap.size + 1; omega))), Lib.hid (R8.out.step (fun k hk _ => far13 (by have := (R8.out.lt k hk).1; show k ≠ w.heap.size + 1; omega))), Lib.hid (R9.out.step (fun k hk _ => far13 (by have := (R9.out.lt k hk).1; show k ≠ w.heap.size + 1; omega))), Lib.hid (R10.out.step (fun k hk _ => far13 (by have := (R10.out.lt k hk).1; show k ≠ w.heap.size + 1; omega)))⟩ ?_
  clear X Y V HB
  intro wf ⟨Y2, HB2, R3f, R7f, R8f, R9f, R10f⟩
  obtain ⟨u0, u1, u2, u3, u4, u5, u6, u7, u8, u9, u10, u11, u12⟩ := MM.cells13 Y2.out
  refine bodyPost_ret (v := .agg #[.int .i64 n.id, .int .i64 n.term, .int .i64 n.vote, .slice a3 n.log.length p3, .int .i64 n.form, .int .i64 n.role, .int .i64 n.commit, .slice a7 n.votes.length p7, .slice a8 n.nxt.length p8, .slice a9 n.mtch.length p9, .slice a10 n.forms.length p10, .int .i64 n.clock, .int .i64 n.due]) (by simp [results, Try.results109, go_sem, u0, u1, u2, u3, u4, u5, u6, u7, u8, u9, u10, u11, u12]) rfl ⟨⟨a3, p3, a7, p7, a8, p8, a9, p9, a10, p10⟩, ⟨o3, o7, o8, o9, o10⟩, rfl, ⟨R3f.out.lower (by omega), R7f.out.lower (by omega), R8f.out.lower (by omega), R9f.out.lower (by omega), R10f.out.lower (by omega), ?_, ?_, ?_⟩, HB2.out⟩
  · intro k h1 h2
    have z9 := Z9.out
    have z10 := Z10.out
    have q1 := L8.out k h1
    have q2 := (R9.out.lt k h2).1
    omega
  · intro k h1 h2
    have z9 := Z9.out
    have z10 := Z10.out
    have q1 := L8.out k h1
    have q2 := (R10.out.lt k h2).1
    omega
  · intro k h1 h2
    have z9 := Z9.out
    have z10 := Z10.out
    have q1 := L9.out k h1
    have q2 := (R10.out.lt k h2).1
    omega

end Go.Proofs.Ytnkmljdkokcdjaa
