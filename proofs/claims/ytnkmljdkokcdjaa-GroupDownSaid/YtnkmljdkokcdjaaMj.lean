/-
  The document's Same and Msgs of the same nodes, the same messages: true.
-/
import Derived.WalkKit
import Derived.WalkSpells
import Derived.Lib.Hide
import Derived.Outline
import Derived.Test.YtnkmljdkokcdjaaChecked
import Derived.Test.YtnkmljdkokcdjaaMn
import Derived.Test.YtnkmljdkokcdjaaMem
import Derived.Test.YtnkmljdkokcdjaaFed
import Derived.Test.YtnkmljdkokcdjaaMl
import Derived.Test.YtnkmljdkokcdjaaRn0
import Derived.Deep.DeepCutAuto
import Derived.Deep.CutBlock
import Derived.Deep.OwnRows
import Derived.IntWalk
set_option linter.unusedVariables false
set_option linter.unusedSimpArgs false
namespace Go.Proofs.Ytnkmljdkokcdjaa
open Go.RowKit Fed
set_option linter.unusedVariables false
attribute [local go_sem high] Fed.max2_int Fed.min2_int

set_option maxRecDepth 100000 in
set_option maxHeartbeats 40000000 in
/-- The document's Same of two nodes that are the same. -/
theorem rsame_any (w : World) (ok ok2 : Nat → Prop) (n : Fed.Node) (σ τ : Sl5) (h : NodeVs w ok n σ) (h2 : NodeVs w ok2 n τ) (l1 : n.log.length ≤ 1000000) (l2 : n.votes.length ≤ 1000) (l3 : n.nxt.length = n.votes.length) (l4 : n.mtch.length = n.votes.length) (l5 : n.forms.length = n.votes.length) :
    Calls Try.prog 33 #[.agg #[.int .i64 n.id, .int .i64 n.term, .int .i64 n.vote, .slice σ.A3 n.log.length σ.k3, .int .i64 n.form, .int .i64 n.role, .int .i64 n.commit, .slice σ.A7 n.votes.length σ.k7, .slice σ.A8 n.nxt.length σ.k8, .slice σ.A9 n.mtch.length σ.k9, .slice σ.A10 n.forms.length σ.k10, .int .i64 n.clock, .int .i64 n.due], .agg #[.int .i64 n.id, .int .i64 n.term, .int .i64 n.vote, .slice τ.A3 n.log.length τ.k3, .int .i64 n.form, .int .i64 n.role, .int .i64 n.commit, .slice τ.A7 n.votes.length τ.k7, .slice τ.A8 n.nxt.length τ.k8, .slice τ.A9 n.mtch.length τ.k9, .slice τ.A10 n.forms.length τ.k10, .int .i64 n.clock, .int .i64 n.due]] w fun e w' => e = .returned (.bool true) ∧ Below w.heap.size w w' := by
  have H := Lib.hid (h.mono (ok' := fun k => k < w.heap.size) (fun k _ hk => hk))
  have H2 := Lib.hid (h2.mono (ok' := fun k => k < w.heap.size) (fun k _ hk => hk))
  have L3 := Lib.hid l3
  have L4 := Lib.hid l4
  have L5 := Lib.hid l5
  have q8 : ((n.nxt.length : Int) != (n.votes.length : Int)) = false := by simp; omega
  have q9 : ((n.mtch.length : Int) != (n.votes.length : Int)) = false := by simp; omega
  have q10 : ((n.forms.length : Int) != (n.votes.length : Int)) = false := by simp; omega
  clear h h2 l3 l4 l5
  go_enter Try.func33, Try.ntmps33
  go_upto_region 1 with (fail)
  refine name_world (F := fun W => Hid (W.heap[w.heap.size]? = some (.cells #[.int .i64 n.id, .int .i64 n.term, .int .i64 n.vote, .slice σ.A3 n.log.length σ.k3, .int .i64 n.form, .int .i64 n.role, .int .i64 n.commit, .slice σ.A7 n.votes.length σ.k7, .slice σ.A8 n.nxt.length σ.k8, .slice σ.A9 n.mtch.length σ.k9, .slice σ.A10 n.forms.length σ.k10, .int .i64 n.clock, .int .i64 n.due] 28 (0, 0))) ∧ Hid (W.heap[w.heap.size + 1]? = some (.cells #[.int .i64 n.id, .int .i64 n.term, .int .i64 n.vote, .slice τ.A3 n.log.length τ.k3, .int .i64 n.form, .int .i64 n.role, .int .i64 n.commit, .slice τ.A7 n.votes.length τ.k7, .slice τ.A8 n.nxt.length τ.k8, .slice τ.A9 n.mtch.length τ.k9, .slice τ.A10 n.forms.length τ.k10, .int .i64 n.clock, .int .i64 n.due] 28 (0, 0))) ∧ Hid (NodeVs W (fun k => k < w.heap.size) n σ) ∧ Hid (NodeVs W (fun k => k < w.heap.size) n τ) ∧ Hid (Below w.heap.size w W)) _ ⟨Lib.hid ((Below.heap_alloc _ _ _ (by simp)).trans (MM.alloc_new w _)), Lib.hid (MM.alloc_new1 w _ _), Lib.hid (H.out.step (fun k hk _ => (Below.heap_alloc _ _ k (by simp; omega)).trans (Below.heap_alloc w _ k hk))), Lib.hid (H2.out.step (fun k hk _ => (Below.heap_alloc _ _ k (by simp; omega)).trans (Below.heap_alloc w _ k hk))), Lib.hid (((Below.refl _ w).alloc (Nat.le_refl _) _).alloc (by simp) _)⟩ ?_
  clear H H2
  intro w1 ⟨X, X2, V, V2, HB⟩
  have c0 : w1.cell? ⟨w.heap.size, 0, none⟩ = some (.int .i64 n.id) := MM.cell_blk X.out rfl
  have c1 : w1.cell? ⟨w.heap.size, 1, none⟩ = some (.int .i64 n.term) := MM.cell_blk X.out rfl
  have c2 : w1.cell? ⟨w.heap.size, 2, none⟩ = some (.int .i64 n.vote) := MM.cell_blk X.out rfl
  have c4 : w1.cell? ⟨w.heap.size, 4, none⟩ = some (.int .i64 n.form) := MM.cell_blk X.out rfl
  have c5 : w1.cell? ⟨w.heap.size, 5, none⟩ = some (.int .i64 n.role) := MM.cell_blk X.out rfl
  have c6 : w1.cell? ⟨w.heap.size, 6, none⟩ = some (.int .i64 n.commit) := MM.cell_blk X.out rfl
  have c11 : w1.cell? ⟨w.heap.size, 11, none⟩ = some (.int .i64 n.clock) := MM.cell_blk X.out rfl
  have c12 : w1.cell? ⟨w.heap.size, 12, none⟩ = some (.int .i64 n.due) := MM.cell_blk X.out rfl
  have c3 : w1.cell? ⟨w.heap.size, 3, none⟩ = some (.slice σ.A3 n.log.length σ.k3) := MM.cell_blk X.out rfl
  have d0 : w1.cell? ⟨w.heap.size + 1, 0, none⟩ = some (.int .i64 n.id) := MM.cell_blk X2.out rfl
  have d1 : w1.cell? ⟨w.heap.size + 1, 1, none⟩ = some (.int .i64 n.term) := MM.cell_blk X2.out rfl
  have d2 : w1.cell? ⟨w.heap.size + 1, 2, none⟩ = some (.int .i64 n.vote) := MM.cell_blk X2.out rfl
  have d4 : w1.cell? ⟨w.heap.size + 1, 4, none⟩ = some (.int .i64 n.form) := MM.cell_blk X2.out rfl
  have d5 : w1.cell? ⟨w.heap.size + 1, 5, none⟩ = some (.int .i64 n.role) := MM.cell_blk X2.out rfl
  have d6 : w1.cell? ⟨w.heap.size + 1, 6, none⟩ = some (.int .i64 n.commit) := MM.cell_blk X2.out rfl
  have d11 : w1.cell? ⟨w.heap.size + 1, 11, none⟩ = some (.int .i64 n.clock) := MM.cell_blk X2.out rfl
  have d12 : w1.cell? ⟨w.heap.size + 1, 12, none⟩ = some (.int .i64 n.due) := MM.cell_blk X2.out rfl
  have d3 : w1.cell? ⟨w.heap.size + 1, 3, none⟩ = some (.slice τ.A3 n.log.length τ.k3) := MM.cell_blk X2.out rfl
  go_wp2_with fail
  refine (rents_same _ _ _ σ.A3 τ.A3 σ.k3 τ.k3 n.log V.out.hl V2.out.hl).mono ?_
  rintro e w2 ⟨rfl, hb⟩
  have Y := Lib.hid ((hb.block _ (MM.blk_lt X.out)).trans X.out)
  have Y2 := Lib.hid ((hb.block _ (MM.blk_lt X2.out)).trans X2.out)
  have U := Lib.hid (V.out.below hb)
  have U2 := Lib.hid (V2.out.below hb)
  have HB2 := Lib.hid (HB.out.trans (hb.mono HB.out.size))
  clear hb X X2 V V2 HB c0 d0 c1 d1 c2 d2 c4 d4 c5 d5 c6 d6 c11 d11 c12 d12 c3 d3
  have c7 : w2.cell? ⟨w.heap.size, 7, none⟩ = some (.slice σ.A7 n.votes.length σ.k7) := MM.cell_blk Y.out rfl
  have c8 : w2.cell? ⟨w.heap.size, 8, none⟩ = some (.slice σ.A8 n.nxt.length σ.k8) := MM.cell_blk Y.out rfl
  have c9 : w2.cell? ⟨w.heap.size, 9, none⟩ = some (.slice σ.A9 n.mtch.length σ.k9) := MM.cell_blk Y.out rfl
  have c10 : w2.cell? ⟨w.heap.size, 10, none⟩ = some (.slice σ.A10 n.forms.length σ.k10) := MM.cell_blk Y.out rfl
  have d7 : w2.cell? ⟨w.heap.size + 1, 7, none⟩ = some (.slice τ.A7 n.votes.length τ.k7) := MM.cell_blk Y2.out rfl
  have d8 : w2.cell? ⟨w.heap.size + 1, 8, none⟩ = some (.slice τ.A8 n.nxt.length τ.k8) := MM.cell_blk Y2.out rfl
  have d9 : w2.cell? ⟨w.heap.size + 1, 9, none⟩ = some (.slice τ.A9 n.mtch.length τ.k9) := MM.cell_blk Y2.out rfl
  have d10 : w2.cell? ⟨w.heap.size + 1, 10, none⟩ = some (.slice τ.A10 n.forms.length τ.k10) := MM.cell_blk Y2.out rfl
  go_upto_region 5 with (fail)
  clear q8 q9 q10 c7 c8 c9 c10 d7 d8 d9 d10
  go_wp2_with fail
  go_loopw [5] (fun t5 wr => ∃ i : Nat, i ≤ n.votes.length ∧ t5 = .int .i64 i ∧ Hid (wr.heap[w.heap.size]? = some (.cells #[.int .i64 n.id, .int .i64 n.term, .int .i64 n.vote, .slice σ.A3 n.log.length σ.k3, .int .i64 n.form, .int .i64 n.role, .int .i64 n.commit, .slice σ.A7 n.votes.length σ.k7, .slice σ.A8 n.nxt.length σ.k8, .slice σ.A9 n.mtch.length σ.k9, .slice σ.A10 n.forms.length σ.k10, .int .i64 n.clock, .int .i64 n.due] 28 (0, 0))) ∧ Hid (wr.heap[w.heap.size + 1]? = some (.cells #[.int .i64 n.id, .int .i64 n.term, .int .i64 n.vote, .slice τ.A3 n.log.length τ.k3, .int .i64 n.form, .int .i64 n.role, .int .i64 n.commit, .slice τ.A7 n.votes.length τ.k7, .slice τ.A8 n.nxt.length τ.k8, .slice τ.A9 n.mtch.length τ.k9, .slice τ.A10 n.forms.length τ.k10, .int .i64 n.clock, .int .i64 n.due] 28 (0, 0))) ∧ Hid (NodeVs wr (fun k => k < w.heap.size) n σ) ∧ Hid (NodeVs wr (fun k => k < w.heap.size) n τ) ∧ Hid (Below w.heap.size w wr)) (fun t5 _ => n.votes.length - (intOf t5).toNat)
  case atStart => exact ⟨0, by omega, rfl, Y, Y2, U, U2, HB2⟩
  case round =>
    obtain ⟨i, hi, rfl, Y, Y2, U, U2, HB⟩ := hrel
    by_cases hlt : i < n.votes.length
    · have hltb : decide ((i : Int) < (n.votes.length : Int)) = true := decide_eq_true (by omega)
      have hl8 : i < n.nxt.length := by rw [L3.out]; exact hlt
      have hl9 : i < n.mtch.length := by rw [L4.out]; exact hlt
      have hl10 : i < n.forms.length := by rw [L5.out]; exact hlt
      obtain ⟨_, A', c', ea, _, _, r1⟩ := U.out.hv
      injection ea with ea1 _ ea2
      subst ea2
      obtain ⟨b7a, o7a, e', _, _, g1⟩ := r1 (by omega)
      have EA7a := Lib.hid (ea1.trans e')
      have c7a : wr.cell? ⟨w.heap.size, 7, none⟩ = some (.slice (some ⟨b7a, o7a, none⟩) n.votes.length σ.k7) := by rw [← EA7a.out]; exact MM.cell_blk Y.out rfl
      have x7a : wr.cell? ⟨b7a, o7a + i, none⟩ = some (.bool (n.votes.getD i false)) := g1 _ _ (boolsC_get (by omega))
      clear g1 r1 e' ea1
      obtain ⟨_, A', c', ea, _, _, r1⟩ := U2.out.hv
      injection ea with ea1 _ ea2
      subst ea2
      obtain ⟨b7b, o7b, e', _, _, g1⟩ := r1 (by omega)
      have EA7b := Lib.hid (ea1.trans e')
      have c7b : wr.cell? ⟨w.heap.size + 1, 7, none⟩ = some (.slice (some ⟨b7b, o7b, none⟩) n.votes.length τ.k7) := by rw [← EA7b.out]; exact MM.cell_blk Y2.out rfl
      have x7b : wr.cell? ⟨b7b, o7b + i, none⟩ = some (.bool (n.votes.getD i false)) := g1 _ _ (boolsC_get (by omega))
      clear g1 r1 e' ea1
      obtain ⟨_, A', c', ea, _, _, r1⟩ := U.out.hn
      injection ea with ea1 _ ea2
      subst ea2
      obtain ⟨b8a, o8a, e', _, _, g1⟩ := r1 (by omega)
      have EA8a := Lib.hid (ea1.trans e')
      have c8a : wr.cell? ⟨w.heap.size, 8, none⟩ = some (.slice (some ⟨b8a, o8a, none⟩) n.nxt.length σ.k8) := by rw [← EA8a.out]; exact MM.cell_blk Y.out rfl
      have x8a : wr.cell? ⟨b8a, o8a + i, none⟩ = some (.int .i64 (n.nxt.getD i 0)) := g1 _ _ (intsC_get (by omega))
      clear g1 r1 e' ea1
      obtain ⟨_, A', c', ea, _, _, r1⟩ := U2.out.hn
      injection ea with ea1 _ ea2
      subst ea2
      obtain ⟨b8b, o8b, e', _, _, g1⟩ := r1 (by omega)
      have EA8b := Lib.hid (ea1.trans e')
      have c8b : wr.cell? ⟨w.heap.size + 1, 8, none⟩ = some (.slice (some ⟨b8b, o8b, none⟩) n.nxt.length τ.k8) := by rw [← EA8b.out]; exact MM.cell_blk Y2.out rfl
      have x8b : wr.cell? ⟨b8b, o8b + i, none⟩ = some (.int .i64 (n.nxt.getD i 0)) := g1 _ _ (intsC_get (by omega))
      clear g1 r1 e' ea1
      obtain ⟨_, A', c', ea, _, _, r1⟩ := U.out.hm
      injection ea with ea1 _ ea2
      subst ea2
      obtain ⟨b9a, o9a, e', _, _, g1⟩ := r1 (by omega)
      have EA9a := Lib.hid (ea1.trans e')
      have c9a : wr.cell? ⟨w.heap.size, 9, none⟩ = some (.slice (some ⟨b9a, o9a, none⟩) n.mtch.length σ.k9) := by rw [← EA9a.out]; exact MM.cell_blk Y.out rfl
      have x9a : wr.cell? ⟨b9a, o9a + i, none⟩ = some (.int .i64 (n.mtch.getD i 0)) := g1 _ _ (intsC_get (by omega))
      clear g1 r1 e' ea1
      obtain ⟨_, A', c', ea, _, _, r1⟩ := U2.out.hm
      injection ea with ea1 _ ea2
      subst ea2
      obtain ⟨b9b, o9b, e', _, _, g1⟩ := r1 (by omega)
      have EA9b := Lib.hid (ea1.trans e')
      have c9b : wr.cell? ⟨w.heap.size + 1, 9, none⟩ = some (.slice (some ⟨b9b, o9b, none⟩) n.mtch.length τ.k9) := by rw [← EA9b.out]; exact MM.cell_blk Y2.out rfl
      have x9b : wr.cell? ⟨b9b, o9b + i, none⟩ = some (.int .i64 (n.mtch.getD i 0)) := g1 _ _ (intsC_get (by omega))
      clear g1 r1 e' ea1
      obtain ⟨_, A', c', ea, _, _, r1⟩ := U.out.hf
      injection ea with ea1 _ ea2
      subst ea2
      obtain ⟨b10a, o10a, e', _, _, g1⟩ := r1 (by omega)
      have EA10a := Lib.hid (ea1.trans e')
      have c10a : wr.cell? ⟨w.heap.size, 10, none⟩ = some (.slice (some ⟨b10a, o10a, none⟩) n.forms.length σ.k10) := by rw [← EA10a.out]; exact MM.cell_blk Y.out rfl
      have x10a : wr.cell? ⟨b10a, o10a + i, none⟩ = some (.int .i64 (n.forms.getD i 0)) := g1 _ _ (intsC_get (by omega))
      clear g1 r1 e' ea1
      obtain ⟨_, A', c', ea, _, _, r1⟩ := U2.out.hf
      injection ea with ea1 _ ea2
      subst ea2
      obtain ⟨b10b, o10b, e', _, _, g1⟩ := r1 (by omega)
      have EA10b := Lib.hid (ea1.trans e')
      have c10b : wr.cell? ⟨w.heap.size + 1, 10, none⟩ = some (.slice (some ⟨b10b, o10b, none⟩) n.forms.length τ.k10) := by rw [← EA10b.out]; exact MM.cell_blk Y2.out rfl
      have x10b : wr.cell? ⟨b10b, o10b + i, none⟩ = some (.int .i64 (n.forms.getD i 0)) := g1 _ _ (intsC_get (by omega))
      clear g1 r1 e' ea1
      go_wp2_with fail
      refine Go.RT.wp_region_tree [0, 1, 0, 7, 15, 0, 32, 0, 224, 480, 1023, 2047, 4095, 8191, 4095, 32767, 65535, 4095, 135167, 4095, 921599, 1970175, 4194303, 8388607, 16777215, 33554431, 67108863, 33554431, 268435455, 536870911, 33554431, 1107296255, 33554431, 7549747199, 16139681791, 34359738367, 68719476735, 137438953471, 274877906943, 549755813887, 274877906943, 2199023255551, 4398046511103, 274877906943, 9070970929151, 274877906943, 61847529062399, 132216273240063, 281474976710655, 562949953421311] (.p 0 (.s 1 (.p 2 (.p 3 (.s 4 (.p 5 (.s 6 (.p 7 (.p 8 (.s 9 (.p 10 (.p 11 (.p 12 (.s 13 (.p 14 (.p 15 (.s 16 (.p 17 (.s 18 (.p 19 (.p 20 (.s 21 (.p 22 (.p 23 (.p 24 (.p 25 (.s 26 (.p 27 (.p 28 (.s 29 (.p 30 (.s 31 (.p 32 (.p 33 (.s 34 (.p 35 (.p 36 (.p 37 (.p 38 (.s 39 (.p 40 (.p 41 (.s 42 (.p 43 (.s 44 (.p 45 (.p 46 (.s 47 (.p 48 (.p 49 .nil)))))))))))))))))))))))))))))))))))))))))))))))))) (by kernel_rfl) (by kernel_rfl) ?_
      repeat (first | (refine Go.RT.step_p rfl (fun K hK => ?_); go_simp; refine hK _ ?_; clear hK K) | (refine Go.RT.step_s rfl (fun K hK => ?_); go_simp; refine hK _ ?_; clear hK K))
      refine Go.RT.step_nil ?_
      go_wp2_with fail
      go_roundw
      case rel => exact ⟨i + 1, by omega, by go_num, Y, Y2, Lib.hid (U.out.step (fun _ _ _ => rfl)), Lib.hid (U2.out.step (fun _ _ _ => rfl)), Lib.hid HB.out.drew⟩
      case measure => simp [intOf]; omega
    · obtain rfl : i = n.votes.length := by omega
      have hltb : decide ((n.votes.length : Int) < (n.votes.length : Int)) = false := by simp
      have c7 : wr.cell? ⟨w.heap.size, 7, none⟩ = some (.slice σ.A7 n.votes.length σ.k7) := MM.cell_blk Y.out rfl
      go_wp2_with fail
      go_ret
      exact ⟨rfl, HB.out⟩

end Go.Proofs.Ytnkmljdkokcdjaa
namespace Go.Proofs.Ytnkmljdkokcdjaa
open Go.RowKit Fed
set_option linter.unusedVariables false
attribute [local go_sem high] Fed.max2_int Fed.min2_int

set_option maxRecDepth 100000 in
set_option maxHeartbeats 40000000 in
/-- The document's Msgs of two rows of the same messages. -/
theorem rmsgs_any (w : World) (ok ok2 : Nat → Prop) (ms : List Fed.Msg) (A B : Option Addr) (c d : Nat) (h : MsgsV w ok (.slice A ms.length c) ms) (h2 : MsgsV w ok2 (.slice B ms.length d) ms) (l1 : ms.length ≤ 1000000) :
    Calls Try.prog 75 #[.slice A ms.length c, .slice B ms.length d] w fun e w' => e = .returned (.bool true) ∧ Below w.heap.size w w' := by
  have H := Lib.hid (h.mono (ok' := fun k => k < w.heap.size) (fun k _ hk => hk))
  have H2 := Lib.hid (h2.mono (ok' := fun k => k < w.heap.size) (fun k _ hk => hk))
  clear h h2
  go_enter Try.func75, Try.ntmps75
  go_wp2_with fail
  go_loopw [5] (fun t5 wr => ∃ i : Nat, i ≤ ms.length ∧ t5 = .int .i64 i ∧ Hid (Below w.heap.size w wr)) (fun t5 _ => ms.length - (intOf t5).toNat)
  case atStart => exact ⟨0, by omega, rfl, Lib.hid (Below.refl _ _)⟩
  case round =>
    obtain ⟨i, hi, rfl, HB⟩ := hrel
    by_cases hlt : i < ms.length
    · have hltb : decide ((i : Int) < (ms.length : Int)) = true := decide_eq_true (by omega)
      obtain ⟨m, hm⟩ : ∃ m, ms[i]? = some m := ⟨_, List.getElem?_eq_getElem hlt⟩
      have U1 := H.out.below HB.out
      have U2 := H2.out.below HB.out
      obtain ⟨cs1, rd1, mr1⟩ := U1
      obtain ⟨_, Ax1, cx1, ea, _, _, r1⟩ := rd1
      injection ea with ea1 _ ea2
      subst ea2
      obtain ⟨b1, o1, e', _, _, g1⟩ := r1 (by omega)
      have EA1 := Lib.hid (ea1.trans e')
      obtain ⟨ve1, rv1, gm1⟩ := mr1.get hm
      obtain ⟨A1, c1, rfl, _, _⟩ := rv1.slice
      have RV1 := Lib.hid rv1
      clear r1 ea1 e' rv1 mr1
      have x10 : wr.cell? ⟨b1, o1 + i * 10, none⟩ = some (.int .i64 m.kind) := g1 _ _ (gm1 0 _ rfl)
      have x11 : wr.cell? ⟨b1, o1 + i * 10 + 1, none⟩ = some (.int .i64 m.frm) := g1 _ _ (gm1 1 _ rfl)
      have x12 : wr.cell? ⟨b1, o1 + i * 10 + 2, none⟩ = some (.int .i64 m.to) := g1 _ _ (gm1 2 _ rfl)
      have x13 : wr.cell? ⟨b1, o1 + i * 10 + 3, none⟩ = some (.int .i64 m.term) := g1 _ _ (gm1 3 _ rfl)
      have x14 : wr.cell? ⟨b1, o1 + i * 10 + 4, none⟩ = some (.int .i64 m.index) := g1 _ _ (gm1 4 _ rfl)
      have x15 : wr.cell? ⟨b1, o1 + i * 10 + 5, none⟩ = some (.int .i64 m.logTerm) := g1 _ _ (gm1 5 _ rfl)
      have x16 : wr.cell? ⟨b1, o1 + i * 10 + 6, none⟩ = some (.bool m.ok) := g1 _ _ (gm1 6 _ rfl)
      have x17 : wr.cell? ⟨b1, o1 + i * 10 + 7, none⟩ = some (.slice A1 m.entries.length c1) := g1 _ _ (gm1 7 _ rfl)
      have x18 : wr.cell? ⟨b1, o1 + i * 10 + 8, none⟩ = some (.int .i64 m.commit) := g1 _ _ (gm1 8 _ rfl)
      have x19 : wr.cell? ⟨b1, o1 + i * 10 + 9, none⟩ = some (.int .i64 m.form) := g1 _ _ (gm1 9 _ rfl)
      clear g1 gm1
      obtain ⟨cs2, rd2, mr2⟩ := U2
      obtain ⟨_, Ax2, cx2, ea, _, _, r1⟩ := rd2
      injection ea with ea1 _ ea2
      subst ea2
      obtain ⟨b2, o2, e', _, _, g2⟩ := r1 (by omega)
      have EA2 := Lib.hid (ea1.trans e')
      obtain ⟨ve2, rv2, gm2⟩ := mr2.get hm
      obtain ⟨A2, c2, rfl, _, _⟩ := rv2.slice
      have RV2 := Lib.hid rv2
      clear r1 ea1 e' rv2 mr2
      have x20 : wr.cell? ⟨b2, o2 + i * 10, none⟩ = some (.int .i64 m.kind) := g2 _ _ (gm2 0 _ rfl)
      have x21 : wr.cell? ⟨b2, o2 + i * 10 + 1, none⟩ = some (.int .i64 m.frm) := g2 _ _ (gm2 1 _ rfl)
      have x22 : wr.cell? ⟨b2, o2 + i * 10 + 2, none⟩ = some (.int .i64 m.to) := g2 _ _ (gm2 2 _ rfl)
      have x23 : wr.cell? ⟨b2, o2 + i * 10 + 3, none⟩ = some (.int .i64 m.term) := g2 _ _ (gm2 3 _ rfl)
      have x24 : wr.cell? ⟨b2, o2 + i * 10 + 4, none⟩ = some (.int .i64 m.index) := g2 _ _ (gm2 4 _ rfl)
      have x25 : wr.cell? ⟨b2, o2 + i * 10 + 5, none⟩ = some (.int .i64 m.logTerm) := g2 _ _ (gm2 5 _ rfl)
      have x26 : wr.cell? ⟨b2, o2 + i * 10 + 6, none⟩ = some (.bool m.ok) := g2 _ _ (gm2 6 _ rfl)
      have x27 : wr.cell? ⟨b2, o2 + i * 10 + 7, none⟩ = some (.slice A2 m.entries.length c2) := g2 _ _ (gm2 7 _ rfl)
      have x28 : wr.cell? ⟨b2, o2 + i * 10 + 8, none⟩ = some (.int .i64 m.commit) := g2 _ _ (gm2 8 _ rfl)
      have x29 : wr.cell? ⟨b2, o2 + i * 10 + 9, none⟩ = some (.int .i64 m.form) := g2 _ _ (gm2 9 _ rfl)
      clear g2 gm2
      clear hm
      have e1 : A = some ⟨b1, o1, none⟩ := EA1.out
      have e2 : B = some ⟨b2, o2, none⟩ := EA2.out
      go_upto_region 6 with (fail)
      rw [e1, e2]
      clear e1 e2
      go_cut [6, 7] (fun t6 t7 wc => ∃ bx bz : Nat, t6 = .pointer (some ⟨bx, 0, none⟩) ∧ t7 = .pointer (some ⟨bz, 0, none⟩) ∧ Hid (wc.heap[bx]? = some (.cells #[.int .i64 m.kind, .int .i64 m.frm, .int .i64 m.to, .int .i64 m.term, .int .i64 m.index, .int .i64 m.logTerm, .bool m.ok, .slice A1 m.entries.length c1, .int .i64 m.commit, .int .i64 m.form] 34 (0, 0))) ∧ Hid (wc.heap[bz]? = some (.cells #[.int .i64 m.kind, .int .i64 m.frm, .int .i64 m.to, .int .i64 m.term, .int .i64 m.index, .int .i64 m.logTerm, .bool m.ok, .slice A2 m.entries.length c2, .int .i64 m.commit, .int .i64 m.form] 34 (0, 0))) ∧ Hid (Below w.heap.size w wc) ∧ Hid (Below wr.heap.size wr wc))
      case first => as_aux_lemma =>
        refine Go.RT.wp_region_tree [0, 0, 3, 7, 0, 0, 48, 112, 0, 0, 783, 2047] (.p 0 (.p 1 (.p 2 (.s 3 (.p 4 (.p 5 (.p 6 (.s 7 (.w 8 [3, 7] (.w 9 [3, 7] (.w 10 [7] (.w 11 [] .nil .stop) .stop) .stop) (.w 9 [3, 7] (.w 8 [3, 7] (.w 10 [7] (.w 11 [] .nil .stop) .stop) .stop) .stop)))))))))) (by kernel_rfl) (by kernel_rfl) ?_
        repeat (first | (refine Go.RT.step_p rfl (fun K hK => ?_); go_simp; refine hK _ ?_; clear hK K) | (refine Go.RT.step_s rfl (fun K hK => ?_); go_simp; refine hK _ ?_; clear hK K))
        (refine Go.RT.step_w rfl rfl (fun K hK => ?_) ?_)
        · go_wp2
          refine Go.RT.QK_normal _ _ _ _ (hK _ _ ?_ ?_) <;> clear hK K
          · repeat (first | exact Go.RT.again_nil | (refine Go.RT.again_not rfl rfl ?_) | (refine Go.RT.again_one rfl (by go_simp <;> rfl) ?_))
          (refine Go.RT.step_w rfl rfl (fun K hK => ?_) Go.RT.step_stop)
          go_wp2
          refine Go.RT.QK_normal _ _ _ _ (hK _ _ ?_ ?_) <;> clear hK K
          · repeat (first | exact Go.RT.again_nil | (refine Go.RT.again_not rfl rfl ?_) | (refine Go.RT.again_one rfl (by go_simp <;> rfl) ?_))
          (refine Go.RT.step_w rfl rfl (fun K hK => ?_) Go.RT.step_stop)
          go_wp2
          refine Go.RT.QK_normal _ _ _ _ (hK _ _ ?_ ?_) <;> clear hK K
          · repeat (first | exact Go.RT.again_nil | (refine Go.RT.again_not rfl rfl ?_) | (refine Go.RT.again_one rfl (by go_simp <;> rfl) ?_))
          (refine Go.RT.step_w rfl rfl (fun K hK => ?_) Go.RT.step_stop)
          go_wp2
          refine Go.RT.QK_normal _ _ _ _ (hK _ _ ?_ ?_) <;> clear hK K
          · repeat (first | exact Go.RT.again_nil | (refine Go.RT.again_not rfl rfl ?_) | (refine Go.RT.again_one rfl (by go_simp <;> rfl) ?_))
          refine Go.RT.step_nil ?_
          go_wp2_with fail
          go_meet
          case rel => exact ⟨wr.heap.size, wr.heap.size + 1, rfl, rfl, Lib.hid ((Below.heap_alloc _ _ _ (by simp)).trans (MM.alloc_new wr _)), Lib.hid (MM.alloc_new1 wr _ _), Lib.hid (((HB.out.alloc HB.out.size _).alloc (by have := HB.out.size; simp; omega) _).drew), Lib.hid ((((Below.refl _ wr).alloc (Nat.le_refl _) _).alloc (by simp) _).drew)⟩
        (refine Go.RT.step_w rfl rfl (fun K hK => ?_) Go.RT.step_stop)
        go_wp2
        refine Go.RT.QK_normal _ _ _ _ (hK _ _ ?_ ?_) <;> clear hK K
        · repeat (first | exact Go.RT.again_nil | (refine Go.RT.again_not rfl rfl ?_) | (refine Go.RT.again_one rfl (by go_simp <;> rfl) ?_))
        (refine Go.RT.step_w rfl rfl (fun K hK => ?_) Go.RT.step_stop)
        go_wp2
        refine Go.RT.QK_normal _ _ _ _ (hK _ _ ?_ ?_) <;> clear hK K
        · repeat (first | exact Go.RT.again_nil | (refine Go.RT.again_not rfl rfl ?_) | (refine Go.RT.again_one rfl (by go_simp <;> rfl) ?_))
        (refine Go.RT.step_w rfl rfl (fun K hK => ?_) Go.RT.step_stop)
        go_wp2
        refine Go.RT.QK_normal _ _ _ _ (hK _ _ ?_ ?_) <;> clear hK K
        · repeat (first | exact Go.RT.again_nil | (refine Go.RT.again_not rfl rfl ?_) | (refine Go.RT.again_one rfl (by go_simp <;> rfl) ?_))
        (refine Go.RT.step_w rfl rfl (fun K hK => ?_) Go.RT.step_stop)
        go_wp2
        refine Go.RT.QK_normal _ _ _ _ (hK _ _ ?_ ?_) <;> clear hK K
        · repeat (first | exact Go.RT.again_nil | (refine Go.RT.again_not rfl rfl ?_) | (refine Go.RT.again_one rfl (by go_simp <;> rfl) ?_))
        refine Go.RT.step_nil ?_
        go_wp2_with fail
        go_meet
        case rel => exact ⟨wr.heap.size + 1, wr.heap.size, rfl, rfl, Lib.hid (MM.alloc_new1 wr _ _), Lib.hid ((Below.heap_alloc _ _ _ (by simp)).trans (MM.alloc_new wr _)), Lib.hid (((HB.out.alloc HB.out.size _).alloc (by have := HB.out.size; simp; omega) _).drew), Lib.hid ((((Below.refl _ wr).alloc (Nat.le_refl _) _).alloc (by simp) _).drew)⟩
      case rest =>
        obtain ⟨bx, bz, rfl, rfl, X, X2, HB2, HW⟩ := hcut
        obtain ⟨cx0, cx1, cx2, cx3, cx4, cx5, cx6, cx7, cx8, cx9⟩ := MM.cells10 X.out
        obtain ⟨cz0, cz1, cz2, cz3, cz4, cz5, cz6, cz7, cz8, cz9⟩ := MM.cells10 X2.out
        have S1 := Lib.hid (RV1.out.mono (ok' := fun k => k < wr.heap.size) (fun k _ hk => hk))
        have S2 := Lib.hid (RV2.out.mono (ok' := fun k => k < wr.heap.size) (fun k _ hk => hk))
        go_wp2_with fail
        refine (rents_same _ _ _ A1 A2 c1 c2 m.entries (S1.out.step (fun k hk _ => HW.out.block k hk)) (S2.out.step (fun k hk _ => HW.out.block k hk))).mono ?_
        rintro e w5 ⟨rfl, hb5⟩
        have HB5 := Lib.hid (HB2.out.trans (hb5.mono HB2.out.size))
        clear hb5
        go_wp2_with fail
        rw [← EA1.out, ← EA2.out]
        go_roundw
        case rel => exact ⟨i + 1, by omega, by go_num, HB5⟩
        case measure => simp [intOf]; omega
    · obtain rfl : i = ms.length := by omega
      have hltb : decide ((ms.length : Int) < (ms.length : Int)) = false := by simp
      go_wp2_with fail
      go_ret
      exact ⟨rfl, HB.out⟩

end Go.Proofs.Ytnkmljdkokcdjaa
