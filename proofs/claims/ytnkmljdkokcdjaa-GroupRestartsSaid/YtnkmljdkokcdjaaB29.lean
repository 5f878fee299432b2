/-
The document's Same and Msgs of the same nodes, the same messages: true.
Both groups side by side: as at the beginning; the law's comparison of them.
The law's known of chapter 9 returns true, and writes nothing that was there; its within.
The law's step of both groups: each answers as the other one, and both come to the same.
-/
import Derived.WalkKit
import Derived.WalkSpells
import Derived.Lib.Hide
import Derived.Outline
import Derived.Test.YtnkmljdkokcdjaaChecked
import Derived.Test.YtnkmljdkokcdjaaB0
import Derived.Test.YtnkmljdkokcdjaaB1
import Derived.Test.YtnkmljdkokcdjaaB8
import Derived.Deep.DeepCutAuto
import Derived.Deep.CutBlock
import Derived.Deep.OwnRows
import Derived.IntWalk
import Derived.Test.YtnkmljdkokcdjaaB20
import Derived.Test.YtnkmljdkokcdjaaB27
import Derived.Test.YtnkmljdkokcdjaaB28
import Derived.KernelRfl
import Derived.Test.YtnkmljdkokcdjaaB5
import Derived.Test.YtnkmljdkokcdjaaB15
import Derived.Test.YtnkmljdkokcdjaaB11
set_option maxRecDepth 100000
set_option maxHeartbeats 40000000
set_option linter.unusedVariables false
set_option linter.unusedSimpArgs false
namespace Go.Proofs.Ytnkmljdkokcdjaa
open Go.RowKit Fed Go.RT
attribute [local go_sem high] Fed.max2_int Fed.min2_int Fed.MA Fed.ZN Fed.ZM Fed.NA
theorem rsame_any (w : World) (ok ok2 : Nat → Prop) (n : Fed.Node) (σ τ : Sl5) (h : NodeVs w ok n σ) (h2 : NodeVs w ok2 n τ) (l1 : n.log.length ≤ 1000000) (l2 : n.votes.length ≤ 1000) (l3 : n.nxt.length = n.votes.length) (l4 : n.mtch.length = n.votes.length) (l5 : n.forms.length = n.votes.length) :
  Calls Try.prog 33 #[.agg (NA n σ), .agg (NA n τ)] w fun e w' => e = .returned (.bool true) ∧ Below w.heap.size w w' := by
 have H := Hd (h.mono (ok' := fun k => k < w.heap.size) (fun k _ hk => hk))
 have H2 := Hd (h2.mono (ok' := fun k => k < w.heap.size) (fun k _ hk => hk))
 have L3 := Hd l3
 have L4 := Hd l4
 have L5 := Hd l5
 have q8 : ((n.nxt.length : Int) != (n.votes.length : Int)) = false := by simp; omega
 have q9 : ((n.mtch.length : Int) != (n.votes.length : Int)) = false := by simp; omega
 have q10 : ((n.forms.length : Int) != (n.votes.length : Int)) = false := by simp; omega
 clear h h2 l3 l4 l5
 go_enter Try.func33, Try.ntmps33
 go_upto_region 1 with (fail)
 refine name_world (F := fun W => Hid (W.heap[w.heap.size]? = some (.cells (NA n σ) 28 (0, 0))) ∧ Hid (W.heap[w.heap.size + 1]? = some (.cells (NA n τ) 28 (0, 0))) ∧ Hid (NodeVs W (fun k => k < w.heap.size) n σ) ∧ Hid (NodeVs W (fun k => k < w.heap.size) n τ) ∧ Hid (Below w.heap.size w W)) _ ⟨Hd ((Below.heap_alloc _ _ _ (by simp)).trans (MM.alloc_new w _)), Hd (MM.alloc_new1 w _ _), Hd (H.out.step (fun k hk _ => (Below.heap_alloc _ _ k (by simp; omega)).trans (Below.heap_alloc w _ k hk))), Hd (H2.out.step (fun k hk _ => (Below.heap_alloc _ _ k (by simp; omega)).trans (Below.heap_alloc w _ k hk))), Hd (((Below.refl _ w).alloc (Nat.le_refl _) _).alloc (by simp) _)⟩ ?_
 clear H H2
 intro w1 ⟨X, X2, V, V2, HB⟩
 have c0 : w1.cell? ⟨w.heap.size, 0, none⟩ = some (.int .i64 n.id) := MM.cell_blk X.out rfl
 have c1 : w1.cell? ⟨w.heap.size, 1, none⟩ = some (.int .i64 n.term) := MM.cell_blk X.out rfl
 have c2 : w1.cell? ⟨w.heap.size, 2, none⟩ = some (.int .i64 n.vote) := MM.cell_blk X.out rfl
 have c4 : w1.cell? ⟨w.heap.size, 4, none⟩ = some (.int .i64 n.form) := MM.cell_blk X.out rfl
 have c5 : w1.cell? ⟨w.heap.size, 5, none⟩ = some (.int .i64 n.role) := MM.cell_blk X.out rfl
 have c6 : w1.cell? ⟨w.heap.size, 6, none⟩ = some (.int .i64 n.commit) := MM.cell_blk X.out rfl
 have c11 : w1.cell? ⟨w.heap.size, 11, none⟩ = some (.int .i64 n.clock) := MM.cell_blk X.out rfl
 have c12 : w1.cell? ⟨w.heap.size, 12, none⟩ = some (.int .i64 n.due) := MM.cell_blk X.out rfl
 have c3 : w1.cell? ⟨w.heap.size, 3, none⟩ = some (.slice σ.A3 n.log.length σ.k3) := MM.cell_blk X.out rfl
 have d0 : w1.cell? ⟨w.heap.size + 1, 0, none⟩ = some (.int .i64 n.id) := MM.cell_blk X2.out rfl
 have d1 : w1.cell? ⟨w.heap.size + 1, 1, none⟩ = some (.int .i64 n.term) := MM.cell_blk X2.out rfl
 have d2 : w1.cell? ⟨w.heap.size + 1, 2, none⟩ = some (.int .i64 n.vote) := MM.cell_blk X2.out rfl
 have d4 : w1.cell? ⟨w.heap.size + 1, 4, none⟩ = some (.int .i64 n.form) := MM.cell_blk X2.out rfl
 have d5 : w1.cell? ⟨w.heap.size + 1, 5, none⟩ = some (.int .i64 n.role) := MM.cell_blk X2.out rfl
 have d6 : w1.cell? ⟨w.heap.size + 1, 6, none⟩ = some (.int .i64 n.commit) := MM.cell_blk X2.out rfl
 have d11 : w1.cell? ⟨w.heap.size + 1, 11, none⟩ = some (.int .i64 n.clock) := MM.cell_blk X2.out rfl
 have d12 : w1.cell? ⟨w.heap.size + 1, 12, none⟩ = some (.int .i64 n.due) := MM.cell_blk X2.out rfl
 have d3 : w1.cell? ⟨w.heap.size + 1, 3, none⟩ = some (.slice τ.A3 n.log.length τ.k3) := MM.cell_blk X2.out rfl
 go_wp2_with fail
 refine (rents_same _ _ _ σ.A3 τ.A3 σ.k3 τ.k3 n.log V.out.hl V2.out.hl).mono ?_
 rintro e w2 ⟨rfl, hb⟩
 have Y := Hd ((hb.block _ (MM.blk_lt X.out)).trans X.out)
 have Y2 := Hd ((hb.block _ (MM.blk_lt X2.out)).trans X2.out)
 have U := Hd (V.out.below hb)
 have U2 := Hd (V2.out.below hb)
 have HB2 := Hd (HB.out.trans (hb.mono HB.out.size))
 clear hb X X2 V V2 HB c0 d0 c1 d1 c2 d2 c4 d4 c5 d5 c6 d6 c11 d11 c12 d12 c3 d3
 have c7 : w2.cell? ⟨w.heap.size, 7, none⟩ = some (.slice σ.A7 n.votes.length σ.k7) := MM.cell_blk Y.out rfl
 have c8 : w2.cell? ⟨w.heap.size, 8, none⟩ = some (.slice σ.A8 n.nxt.length σ.k8) := MM.cell_blk Y.out rfl
 have c9 : w2.cell? ⟨w.heap.size, 9, none⟩ = some (.slice σ.A9 n.mtch.length σ.k9) := MM.cell_blk Y.out rfl
 have c10 : w2.cell? ⟨w.heap.size, 10, none⟩ = some (.slice σ.A10 n.forms.length σ.k10) := MM.cell_blk Y.out rfl
 have d7 : w2.cell? ⟨w.heap.size + 1, 7, none⟩ = some (.slice τ.A7 n.votes.length τ.k7) := MM.cell_blk Y2.out rfl
 have d8 : w2.cell? ⟨w.heap.size + 1, 8, none⟩ = some (.slice τ.A8 n.nxt.length τ.k8) := MM.cell_blk Y2.out rfl
 have d9 : w2.cell? ⟨w.heap.size + 1, 9, none⟩ = some (.slice τ.A9 n.mtch.length τ.k9) := MM.cell_blk Y2.out rfl
 have d10 : w2.cell? ⟨w.heap.size + 1, 10, none⟩ = some (.slice τ.A10 n.forms.length τ.k10) := MM.cell_blk Y2.out rfl
 go_upto_region 5 with (fail)
 clear q8 q9 q10 c7 c8 c9 c10 d7 d8 d9 d10
 go_wp2_with fail
 go_loopw [5] (fun t5 wr => ∃ i : Nat, i ≤ n.votes.length ∧ t5 = .int .i64 i ∧ Hid (wr.heap[w.heap.size]? = some (.cells (NA n σ) 28 (0, 0))) ∧ Hid (wr.heap[w.heap.size + 1]? = some (.cells (NA n τ) 28 (0, 0))) ∧ Hid (NodeVs wr (fun k => k < w.heap.size) n σ) ∧ Hid (NodeVs wr (fun k => k < w.heap.size) n τ) ∧ Hid (Below w.heap.size w wr)) (fun t5 _ => n.votes.length - (intOf t5).toNat)
 case atStart => exact ⟨0, by omega, rfl, Y, Y2, U, U2, HB2⟩
 case round =>
  obtain ⟨i, hi, rfl, Y, Y2, U, U2, HB⟩ := hrel
  by_cases hlt : i < n.votes.length
  ·have hltb : decide ((i : Int) < (n.votes.length : Int)) = true := decide_eq_true (by omega)
   have hl8 : i < n.nxt.length := by rw [L3.out]; exact hlt
   have hl9 : i < n.mtch.length := by rw [L4.out]; exact hlt
   have hl10 : i < n.forms.length := by rw [L5.out]; exact hlt
   obtain ⟨_, A', c', ea, _, _, r1⟩ := U.out.hv
   injection ea with ea1 _ ea2
   subst ea2
   obtain ⟨b7a, o7a, e', _, _, g1⟩ := r1 (by omega)
   have EA7a := Hd (ea1.trans e')
   have c7a : wr.cell? ⟨w.heap.size, 7, none⟩ = some (.slice (some ⟨b7a, o7a, none⟩) n.votes.length σ.k7) := by rw [← EA7a.out]; exact MM.cell_blk Y.out rfl
   have x7a : wr.cell? ⟨b7a, o7a + i, none⟩ = some (.bool (n.votes.getD i false)) := g1 _ _ (boolsC_get (by omega))
   clear g1 r1 e' ea1
   obtain ⟨_, A', c', ea, _, _, r1⟩ := U2.out.hv
   injection ea with ea1 _ ea2
   subst ea2
   obtain ⟨b7b, o7b, e', _, _, g1⟩ := r1 (by omega)
   have EA7b := Hd (ea1.trans e')
   have c7b : wr.cell? ⟨w.heap.size + 1, 7, none⟩ = some (.slice (some ⟨b7b, o7b, none⟩) n.votes.length τ.k7) := by rw [← EA7b.out]; exact MM.cell_blk Y2.out rfl
   have x7b : wr.cell? ⟨b7b, o7b + i, none⟩ = some (.bool (n.votes.getD i false)) := g1 _ _ (boolsC_get (by omega))
   clear g1 r1 e' ea1
   obtain ⟨_, A', c', ea, _, _, r1⟩ := U.out.hn
   injection ea with ea1 _ ea2
   subst ea2
   obtain ⟨b8a, o8a, e', _, _, g1⟩ := r1 (by omega)
   have EA8a := Hd (ea1.trans e')
   have c8a : wr.cell? ⟨w.heap.size, 8, none⟩ = some (.slice (some ⟨b8a, o8a, none⟩) n.nxt.length σ.k8) := by rw [← EA8a.out]; exact MM.cell_blk Y.out rfl
   have x8a : wr.cell? ⟨b8a, o8a + i, none⟩ = some (.int .i64 (n.nxt.getD i 0)) := g1 _ _ (intsC_get (by omega))
   clear g1 r1 e' ea1
   obtain ⟨_, A', c', ea, _, _, r1⟩ := U2.out.hn
   injection ea with ea1 _ ea2
   subst ea2
   obtain ⟨b8b, o8b, e', _, _, g1⟩ := r1 (by omega)
   have EA8b := Hd (ea1.trans e')
   have c8b : wr.cell? ⟨w.heap.size + 1, 8, none⟩ = some (.slice (some ⟨b8b, o8b, none⟩) n.nxt.length τ.k8) := by rw [← EA8b.out]; exact MM.cell_blk Y2.out rfl
   have x8b : wr.cell? ⟨b8b, o8b + i, none⟩ = some (.int .i64 (n.nxt.getD i 0)) := g1 _ _ (intsC_get (by omega))
   clear g1 r1 e' ea1
   obtain ⟨_, A', c', ea, _, _, r1⟩ := U.out.hm
   injection ea with ea1 _ ea2
   subst ea2
   obtain ⟨b9a, o9a, e', _, _, g1⟩ := r1 (by omega)
   have EA9a := Hd (ea1.trans e')
   have c9a : wr.cell? ⟨w.heap.size, 9, none⟩ = some (.slice (some ⟨b9a, o9a, none⟩) n.mtch.length σ.k9) := by rw [← EA9a.out]; exact MM.cell_blk Y.out rfl
   have x9a : wr.cell? ⟨b9a, o9a + i, none⟩ = some (.int .i64 (n.mtch.getD i 0)) := g1 _ _ (intsC_get (by omega))
   clear g1 r1 e' ea1
   obtain ⟨_, A', c', ea, _, _, r1⟩ := U2.out.hm
   injection ea with ea1 _ ea2
   subst ea2
   obtain ⟨b9b, o9b, e', _, _, g1⟩ := r1 (by omega)
   have EA9b := Hd (ea1.trans e')
   have c9b : wr.cell? ⟨w.heap.size + 1, 9, none⟩ = some (.slice (some ⟨b9b, o9b, none⟩) n.mtch.length τ.k9) := by rw [← EA9b.out]; exact MM.cell_blk Y2.out rfl
   have x9b : wr.cell? ⟨b9b, o9b + i, none⟩ = some (.int .i64 (n.mtch.getD i 0)) := g1 _ _ (intsC_get (by omega))
   clear g1 r1 e' ea1
   obtain ⟨_, A', c', ea, _, _, r1⟩ := U.out.hf
   injection ea with ea1 _ ea2
   subst ea2
   obtain ⟨b10a, o10a, e', _, _, g1⟩ := r1 (by omega)
   have EA10a := Hd (ea1.trans e')
   have c10a : wr.cell? ⟨w.heap.size, 10, none⟩ = some (.slice (some ⟨b10a, o10a, none⟩) n.forms.length σ.k10) := by rw [← EA10a.out]; exact MM.cell_blk Y.out rfl
   have x10a : wr.cell? ⟨b10a, o10a + i, none⟩ = some (.int .i64 (n.forms.getD i 0)) := g1 _ _ (intsC_get (by omega))
   clear g1 r1 e' ea1
   obtain ⟨_, A', c', ea, _, _, r1⟩ := U2.out.hf
   injection ea with ea1 _ ea2
   subst ea2
   obtain ⟨b10b, o10b, e', _, _, g1⟩ := r1 (by omega)
   have EA10b := Hd (ea1.trans e')
   have c10b : wr.cell? ⟨w.heap.size + 1, 10, none⟩ = some (.slice (some ⟨b10b, o10b, none⟩) n.forms.length τ.k10) := by rw [← EA10b.out]; exact MM.cell_blk Y2.out rfl
   have x10b : wr.cell? ⟨b10b, o10b + i, none⟩ = some (.int .i64 (n.forms.getD i 0)) := g1 _ _ (intsC_get (by omega))
   clear g1 r1 e' ea1
   go_wp2_with fail
   refine wT (.p 0 (.s 1 (.p 2 (.p 3 (.s 4 (.p 5 (.s 6 (.p 7 (.p 8 (.s 9 (.p 10 (.p 11 (.p 12 (.s 13 (.p 14 (.p 15 (.s 16 (.p 17 (.s 18 (.p 19 (.p 20 (.s 21 (.p 22 (.p 23 (.p 24 (.p 25 (.s 26 (.p 27 (.p 28 (.s 29 (.p 30 (.s 31 (.p 32 (.p 33 (.s 34 (.p 35 (.p 36 (.p 37 (.p 38 (.s 39 (.p 40 (.p 41 (.s 42 (.p 43 (.s 44 (.p 45 (.p 46 (.s 47 (.p 48 (.p 49 .nil)))))))))))))))))))))))))))))))))))))))))))))))))) (by kernel_rfl) (by kernel_rfl) ?_
   repeat ((first | refine sP rfl fun K hK => ?_ | refine sS rfl fun K hK => ?_); go_simp; refine hK _ ?_; clear hK K)
   refine sN ?_
   go_wp2_with fail
   go_roundw
   case rel => exact ⟨i + 1, by omega, by go_num, Y, Y2, Hd (U.out.step (fun _ _ _ => rfl)), Hd (U2.out.step (fun _ _ _ => rfl)), Hd HB.out.drew⟩
   case measure => simp [intOf]; omega
  ·obtain rfl : i = n.votes.length := by omega
   have hltb : decide ((n.votes.length : Int) < (n.votes.length : Int)) = false := by simp
   have c7 : wr.cell? ⟨w.heap.size, 7, none⟩ = some (.slice σ.A7 n.votes.length σ.k7) := MM.cell_blk Y.out rfl
   go_wp2_with fail
   go_ret
   exact ⟨rfl, HB.out⟩
end Go.Proofs.Ytnkmljdkokcdjaa
namespace Go.Proofs.Ytnkmljdkokcdjaa
open Go.RowKit Fed Go.RT
attribute [local go_sem high] Fed.max2_int Fed.min2_int
end Go.Proofs.Ytnkmljdkokcdjaa
namespace Go.Proofs.Ytnkmljdkokcdjaa
open Go.RowKit Fed
attribute [local go_sem high] Fed.max2_int Fed.min2_int Fed.MA Fed.ZN Fed.ZM Fed.NA
theorem RefAt.lower {w : World} {B B' x : Nat} {s : GS} {ρ : RM} {ok : Nat → Prop} (h : RefAt w B x s ρ ok) (hb : B' ≤ B) : RefAt w B' x s ρ ok := by
 obtain ⟨cs, p1, p2⟩ := h.nl
 obtain ⟨ds, f1, f2⟩ := h.fl
 exact ⟨Nat.le_trans hb h.hB, h.blk, h.ul, ⟨cs, p1.lower hb, p2⟩, h.up.lower hb, ⟨ds, f1.lower hb, f2⟩, h.no, h.okl⟩
theorem Both.new {w0 w w' : World} {g x : Nat} {s t : GS} {Z ok : Nat → Prop} {ρ : RM} (h : GrpAt w0 w g s Z) (r : RefAt w' w.heap.size x t ρ ok) (hok : ∀ j, ok j → w.heap.size ≤ j) (hb : Below w.heap.size w w') : Both w0 w' g x s t Z := by
 have hz : ∀ k, Z k → k < w.heap.size := fun k hk => by obtain ⟨μ, q, h1, h2, h3⟩ := h; exact (h3 k hk).1
 have hs := h.bel.size
 refine ⟨ρ, ok, r.lower hs, h.touch (fun k hk _ => hb.block k hk) (hb.mono hs) ?_, fun k hk => ⟨fun q => ?_, fun q => ?_⟩⟩
 ·intro k hk
  rcases hk with hk | hk | hk
  ·exact .inr ⟨(r.ownlt k hk).1, (r.ownlt k hk).2⟩
  ·exact .inr ⟨hok k hk, r.okl k hk⟩
  ·exact .inl hk
 ·have := (r.ownlt k q).1; have := hz k hk; omega
 ·have := hok k q; have := hz k hk; omega
theorem Both.lt {w0 w : World} {g x : Nat} {s t : GS} {Z : Nat → Prop} (h : Both w0 w g x s t Z) : ∀ k, Z k → k < w.heap.size := by
 obtain ⟨ρ, ok, r, p, z⟩ := h
 obtain ⟨μ, q, h1, h2, h3⟩ := p
 exact fun k hk => (h3 k (.inr (.inr hk))).1
theorem Both.bel {w0 w : World} {g x : Nat} {s t : GS} {Z : Nat → Prop} (h : Both w0 w g x s t Z) : Below w0.heap.size w0 w := by
 obtain ⟨ρ, ok, r, p, z⟩ := h
 exact p.bel
theorem Both.newer {w0 w w' : World} {g x : Nat} {s t : GS} {Z : Nat → Prop} (h : Both w0 w g x s t Z) (hb : Below w.heap.size w w') : Both w0 w' g x s t (fun k => Z k ∨ (w.heap.size ≤ k ∧ k < w'.heap.size)) := by
 obtain ⟨ρ, ok, r, p, z⟩ := h
 refine ⟨ρ, ok, r.below hb, p.touch (fun k hk _ => hb.block k hk) (hb.mono p.bel.size) (fun k hk => ?_), fun k hk => ?_⟩
 ·rcases hk with hk | hk | hk | hk
  ·exact .inl (.inl hk)
  ·exact .inl (.inr (.inl hk))
  ·exact .inl (.inr (.inr hk))
  ·exact .inr hk
 ·rcases hk with hk | hk
  ·exact z k hk
  ·exact ⟨fun q => by have := (r.ownlt k q).2; omega, fun q => by have := r.okl k q; omega⟩
theorem Both.touch {w0 w w' : World} {g x : Nat} {s t : GS} {Z Z' : Nat → Prop} (h : Both w0 w g x s t Z) (hm : ∀ k, k < w.heap.size → ¬ Z k → w'.heap[k]? = w.heap[k]?) (hb : Below w0.heap.size w w') (hz' : ∀ k, Z' k → Z k ∨ (w.heap.size ≤ k ∧ k < w'.heap.size)) : Both w0 w' g x s t Z' := by
 obtain ⟨ρ, ok, r, p, z⟩ := h
 refine ⟨ρ, ok, r.step (fun k hk => hm k (by rcases hk with hk | hk; exact (r.ownlt k hk).2; exact r.okl k hk) (fun q => by rcases hk with hk | hk; exact (z k q).1 hk; exact (z k q).2 hk)) hb.size, ?_, fun k hk => ?_⟩
 ·obtain ⟨μ, o, h1, h2, h3⟩ := p
  refine ⟨μ, o, h1.step (fun k hk => hm k (by rcases hk with hk | hk; exact (h1.ownlt k hk).2; exact h1.okl k hk) (fun q => by rcases hk with hk | hk; exact (h3 k (.inr (.inr q))).2.1 hk; exact (h3 k (.inr (.inr q))).2.2 hk)) hb.size, h2.trans hb, fun k hk => ?_⟩
  have old : ∀ k, (ρ.owns x k ∨ ok k ∨ Z k) → k < w'.heap.size ∧ ¬ μ.owns g k ∧ ¬ o k := fun k hk => ⟨Nat.lt_of_lt_of_le (h3 k hk).1 hb.size, (h3 k hk).2⟩
  rcases hk with hk | hk | hk
  ·exact old k (.inl hk)
  ·exact old k (.inr (.inl hk))
  ·rcases hz' k hk with hk | hk
   ·exact old k (.inr (.inr hk))
   ·exact ⟨hk.2, fun q => by have := (h1.ownlt k q).2; omega, fun q => by have := h1.okl k q; omega⟩
 ·rcases hz' k hk with hk | hk
  ·exact z k hk
  ·exact ⟨fun q => by have := (r.ownlt k q).2; omega, fun q => by have := r.okl k q; omega⟩
theorem GoodG.rows {K : Nat} {s : GS} (G : GoodG K s) (hK : K ≤ 1000) {i : Nat} (hi : i < s.ns.length) : (s.node (i : Int)).log.length ≤ 1000000 ∧ (s.node (i : Int)).votes.length ≤ 1000 ∧ (s.node (i : Int)).nxt.length = (s.node (i : Int)).votes.length ∧ (s.node (i : Int)).mtch.length = (s.node (i : Int)).votes.length ∧ (s.node (i : Int)).forms.length = (s.node (i : Int)).votes.length := by
 have gx := G.node hi
 exact ⟨by have := gx.l; omega, by rw [gx.v]; exact hK, by rw [gx.x, gx.v], by rw [gx.m, gx.v], by rw [gx.f, gx.v]⟩
end Go.Proofs.Ytnkmljdkokcdjaa
namespace Go.Proofs.Ytnkmljdkokcdjaa
open Go.RowKit Fed
attribute [local go_sem high] Fed.max2_int Fed.min2_int Fed.MA Fed.ZN Fed.ZM Fed.NA
def kx : ByteArray := ⟨#[120]⟩
def k1 : GS := ticks 0 5 (GS.new 3)
def k2 : GS := run 20 k1
def k3 : GS := k2.prop 0 kx
def k4 : GS := run 20 k3
theorem known_pure : (GS.new 3).leader = -1 ∧ k2.propOk 0 = true ∧ k4.leader = 0 ∧ k4.applied 0 = [kx] ∧ k4.isUp 1 = true ∧ k4.isUp 3 = false := ⟨by kernel_rfl, by kernel_rfl, by kernel_rfl, by kernel_rfl, by kernel_rfl, by kernel_rfl⟩
theorem within9_fn (w : World) (a n : Int) (ha : (Lit.int .i64 a).wf = true) (h0 : 0 < n) (h1 : n ≤ 1152921504606846976) :
  Calls Try.prog 35 #[.int .i64 a, .int .i64 n] w fun e w' => e = .returned (.int .i64 (wi a n)) ∧ w = w' := by
 have h2 := Int.tmod_lt_of_pos a h0
 have h3 : -n < a.tmod n := Int.lt_tmod_of_pos a h0
 have h4 : (n == 0) = false := by simp; omega
 unfold wi
 by_cases h : a.tmod n < 0
 ·go_enter Try.func35, Try.ntmps35
  go_wp2
  all_goals go_ret
  all_goals exact ⟨MM.ret_int (by first | (simp; done) | go_num), rfl⟩
 ·go_enter Try.func35, Try.ntmps35
  go_wp2
  all_goals go_ret
  all_goals exact ⟨MM.ret_int (by first | (simp; done) | go_num), rfl⟩
theorem gknown_any (w : World) : Calls Try.prog 34 #[] w fun e w' => e = .returned (.bool true) ∧ Below w.heap.size w w' := by
 go_enter Try.func34, Try.ntmps34
 go_wp2_with fail
 refine (newG w w 3 3 rfl (by omega) (by omega) (Below.refl _ _)).mono ?_
 rintro e w1 ⟨g, rfl, h1⟩
 have H := Hd h1
 have S := Hd (GSys.new 3)
 clear h1
 go_wp2_with fail
 refine (leaderG w w1 g _ _ H.out 3 (S.out.good (by omega)) (by omega) (by omega)).mono ?_
 rintro e w2 ⟨rfl, h2, _⟩
 have H2 := Hd h2
 clear h2 H
 rw [known_pure.1]
 have E := Hd (show ticks 0 (5 - 0) (GS.new 3) = k1 from rfl)
 go_wp2_with fail
 go_loopw [2] (fun t2 wr => ∃ (j b : Nat) (s : GS), j ≤ 5 ∧ t2 = .int .i64 j ∧ b ≤ 2 * j ∧ Hid (GrpAt w wr g s (fun k => k < w.heap.size)) ∧ Hid (GSys 3 b s) ∧ Hid (ticks 0 (5 - j) s = k1)) (fun t2 _ => 5 - (intOf t2).toNat)
 case atStart => exact ⟨0, 0, _, by omega, rfl, by omega, H2, S, E⟩
 case round =>
  clear H2 S E
  obtain ⟨j, b, s, hj, rfl, hb, H, S, E⟩ := hrel
  by_cases hlt : j < 5
  ·have hlb : decide ((j : Int) < 5) = true := decide_eq_true (by omega)
   go_wp2_with fail
   refine (tickG w wr g s _ H.out 3 (S.out.good (by omega)) (by omega) 0).mono ?_
   rintro e w1 ⟨rfl, h1, _⟩
   have H1 := Hd h1
   have S1 := Hd (S.out.tick (by omega) 0)
   have E2 := Hd (show ticks 0 (5 - (j + 1)) (s.tick 0) = k1 from by
    have h9 := E.out
    rw [show 5 - j = (5 - (j + 1)) + 1 from by omega] at h9
    exact h9)
   clear h1
   go_wp2_with fail
   go_roundw
   case rel => exact ⟨j + 1, b + 2, _, by omega, by go_num, by omega, H1, S1, E2⟩
   case measure => simp [intOf]; omega
  have hlb : decide ((j : Int) < 5) = false := decide_eq_false (by omega)
  have E2 : s = k1 := by
   have h9 := E.out
   rw [show 5 - j = 0 from by omega] at h9
   exact h9
  subst E2
  clear E
  have E := Hd (show run (20 - 0) k1 = k2 from rfl)
  go_wp2_with fail
  go_loopw [3] (fun t3 wr => ∃ (j b : Nat) (s : GS), j ≤ 20 ∧ t3 = .int .i64 j ∧ b ≤ 1000 + 3 * j ∧ Hid (GrpAt w wr g s (fun k => k < w.heap.size)) ∧ Hid (GSys 3 b s) ∧ Hid (run (20 - j) s = k2)) (fun t3 _ => 20 - (intOf t3).toNat)
  case atStart => exact ⟨0, _, _, by omega, rfl, by omega, H, S, E⟩
  case round =>
   clear H S E
   obtain ⟨j, b, s, hj, rfl, hb, H, S, E⟩ := hrel
   by_cases hlt : j < 20
   ·have hlb : decide ((j : Int) < 20) = true := decide_eq_true (by omega)
    go_wp2_with fail
    refine (flightG w wr g s _ H.out 3 (S.out.good (by omega)) (by omega)).mono ?_
    rintro e w' ⟨rfl, rfl⟩
    by_cases hf : 0 < s.f.length
    ·have hfb : decide (0 < s.f.length) = true := decide_eq_true hf
     have E2 := Hd (show run (20 - (j + 1)) (s.deliver 0) = k2 from by
      have h9 := E.out
      rw [show 20 - j = (20 - (j + 1)) + 1 from by omega] at h9
      unfold run at h9
      rw [if_pos hf] at h9
      exact h9)
     clear hf
     go_wp2_with fail
     refine (deliverG w wr g s _ H.out 3 (S.out.good (by omega)) (by omega) 0).mono ?_
     rintro e w1 ⟨rfl, h1, _⟩
     have H1 := Hd h1
     have S1 := Hd (S.out.deliver (by omega) 0)
     clear h1
     go_wp2_with fail
     go_roundw
     case rel => exact ⟨j + 1, b + 3, _, by omega, by go_num, by omega, H1, S1, E2⟩
     case measure => simp [intOf]; omega
    ·have hz : s.f.length = 0 := by omega
     have E2 := Hd (show s = k2 from by
      have h9 := E.out
      rw [show 20 - j = (20 - (j + 1)) + 1 from by omega] at h9
      unfold run at h9
      rw [if_neg hf] at h9
      exact h9)
     clear hf E
     go_wp2_with fail
     clear hz
     have e2 := E2.out
     subst e2
     refine (propG w wr g k2 _ H.out 3 (S.out.good (by omega)) (by omega) 0 kx).mono ?_
     rintro e w3 ⟨rfl, h3, _⟩
     have H3 := Hd h3
     have S3 := Hd (S.out.prop (by omega) 0 kx)
     clear h3 H S
     have H := H3
     have S := S3
     clear H3 S3
     rw [known_pure.2.1]
     have E := Hd (show run (20 - 0) (k2.prop 0 kx) = k4 from rfl)
     go_wp2_with fail
     go_loopw [5] (fun t5 wr => ∃ (j b : Nat) (s : GS), j ≤ 20 ∧ t5 = .int .i64 j ∧ b ≤ 2000 + 3 * j ∧ Hid (GrpAt w wr g s (fun k => k < w.heap.size)) ∧ Hid (GSys 3 b s) ∧ Hid (run (20 - j) s = k4)) (fun t5 _ => 20 - (intOf t5).toNat)
     case atStart => exact ⟨0, _, _, by omega, rfl, by omega, H, S, E⟩
     case round =>
      clear H S E
      obtain ⟨j, b, s, hj, rfl, hb, H, S, E⟩ := hrel
      by_cases hlt : j < 20
      ·have hlb : decide ((j : Int) < 20) = true := decide_eq_true (by omega)
       go_wp2_with fail
       refine (flightG w wr g s _ H.out 3 (S.out.good (by omega)) (by omega)).mono ?_
       rintro e w' ⟨rfl, rfl⟩
       by_cases hf : 0 < s.f.length
       ·have hfb : decide (0 < s.f.length) = true := decide_eq_true hf
        have E2 := Hd (show run (20 - (j + 1)) (s.deliver 0) = k4 from by
         have h9 := E.out
         rw [show 20 - j = (20 - (j + 1)) + 1 from by omega] at h9
         unfold run at h9
         rw [if_pos hf] at h9
         exact h9)
        clear hf
        go_wp2_with fail
        refine (deliverG w wr g s _ H.out 3 (S.out.good (by omega)) (by omega) 0).mono ?_
        rintro e w1 ⟨rfl, h1, _⟩
        have H1 := Hd h1
        have S1 := Hd (S.out.deliver (by omega) 0)
        clear h1
        go_wp2_with fail
        go_roundw
        case rel => exact ⟨j + 1, b + 3, _, by omega, by go_num, by omega, H1, S1, E2⟩
        case measure => simp [intOf]; omega
       ·have hz : s.f.length = 0 := by omega
        have E2 := Hd (show s = k4 from by
         have h9 := E.out
         rw [show 20 - j = (20 - (j + 1)) + 1 from by omega] at h9
         unfold run at h9
         rw [if_neg hf] at h9
         exact h9)
        clear hf E
        go_wp2_with fail
        clear hz
        have e2 := E2.out
        subst e2
        refine (appliedG w wr g k4 _ H.out 3 (S.out.good (by omega)) (by omega) 0).mono ?_
        rintro e w5 ⟨⟨A, c, rfl, hr⟩, h5, hb5⟩
        have H5 := Hd h5
        rw [known_pure.2.2.2.1] at hr ⊢
        obtain ⟨_, A', c', ea, _, _, hrest⟩ := hr
        injection ea with ea1 el ea2
        clear el
        subst ea1 ea2
        obtain ⟨ba, oa, rfl, _, hbl, hcell⟩ := hrest (by decide)
        have x0 : w5.cell? ⟨ba, oa, none⟩ = some (.string kx) := by simpa using hcell 0 _ rfl
        clear hcell hrest h5 hb5
        go_wp2_with fail
        refine (leaderG w w5 g k4 _ H5.out 3 (S.out.good (by omega)) (by omega) (by omega)).mono ?_
        rintro e w6 ⟨rfl, h6, hb6⟩
        have H6 := Hd h6
        rw [known_pure.2.2.1]
        have x6 : w6.cell? ⟨ba, oa, none⟩ = some (.string kx) := (World.cell?_of_block (a := ⟨ba, oa, none⟩) (hb6.block ba hbl)).trans x0
        have hkx : ((kx == (⟨#[120]⟩ : ByteArray)) = true) := by kernel_rfl
        clear h6 hb6 x0
        unfold kx at x6
        go_wp2_with fail
        refine (upG w w6 g k4 _ H6.out 3 (S.out.good (by omega)) (by omega) 1).mono ?_
        rintro e w' ⟨rfl, rfl⟩
        rw [known_pure.2.2.2.2.1]
        go_wp2_with fail
        refine (upG w w6 g k4 _ H6.out 3 (S.out.good (by omega)) (by omega) 3).mono ?_
        rintro e w' ⟨rfl, rfl⟩
        rw [known_pure.2.2.2.2.2]
        go_wp2_with fail
        go_ret
        exact ⟨rfl, H6.out.bel⟩
      ·have hlb : decide ((j : Int) < 20) = false := decide_eq_false (by omega)
       have E2 := Hd (show s = k4 from by
        have h9 := E.out
        rw [show 20 - j = 0 from by omega] at h9
        exact h9)
       clear E
       go_wp2_with fail
       have e2 := E2.out
       subst e2
       refine (appliedG w wr g k4 _ H.out 3 (S.out.good (by omega)) (by omega) 0).mono ?_
       rintro e w5 ⟨⟨A, c, rfl, hr⟩, h5, hb5⟩
       have H5 := Hd h5
       rw [known_pure.2.2.2.1] at hr ⊢
       obtain ⟨_, A', c', ea, _, _, hrest⟩ := hr
       injection ea with ea1 el ea2
       clear el
       subst ea1 ea2
       obtain ⟨ba, oa, rfl, _, hbl, hcell⟩ := hrest (by decide)
       have x0 : w5.cell? ⟨ba, oa, none⟩ = some (.string kx) := by simpa using hcell 0 _ rfl
       clear hcell hrest h5 hb5
       go_wp2_with fail
       refine (leaderG w w5 g k4 _ H5.out 3 (S.out.good (by omega)) (by omega) (by omega)).mono ?_
       rintro e w6 ⟨rfl, h6, hb6⟩
       have H6 := Hd h6
       rw [known_pure.2.2.1]
       have x6 : w6.cell? ⟨ba, oa, none⟩ = some (.string kx) := (World.cell?_of_block (a := ⟨ba, oa, none⟩) (hb6.block ba hbl)).trans x0
       have hkx : ((kx == (⟨#[120]⟩ : ByteArray)) = true) := by kernel_rfl
       clear h6 hb6 x0
       unfold kx at x6
       go_wp2_with fail
       refine (upG w w6 g k4 _ H6.out 3 (S.out.good (by omega)) (by omega) 1).mono ?_
       rintro e w' ⟨rfl, rfl⟩
       rw [known_pure.2.2.2.2.1]
       go_wp2_with fail
       refine (upG w w6 g k4 _ H6.out 3 (S.out.good (by omega)) (by omega) 3).mono ?_
       rintro e w' ⟨rfl, rfl⟩
       rw [known_pure.2.2.2.2.2]
       go_wp2_with fail
       go_ret
       exact ⟨rfl, H6.out.bel⟩
   ·have hlb : decide ((j : Int) < 20) = false := decide_eq_false (by omega)
    have E2 := Hd (show s = k2 from by
     have h9 := E.out
     rw [show 20 - j = 0 from by omega] at h9
     exact h9)
    clear E
    go_wp2_with fail
    have e2 := E2.out
    subst e2
    refine (propG w wr g k2 _ H.out 3 (S.out.good (by omega)) (by omega) 0 kx).mono ?_
    rintro e w3 ⟨rfl, h3, _⟩
    have H3 := Hd h3
    have S3 := Hd (S.out.prop (by omega) 0 kx)
    clear h3 H S
    have H := H3
    have S := S3
    clear H3 S3
    rw [known_pure.2.1]
    have E := Hd (show run (20 - 0) (k2.prop 0 kx) = k4 from rfl)
    go_wp2_with fail
    go_loopw [5] (fun t5 wr => ∃ (j b : Nat) (s : GS), j ≤ 20 ∧ t5 = .int .i64 j ∧ b ≤ 2000 + 3 * j ∧ Hid (GrpAt w wr g s (fun k => k < w.heap.size)) ∧ Hid (GSys 3 b s) ∧ Hid (run (20 - j) s = k4)) (fun t5 _ => 20 - (intOf t5).toNat)
    case atStart => exact ⟨0, _, _, by omega, rfl, by omega, H, S, E⟩
    case round =>
     clear H S E
     obtain ⟨j, b, s, hj, rfl, hb, H, S, E⟩ := hrel
     by_cases hlt : j < 20
     ·have hlb : decide ((j : Int) < 20) = true := decide_eq_true (by omega)
      go_wp2_with fail
      refine (flightG w wr g s _ H.out 3 (S.out.good (by omega)) (by omega)).mono ?_
      rintro e w' ⟨rfl, rfl⟩
      by_cases hf : 0 < s.f.length
      ·have hfb : decide (0 < s.f.length) = true := decide_eq_true hf
       have E2 := Hd (show run (20 - (j + 1)) (s.deliver 0) = k4 from by
        have h9 := E.out
        rw [show 20 - j = (20 - (j + 1)) + 1 from by omega] at h9
        unfold run at h9
        rw [if_pos hf] at h9
        exact h9)
       clear hf
       go_wp2_with fail
       refine (deliverG w wr g s _ H.out 3 (S.out.good (by omega)) (by omega) 0).mono ?_
       rintro e w1 ⟨rfl, h1, _⟩
       have H1 := Hd h1
       have S1 := Hd (S.out.deliver (by omega) 0)
       clear h1
       go_wp2_with fail
       go_roundw
       case rel => exact ⟨j + 1, b + 3, _, by omega, by go_num, by omega, H1, S1, E2⟩
       case measure => simp [intOf]; omega
      ·have hz : s.f.length = 0 := by omega
       have E2 := Hd (show s = k4 from by
        have h9 := E.out
        rw [show 20 - j = (20 - (j + 1)) + 1 from by omega] at h9
        unfold run at h9
        rw [if_neg hf] at h9
        exact h9)
       clear hf E
       go_wp2_with fail
       clear hz
       have e2 := E2.out
       subst e2
       refine (appliedG w wr g k4 _ H.out 3 (S.out.good (by omega)) (by omega) 0).mono ?_
       rintro e w5 ⟨⟨A, c, rfl, hr⟩, h5, hb5⟩
       have H5 := Hd h5
       rw [known_pure.2.2.2.1] at hr ⊢
       obtain ⟨_, A', c', ea, _, _, hrest⟩ := hr
       injection ea with ea1 el ea2
       clear el
       subst ea1 ea2
       obtain ⟨ba, oa, rfl, _, hbl, hcell⟩ := hrest (by decide)
       have x0 : w5.cell? ⟨ba, oa, none⟩ = some (.string kx) := by simpa using hcell 0 _ rfl
       clear hcell hrest h5 hb5
       go_wp2_with fail
       refine (leaderG w w5 g k4 _ H5.out 3 (S.out.good (by omega)) (by omega) (by omega)).mono ?_
       rintro e w6 ⟨rfl, h6, hb6⟩
       have H6 := Hd h6
       rw [known_pure.2.2.1]
       have x6 : w6.cell? ⟨ba, oa, none⟩ = some (.string kx) := (World.cell?_of_block (a := ⟨ba, oa, none⟩) (hb6.block ba hbl)).trans x0
       have hkx : ((kx == (⟨#[120]⟩ : ByteArray)) = true) := by kernel_rfl
       clear h6 hb6 x0
       unfold kx at x6
       go_wp2_with fail
       refine (upG w w6 g k4 _ H6.out 3 (S.out.good (by omega)) (by omega) 1).mono ?_
       rintro e w' ⟨rfl, rfl⟩
       rw [known_pure.2.2.2.2.1]
       go_wp2_with fail
       refine (upG w w6 g k4 _ H6.out 3 (S.out.good (by omega)) (by omega) 3).mono ?_
       rintro e w' ⟨rfl, rfl⟩
       rw [known_pure.2.2.2.2.2]
       go_wp2_with fail
       go_ret
       exact ⟨rfl, H6.out.bel⟩
     ·have hlb : decide ((j : Int) < 20) = false := decide_eq_false (by omega)
      have E2 := Hd (show s = k4 from by
       have h9 := E.out
       rw [show 20 - j = 0 from by omega] at h9
       exact h9)
      clear E
      go_wp2_with fail
      have e2 := E2.out
      subst e2
      refine (appliedG w wr g k4 _ H.out 3 (S.out.good (by omega)) (by omega) 0).mono ?_
      rintro e w5 ⟨⟨A, c, rfl, hr⟩, h5, hb5⟩
      have H5 := Hd h5
      rw [known_pure.2.2.2.1] at hr ⊢
      obtain ⟨_, A', c', ea, _, _, hrest⟩ := hr
      injection ea with ea1 el ea2
      clear el
      subst ea1 ea2
      obtain ⟨ba, oa, rfl, _, hbl, hcell⟩ := hrest (by decide)
      have x0 : w5.cell? ⟨ba, oa, none⟩ = some (.string kx) := by simpa using hcell 0 _ rfl
      clear hcell hrest h5 hb5
      go_wp2_with fail
      refine (leaderG w w5 g k4 _ H5.out 3 (S.out.good (by omega)) (by omega) (by omega)).mono ?_
      rintro e w6 ⟨rfl, h6, hb6⟩
      have H6 := Hd h6
      rw [known_pure.2.2.1]
      have x6 : w6.cell? ⟨ba, oa, none⟩ = some (.string kx) := (World.cell?_of_block (a := ⟨ba, oa, none⟩) (hb6.block ba hbl)).trans x0
      have hkx : ((kx == (⟨#[120]⟩ : ByteArray)) = true) := by kernel_rfl
      clear h6 hb6 x0
      unfold kx at x6
      go_wp2_with fail
      refine (upG w w6 g k4 _ H6.out 3 (S.out.good (by omega)) (by omega) 1).mono ?_
      rintro e w' ⟨rfl, rfl⟩
      rw [known_pure.2.2.2.2.1]
      go_wp2_with fail
      refine (upG w w6 g k4 _ H6.out 3 (S.out.good (by omega)) (by omega) 3).mono ?_
      rintro e w' ⟨rfl, rfl⟩
      rw [known_pure.2.2.2.2.2]
      go_wp2_with fail
      go_ret
      exact ⟨rfl, H6.out.bel⟩
end Go.Proofs.Ytnkmljdkokcdjaa
namespace Go.Proofs.Ytnkmljdkokcdjaa
open Go.RowKit Fed
attribute [local go_sem high] Fed.max2_int Fed.min2_int Fed.MA Fed.ZN Fed.ZM Fed.NA
theorem wi_nat (q n : Nat) (h : 0 < n) : wi (q : Int) (n : Int) = ((q % n : Nat) : Int) := by
 have h1 : (q : Int).tmod (n : Int) = ((q % n : Nat) : Int) := by rw [Int.ofNat_tmod]
 unfold wi
 rw [h1, if_neg (by omega)]
theorem wf_nat (q : Nat) (h : q ≤ 4611686018427387904) : (Lit.int .i64 (q : Int)).wf = true := by
 have h1 : IntKind.i64.min = -9223372036854775808 := rfl
 have h2 : IntKind.i64.max = 9223372036854775807 := rfl
 simp only [Lit.wf, h1, h2, Bool.and_eq_true, decide_eq_true_eq]
 omega
theorem step_any (w0 w : World) (g x : Nat) (s : GS) (Z : Nat → Prop) (h : Both w0 w g x s s Z) (K b : Nat) (S : GSys K b s) (hb : b + 3 ≤ 100000) (hK1 : 1 ≤ K) (hK5 : K ≤ 5) (n : Nat) (hn : n < 1073741824) :
  Calls Try.prog 51 #[.pointer (some ⟨g, 0, none⟩), .pointer (some ⟨x, 0, none⟩), .int .i64 n] w fun e w' => e = .returned (.bool true) ∧ Both w0 w' g x (stepS K s n) (stepS K s n) Z ∧ StaysB w0 w w' Z := by
 have GG := Hd (S.good (by omega))
 have hl : s.ns.length = K := S.len
 have H := Hd h
 have SS := Hd S
 obtain ⟨ρ, ok, r, p, z⟩ := h
 have c0 := r.c0
 rw [hl] at c0
 obtain ⟨q, hq⟩ : ∃ q, q = n / 20 := ⟨_, rfl⟩
 obtain ⟨j, hj⟩ : ∃ j, j = n % 20 := ⟨_, rfl⟩
 have f1 : (n : Int) / 20 = (q : Int) := by omega
 have f2 : (n : Int) % 20 = (j : Int) := by omega
 have hq9 : q < 53687092 := by omega
 have hj9 : j < 20 := by omega
 have hq64 : IntKind.i64.wrap ((K : Int) + 1) = ((K + 1 : Nat) : Int) := by rw [IntWalk.i64_in _ (by omega)]; omega
 have QQ := Hd hq
 have JJ := Hd hj
 have HWF := Hd (wf_nat q (by omega))
 clear r p z S hq hj
 go_enter Try.func51, Try.ntmps51
 go_wp2_with fail
 refine (within9_fn _ (q : Int) ((K : Int) + 1) HWF.out (by omega) (by omega)).mono ?_
 rintro e w' ⟨rfl, rfl⟩
 obtain ⟨m1, hm1⟩ : ∃ m : Nat, wi (q : Int) ((K : Int) + 1) = (m : Int) ∧ m = q % (K + 1) := ⟨_, wi_nat q (K + 1) (by omega), rfl⟩
 rw [hm1.1]
 have M1 := Hd hm1.2
 clear hm1
 go_wp2_with fail
 refine (within9_fn _ (q : Int) 29 HWF.out (by omega) (by omega)).mono ?_
 rintro e w' ⟨rfl, rfl⟩
 obtain ⟨m2, hm2⟩ : ∃ m : Nat, wi (q : Int) 29 = (m : Int) ∧ m = q % 29 := ⟨_, wi_nat q 29 (by omega), rfl⟩
 rw [hm2.1]
 have M2 := Hd hm2.2
 clear hm2
 obtain ⟨id, hid⟩ : ∃ id, id = stepId K q := ⟨_, rfl⟩
 have ID := Hd hid
 clear hid f1 hq64
 go_upto_if 26 with (fail)
 go_cut [9] (fun v9 wc => v9 = .int .i64 (id : Int) ∧ w = wc)
 case first =>
  by_cases h2 : m2 = 0
  ·have h2b : decide (0 < m2) = false := decide_eq_false (by omega)
   have HE := Hd (show m1 = id from by rw [ID.out, M1.out]; unfold stepId; rw [if_pos (by rw [← M2.out]; exact h2)])
   have h2' : ¬ 0 < m2 := by omega
   clear h2
   go_wp2_with fail
   go_meet
   case rel => exact ⟨by rw [HE.out], rfl⟩
  ·have h2b : decide (0 < m2) = true := decide_eq_true (by omega)
   have h2' : 0 < m2 := by omega
   clear h2
   go_wp2_with fail
   refine (within9_fn _ (q : Int) (K : Int) HWF.out (by omega) (by omega)).mono ?_
   rintro e w' ⟨rfl, rfl⟩
   have hm3 : wi (q : Int) (K : Int) = (id : Int) := by
    rw [wi_nat q K (by omega), ID.out]; unfold stepId; rw [if_neg (by rw [← M2.out]; omega)]
   rw [hm3]
   clear hm3
   go_wp2_with fail
   go_meet
   case rel => exact ⟨rfl, rfl⟩
 case rest =>
  obtain ⟨rfl, rfl⟩ := hcut
  clear M1 M2
  go_wp2_with fail
  refine (within9_fn _ (q : Int) 5 HWF.out (by omega) (by omega)).mono ?_
  rintro e w' ⟨rfl, rfl⟩
  obtain ⟨at5, ha5⟩ : ∃ m : Nat, wi (q : Int) 5 = (m : Int) ∧ m = q % 5 := ⟨_, wi_nat q 5 (by omega), rfl⟩
  rw [ha5.1]
  have A5 := Hd ha5.2
  clear ha5
  go_upto_region 9 with (fail)
  rw [f2]
  clear f2
  by_cases h0 : j < 6
  ·have hb0 : decide (j < 6) = true := decide_eq_true h0
   have ST := Hd (show stepS K s n = s.tick (id : Int) from by unfold stepS; rw [← JJ.out, ← QQ.out, if_pos (by omega), ID.out])
   go_wp2_with fail
   refine (b_gtick H.out GG.out (by omega) (id : Int)).mono ?_
   rintro e w1 ⟨rfl, h1, hs1⟩
   have H1 := Hd h1
   have S1 := Hd hs1
   clear h1 hs1
   go_wp2_with fail
   refine (b_rtick H1.out GG.out (by omega) (id : Int)).mono ?_
   rintro e w2 ⟨rfl, h2, hs2⟩
   have HF := Hd (show Both w0 w2 g x (stepS K s n) (stepS K s n) Z from by rw [ST.out]; exact h2)
   have SF := Hd (StaysB.trans S1.out hs2)
   clear h2 hs2
   go_wp2_with fail
   go_ret
   exact ⟨by first | rfl | simp, HF.out, SF.out⟩
  ·have hb0 : decide (j < 6) = false := decide_eq_false h0
   by_cases h1 : j < 13
   ·have hb1 : decide (j < 13) = true := decide_eq_true h1
    have ST := Hd (show stepS K s n = s.deliver (at5 : Int) from by unfold stepS; rw [← JJ.out, ← QQ.out, if_neg (by omega), if_pos (by omega), A5.out])
    go_wp2_with fail
    refine (b_gdeliver H.out GG.out (by omega) (at5 : Int)).mono ?_
    rintro e w1 ⟨rfl, h1, hs1⟩
    have H1 := Hd h1
    have S1 := Hd hs1
    clear h1 hs1
    go_wp2_with fail
    refine (b_rdeliver H1.out GG.out (by omega) (at5 : Int)).mono ?_
    rintro e w2 ⟨rfl, h2, hs2⟩
    have HF := Hd (show Both w0 w2 g x (stepS K s n) (stepS K s n) Z from by rw [ST.out]; exact h2)
    have SF := Hd (StaysB.trans S1.out hs2)
    clear h2 hs2
    have hbb : (s.has (at5 : Int) == s.has (at5 : Int)) = true := by simp
    go_wp2_with fail
    go_ret
    exact ⟨by first | rfl | simp, HF.out, SF.out⟩
   ·have hb1 : decide (j < 13) = false := decide_eq_false h1
    by_cases h2 : j < 14
    ·have hb2 : decide (j < 14) = true := decide_eq_true h2
     have ST := Hd (show stepS K s n = s.cut (at5 : Int) from by unfold stepS; rw [← JJ.out, ← QQ.out, if_neg (by omega), if_neg (by omega), if_pos (by omega), A5.out])
     go_wp2_with fail
     refine (b_gdrop H.out GG.out (by omega) (at5 : Int)).mono ?_
     rintro e w1 ⟨rfl, h1, hs1⟩
     have H1 := Hd h1
     have S1 := Hd hs1
     clear h1 hs1
     go_wp2_with fail
     refine (b_rdrop H1.out GG.out (by omega) (at5 : Int)).mono ?_
     rintro e w2 ⟨rfl, h2, hs2⟩
     have HF := Hd (show Both w0 w2 g x (stepS K s n) (stepS K s n) Z from by rw [ST.out]; exact h2)
     have SF := Hd (StaysB.trans S1.out hs2)
     clear h2 hs2
     have hbb : (s.has (at5 : Int) == s.has (at5 : Int)) = true := by simp
     go_wp2_with fail
     go_ret
     exact ⟨by first | rfl | simp, HF.out, SF.out⟩
    ·have hb2 : decide (j < 14) = false := decide_eq_false h2
     by_cases h3 : j < 15
     ·have hb3 : decide (j < 15) = true := decide_eq_true h3
      have ST := Hd (show stepS K s n = s.twice (at5 : Int) from by unfold stepS; rw [← JJ.out, ← QQ.out, if_neg (by omega), if_neg (by omega), if_neg (by omega), if_pos (by omega), A5.out])
      go_wp2_with fail
      refine (b_gtwice H.out GG.out (by omega) (at5 : Int)).mono ?_
      rintro e w1 ⟨rfl, h1, hs1⟩
      have H1 := Hd h1
      have S1 := Hd hs1
      clear h1 hs1
      go_wp2_with fail
      refine (b_rtwice H1.out GG.out (by omega) (at5 : Int)).mono ?_
      rintro e w2 ⟨rfl, h2, hs2⟩
      have HF := Hd (show Both w0 w2 g x (stepS K s n) (stepS K s n) Z from by rw [ST.out]; exact h2)
      have SF := Hd (StaysB.trans S1.out hs2)
      clear h2 hs2
      have hbb : (s.has (at5 : Int) == s.has (at5 : Int)) = true := by simp
      go_wp2_with fail
      go_ret
      exact ⟨by first | rfl | simp, HF.out, SF.out⟩
     ·have hb3 : decide (j < 15) = false := decide_eq_false h3
      by_cases h4 : j < 17
      ·have hb4 : decide (j < 17) = true := decide_eq_true h4
       obtain ⟨l8, hl8⟩ : ∃ l, l = q % 8 := ⟨_, rfl⟩
       have f8 : (q : Int) % 8 = (l8 : Int) := by omega
       have hl9 : l8 < 8 := by omega
       obtain ⟨c2, hc2⟩ : ∃ c, c = q / 8 % 2 := ⟨_, rfl⟩
       have f9 : (q : Int) / 8 % 2 = (c2 : Int) := by omega
       have L8 := Hd hl8
       have C2 := Hd hc2
       have hwy : IntKind.i64.wrap ((l8 : Int) + 1) = ((l8 + 1 : Nat) : Int) := by rw [IntWalk.i64_in _ (by omega)]; omega
       have hA : 0 ≤ (l8 : Int) + 1 ∧ (l8 : Int) + 1 ≤ 8 := by omega
       have hB : (l8 : Int) ≤ (l8 : Int) + 1 := by omega
       clear hl8 hc2
       go_upto_region 20 with (fail)
       rw [letter_eq l8 hl9]
       obtain ⟨d, hd⟩ : ∃ d, d = letter l8 := ⟨_, rfl⟩
       rw [← hd]
       have D := Hd hd
       clear hd f8 hwy hA hB
       by_cases h2 : c2 = 0
       ·subst h2
        go_wp2_with fail
        refine (b_rleader H.out GG.out (by omega) hK1).mono ?_
        rintro e w3 ⟨rfl, hl3, hbl3⟩
        have HL3 := Hd hl3
        have BL3 := Hd (show StaysB w0 w w3 Z from ⟨fun k hk => hbl3.block k (H.out.lt k hk), hbl3.mono H.out.bel.size⟩)
        clear hl3 hbl3
        by_cases h0 : 0 ≤ s.leader
        ·have h0b : decide (0 ≤ s.leader) = true := decide_eq_true h0
         go_wp2_with fail
         refine (b_rleader HL3.out GG.out (by omega) hK1).mono ?_
         rintro e w4 ⟨rfl, hl4, hbl4⟩
         have HL4 := Hd hl4
         have BL4 := Hd (show StaysB w0 w3 w4 Z from ⟨fun k hk => hbl4.block k (HL3.out.lt k hk), hbl4.mono HL3.out.bel.size⟩)
         clear hl4 hbl4
         have BL5 := Hd (StaysB.trans BL3.out BL4.out)
         have ST := Hd (show stepS K s n = s.prop s.leader d from by unfold stepS; rw [← JJ.out, ← QQ.out, if_neg (by omega), if_neg (by omega), if_neg (by omega), if_neg (by omega), if_pos (by omega), ← L8.out, ← D.out]; unfold stepTo; rw [← C2.out, if_pos ⟨rfl, h0⟩])
         go_wp2_with fail
         refine (b_gprop HL4.out GG.out (by omega) s.leader d).mono ?_
         rintro e w1 ⟨rfl, h1, hs1⟩
         have H1 := Hd h1
         have S1 := Hd hs1
         clear h1 hs1
         go_wp2_with fail
         refine (b_rprop H1.out GG.out (by omega) s.leader d).mono ?_
         rintro e w2 ⟨rfl, h2, hs2⟩
         have HF := Hd (show Both w0 w2 g x (stepS K s n) (stepS K s n) Z from by rw [ST.out]; exact h2)
         have SF := Hd (StaysB.trans BL5.out (StaysB.trans S1.out hs2))
         clear h2 hs2
         have hbb : (s.propOk s.leader == s.propOk s.leader) = true := by simp
         go_wp2_with fail
         go_ret
         exact ⟨by first | rfl | simp, HF.out, SF.out⟩
        ·have h0b : decide (0 ≤ s.leader) = false := decide_eq_false h0
         have ST := Hd (show stepS K s n = s.prop (id : Int) d from by unfold stepS; rw [← JJ.out, ← QQ.out, if_neg (by omega), if_neg (by omega), if_neg (by omega), if_neg (by omega), if_pos (by omega), ← L8.out, ← D.out]; unfold stepTo; rw [← C2.out, if_neg (fun c => h0 c.2), ID.out])
         go_wp2_with fail
         refine (b_gprop HL3.out GG.out (by omega) (id : Int) d).mono ?_
         rintro e w1 ⟨rfl, h1, hs1⟩
         have H1 := Hd h1
         have S1 := Hd hs1
         clear h1 hs1
         go_wp2_with fail
         refine (b_rprop H1.out GG.out (by omega) (id : Int) d).mono ?_
         rintro e w2 ⟨rfl, h2, hs2⟩
         have HF := Hd (show Both w0 w2 g x (stepS K s n) (stepS K s n) Z from by rw [ST.out]; exact h2)
         have SF := Hd (StaysB.trans BL3.out (StaysB.trans S1.out hs2))
         clear h2 hs2
         have hbb : (s.propOk (id : Int) == s.propOk (id : Int)) = true := by simp
         go_wp2_with fail
         go_ret
         exact ⟨by first | rfl | simp, HF.out, SF.out⟩
       ·have h2b : ((c2 : Int) == 0) = false := by simp [h2]
        have ST := Hd (show stepS K s n = s.prop (id : Int) d from by unfold stepS; rw [← JJ.out, ← QQ.out, if_neg (by omega), if_neg (by omega), if_neg (by omega), if_neg (by omega), if_pos (by omega), ← L8.out, ← D.out]; unfold stepTo; rw [← C2.out, if_neg (fun c => h2 c.1), ID.out])
        go_wp2_with fail
        refine (b_gprop H.out GG.out (by omega) (id : Int) d).mono ?_
        rintro e w1 ⟨rfl, h1, hs1⟩
        have H1 := Hd h1
        have S1 := Hd hs1
        clear h1 hs1
        go_wp2_with fail
        refine (b_rprop H1.out GG.out (by omega) (id : Int) d).mono ?_
        rintro e w2 ⟨rfl, h2, hs2⟩
        have HF := Hd (show Both w0 w2 g x (stepS K s n) (stepS K s n) Z from by rw [ST.out]; exact h2)
        have SF := Hd (StaysB.trans S1.out hs2)
        clear h2 hs2
        have hbb : (s.propOk (id : Int) == s.propOk (id : Int)) = true := by simp
        go_wp2_with fail
        go_ret
        exact ⟨by first | rfl | simp, HF.out, SF.out⟩
      ·have hb4 : decide (j < 17) = false := decide_eq_false h4
       by_cases h5 : j < 18
       ·have hb5 : decide (j < 18) = true := decide_eq_true h5
        obtain ⟨c3, hc3⟩ : ∃ c, c = q / 7 % 3 := ⟨_, rfl⟩
        have f9 : (q : Int) / 7 % 3 = (c3 : Int) := by omega
        have C3 := Hd hc3
        clear hc3
        by_cases h3 : c3 = 0
        ·subst h3
         have ST := Hd (show stepS K s n = s.crash (id : Int) from by unfold stepS; rw [← JJ.out, ← QQ.out, if_neg (by omega), if_neg (by omega), if_neg (by omega), if_neg (by omega), if_neg (by omega), if_pos (by omega), if_pos C3.out.symm, ID.out])
         go_wp2_with fail
         refine (b_gcrash H.out GG.out (by omega) (id : Int)).mono ?_
         rintro e w1 ⟨rfl, h1, hs1⟩
         have H1 := Hd h1
         have S1 := Hd hs1
         clear h1 hs1
         go_wp2_with fail
         refine (b_rcrash H1.out GG.out (by omega) (id : Int)).mono ?_
         rintro e w2 ⟨rfl, h2, hs2⟩
         have HF := Hd (show Both w0 w2 g x (stepS K s n) (stepS K s n) Z from by rw [ST.out]; exact h2)
         have SF := Hd (StaysB.trans S1.out hs2)
         clear h2 hs2
         have hbb : (s.isUp (id : Int) == s.isUp (id : Int)) = true := by simp
         go_wp2_with fail
         go_ret
         exact ⟨by first | rfl | simp, HF.out, SF.out⟩
        ·have h3b : ((c3 : Int) == 0) = false := by simp [h3]
         have ST := Hd (show stepS K s n = s from by unfold stepS; rw [← JJ.out, ← QQ.out, if_neg (by omega), if_neg (by omega), if_neg (by omega), if_neg (by omega), if_neg (by omega), if_pos (by omega), if_neg (by rw [← C3.out]; exact h3)])
         go_wp2_with fail
         go_ret
         exact ⟨rfl, by rw [ST.out]; exact H.out, StaysB.refl _ _ _⟩
       ·have hb5 : decide (j < 18) = false := decide_eq_false h5
        obtain ⟨c4, hc4⟩ : ∃ c, c = q / 7 % 4 := ⟨_, rfl⟩
        have f9 : (q : Int) / 7 % 4 = (c4 : Int) := by omega
        have C4 := Hd hc4
        clear hc4
        have ST := Hd (show stepS K s n = s.start (id : Int) (c4 : Int) from by unfold stepS; rw [← JJ.out, ← QQ.out, if_neg (by omega), if_neg (by omega), if_neg (by omega), if_neg (by omega), if_neg (by omega), if_neg (by omega), ID.out, C4.out])
        go_wp2_with fail
        refine (b_gstart H.out GG.out (by omega) (id : Int) (c4 : Int)).mono ?_
        rintro e w1 ⟨rfl, h1, hs1⟩
        have H1 := Hd h1
        have S1 := Hd hs1
        clear h1 hs1
        go_wp2_with fail
        refine (b_rstart H1.out GG.out (by omega) (id : Int) (c4 : Int)).mono ?_
        rintro e w2 ⟨rfl, h2, hs2⟩
        have HF := Hd (show Both w0 w2 g x (stepS K s n) (stepS K s n) Z from by rw [ST.out]; exact h2)
        have SF := Hd (StaysB.trans S1.out hs2)
        clear h2 hs2
        have hbb : (s.startOk (id : Int) (c4 : Int) == s.startOk (id : Int) (c4 : Int)) = true := by simp
        go_wp2_with fail
        go_ret
        exact ⟨by first | rfl | simp, HF.out, SF.out⟩
end Go.Proofs.Ytnkmljdkokcdjaa
