/-
The document's Node answers as the plain function. Condition: the document's group lies there.
-/
import Derived.WalkKit
import Derived.WalkSpells
import Derived.Lib.Hide
import Derived.Outline
import Derived.Test.YtnkmljdkokcdjaaChecked
import Derived.Test.YtnkmljdkokcdjaaB0
import Derived.Test.YtnkmljdkokcdjaaB1
import Derived.Test.YtnkmljdkokcdjaaB19
import Derived.Test.YtnkmljdkokcdjaaB4
import Derived.Deep.DeepCutAuto
import Derived.Deep.CutBlock
import Derived.Deep.OwnRows
import Derived.IntWalk
set_option maxRecDepth 100000
set_option maxHeartbeats 40000000
set_option linter.unusedVariables false
set_option linter.unusedSimpArgs false
namespace Go.Proofs.Ytnkmljdkokcdjaa
open Go.RowKit Fed
attribute [local go_sem high] Fed.max2_int Fed.min2_int Fed.MA Fed.ZN Fed.ZM Fed.NA
def NodeSaysR (w' : World) (ok : Nat → Prop) (s : GS) (id : Int) (e : Ending) : Prop :=
 (∃ i : Nat, id = i ∧ i < s.ns.length ∧ ∃ τ, e = .returned (.tuple #[.agg (NA (s.node id) τ), .bool true]) ∧ NodeVs w' ok (s.node id) τ) ∨ (¬ (0 ≤ id ∧ id < s.ns.length) ∧ e = .returned (.tuple #[.agg ZN, .bool false]))
theorem rNode_any (w : World) (B x : Nat) (s : GS) (ρ : RM) (ok : Nat → Prop) (h : RefAt w B x s ρ ok) (id : Int) (hl : s.ns.length ≤ 1000) :
  Calls Try.prog 92 #[.pointer (some ⟨x, 0, none⟩), .int .i64 id] w fun e w' => NodeSaysR w' ok s id e ∧ Below w.heap.size w w' := by
 have H := Hd h
 have hx0 := h.lt
 have HLT := Hd h.okl
 clear h
 go_enter Try.func92, Try.ntmps92
 go_upto_region 1 with (fail)
 refine name_world (F := fun W => Hid (W.heap[w.heap.size]? = some (.cells ZN 28 (0, 0))) ∧ Hid (RefAt W B x s ρ ok) ∧ Hid (Below w.heap.size w W)) _ (by exact ⟨Hd (MM.alloc_new _ _), Hd (H.out.alloc _), Hd ((Below.refl _ _).alloc (Nat.le_refl _) _)⟩) ?_
 intro w1 ⟨R1, H1, S1⟩
 have c0 := H1.out.c0
 have hx1 := H1.out.lt
 by_cases hin : 0 ≤ id ∧ id < s.ns.length
 ·obtain ⟨i, rfl⟩ := Int.eq_ofNat_of_zero_le hin.1
  have hi : i < s.ns.length := by omega
  have h0b : decide ((i : Int) < 0) = false := decide_eq_false (by omega)
  have h1b : decide ((s.ns.length : Int) ≤ (i : Int)) = false := decide_eq_false (by omega)
  obtain ⟨pb, hp, ea, hc1, hc2, _, σ, hv, hc⟩ := H1.out.place hi
  rw [ea] at c0
  have x0 : w1.cell? ⟨pb, i * 13, none⟩ = some (.int .i64 (s.node (i : Int)).id) := hc 0 _ rfl
  have x1 : w1.cell? ⟨pb, i * 13 + 1, none⟩ = some (.int .i64 (s.node (i : Int)).term) := hc 1 _ rfl
  have x2 : w1.cell? ⟨pb, i * 13 + 2, none⟩ = some (.int .i64 (s.node (i : Int)).vote) := hc 2 _ rfl
  have x3 : w1.cell? ⟨pb, i * 13 + 3, none⟩ = some (.slice σ.A3 (s.node (i : Int)).log.length σ.k3) := hc 3 _ rfl
  have x4 : w1.cell? ⟨pb, i * 13 + 4, none⟩ = some (.int .i64 (s.node (i : Int)).form) := hc 4 _ rfl
  have x5 : w1.cell? ⟨pb, i * 13 + 5, none⟩ = some (.int .i64 (s.node (i : Int)).role) := hc 5 _ rfl
  have x6 : w1.cell? ⟨pb, i * 13 + 6, none⟩ = some (.int .i64 (s.node (i : Int)).commit) := hc 6 _ rfl
  have x7 : w1.cell? ⟨pb, i * 13 + 7, none⟩ = some (.slice σ.A7 (s.node (i : Int)).votes.length σ.k7) := hc 7 _ rfl
  have x8 : w1.cell? ⟨pb, i * 13 + 8, none⟩ = some (.slice σ.A8 (s.node (i : Int)).nxt.length σ.k8) := hc 8 _ rfl
  have x9 : w1.cell? ⟨pb, i * 13 + 9, none⟩ = some (.slice σ.A9 (s.node (i : Int)).mtch.length σ.k9) := hc 9 _ rfl
  have x10 : w1.cell? ⟨pb, i * 13 + 10, none⟩ = some (.slice σ.A10 (s.node (i : Int)).forms.length σ.k10) := hc 10 _ rfl
  have x11 : w1.cell? ⟨pb, i * 13 + 11, none⟩ = some (.int .i64 (s.node (i : Int)).clock) := hc 11 _ rfl
  have x12 : w1.cell? ⟨pb, i * 13 + 12, none⟩ = some (.int .i64 (s.node (i : Int)).due) := hc 12 _ rfl
  have V := Hd hv
  have HI := Hd hi
  clear hin hp ea hc hv
  go_upto_region 3 with (fail)
  obtain ⟨y0, y1, y2, y3, y4, y5, y6, y7, y8, y9, y10, y11, y12⟩ := MM.cells13 R1.out
  obtain ⟨z0, z1, z2, z3, z4, z5, z6, z7, z8, z9, z10, z11, z12⟩ := MM.frees13 R1.out
  go_wp2_with fail
  clear x0 x1 x2 x3 x4 x5 x6 x7 x8 x9 x10 x11 x12 y0 z0 y1 z1 y2 z2 y3 z3 y4 z4 y5 z5 y6 z6 y7 z7 y8 z8 y9 z9 y10 z10 y11 z11 y12 z12 c0
  refine name_world (F := fun W => Hid (W.heap[w.heap.size]? = some (.cells (NA (s.node (i : Int)) σ) 28 (0, 0))) ∧ Hid (NodeVs W ok (s.node (i : Int)) σ) ∧ Hid (Below w.heap.size w W)) _ (by exact ⟨Hd ((set13 R1.out).trans rfl), Hd (V.out.step (fun k hk _ => far13 (Nat.ne_of_lt (HLT.out k hk)))), Hd (below13 S1.out (Nat.le_refl _))⟩) ?_
  intro w6 ⟨R6, V6, B6⟩
  obtain ⟨u0, u1, u2, u3, u4, u5, u6, u7, u8, u9, u10, u11, u12⟩ := MM.cells13 R6.out
  refine bodyPost_ret (v := .tuple #[.agg (NA (s.node (i : Int)) σ), .bool true]) (by simp [results, Try.results92, go_sem, u0, u1, u2, u3, u4, u5, u6, u7, u8, u9, u10, u11, u12]) rfl ?_
  exact ⟨.inl ⟨i, rfl, HI.out, σ, rfl, V6.out⟩, B6.out⟩
 ·have HN := Hd hin
  by_cases h0 : id < 0
  ·have h0b : decide (id < 0) = true := decide_eq_true h0
   clear hin h0
   go_upto_region 2 with (fail)
   obtain ⟨y0, y1, y2, y3, y4, y5, y6, y7, y8, y9, y10, y11, y12⟩ := MM.cells13 R1.out
   obtain ⟨z0, z1, z2, z3, z4, z5, z6, z7, z8, z9, z10, z11, z12⟩ := MM.frees13 R1.out
   go_wp2_with fail
   clear y0 z0 y1 z1 y2 z2 y3 z3 y4 z4 y5 z5 y6 z6 y7 z7 y8 z8 y9 z9 y10 z10 y11 z11 y12 z12 c0
   refine name_world (F := fun W => Hid (W.heap[w.heap.size]? = some (.cells ZN 28 (0, 0))) ∧ Hid (Below w.heap.size w W)) _ (by exact ⟨Hd ((set13 R1.out).trans rfl), Hd (below13 S1.out (Nat.le_refl _))⟩) ?_
   intro w6 ⟨R6, B6⟩
   obtain ⟨u0, u1, u2, u3, u4, u5, u6, u7, u8, u9, u10, u11, u12⟩ := MM.cells13 R6.out
   refine bodyPost_ret (v := .tuple #[.agg ZN, .bool false]) (by simp [results, Try.results92, go_sem, u0, u1, u2, u3, u4, u5, u6, u7, u8, u9, u10, u11, u12]) rfl ?_
   exact ⟨.inr ⟨HN.out, rfl⟩, B6.out⟩
  ·have h0b : decide (id < 0) = false := decide_eq_false h0
   have h1b : decide ((s.ns.length : Int) ≤ id) = true := decide_eq_true (by omega)
   clear hin h0
   go_upto_region 2 with (fail)
   obtain ⟨y0, y1, y2, y3, y4, y5, y6, y7, y8, y9, y10, y11, y12⟩ := MM.cells13 R1.out
   obtain ⟨z0, z1, z2, z3, z4, z5, z6, z7, z8, z9, z10, z11, z12⟩ := MM.frees13 R1.out
   go_wp2_with fail
   clear y0 z0 y1 z1 y2 z2 y3 z3 y4 z4 y5 z5 y6 z6 y7 z7 y8 z8 y9 z9 y10 z10 y11 z11 y12 z12 c0
   refine name_world (F := fun W => Hid (W.heap[w.heap.size]? = some (.cells ZN 28 (0, 0))) ∧ Hid (Below w.heap.size w W)) _ (by exact ⟨Hd ((set13 R1.out).trans rfl), Hd (below13 S1.out (Nat.le_refl _))⟩) ?_
   intro w6 ⟨R6, B6⟩
   obtain ⟨u0, u1, u2, u3, u4, u5, u6, u7, u8, u9, u10, u11, u12⟩ := MM.cells13 R6.out
   refine bodyPost_ret (v := .tuple #[.agg ZN, .bool false]) (by simp [results, Try.results92, go_sem, u0, u1, u2, u3, u4, u5, u6, u7, u8, u9, u10, u11, u12]) rfl ?_
   exact ⟨.inr ⟨HN.out, rfl⟩, B6.out⟩
end Go.Proofs.Ytnkmljdkokcdjaa
