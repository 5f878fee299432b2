/-
Propose and Restart answer as the plain functions say.
The group's Tick and Propose answer as the plain functions. Condition: the group may be walked.
The group's Deliver answers as the plain function. Condition: the group may be walked.
-/
import Derived.WalkKit
import Derived.WalkSpells
import Derived.Lib.Hide
import Derived.Outline
import Derived.Test.YtnkmljdkokcdjaaChecked
import Derived.Test.YtnkmljdkokcdjaaB0
import Derived.Test.YtnkmljdkokcdjaaB1
import Derived.Test.YtnkmljdkokcdjaaB2
import Derived.Test.YtnkmljdkokcdjaaB4
import Derived.Test.YtnkmljdkokcdjaaB5
import Derived.Test.YtnkmljdkokcdjaaB8
import Derived.Deep.DeepCutAuto
import Derived.Deep.CutBlock
import Derived.Deep.OwnRows
import Derived.IntWalk
import Derived.Test.YtnkmljdkokcdjaaB12
import Derived.Test.YtnkmljdkokcdjaaB13
import Derived.Test.YtnkmljdkokcdjaaB6
set_option maxRecDepth 100000
set_option maxHeartbeats 40000000
set_option linter.unusedVariables false
set_option linter.unusedSimpArgs false
namespace Go.Proofs.Ytnkmljdkokcdjaa
open Go.RowKit Fed Go.RT
attribute [local go_sem high] Fed.max2_int Fed.min2_int Fed.MA Fed.ZN Fed.ZM Fed.NA
theorem propose_any (w : World) (ok : Nat → Prop) (n : Fed.Node) (σ : Sl5) (d : ByteArray) (h : NodeVs w ok n σ) (l1 : n.log.length ≤ 900000) (l2 : n.votes.length ≤ 1000) (l3 : n.nxt.length = n.votes.length) (l4 : n.mtch.length = n.votes.length) (l5 : n.forms.length ≤ 1000) (hi0 : 0 ≤ n.id) (hi1 : n.id < n.votes.length)
  (hx : ∀ i, i < n.nxt.length → -1000000000 ≤ n.nxt.getD i 0 ∧ n.nxt.getD i 0 ≤ 1000000000) :
  Calls Try.prog 30 #[.agg (NA n σ), .string d] w fun e w' => ∃ (τ : Sl5) (A : Option Addr) (c : Nat), e = .returned (.tuple #[.agg (NA ((proposeS n d).n) τ), .slice A (proposeS n d).out.length c, .bool (decide (n.role = 2))]) ∧ NodeVs w' (fun k => w.heap.size ≤ k) (proposeS n d).n τ ∧ MsgsV w' (fun k => w.heap.size ≤ k) (.slice A (proposeS n d).out.length c) (proposeS n d).out ∧ Below w.heap.size w w' := by
 have HS := Hd (show proposeS n d = if n.role = 2 then putS ⟨n, []⟩ d else ⟨n, []⟩ from by
  unfold proposeS
  by_cases q : n.role = 2
  ·rw [if_pos ⟨q, hi0, hi1⟩, if_pos q]
  ·rw [if_neg (fun h => q h.1), if_neg q])
 generalize proposeS n d = s1 at HS ⊢
 have H := Hd (h.mono (ok' := fun k => k < w.heap.size) (fun k _ hk => hk))
 have HXX := Hd hx
 have L3 := Hd l3
 have L4 := Hd l4
 have k3 : n.nxt.length ≤ 1000 := by omega
 have k4 : n.mtch.length ≤ 1000 := by omega
 clear h hx l3 l4
 go_enter Try.func30, Try.ntmps30
 go_upto_region 1 with (fail)
 refine name_world (F := fun W => Hid (W.heap[w.heap.size]? = some (.cells (NA n σ) 28 (0, 0))) ∧ Hid (W.heap[w.heap.size + 1]? = some (.cells ZN 28 (0, 0))) ∧ Hid (NodeVs W (fun k => k < w.heap.size) n σ) ∧ Hid (Below w.heap.size w W) ∧ Hid (W.heap.size = w.heap.size + 2)) _ ⟨Hd ((Below.heap_alloc _ _ _ (by simp)).trans (MM.alloc_new w _)), Hd (MM.alloc_new1 w _ _), Hd (H.out.step (fun k hk _ => (Below.heap_alloc _ _ k (by simp; omega)).trans (Below.heap_alloc w _ k hk))), Hd (((Below.refl _ w).alloc (Nat.le_refl _) _).alloc (by simp) _), Hd (by simp)⟩ ?_
 clear H
 intro w1 ⟨X, Y, V, HB, Z⟩
 obtain ⟨c0, c1, c2, c3, c4, c5, c6, c7, c8, c9, c10, c11, c12⟩ := MM.cells13 X.out
 go_wp2_with fail
 refine (show Calls Try.prog 59 #[.agg (NA n σ)] _ _ from begin_any _ _ n _ _ _ _ _ V.out (by omega) l2 (by omega) (by omega) (by omega)).mono ?_
 rintro e w2 ⟨g, μ, rfl, hn2, hb2⟩
 have Y2 := Hd ((hb2.block _ (MM.blk_lt Y.out)).trans Y.out)
 have HB2 := Hd (HB.out.trans (hb2.mono HB.out.size))
 have HN2 := Hd hn2
 clear hn2 hb2 c0 c1 c2 c3 c4 c5 c6 c7 c8 c9 c10 c11 c12 X V Y HB
 have c5 : w2.cell? ⟨g, 5, none⟩ = some (.int .i64 n.role) := HN2.out.c 5 _ rfl
 have c0 : w2.cell? ⟨g, 0, none⟩ = some (.int .i64 n.id) := HN2.out.c 0 _ rfl
 by_cases hr : n.role = 2
 ·have hrb : (n.role == 2) = true := by simpa using hr
  have hfb : decide (0 ≤ n.id ∧ n.id < (n.votes.length : Int)) = true := decide_eq_true ⟨hi0, hi1⟩
  have HE0 := Hd (HS.out.trans (if_pos hr))
  have HDR := Hd (decide_eq_true hr)
  clear hr HS
  go_wp2_with fail
  refine (show Calls Try.prog 60 _ _ (fun e w' => e = .returned (.bool (decide (0 ≤ n.id ∧ n.id < (n.votes.length : Int)))) ∧ _ = w') from within_any _ w1.heap.size g _ _ n.id HN2.out).mono ?_
  rintro e w3 ⟨rfl, rfl⟩
  go_upto_region 4 with (fail)
  clear hrb hfb c5 c0
  go_wp2_with fail
  refine (put_any _ w1.heap.size g ⟨n, []⟩ μ d HN2.out (by simp) l1 l2 hi0 hi1 L3.out L4.out HXX.out).mono ?_
  rintro e w4 ⟨μ', rfl, hn4, hb4⟩
  have Y := Hd ((hb4.block _ (by have h9 := Z.out; omega)).trans Y2.out)
  have HB := Hd (HB2.out.trans (hb4.mono (by have h9 := Z.out; omega)))
  obtain ⟨s2, hs2⟩ : ∃ x, x = putS ⟨n, []⟩ d := ⟨_, rfl⟩
  have hso : s2.out.length ≤ 1000000 := by
   rw [hs2]
   have h9 := spreadMsgs_le (putN n d) n.votes.length
   show ([] ++ spreadMsgs (putN n d) n.votes.length).length ≤ 1000000
   rw [List.nil_append]
   omega
  rw [← hs2] at hn4 HE0
  have HE := HE0
  have HN := Hd hn4
  clear hs2 hn4 hb4 HE0 HN2 Y2 HB2
  go_wp2_with fail
  refine (end_shape _ _ g s2 _ HN.out hso).mono ?_
  rintro e we ⟨A3, k3, A7, k7, A8, k8, A9, k9, A10, k10, Ao, ko, rfl, hnv, hms, hbe⟩
  obtain ⟨τ, hτ⟩ : ∃ τ : Sl5, τ = ⟨A3, k3, A7, k7, A8, k8, A9, k9, A10, k10⟩ := ⟨_, rfl⟩
  obtain rfl : A3 = τ.A3 := by rw [hτ]
  obtain rfl : k3 = τ.k3 := by rw [hτ]
  obtain rfl : A7 = τ.A7 := by rw [hτ]
  obtain rfl : k7 = τ.k7 := by rw [hτ]
  obtain rfl : A8 = τ.A8 := by rw [hτ]
  obtain rfl : k8 = τ.k8 := by rw [hτ]
  obtain rfl : A9 = τ.A9 := by rw [hτ]
  obtain rfl : k9 = τ.k9 := by rw [hτ]
  obtain rfl : A10 = τ.A10 := by rw [hτ]
  obtain rfl : k10 = τ.k10 := by rw [hτ]
  clear hτ
  have Ye := Hd ((hbe.block _ (MM.blk_lt Y.out)).trans Y.out)
  have HBe := Hd (HB.out.trans (hbe.mono HB.out.size))
  have HNe := Hd (show NodeVs we _ s2.n τ from hnv)
  have HMe := Hd hms
  clear hnv hms hbe
  obtain ⟨y0, y1, y2, y3, y4, y5, y6, y7, y8, y9, y10, y11, y12⟩ := MM.cells13 Ye.out
  obtain ⟨z0, z1, z2, z3, z4, z5, z6, z7, z8, z9, z10, z11, z12⟩ := MM.frees13 Ye.out
  go_upto_region 6 with (fail)
  refine name_world (F := fun W => Hid (W.heap[w.heap.size + 1]? = some (.cells (NA s2.n τ) 28 (0, 0))) ∧ Hid (NodeVs W (fun k => w1.heap.size ≤ k) s2.n τ) ∧ Hid (MsgsV W (fun k => w1.heap.size ≤ k) (.slice Ao s2.out.length ko) s2.out) ∧ Hid (Below w.heap.size w W)) _ ⟨Hd ((set13 Ye.out).trans rfl), Hd (HNe.out.step (fun k hk _ => far13 (by have h9 : w1.heap.size ≤ k := hk; have h8 := Z.out; show k ≠ w.heap.size + 1; omega))), Hd (HMe.out.step (fun k hk _ => far13 (by have h9 : w1.heap.size ≤ k := hk; have h8 := Z.out; show k ≠ w.heap.size + 1; omega))), Hd (below13 HBe.out (by omega))⟩ ?_
  clear Y HB Ye HBe HNe HMe HN y0 z0 y1 z1 y2 z2 y3 z3 y4 z4 y5 z5 y6 z6 y7 z7 y8 z8 y9 z9 y10 z10 y11 z11 y12 z12
  intro w6 ⟨Y6, N6, M6, B6⟩
  obtain ⟨c0, c1, c2, c3, c4, c5, c6, c7, c8, c9, c10, c11, c12⟩ := MM.cells13 Y6.out
  obtain ⟨z0, z1, z2, z3, z4, z5, z6, z7, z8, z9, z10, z11, z12⟩ := MM.frees13 Y6.out
  go_wp2_with fail
  refine name_world (F := fun W => Hid (W.heap[w.heap.size + 1]? = some (.cells (NA s2.n τ) 28 (0, 0))) ∧ Hid (NodeVs W (fun k => w1.heap.size ≤ k) s2.n τ) ∧ Hid (MsgsV W (fun k => w1.heap.size ≤ k) (.slice Ao s2.out.length ko) s2.out) ∧ Hid (Below w.heap.size w W)) _ ⟨Hd ((set13 Y6.out).trans rfl), Hd (N6.out.step (fun k hk _ => far13 (by have h9 : w1.heap.size ≤ k := hk; have h8 := Z.out; show k ≠ w.heap.size + 1; omega))), Hd (M6.out.step (fun k hk _ => far13 (by have h9 : w1.heap.size ≤ k := hk; have h8 := Z.out; show k ≠ w.heap.size + 1; omega))), Hd (below13 B6.out (by omega))⟩ ?_
  intro w7 ⟨Y7, N7, M7, B7⟩
  obtain ⟨u0, u1, u2, u3, u4, u5, u6, u7, u8, u9, u10, u11, u12⟩ := MM.cells13 Y7.out
  refine bodyPost_ret (v := .tuple #[.agg (NA s2.n τ), .slice Ao s2.out.length ko, .bool true]) (by simp [results, Try.results30, go_sem, u0, u1, u2, u3, u4, u5, u6, u7, u8, u9, u10, u11, u12]) rfl ?_
  have hz := Z.out
  rw [HE.out]
  exact ⟨τ, Ao, ko, by rw [HDR.out], N7.out.mono (fun k hk _ => by have h9 : w1.heap.size ≤ k := hk; omega), M7.out.mono (fun k hk _ => by have h9 : w1.heap.size ≤ k := hk; omega), B7.out⟩
 ·have hrb : (n.role == 2) = false := by simpa using hr
  have HE0 := Hd (HS.out.trans (if_neg hr))
  have HDR := Hd (decide_eq_false hr)
  clear hr HS
  go_upto_region 5 with (fail)
  clear hrb c5 c0
  obtain ⟨s2, hs2⟩ : ∃ x, x = (⟨n, []⟩ : NS) := ⟨_, rfl⟩
  have hso : s2.out.length ≤ 1000000 := by rw [hs2]; simp
  have hn4 := HN2.out
  rw [← hs2] at hn4 HE0
  have HE := HE0
  have HN := Hd hn4
  have Y := Y2
  have HB := HB2
  clear hs2 hn4 HE0 HN2 Y2 HB2
  go_wp2_with fail
  refine (end_shape _ _ g s2 _ HN.out hso).mono ?_
  rintro e we ⟨A3, k3, A7, k7, A8, k8, A9, k9, A10, k10, Ao, ko, rfl, hnv, hms, hbe⟩
  obtain ⟨τ, hτ⟩ : ∃ τ : Sl5, τ = ⟨A3, k3, A7, k7, A8, k8, A9, k9, A10, k10⟩ := ⟨_, rfl⟩
  obtain rfl : A3 = τ.A3 := by rw [hτ]
  obtain rfl : k3 = τ.k3 := by rw [hτ]
  obtain rfl : A7 = τ.A7 := by rw [hτ]
  obtain rfl : k7 = τ.k7 := by rw [hτ]
  obtain rfl : A8 = τ.A8 := by rw [hτ]
  obtain rfl : k8 = τ.k8 := by rw [hτ]
  obtain rfl : A9 = τ.A9 := by rw [hτ]
  obtain rfl : k9 = τ.k9 := by rw [hτ]
  obtain rfl : A10 = τ.A10 := by rw [hτ]
  obtain rfl : k10 = τ.k10 := by rw [hτ]
  clear hτ
  have Ye := Hd ((hbe.block _ (MM.blk_lt Y.out)).trans Y.out)
  have HBe := Hd (HB.out.trans (hbe.mono HB.out.size))
  have HNe := Hd (show NodeVs we _ s2.n τ from hnv)
  have HMe := Hd hms
  clear hnv hms hbe
  obtain ⟨y0, y1, y2, y3, y4, y5, y6, y7, y8, y9, y10, y11, y12⟩ := MM.cells13 Ye.out
  obtain ⟨z0, z1, z2, z3, z4, z5, z6, z7, z8, z9, z10, z11, z12⟩ := MM.frees13 Ye.out
  go_upto_region 6 with (fail)
  refine name_world (F := fun W => Hid (W.heap[w.heap.size + 1]? = some (.cells (NA s2.n τ) 28 (0, 0))) ∧ Hid (NodeVs W (fun k => w1.heap.size ≤ k) s2.n τ) ∧ Hid (MsgsV W (fun k => w1.heap.size ≤ k) (.slice Ao s2.out.length ko) s2.out) ∧ Hid (Below w.heap.size w W)) _ ⟨Hd ((set13 Ye.out).trans rfl), Hd (HNe.out.step (fun k hk _ => far13 (by have h9 : w1.heap.size ≤ k := hk; have h8 := Z.out; show k ≠ w.heap.size + 1; omega))), Hd (HMe.out.step (fun k hk _ => far13 (by have h9 : w1.heap.size ≤ k := hk; have h8 := Z.out; show k ≠ w.heap.size + 1; omega))), Hd (below13 HBe.out (by omega))⟩ ?_
  clear Y HB Ye HBe HNe HMe HN y0 z0 y1 z1 y2 z2 y3 z3 y4 z4 y5 z5 y6 z6 y7 z7 y8 z8 y9 z9 y10 z10 y11 z11 y12 z12
  intro w6 ⟨Y6, N6, M6, B6⟩
  obtain ⟨c0, c1, c2, c3, c4, c5, c6, c7, c8, c9, c10, c11, c12⟩ := MM.cells13 Y6.out
  obtain ⟨z0, z1, z2, z3, z4, z5, z6, z7, z8, z9, z10, z11, z12⟩ := MM.frees13 Y6.out
  go_wp2_with fail
  refine name_world (F := fun W => Hid (W.heap[w.heap.size + 1]? = some (.cells (NA s2.n τ) 28 (0, 0))) ∧ Hid (NodeVs W (fun k => w1.heap.size ≤ k) s2.n τ) ∧ Hid (MsgsV W (fun k => w1.heap.size ≤ k) (.slice Ao s2.out.length ko) s2.out) ∧ Hid (Below w.heap.size w W)) _ ⟨Hd ((set13 Y6.out).trans rfl), Hd (N6.out.step (fun k hk _ => far13 (by have h9 : w1.heap.size ≤ k := hk; have h8 := Z.out; show k ≠ w.heap.size + 1; omega))), Hd (M6.out.step (fun k hk _ => far13 (by have h9 : w1.heap.size ≤ k := hk; have h8 := Z.out; show k ≠ w.heap.size + 1; omega))), Hd (below13 B6.out (by omega))⟩ ?_
  intro w7 ⟨Y7, N7, M7, B7⟩
  obtain ⟨u0, u1, u2, u3, u4, u5, u6, u7, u8, u9, u10, u11, u12⟩ := MM.cells13 Y7.out
  refine bodyPost_ret (v := .tuple #[.agg (NA s2.n τ), .slice Ao s2.out.length ko, .bool false]) (by simp [results, Try.results30, go_sem, u0, u1, u2, u3, u4, u5, u6, u7, u8, u9, u10, u11, u12]) rfl ?_
  have hz := Z.out
  rw [HE.out]
  exact ⟨τ, Ao, ko, by rw [HDR.out], N7.out.mono (fun k hk _ => by have h9 : w1.heap.size ≤ k := hk; omega), M7.out.mono (fun k hk _ => by have h9 : w1.heap.size ≤ k := hk; omega), B7.out⟩
end Go.Proofs.Ytnkmljdkokcdjaa
namespace Go.Proofs.Ytnkmljdkokcdjaa
open Go.RowKit Fed Go.RT
attribute [local go_sem high] Fed.max2_int Fed.min2_int
theorem restart_any (w : World) (ok : Nat → Prop) (n : Fed.Node) (σ : Sl5) (form : Int) (h : NodeVs w ok n σ) (l1 : n.log.length ≤ 900000) (l2 : n.votes.length ≤ 1000) (hi0 : -1000000000 ≤ n.id) (hi1 : n.id ≤ 1000000000) :
  Calls Try.prog 32 #[.agg (NA n σ), .int .i64 form] w fun e w' => ∃ τ : Sl5, e = .returned (.agg (NA (restartN n form) τ)) ∧ NodeVs w' (fun k => w.heap.size ≤ k) (restartN n form) τ ∧ Below w.heap.size w w' := by
 have H := Hd (h.mono (ok' := fun k => k < w.heap.size) (fun k _ hk => hk))
 clear h
 go_enter Try.func32, Try.ntmps32
 go_upto_region 1 with (fail)
 refine name_world (F := fun W => Hid (W.heap[w.heap.size]? = some (.cells (NA n σ) 28 (0, 0))) ∧ Hid (W.heap[w.heap.size + 1]? = some (.cells ZN 28 (0, 0))) ∧ Hid (NodeVs W (fun k => k < w.heap.size) n σ) ∧ Hid (Below w.heap.size w W) ∧ Hid (W.heap.size = w.heap.size + 2)) _ ⟨Hd ((Below.heap_alloc _ _ _ (by simp)).trans (MM.alloc_new w _)), Hd (MM.alloc_new1 w _ _), Hd (H.out.step (fun k hk _ => (Below.heap_alloc _ _ k (by simp; omega)).trans (Below.heap_alloc w _ k hk))), Hd (((Below.refl _ w).alloc (Nat.le_refl _) _).alloc (by simp) _), Hd (by simp)⟩ ?_
 clear H
 intro w1 ⟨X, Y, V, HB, Z⟩
 have c0 : w1.cell? ⟨w.heap.size, 0, none⟩ = some (.int .i64 n.id) := MM.cell_blk X.out rfl
 have c1 : w1.cell? ⟨w.heap.size, 1, none⟩ = some (.int .i64 n.term) := MM.cell_blk X.out rfl
 have c2 : w1.cell? ⟨w.heap.size, 2, none⟩ = some (.int .i64 n.vote) := MM.cell_blk X.out rfl
 have c3 : w1.cell? ⟨w.heap.size, 3, none⟩ = some (.slice σ.A3 n.log.length σ.k3) := MM.cell_blk X.out rfl
 have c4 : w1.cell? ⟨w.heap.size, 4, none⟩ = some (.int .i64 n.form) := MM.cell_blk X.out rfl
 have c7 : w1.cell? ⟨w.heap.size, 7, none⟩ = some (.slice σ.A7 n.votes.length σ.k7) := MM.cell_blk X.out rfl
 go_wp2_with fail
 refine wT (.p 0 (.s 1 (.p 2 (.s 3 (.p 4 (.s 5 (.p 6 (.s 7 (.p 9 (.s 10 (.p 11 (.p 12 (.p 14 (.s 15 (.p 16 (.w 8 [1, 3, 5, 10, 15] (.p 13 (.w 17 [] (.w 18 [] .nil .stop) .stop)) .stop)))))))))))))))) (by kernel_rfl) (by kernel_rfl) ?_
 repeat ((first | refine sP rfl fun K hK => ?_ | refine sS rfl fun K hK => ?_); go_simp; refine hK _ ?_; clear hK K)
 refine sW rfl rfl (fun K hK => ?_) sT
 go_wp2_with fail
 refine (clone_entry _ _ _ _ _ V.out.hl.drew (entsC_one _) (by omega)).mono ?_
 rintro e v ⟨vl, ob, rfl, hr4, hb4⟩
 obtain ⟨A', c', rfl, _, _⟩ := hr4.slice
 have X4 := Hd ((hb4.block _ (MM.blk_lt X.out)).trans X.out)
 have Y4 := Hd ((hb4.block _ (MM.blk_lt Y.out)).trans Y.out)
 have HB4 := Hd (HB.out.drew.trans (hb4.mono HB.out.size))
 have HR4 := Hd hr4
 have S4 := Hd (show w1.heap.size ≤ v.heap.size from hb4.size)
 clear hr4 hb4
 have ca0 : v.cell? ⟨w.heap.size, 0, none⟩ = some (.int .i64 n.id) := MM.cell_blk X4.out rfl
 have ca1 : v.cell? ⟨w.heap.size, 1, none⟩ = some (.int .i64 n.term) := MM.cell_blk X4.out rfl
 have ca2 : v.cell? ⟨w.heap.size, 2, none⟩ = some (.int .i64 n.vote) := MM.cell_blk X4.out rfl
 have ca4 : v.cell? ⟨w.heap.size, 4, none⟩ = some (.int .i64 n.form) := MM.cell_blk X4.out rfl
 have ca7 : v.cell? ⟨w.heap.size, 7, none⟩ = some (.slice σ.A7 n.votes.length σ.k7) := MM.cell_blk X4.out rfl
 go_wp2_with fail
 refine qN _ _ _ _ (hK _ _ ?_ ?_) <;> clear hK K
 ·repeat first | exact aN | refine aO rfl rfl ?_ | refine aI rfl (by go_simp <;> rfl) ?_
 repeat ((first | refine sP rfl fun K hK => ?_ | refine sS rfl fun K hK => ?_); go_simp; refine hK _ ?_; clear hK K)
 refine sW rfl rfl (fun K hK => ?_) sT
 go_wp2_with fail
 refine (show Calls Try.prog 58 #[.agg #[.int .i64 n.id, .int .i64 n.term, .int .i64 n.vote, .slice A' n.log.length c', .int .i64 (mx n.form form), .int .i64 0, .int .i64 0, .slice none 0 0, .slice none 0 0, .slice none 0 0, .slice none 0 0, .int .i64 0, .int .i64 0], .int .i64 n.votes.length] _ _ from fresh_any v (⟨n.id, n.term, n.vote, n.log, mx n.form form, 0, 0, [], [], [], [], 0, 0⟩ : Fed.Node) A' n.log.length c' (.slice none 0 0) (.slice none 0 0) (.slice none 0 0) (.slice none 0 0) n.votes.length l2 hi0 hi1).mono ?_
 rintro e w6 ⟨r7, r8, r9, r10, rfl, hb6, h7, h8, h9, h10⟩
 obtain ⟨A7, k7, rfl, _, _⟩ := h7.slice
 obtain ⟨A8, k8, rfl, _, _⟩ := h8.slice
 obtain ⟨A9, k9, rfl, _, _⟩ := h9.slice
 obtain ⟨A10, k10, rfl, _, _⟩ := h10.slice
 have Y6 := Hd ((hb6.block _ (MM.blk_lt Y4.out)).trans Y4.out)
 have HB6 := Hd (HB4.out.trans (hb6.mono HB4.out.size))
 have R3 := Hd ((HR4.out.rd.mono (ok' := fun k => w1.heap.size ≤ k) (fun k hk _ => (HR4.out.lt k hk).1)).below hb6)
 have R7 := Hd (h7.mono (ok' := fun k => w1.heap.size ≤ k) (fun k hk _ => by have h9 : v.heap.size ≤ k := hk; have h8 := S4.out; omega))
 have R8 := Hd (h8.mono (ok' := fun k => w1.heap.size ≤ k) (fun k hk _ => by have h9 : v.heap.size ≤ k := hk; have h8 := S4.out; omega))
 have R9 := Hd (h9.mono (ok' := fun k => w1.heap.size ≤ k) (fun k hk _ => by have h9 : v.heap.size ≤ k := hk; have h8 := S4.out; omega))
 have R10 := Hd (h10.mono (ok' := fun k => w1.heap.size ≤ k) (fun k hk _ => by have h9 : v.heap.size ≤ k := hk; have h8 := S4.out; omega))
 have HF := Hd (show freshN (⟨n.id, n.term, n.vote, n.log, mx n.form form, 0, 0, [], [], [], [], 0, 0⟩ : Fed.Node) n.votes.length = restartN n form from by unfold freshN restartN; rfl)
 clear hb6 h7 h8 h9 h10
 unfold nodeC
 obtain ⟨nf, hnf⟩ : ∃ x, x = freshN (⟨n.id, n.term, n.vote, n.log, mx n.form form, 0, 0, [], [], [], [], 0, 0⟩ : Fed.Node) n.votes.length := ⟨_, rfl⟩
 rw [← hnf] at HF ⊢
 clear hnf
 obtain ⟨y0, y1, y2, y3, y4, y5, y6, y7, y8, y9, y10, y11, y12⟩ := MM.cells13 Y6.out
 obtain ⟨z0, z1, z2, z3, z4, z5, z6, z7, z8, z9, z10, z11, z12⟩ := MM.frees13 Y6.out
 go_wp2_with fail
 refine qN _ _ _ _ (hK _ _ ?_ ?_) <;> clear hK K
 ·repeat first | exact aN | refine aO rfl rfl ?_ | refine aI rfl (by go_simp <;> rfl) ?_
 refine sW rfl rfl (fun K hK => ?_) sT
 go_wp2
 refine qN _ _ _ _ (hK _ _ ?_ ?_) <;> clear hK K
 ·repeat first | exact aN | refine aO rfl rfl ?_ | refine aI rfl (by go_simp <;> rfl) ?_
 refine sN ?_
 go_wp2_with fail
 refine name_world (F := fun W => Hid (W.heap[w.heap.size + 1]? = some (.cells #[.int .i64 nf.id, .int .i64 nf.term, .int .i64 nf.vote, .slice A' n.log.length c', .int .i64 nf.form, .int .i64 nf.role, .int .i64 nf.commit, .slice A7 n.votes.length k7, .slice A8 n.votes.length k8, .slice A9 n.votes.length k9, .slice A10 n.votes.length k10, .int .i64 nf.clock, .int .i64 nf.due] 28 (0, 0))) ∧ Hid (MM.Rd W (fun k => w1.heap.size ≤ k) 2 (.slice A' n.log.length c') n.log.length (entsC n.log)) ∧ Hid (MM.Rd W (fun k => w1.heap.size ≤ k) 1 (.slice A7 n.votes.length k7) n.votes.length (boolsC (List.replicate n.votes.length false))) ∧ Hid (MM.Rd W (fun k => w1.heap.size ≤ k) 1 (.slice A8 n.votes.length k8) n.votes.length (intsC (List.replicate n.votes.length 1))) ∧ Hid (MM.Rd W (fun k => w1.heap.size ≤ k) 1 (.slice A9 n.votes.length k9) n.votes.length (intsC (List.replicate n.votes.length 0))) ∧ Hid (MM.Rd W (fun k => w1.heap.size ≤ k) 1 (.slice A10 n.votes.length k10) n.votes.length (intsC (List.replicate n.votes.length 1))) ∧ Hid (Below w.heap.size w W)) _ ⟨Hd ((set13 Y6.out).trans rfl), Hd (R3.out.step (fun k hk _ => far13 (by have h9 : w1.heap.size ≤ k := hk; have h8 := Z.out; show k ≠ w.heap.size + 1; omega))), Hd (R7.out.step (fun k hk _ => far13 (by have h9 : w1.heap.size ≤ k := hk; have h8 := Z.out; show k ≠ w.heap.size + 1; omega))), Hd (R8.out.step (fun k hk _ => far13 (by have h9 : w1.heap.size ≤ k := hk; have h8 := Z.out; show k ≠ w.heap.size + 1; omega))), Hd (R9.out.step (fun k hk _ => far13 (by have h9 : w1.heap.size ≤ k := hk; have h8 := Z.out; show k ≠ w.heap.size + 1; omega))), Hd (R10.out.step (fun k hk _ => far13 (by have h9 : w1.heap.size ≤ k := hk; have h8 := Z.out; show k ≠ w.heap.size + 1; omega))), Hd (below13 HB6.out (by omega))⟩ ?_
 intro wf ⟨Y9, S3, S7, S8, S9, S10, B9⟩
 obtain ⟨u0, u1, u2, u3, u4, u5, u6, u7, u8, u9, u10, u11, u12⟩ := MM.cells13 Y9.out
 refine bodyPost_ret (v := .agg #[.int .i64 nf.id, .int .i64 nf.term, .int .i64 nf.vote, .slice A' n.log.length c', .int .i64 nf.form, .int .i64 nf.role, .int .i64 nf.commit, .slice A7 n.votes.length k7, .slice A8 n.votes.length k8, .slice A9 n.votes.length k9, .slice A10 n.votes.length k10, .int .i64 nf.clock, .int .i64 nf.due]) (by simp [results, Try.results32, go_sem, u0, u1, u2, u3, u4, u5, u6, u7, u8, u9, u10, u11, u12]) rfl ?_
 have hz := Z.out
 have hl : ∀ x, (List.replicate n.votes.length x : List Int).length = n.votes.length := fun x => by simp
 have hlb : (List.replicate n.votes.length false).length = n.votes.length := by simp
 refine ⟨⟨A', c', A7, k7, A8, k8, A9, k9, A10, k10⟩, ?_, ?_, B9.out⟩
 ·rw [HF.out]
  unfold restartN
  simp only [NA, List.length_replicate]
 ·unfold restartN
  refine ⟨S3.out.mono (fun k hk _ => by have h9 : w1.heap.size ≤ k := hk; omega), ?_, ?_, ?_, ?_⟩
  ·show MM.Rd _ _ 1 (.slice A7 (List.replicate n.votes.length false).length k7) (List.replicate n.votes.length false).length _
   rw [hlb]
   exact S7.out.mono (fun k hk _ => by have h9 : w1.heap.size ≤ k := hk; omega)
  ·show MM.Rd _ _ 1 (.slice A8 (List.replicate n.votes.length (1 : Int)).length k8) (List.replicate n.votes.length (1 : Int)).length _
   rw [hl]
   exact S8.out.mono (fun k hk _ => by have h9 : w1.heap.size ≤ k := hk; omega)
  ·show MM.Rd _ _ 1 (.slice A9 (List.replicate n.votes.length (0 : Int)).length k9) (List.replicate n.votes.length (0 : Int)).length _
   rw [hl]
   exact S9.out.mono (fun k hk _ => by have h9 : w1.heap.size ≤ k := hk; omega)
  ·show MM.Rd _ _ 1 (.slice A10 (List.replicate n.votes.length (1 : Int)).length k10) (List.replicate n.votes.length (1 : Int)).length _
   rw [hl]
   exact S10.out.mono (fun k hk _ => by have h9 : w1.heap.size ≤ k := hk; omega)
end Go.Proofs.Ytnkmljdkokcdjaa
namespace Go.Proofs.Ytnkmljdkokcdjaa
open Go.RowKit Fed
attribute [local go_sem high] Fed.max2_int Fed.min2_int Fed.MA Fed.ZN Fed.ZM Fed.NA
structure GoodG (K : Nat) (s : GS) : Prop where
 len : s.ns.length = K
 ul : s.us.length = K
 ns : ∀ n ∈ s.ns, NodeGood K n
 fl : s.f.length ≤ 900000
 f : ∀ m ∈ s.f, MsgGood K m
theorem GoodG.node {K : Nat} {s : GS} (h : GoodG K s) {i : Nat} (hi : i < s.ns.length) : NodeGood K (s.node (i : Int)) := by
 unfold GS.node
 rw [Int.toNat_natCast, List.getD_eq_getElem?_getD, List.getElem?_eq_getElem hi]
 exact h.ns _ (List.getElem_mem hi)
theorem GoodG.msg {K : Nat} {s : GS} (h : GoodG K s) {i : Nat} (hi : i < s.f.length) : MsgGood K (s.msg (i : Int)) := by
 unfold GS.msg
 rw [Int.toNat_natCast, List.getD_eq_getElem?_getD, List.getElem?_eq_getElem hi]
 exact h.f _ (List.getElem_mem hi)
theorem GroupAt.newer {w w1 : World} {B g : Nat} {s : GS} {μ : GM} {ok : Nat → Prop} (h : GroupAt w B g s μ ok) (hb : Below w.heap.size w w1) : GroupAt w1 B g s μ (fun k => ok k ∨ (w.heap.size ≤ k ∧ k < w1.heap.size)) :=
 (h.below hb).more (fun k hk => .inl hk) (fun k hk q => by
  rcases hk with hk | hk
  ·exact h.no k hk q
  ·have := (h.ownlt k q).2; omega) (fun k hk => by
  rcases hk with hk | hk
  ·exact Nat.lt_of_lt_of_le (h.okl k hk) hb.size
  ·exact hk.2)
theorem GStep.newer {w w1 w2 : World} {B g : Nat} {μ μ' : GM} {ok : Nat → Prop} (hb : Below w.heap.size w w1) (hB : B ≤ w.heap.size) (h : GStep w1 w2 B g μ μ' (fun k => ok k ∨ (w.heap.size ≤ k ∧ k < w1.heap.size)) (fun k => ok k ∨ (w.heap.size ≤ k ∧ k < w1.heap.size))) : GStep w w2 B g μ μ' ok (fun k => ok k ∨ (w.heap.size ≤ k ∧ k < w1.heap.size)) where
 below := (hb.mono hB).trans h.below
 keep k hk hn := (h.keep k (Nat.lt_of_lt_of_le hk hb.size) hn).trans (hb.block k hk)
 own k q := by
  rcases h.own k q with q | q
  ·exact .inl q
  ·exact .inr (Nat.le_trans hb.size q)
 oks k q := by
  rcases q with q | q
  ·exact .inl q
  ·exact .inr q.1
theorem gTick_any (w : World) (B g : Nat) (s : GS) (μ : GM) (ok : Nat → Prop) (h : GroupAt w B g s μ ok) (K : Nat) (G : GoodG K s) (hK : K ≤ 1000) (id : Int) :
  Calls Try.prog 49 #[.pointer (some ⟨g, 0, none⟩), .int .i64 id] w fun e w' => ∃ μ' ok', e = .returned (.tuple #[]) ∧ GroupAt w' B g (s.tick id) μ' ok' ∧ GStep w w' B g μ μ' ok ok' := by
 have HU := Hd (gup_any w B g s μ ok h id (by rw [G.len]; omega))
 have H := Hd h
 have HG := Hd G
 clear h G
 go_enter Try.func49, Try.ntmps49
 go_wp2_with fail
 refine HU.out.mono ?_
 rintro e w' ⟨⟨i, pb, h1, rfl, hi, hp, rfl⟩ | ⟨h1, rfl⟩, rfl⟩
 ·obtain ⟨pb', hp', _, _, _, _, σ, hv, hc⟩ := H.out.place hi
  rw [hp] at hp'
  injection hp' with hp'
  subst hp'
  have x0 : w.cell? ⟨pb, i * 14, none⟩ = some (.int .i64 (s.node i).id) := hc 0 _ rfl
  have x1 : w.cell? ⟨pb, i * 14 + 1, none⟩ = some (.int .i64 (s.node i).term) := hc 1 _ rfl
  have x2 : w.cell? ⟨pb, i * 14 + 2, none⟩ = some (.int .i64 (s.node i).vote) := hc 2 _ rfl
  have x3 : w.cell? ⟨pb, i * 14 + 3, none⟩ = some (.slice σ.A3 (s.node i).log.length σ.k3) := hc 3 _ rfl
  have x4 : w.cell? ⟨pb, i * 14 + 4, none⟩ = some (.int .i64 (s.node i).form) := hc 4 _ rfl
  have x5 : w.cell? ⟨pb, i * 14 + 5, none⟩ = some (.int .i64 (s.node i).role) := hc 5 _ rfl
  have x6 : w.cell? ⟨pb, i * 14 + 6, none⟩ = some (.int .i64 (s.node i).commit) := hc 6 _ rfl
  have x7 : w.cell? ⟨pb, i * 14 + 7, none⟩ = some (.slice σ.A7 (s.node i).votes.length σ.k7) := hc 7 _ rfl
  have x8 : w.cell? ⟨pb, i * 14 + 8, none⟩ = some (.slice σ.A8 (s.node i).nxt.length σ.k8) := hc 8 _ rfl
  have x9 : w.cell? ⟨pb, i * 14 + 9, none⟩ = some (.slice σ.A9 (s.node i).mtch.length σ.k9) := hc 9 _ rfl
  have x10 : w.cell? ⟨pb, i * 14 + 10, none⟩ = some (.slice σ.A10 (s.node i).forms.length σ.k10) := hc 10 _ rfl
  have x11 : w.cell? ⟨pb, i * 14 + 11, none⟩ = some (.int .i64 (s.node i).clock) := hc 11 _ rfl
  have x12 : w.cell? ⟨pb, i * 14 + 12, none⟩ = some (.int .i64 (s.node i).due) := hc 12 _ rfl
  have gx := HG.out.node hi
  have V := Hd hv
  have HP := Hd hp
  have H1 := Hd h1
  have OPE := Hd (show s.tick (i : Int) = ⟨s.ns.set i ((tickS (s.node i))).n, s.us, s.f ++ ((tickS (s.node i))).out⟩ from by unfold GS.tick GS.put; rw [if_pos h1, Int.toNat_natCast])
  have HOL := Hd (tickS_out (s.node i) (by rw [gx.v]; omega))
  clear h1 hp hv hc
  go_wp2_with fail
  refine (tick_c _ _ (s.node i) σ V.out (by have := gx.l; omega) (by rw [gx.v]; omega) (by rw [gx.x, gx.v]) (by rw [gx.m]; omega) (by rw [gx.f]; omega) (by have := gx.t0; omega) (by have := gx.t1; omega) (by have := gx.c0; omega) (by have := gx.c1; omega) (fun j hj => by have := gx.hx j (by rw [← gx.x]; exact hj); omega)).mono ?_
  rintro e w1 ⟨τ, Ao, ko, rfl, hn, hm, hb⟩
  clear gx
  have G1 := Hd (H.out.newer hb)
  have N1 := Hd (hn.mono (ok' := (fun k => ok k ∨ (w.heap.size ≤ k ∧ k < w1.heap.size))) (fun k hk hl => .inr ⟨hk, hl⟩))
  have M1 := Hd (hm.mono (ok' := (fun k => ok k ∨ (w.heap.size ≤ k ∧ k < w1.heap.size))) (fun k hk hl => .inr ⟨hk, hl⟩))
  have HB1 := Hd hb
  clear hn hm hb
  obtain ⟨r, hr⟩ : ∃ r, r = (tickS (s.node i)) := ⟨_, rfl⟩
  rw [← hr] at OPE N1 M1 HOL ⊢
  clear hr x0 x1 x2 x3 x4 x5 x6 x7 x8 x9 x10 x11 x12
  go_upto_region 3 with (fail)
  refine name_world (F := fun W => Hid (W.heap[w1.heap.size]? = some (.cells (NA r.n τ) 28 (0, 0))) ∧ Hid (GroupAt W B g s μ (fun k => ok k ∨ (w.heap.size ≤ k ∧ k < w1.heap.size))) ∧ Hid (NodeVs W (fun k => ok k ∨ (w.heap.size ≤ k ∧ k < w1.heap.size)) r.n τ) ∧ Hid (MsgsV W (fun k => ok k ∨ (w.heap.size ≤ k ∧ k < w1.heap.size)) (.slice Ao r.out.length ko) r.out) ∧ Hid (Below w1.heap.size w1 W)) _ (by exact ⟨Hd (MM.alloc_new _ _), Hd (G1.out.alloc _), Hd (N1.out.step (fun k _ hl => Below.heap_alloc _ _ k hl)), Hd (M1.out.step (fun k _ hl => Below.heap_alloc _ _ k hl)), Hd ((Below.refl _ _).alloc (Nat.le_refl _) _)⟩) ?_
  clear G1 N1 M1
  intro w2 ⟨R2, G2, N2, M2, S2⟩
  obtain ⟨u0, u1, u2, u3, u4, u5, u6, u7, u8, u9, u10, u11, u12⟩ := MM.cells13 R2.out
  go_wp2_with fail
  refine (gset_any _ B g s μ (fun k => ok k ∨ (w.heap.size ≤ k ∧ k < w1.heap.size)) G2.out i pb hi HP.out r.n τ N2.out Ao ko r.out M2.out (by have := HG.out.fl; have := HOL.out; omega)).mono ?_
  rintro e w3 ⟨μ', rfl, hG, hS, _⟩
  rw [← OPE.out] at hG
  have G3 := Hd hG
  have S3 := Hd hS
  clear hG hS u0 u1 u2 u3 u4 u5 u6 u7 u8 u9 u10 u11 u12
  go_wp2_with fail
  go_end0
  exact ⟨μ', (fun k => ok k ∨ (w.heap.size ≤ k ∧ k < w1.heap.size)), rfl, G3.out, GStep.newer HB1.out H.out.Bsize (GStep.trans (GStep.ofBelow S2.out (Nat.le_trans H.out.Bsize HB1.out.size)) S3.out)⟩
 ·have OPE := Hd (show s.tick id = s from by unfold GS.tick; rw [h1]; rfl)
  clear h1
  go_wp2_with fail
  go_end0
  rw [OPE.out]
  exact ⟨μ, ok, rfl, H.out, GStep.refl _ _ _ _ _⟩
theorem gPropose_any (w : World) (B g : Nat) (s : GS) (μ : GM) (ok : Nat → Prop) (h : GroupAt w B g s μ ok) (K : Nat) (G : GoodG K s) (hK : K ≤ 1000) (id : Int) (d : ByteArray) :
  Calls Try.prog 41 #[.pointer (some ⟨g, 0, none⟩), .int .i64 id, .string d] w fun e w' => ∃ μ' ok', e = .returned (.bool (s.propOk id)) ∧ GroupAt w' B g (s.prop id d) μ' ok' ∧ GStep w w' B g μ μ' ok ok' := by
 have HU := Hd (gup_any w B g s μ ok h id (by rw [G.len]; omega))
 have H := Hd h
 have HG := Hd G
 clear h G
 go_enter Try.func41, Try.ntmps41
 go_wp2_with fail
 refine HU.out.mono ?_
 rintro e w' ⟨⟨i, pb, h1, rfl, hi, hp, rfl⟩ | ⟨h1, rfl⟩, rfl⟩
 ·obtain ⟨pb', hp', _, _, _, _, σ, hv, hc⟩ := H.out.place hi
  rw [hp] at hp'
  injection hp' with hp'
  subst hp'
  have x0 : w.cell? ⟨pb, i * 14, none⟩ = some (.int .i64 (s.node i).id) := hc 0 _ rfl
  have x1 : w.cell? ⟨pb, i * 14 + 1, none⟩ = some (.int .i64 (s.node i).term) := hc 1 _ rfl
  have x2 : w.cell? ⟨pb, i * 14 + 2, none⟩ = some (.int .i64 (s.node i).vote) := hc 2 _ rfl
  have x3 : w.cell? ⟨pb, i * 14 + 3, none⟩ = some (.slice σ.A3 (s.node i).log.length σ.k3) := hc 3 _ rfl
  have x4 : w.cell? ⟨pb, i * 14 + 4, none⟩ = some (.int .i64 (s.node i).form) := hc 4 _ rfl
  have x5 : w.cell? ⟨pb, i * 14 + 5, none⟩ = some (.int .i64 (s.node i).role) := hc 5 _ rfl
  have x6 : w.cell? ⟨pb, i * 14 + 6, none⟩ = some (.int .i64 (s.node i).commit) := hc 6 _ rfl
  have x7 : w.cell? ⟨pb, i * 14 + 7, none⟩ = some (.slice σ.A7 (s.node i).votes.length σ.k7) := hc 7 _ rfl
  have x8 : w.cell? ⟨pb, i * 14 + 8, none⟩ = some (.slice σ.A8 (s.node i).nxt.length σ.k8) := hc 8 _ rfl
  have x9 : w.cell? ⟨pb, i * 14 + 9, none⟩ = some (.slice σ.A9 (s.node i).mtch.length σ.k9) := hc 9 _ rfl
  have x10 : w.cell? ⟨pb, i * 14 + 10, none⟩ = some (.slice σ.A10 (s.node i).forms.length σ.k10) := hc 10 _ rfl
  have x11 : w.cell? ⟨pb, i * 14 + 11, none⟩ = some (.int .i64 (s.node i).clock) := hc 11 _ rfl
  have x12 : w.cell? ⟨pb, i * 14 + 12, none⟩ = some (.int .i64 (s.node i).due) := hc 12 _ rfl
  have gx := HG.out.node hi
  have V := Hd hv
  have HP := Hd hp
  have H1 := Hd h1
  have OPE := Hd (show s.prop (i : Int) d = ⟨s.ns.set i ((proposeS (s.node i) d)).n, s.us, s.f ++ ((proposeS (s.node i) d)).out⟩ from by unfold GS.prop GS.put; rw [if_pos h1, Int.toNat_natCast])
  have HOL := Hd (proposeS_out (s.node i) d (by rw [gx.v]; omega))
  have RB := Hd (show s.propOk (i : Int) = decide ((s.node (i : Int)).role = 2) from by unfold GS.propOk; rw [h1]; rfl)
  clear h1 hp hv hc
  go_wp2_with fail
  refine (propose_any _ _ (s.node i) σ d V.out (by have := gx.l; omega) (by rw [gx.v]; omega) (by rw [gx.x, gx.v]) (by rw [gx.m, gx.v]) (by rw [gx.f]; omega) gx.i0 (by rw [gx.v]; exact gx.i1) (fun j hj => by have := gx.hx j (by rw [← gx.x]; exact hj); omega)).mono ?_
  rintro e w1 ⟨τ, Ao, ko, rfl, hn, hm, hb⟩
  clear gx
  generalize decide ((s.node (i : Int)).role = 2) = bb at RB ⊢
  have G1 := Hd (H.out.newer hb)
  have N1 := Hd (hn.mono (ok' := (fun k => ok k ∨ (w.heap.size ≤ k ∧ k < w1.heap.size))) (fun k hk hl => .inr ⟨hk, hl⟩))
  have M1 := Hd (hm.mono (ok' := (fun k => ok k ∨ (w.heap.size ≤ k ∧ k < w1.heap.size))) (fun k hk hl => .inr ⟨hk, hl⟩))
  have HB1 := Hd hb
  clear hn hm hb
  obtain ⟨r, hr⟩ : ∃ r, r = (proposeS (s.node i) d) := ⟨_, rfl⟩
  rw [← hr] at OPE N1 M1 HOL ⊢
  clear hr x0 x1 x2 x3 x4 x5 x6 x7 x8 x9 x10 x11 x12
  go_upto_region 5 with (fail)
  refine name_world (F := fun W => Hid (W.heap[w1.heap.size]? = some (.cells (NA r.n τ) 28 (0, 0))) ∧ Hid (GroupAt W B g s μ (fun k => ok k ∨ (w.heap.size ≤ k ∧ k < w1.heap.size))) ∧ Hid (NodeVs W (fun k => ok k ∨ (w.heap.size ≤ k ∧ k < w1.heap.size)) r.n τ) ∧ Hid (MsgsV W (fun k => ok k ∨ (w.heap.size ≤ k ∧ k < w1.heap.size)) (.slice Ao r.out.length ko) r.out) ∧ Hid (Below w1.heap.size w1 W)) _ (by exact ⟨Hd (MM.alloc_new _ _), Hd (G1.out.alloc _), Hd (N1.out.step (fun k _ hl => Below.heap_alloc _ _ k hl)), Hd (M1.out.step (fun k _ hl => Below.heap_alloc _ _ k hl)), Hd ((Below.refl _ _).alloc (Nat.le_refl _) _)⟩) ?_
  clear G1 N1 M1
  intro w2 ⟨R2, G2, N2, M2, S2⟩
  obtain ⟨u0, u1, u2, u3, u4, u5, u6, u7, u8, u9, u10, u11, u12⟩ := MM.cells13 R2.out
  go_wp2_with fail
  refine (gset_any _ B g s μ (fun k => ok k ∨ (w.heap.size ≤ k ∧ k < w1.heap.size)) G2.out i pb hi HP.out r.n τ N2.out Ao ko r.out M2.out (by have := HG.out.fl; have := HOL.out; omega)).mono ?_
  rintro e w3 ⟨μ', rfl, hG, hS, _⟩
  rw [← OPE.out] at hG
  have G3 := Hd hG
  have S3 := Hd hS
  clear hG hS u0 u1 u2 u3 u4 u5 u6 u7 u8 u9 u10 u11 u12
  go_wp2_with fail
  go_ret
  exact ⟨μ', (fun k => ok k ∨ (w.heap.size ≤ k ∧ k < w1.heap.size)), MM.ret_bool RB.out.symm, G3.out, GStep.newer HB1.out H.out.Bsize (GStep.trans (GStep.ofBelow S2.out (Nat.le_trans H.out.Bsize HB1.out.size)) S3.out)⟩
 ·have OPE := Hd (show s.prop id d = s from by unfold GS.prop; rw [h1]; rfl)
  have RB := Hd (show s.propOk id = false from by unfold GS.propOk; rw [h1]; rfl)
  clear h1
  go_wp2_with fail
  go_ret
  rw [OPE.out]
  exact ⟨μ, ok, MM.ret_bool RB.out.symm, H.out, GStep.refl _ _ _ _ _⟩
end Go.Proofs.Ytnkmljdkokcdjaa
namespace Go.Proofs.Ytnkmljdkokcdjaa
open Go.RowKit Fed Go.RT
attribute [local go_sem high] Fed.max2_int Fed.min2_int Fed.MA Fed.ZN Fed.ZM Fed.NA
theorem GStep.since {w w1 w2 : World} {B g : Nat} {μ μ' : GM} {ok ok1 ok2 : Nat → Prop} (h : GStep w1 w2 B g μ μ' ok1 ok2) (hb : Below w.heap.size w w1) (hB : B ≤ w.heap.size) (hok : ∀ k, ok1 k → ok k ∨ w.heap.size ≤ k) : GStep w w2 B g μ μ' ok ok2 where
 below := (hb.mono hB).trans h.below
 keep k hk hn := (h.keep k (Nat.lt_of_lt_of_le hk hb.size) hn).trans (hb.block k hk)
 own k q := by
  rcases h.own k q with q | q
  ·exact .inl q
  ·exact .inr (Nat.le_trans hb.size q)
 oks k q := by
  rcases h.oks k q with q | q
  ·exact hok k q
  ·exact .inr (Nat.le_trans hb.size q)
theorem GroupAt.newerB {w w1 : World} {B g : Nat} {s : GS} {μ : GM} {ok : Nat → Prop} (h : GroupAt w B g s μ ok) (hb : Below w.heap.size w w1) (b : Nat) (hbb : w.heap.size ≤ b) : GroupAt w1 B g s μ (fun k => ok k ∨ (b ≤ k ∧ k < w1.heap.size)) :=
 (h.below hb).more (fun k hk => .inl hk) (fun k hk q => by
  rcases hk with hk | hk
  ·exact h.no k hk q
  ·have := (h.ownlt k q).2; omega) (fun k hk => by
  rcases hk with hk | hk
  ·exact Nat.lt_of_lt_of_le (h.okl k hk) hb.size
  ·exact hk.2)
theorem cut_ns (s : GS) (a : Int) : (s.cut a).ns = s.ns := by unfold GS.cut; split <;> rfl
theorem cut_us (s : GS) (a : Int) : (s.cut a).us = s.us := by unfold GS.cut; split <;> rfl
theorem cut_isUp (s : GS) (a id : Int) : (s.cut a).isUp id = s.isUp id := by unfold GS.isUp; rw [cut_ns, cut_us]
theorem cut_node (s : GS) (a id : Int) : (s.cut a).node id = s.node id := by unfold GS.node; rw [cut_ns]
theorem cut_mem {s : GS} {a : Int} {m : Fed.Msg} (h : m ∈ (s.cut a).f) : m ∈ s.f := by
 unfold GS.cut at h
 split at h
 ·exact List.mem_of_mem_eraseIdx h
 ·exact h
theorem cut_len (s : GS) (a : Int) : (s.cut a).f.length ≤ s.f.length := by
 unfold GS.cut
 split
 ·exact List.length_eraseIdx_le _ _
 ·exact Nat.le_refl _
theorem GoodG.cut {K : Nat} {s : GS} (h : GoodG K s) (a : Int) : GoodG K (s.cut a) :=
 ⟨by rw [cut_ns]; exact h.len, by rw [cut_us]; exact h.ul, fun n hn => h.ns n (by rw [cut_ns] at hn; exact hn), Nat.le_trans (cut_len s a) h.fl, fun m hm => h.f m (cut_mem hm)⟩
theorem gDeliver_any (w : World) (B g : Nat) (s : GS) (μ : GM) (ok : Nat → Prop) (h : GroupAt w B g s μ ok) (K : Nat) (G : GoodG K s) (hK : K ≤ 1000) (a : Int) :
  Calls Try.prog 46 #[.pointer (some ⟨g, 0, none⟩), .int .i64 a] w fun e w' => ∃ μ' ok', e = .returned (.bool (s.has a)) ∧ GroupAt w' B g (s.deliver a) μ' ok' ∧ GStep w w' B g μ μ' ok ok' := by
 have HT := Hd (gtake_any w B g s μ ok h a (by have := G.fl; omega))
 have HBS := Hd h.Bsize
 have HG := Hd G
 clear h G
 go_enter Try.func46, Try.ntmps46
 go_wp2_with fail
 refine HT.out.mono ?_
 rintro e w1 ⟨μ1, hat, hG, hS, hp1⟩
 have G1 := Hd hG
 have S1 := Hd hS
 have HP1 := Hd hp1
 clear hG hS hp1 HT
 rcases hat with ⟨hs, A, c, rfl, hrd⟩ | ⟨hs, rfl⟩
 ·obtain ⟨i, rfl, hi⟩ := has_some hs
  have HS := Hd hs
  have RD1 := Hd hrd
  clear hs hrd
  go_upto_region 2 with (fail)
  refine name_world (F := fun W => Hid (W.heap[w1.heap.size]? = some (.cells (MA (s.msg (i : Int)) (.slice A (s.msg (i : Int)).entries.length c)) 34 (0, 0))) ∧ Hid (GroupAt W B g (s.cut (i : Int)) μ1 ok) ∧ Hid (GStep w W B g μ μ1 ok ok) ∧ Hid (MM.Rd W ok 2 (.slice A (s.msg (i : Int)).entries.length c) (s.msg (i : Int)).entries.length (entsC (s.msg (i : Int)).entries))) _ (by exact ⟨Hd (MM.alloc_new _ _), Hd (G1.out.alloc _), Hd (S1.out.fresh ((Below.refl _ _).alloc S1.out.below.size _) HBS.out), Hd (RD1.out.alloc _)⟩) ?_
  clear G1 S1 RD1
  intro w2 ⟨R2, G2, S2, RD2⟩
  obtain ⟨d0, d1, d2, d3, d4, d5, d6, d7, d8, d9⟩ := MM.cells10 R2.out
  go_wp2_with fail
  refine (gup_any w2 B g (s.cut (i : Int)) μ1 ok G2.out _ (by rw [cut_ns, HG.out.len]; omega)).mono ?_
  rintro e w' ⟨⟨j, pb, h1, hto, hj, hp, rfl⟩ | ⟨h1, rfl⟩, rfl⟩
  ·obtain ⟨pb', hp', _, _, _, _, σ, hv, hc⟩ := G2.out.place hj
   rw [hp] at hp'
   injection hp' with hp'
   subst hp'
   have x0 : w2.cell? ⟨pb, j * 14, none⟩ = some (.int .i64 ((s.cut (i : Int)).node (j : Int)).id) := hc 0 _ rfl
   have x1 : w2.cell? ⟨pb, j * 14 + 1, none⟩ = some (.int .i64 ((s.cut (i : Int)).node (j : Int)).term) := hc 1 _ rfl
   have x2 : w2.cell? ⟨pb, j * 14 + 2, none⟩ = some (.int .i64 ((s.cut (i : Int)).node (j : Int)).vote) := hc 2 _ rfl
   have x3 : w2.cell? ⟨pb, j * 14 + 3, none⟩ = some (.slice σ.A3 ((s.cut (i : Int)).node (j : Int)).log.length σ.k3) := hc 3 _ rfl
   have x4 : w2.cell? ⟨pb, j * 14 + 4, none⟩ = some (.int .i64 ((s.cut (i : Int)).node (j : Int)).form) := hc 4 _ rfl
   have x5 : w2.cell? ⟨pb, j * 14 + 5, none⟩ = some (.int .i64 ((s.cut (i : Int)).node (j : Int)).role) := hc 5 _ rfl
   have x6 : w2.cell? ⟨pb, j * 14 + 6, none⟩ = some (.int .i64 ((s.cut (i : Int)).node (j : Int)).commit) := hc 6 _ rfl
   have x7 : w2.cell? ⟨pb, j * 14 + 7, none⟩ = some (.slice σ.A7 ((s.cut (i : Int)).node (j : Int)).votes.length σ.k7) := hc 7 _ rfl
   have x8 : w2.cell? ⟨pb, j * 14 + 8, none⟩ = some (.slice σ.A8 ((s.cut (i : Int)).node (j : Int)).nxt.length σ.k8) := hc 8 _ rfl
   have x9 : w2.cell? ⟨pb, j * 14 + 9, none⟩ = some (.slice σ.A9 ((s.cut (i : Int)).node (j : Int)).mtch.length σ.k9) := hc 9 _ rfl
   have x10 : w2.cell? ⟨pb, j * 14 + 10, none⟩ = some (.slice σ.A10 ((s.cut (i : Int)).node (j : Int)).forms.length σ.k10) := hc 10 _ rfl
   have x11 : w2.cell? ⟨pb, j * 14 + 11, none⟩ = some (.int .i64 ((s.cut (i : Int)).node (j : Int)).clock) := hc 11 _ rfl
   have x12 : w2.cell? ⟨pb, j * 14 + 12, none⟩ = some (.int .i64 ((s.cut (i : Int)).node (j : Int)).due) := hc 12 _ rfl
   have gx := (HG.out.cut (i : Int)).node hj
   have gm := HG.out.msg hi
   have V := Hd hv
   have HP := Hd hp
   have OPE := Hd (show s.deliver (i : Int) = ⟨(s.cut (i : Int)).ns.set j (handleS ((s.cut (i : Int)).node (j : Int)) (s.msg (i : Int))).n, (s.cut (i : Int)).us, (s.cut (i : Int)).f ++ (handleS ((s.cut (i : Int)).node (j : Int)) (s.msg (i : Int))).out⟩ from by
    unfold GS.deliver GS.put
    rw [cut_isUp] at h1
    rw [if_pos HS.out, if_pos h1, hto, cut_node, Int.toNat_natCast])
   have HOL := Hd (handleS_out ((s.cut (i : Int)).node (j : Int)) (s.msg (i : Int)) (by rw [gx.v]; omega))
   have HPL := Hd (show ∀ k, μ1.owns g k ∨ ok k → k ≠ w2.heap.size from fun k hk => by rcases hk with hk | hk; exact Nat.ne_of_lt (G2.out.ownlt k hk).2; exact Nat.ne_of_lt (G2.out.okl k hk))
   have hpl2 : pb < w2.heap.size := (G2.out.ltp pb hp).2
   have hml2 : w1.heap.size < w2.heap.size := MM.blk_lt R2.out
   clear h1 hto hp hv hc
   go_upto_region 4 with (fail)
   refine wT (.p 0 (.p 1 (.p 2 (.s 3 (.s 4 (.w 5 [] (.p 6 (.p 7 (.p 8 (.w 9 [3, 4] (.w 10 [] (.w 11 [] .nil .stop) .stop) .stop)))) (.w 9 [3, 4] (.w 5 [] (.p 6 (.p 7 (.p 8 (.w 10 [] (.w 11 [] .nil .stop) .stop)))) .stop) .stop))))))) (by kernel_rfl) (by kernel_rfl) ?_
   repeat ((first | refine sP rfl fun K hK => ?_ | refine sS rfl fun K hK => ?_); go_simp; refine hK _ ?_; clear hK K)
   refine sW rfl rfl (fun K hK => ?_) ?_
   ·go_wp2_with fail
    refine (handle_c _ _ ((s.cut (i : Int)).node (j : Int)) σ (V.out.step (w1 := w2.drew) (fun _ _ _ => rfl)) (s.msg (i : Int)) A c ok (RD2.out.step (w1 := w2.drew) (fun _ _ _ => rfl)) (by have := gx.l; omega) (by rw [gx.v]; omega) (by rw [gx.x, gx.v]) (by rw [gx.m, gx.v]) (by rw [gx.f, gx.v]) gm.e (by have := gx.c0; omega) (by have := gx.c1; omega) gx.cm ⟨gm.i0, gm.i1⟩ (fun q hq => gx.hx q (by rw [← gx.x]; exact hq)) (fun q hq => gx.hy q (by rw [← gx.m]; exact hq))).mono ?_
    rintro e w3 ⟨τ, Ao, ko, rfl, hn, hm, hb⟩
    have hb0 : Below w2.heap.size w2 w3 := (Below.refl _ w2).drew.trans hb
    have G3 := Hd (G2.out.newerB hb0 w2.heap.size (Nat.le_refl _))
    have N3 := Hd (hn.mono (ok' := (fun k => ok k ∨ (w2.heap.size ≤ k ∧ k < w3.heap.size))) (fun k hk hl => .inr ⟨hk, hl⟩))
    have M3 := Hd (hm.mono (ok' := (fun k => ok k ∨ (w2.heap.size ≤ k ∧ k < w3.heap.size))) (fun k hk hl => .inr ⟨hk, hl⟩))
    have HB3 := Hd hb0
    have X0 := (World.cell?_of_block (a := ⟨pb, j * 14, none⟩) (hb0.block pb hpl2)).trans x0
    have X1 := (World.cell?_of_block (a := ⟨pb, j * 14 + 1, none⟩) (hb0.block pb hpl2)).trans x1
    have X2 := (World.cell?_of_block (a := ⟨pb, j * 14 + 2, none⟩) (hb0.block pb hpl2)).trans x2
    have X3 := (World.cell?_of_block (a := ⟨pb, j * 14 + 3, none⟩) (hb0.block pb hpl2)).trans x3
    have X4 := (World.cell?_of_block (a := ⟨pb, j * 14 + 4, none⟩) (hb0.block pb hpl2)).trans x4
    have X5 := (World.cell?_of_block (a := ⟨pb, j * 14 + 5, none⟩) (hb0.block pb hpl2)).trans x5
    have X6 := (World.cell?_of_block (a := ⟨pb, j * 14 + 6, none⟩) (hb0.block pb hpl2)).trans x6
    have X7 := (World.cell?_of_block (a := ⟨pb, j * 14 + 7, none⟩) (hb0.block pb hpl2)).trans x7
    have X8 := (World.cell?_of_block (a := ⟨pb, j * 14 + 8, none⟩) (hb0.block pb hpl2)).trans x8
    have X9 := (World.cell?_of_block (a := ⟨pb, j * 14 + 9, none⟩) (hb0.block pb hpl2)).trans x9
    have X10 := (World.cell?_of_block (a := ⟨pb, j * 14 + 10, none⟩) (hb0.block pb hpl2)).trans x10
    have X11 := (World.cell?_of_block (a := ⟨pb, j * 14 + 11, none⟩) (hb0.block pb hpl2)).trans x11
    have X12 := (World.cell?_of_block (a := ⟨pb, j * 14 + 12, none⟩) (hb0.block pb hpl2)).trans x12
    have D0 := (World.cell?_of_block (a := ⟨w1.heap.size, 0, none⟩) (hb0.block _ hml2)).trans d0
    have D1 := (World.cell?_of_block (a := ⟨w1.heap.size, 1, none⟩) (hb0.block _ hml2)).trans d1
    have D2 := (World.cell?_of_block (a := ⟨w1.heap.size, 2, none⟩) (hb0.block _ hml2)).trans d2
    have D3 := (World.cell?_of_block (a := ⟨w1.heap.size, 3, none⟩) (hb0.block _ hml2)).trans d3
    have D4 := (World.cell?_of_block (a := ⟨w1.heap.size, 4, none⟩) (hb0.block _ hml2)).trans d4
    have D5 := (World.cell?_of_block (a := ⟨w1.heap.size, 5, none⟩) (hb0.block _ hml2)).trans d5
    have D6 := (World.cell?_of_block (a := ⟨w1.heap.size, 6, none⟩) (hb0.block _ hml2)).trans d6
    have D7 := (World.cell?_of_block (a := ⟨w1.heap.size, 7, none⟩) (hb0.block _ hml2)).trans d7
    have D8 := (World.cell?_of_block (a := ⟨w1.heap.size, 8, none⟩) (hb0.block _ hml2)).trans d8
    have D9 := (World.cell?_of_block (a := ⟨w1.heap.size, 9, none⟩) (hb0.block _ hml2)).trans d9
    have hpl3 : pb < w3.heap.size := Nat.lt_of_lt_of_le hpl2 hb0.size
    have hml3 : w1.heap.size < w3.heap.size := Nat.lt_of_lt_of_le hml2 hb0.size
    clear hn hm hb hb0
    obtain ⟨r, hr⟩ : ∃ r, r = handleS ((s.cut (i : Int)).node (j : Int)) (s.msg (i : Int)) := ⟨_, rfl⟩
    rw [← hr] at OPE N3 M3 HOL ⊢
    clear hr
    go_wp2_with fail
    refine qN _ _ _ _ (hK _ _ ?_ ?_) <;> clear hK K
    ·repeat first | exact aN | refine aO rfl rfl ?_ | refine aI rfl (by go_simp <;> rfl) ?_
    repeat ((first | refine sP rfl fun K hK => ?_ | refine sS rfl fun K hK => ?_); go_simp; refine hK _ ?_; clear hK K)
    refine sW rfl rfl (fun K hK => ?_) sT
    go_wp2
    refine qN _ _ _ _ (hK _ _ ?_ ?_) <;> clear hK K
    ·repeat first | exact aN | refine aO rfl rfl ?_ | refine aI rfl (by go_simp <;> rfl) ?_
    refine sW rfl rfl (fun K hK => ?_) sT
    go_wp2
    refine qN _ _ _ _ (hK _ _ ?_ ?_) <;> clear hK K
    ·repeat first | exact aN | refine aO rfl rfl ?_ | refine aI rfl (by go_simp <;> rfl) ?_
    refine sW rfl rfl (fun K hK => ?_) sT
    go_wp2
    refine qN _ _ _ _ (hK _ _ ?_ ?_) <;> clear hK K
    ·repeat first | exact aN | refine aO rfl rfl ?_ | refine aI rfl (by go_simp <;> rfl) ?_
    refine sN ?_
    go_upto_region 5 with (fail)
    refine name_world (F := fun W => Hid (W.heap[w3.heap.size]? = some (.cells (NA r.n τ) 28 (0, 0))) ∧ Hid (GroupAt W B g (s.cut (i : Int)) μ1 (fun k => ok k ∨ (w2.heap.size ≤ k ∧ k < w3.heap.size))) ∧ Hid (NodeVs W (fun k => ok k ∨ (w2.heap.size ≤ k ∧ k < w3.heap.size)) r.n τ) ∧ Hid (MsgsV W (fun k => ok k ∨ (w2.heap.size ≤ k ∧ k < w3.heap.size)) (.slice Ao r.out.length ko) r.out) ∧ Hid (Below w2.heap.size w3 W)) _ (by exact ⟨Hd (MM.alloc_new _ _), Hd (G3.out.alloc _), Hd (N3.out.step (fun k _ hl => Below.heap_alloc _ _ k hl)), Hd (M3.out.step (fun k _ hl => Below.heap_alloc _ _ k hl)), Hd ((Below.refl _ _).alloc HB3.out.size _)⟩) ?_
    clear G3 N3 M3
    intro w4 ⟨R4, G4, N4, M4, S4⟩
    obtain ⟨u0, u1, u2, u3, u4, u5, u6, u7, u8, u9, u10, u11, u12⟩ := MM.cells13 R4.out
    clear x0 x1 x2 x3 x4 x5 x6 x7 x8 x9 x10 x11 x12 d0 d1 d2 d3 d4 d5 d6 d7 d8 d9 X0 X1 X2 X3 X4 X5 X6 X7 X8 X9 X10 X11 X12 D0 D1 D2 D3 D4 D5 D6 D7 D8 D9
    go_wp2_with fail
    refine (gset_any _ B g (s.cut (i : Int)) μ1 (fun k => ok k ∨ (w2.heap.size ≤ k ∧ k < w3.heap.size)) G4.out j pb hj HP.out r.n τ N4.out Ao ko r.out M4.out (by have := (HG.out.cut (i : Int)).fl; have := HOL.out; omega)).mono ?_
    rintro e w5 ⟨μ', rfl, hG, hS, _⟩
    rw [← OPE.out] at hG
    have G5 := Hd hG
    have S5 := Hd hS
    clear hG hS u0 u1 u2 u3 u4 u5 u6 u7 u8 u9 u10 u11 u12
    go_wp2_with fail
    go_ret
    exact ⟨μ', (fun k => ok k ∨ (w2.heap.size ≤ k ∧ k < w3.heap.size)), MM.ret_bool HS.out.symm, G5.out, S2.out.trans (S5.out.since (HB3.out.trans S4.out) G2.out.Bsize (fun k hk => by
     rcases hk with hk | hk
     ·exact .inl hk
     ·exact .inr (by omega)))⟩
   refine sW rfl rfl (fun K hK => ?_) sT
   go_wp2
   refine qN _ _ _ _ (hK _ _ ?_ ?_) <;> clear hK K
   ·repeat first | exact aN | refine aO rfl rfl ?_ | refine aI rfl (by go_simp <;> rfl) ?_
   refine sW rfl rfl (fun K hK => ?_) sT
   go_wp2_with fail
   refine (handle_c _ _ ((s.cut (i : Int)).node (j : Int)) σ (V.out.step (w1 := (w2.alloc (.cells ZN 28 (0, 0))).drew) (fun k _ hl => Below.heap_alloc _ _ k hl)) (s.msg (i : Int)) A c ok (RD2.out.step (w1 := (w2.alloc (.cells ZN 28 (0, 0))).drew) (fun k _ hl => Below.heap_alloc _ _ k hl)) (by have := gx.l; omega) (by rw [gx.v]; omega) (by rw [gx.x, gx.v]) (by rw [gx.m, gx.v]) (by rw [gx.f, gx.v]) gm.e (by have := gx.c0; omega) (by have := gx.c1; omega) gx.cm ⟨gm.i0, gm.i1⟩ (fun q hq => gx.hx q (by rw [← gx.x]; exact hq)) (fun q hq => gx.hy q (by rw [← gx.m]; exact hq))).mono ?_
   rintro e w3 ⟨τ, Ao, ko, rfl, hn, hm, hb⟩
   have hb0 : Below w2.heap.size w2 w3 := ((Below.refl _ w2).alloc (Nat.le_refl _) (.cells ZN 28 (0, 0))).drew.trans (hb.mono (by simp))
   have G3 := Hd (G2.out.newerB hb0 (w2.heap.size + 1) (by omega))
   have N3 := Hd (hn.mono (ok' := (fun k => ok k ∨ (w2.heap.size + 1 ≤ k ∧ k < w3.heap.size))) (fun k hk hl => .inr ⟨by have h9 : (w2.alloc (.cells ZN 28 (0, 0))).heap.size ≤ k := hk; simp at h9; omega, hl⟩))
   have M3 := Hd (hm.mono (ok' := (fun k => ok k ∨ (w2.heap.size + 1 ≤ k ∧ k < w3.heap.size))) (fun k hk hl => .inr ⟨by have h9 : (w2.alloc (.cells ZN 28 (0, 0))).heap.size ≤ k := hk; simp at h9; omega, hl⟩))
   have HB3 := Hd hb0
   have R3 := Hd ((hb.block w2.heap.size (by simp)).trans (MM.alloc_new w2 (.cells ZN 28 (0, 0))))
   clear hn hm hb hb0
   obtain ⟨r, hr⟩ : ∃ r, r = handleS ((s.cut (i : Int)).node (j : Int)) (s.msg (i : Int)) := ⟨_, rfl⟩
   rw [← hr] at OPE N3 M3 HOL ⊢
   clear hr
   go_wp2_with fail
   obtain ⟨y0, y1, y2, y3, y4, y5, y6, y7, y8, y9, y10, y11, y12⟩ := MM.cells13 R3.out
   obtain ⟨z0, z1, z2, z3, z4, z5, z6, z7, z8, z9, z10, z11, z12⟩ := MM.frees13 R3.out
   refine qN _ _ _ _ (hK _ _ ?_ ?_) <;> clear hK K
   ·repeat first | exact aN | refine aO rfl rfl ?_ | refine aI rfl (by go_simp <;> rfl) ?_
   repeat ((first | refine sP rfl fun K hK => ?_ | refine sS rfl fun K hK => ?_); go_simp; refine hK _ ?_; clear hK K)
   refine sW rfl rfl (fun K hK => ?_) sT
   go_wp2
   refine qN _ _ _ _ (hK _ _ ?_ ?_) <;> clear hK K
   ·repeat first | exact aN | refine aO rfl rfl ?_ | refine aI rfl (by go_simp <;> rfl) ?_
   refine sW rfl rfl (fun K hK => ?_) sT
   go_wp2
   refine qN _ _ _ _ (hK _ _ ?_ ?_) <;> clear hK K
   ·repeat first | exact aN | refine aO rfl rfl ?_ | refine aI rfl (by go_simp <;> rfl) ?_
   refine sN ?_
   go_upto_region 5 with (fail)
   refine name_world (F := fun W => Hid (W.heap[w2.heap.size]? = some (.cells (NA r.n τ) 28 (0, 0))) ∧ Hid (GroupAt W B g (s.cut (i : Int)) μ1 (fun k => ok k ∨ (w2.heap.size + 1 ≤ k ∧ k < w3.heap.size))) ∧ Hid (NodeVs W (fun k => ok k ∨ (w2.heap.size + 1 ≤ k ∧ k < w3.heap.size)) r.n τ) ∧ Hid (MsgsV W (fun k => ok k ∨ (w2.heap.size + 1 ≤ k ∧ k < w3.heap.size)) (.slice Ao r.out.length ko) r.out) ∧ Hid (Below w2.heap.size w3 W)) _ (by exact ⟨Hd ((set13 R3.out).trans rfl), Hd (G3.out.step (fun k hk => far13 (by rcases hk with hk | hk | hk; exact HPL.out k (.inl hk); exact HPL.out k (.inr hk); omega)) (by simp [World.setCell])), Hd (N3.out.step (fun k hk _ => far13 (by rcases hk with hk | hk; exact HPL.out k (.inr hk); omega))), Hd (M3.out.step (fun k hk _ => far13 (by rcases hk with hk | hk; exact HPL.out k (.inr hk); omega))), Hd (below13 (Below.refl _ _) (Nat.le_refl _))⟩) ?_
   clear G3 N3 M3 R3
   intro w4 ⟨R4, G4, N4, M4, S4⟩
   obtain ⟨u0, u1, u2, u3, u4, u5, u6, u7, u8, u9, u10, u11, u12⟩ := MM.cells13 R4.out
   clear x0 x1 x2 x3 x4 x5 x6 x7 x8 x9 x10 x11 x12 d0 d1 d2 d3 d4 d5 d6 d7 d8 d9 y0 z0 y1 z1 y2 z2 y3 z3 y4 z4 y5 z5 y6 z6 y7 z7 y8 z8 y9 z9 y10 z10 y11 z11 y12 z12
   go_wp2_with fail
   refine (gset_any _ B g (s.cut (i : Int)) μ1 (fun k => ok k ∨ (w2.heap.size + 1 ≤ k ∧ k < w3.heap.size)) G4.out j pb hj HP.out r.n τ N4.out Ao ko r.out M4.out (by have := (HG.out.cut (i : Int)).fl; have := HOL.out; omega)).mono ?_
   rintro e w5 ⟨μ', rfl, hG, hS, _⟩
   rw [← OPE.out] at hG
   have G5 := Hd hG
   have S5 := Hd hS
   clear hG hS u0 u1 u2 u3 u4 u5 u6 u7 u8 u9 u10 u11 u12
   go_wp2_with fail
   go_ret
   exact ⟨μ', (fun k => ok k ∨ (w2.heap.size + 1 ≤ k ∧ k < w3.heap.size)), MM.ret_bool HS.out.symm, G5.out, S2.out.trans (S5.out.since (HB3.out.trans S4.out) G2.out.Bsize (fun k hk => by
    rcases hk with hk | hk
    ·exact .inl hk
    ·exact .inr (by omega)))⟩
  ·have OPE := Hd (show s.deliver (i : Int) = s.cut (i : Int) from by
    unfold GS.deliver
    rw [cut_isUp] at h1
    rw [if_pos HS.out, if_neg (by rw [h1]; simp)])
   clear h1
   go_wp2_with fail
   go_ret
   refine ⟨μ1, ok, MM.ret_bool HS.out.symm, ?_, S2.out⟩
   rw [OPE.out]
   exact G2.out
 ·have HS := Hd hs
  have OPE := Hd (show s.deliver a = s.cut a from by unfold GS.deliver GS.cut; rw [hs]; rfl)
  clear hs
  go_upto_region 2 with (fail)
  refine name_world (F := fun W => Hid (W.heap[w1.heap.size]? = some (.cells ZM 34 (0, 0))) ∧ Hid (GroupAt W B g (s.cut a) μ1 ok) ∧ Hid (GStep w W B g μ μ1 ok ok)) _ (by exact ⟨Hd (MM.alloc_new _ _), Hd (G1.out.alloc _), Hd (S1.out.fresh ((Below.refl _ _).alloc S1.out.below.size _) HBS.out)⟩) ?_
  clear G1 S1
  intro w2 ⟨R2, G2, S2⟩
  obtain ⟨d0, d1, d2, d3, d4, d5, d6, d7, d8, d9⟩ := MM.cells10 R2.out
  go_wp2_with fail
  refine (gup_any w2 B g (s.cut a) μ1 ok G2.out _ (by rw [cut_ns, HG.out.len]; omega)).mono ?_
  rintro e w' ⟨⟨j, pb, h1, hto, hj, hp, rfl⟩ | ⟨h1, rfl⟩, rfl⟩
  ·clear h1 hto hj hp
   go_wp2_with fail
   go_ret
   refine ⟨μ1, ok, MM.ret_bool HS.out.symm, ?_, S2.out⟩
   rw [OPE.out]
   exact G2.out
  ·clear h1
   go_wp2_with fail
   go_ret
   refine ⟨μ1, ok, MM.ret_bool HS.out.symm, ?_, S2.out⟩
   rw [OPE.out]
   exact G2.out
end Go.Proofs.Ytnkmljdkokcdjaa
