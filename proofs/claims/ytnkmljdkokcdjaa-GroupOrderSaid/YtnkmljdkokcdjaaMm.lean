/-
  Propose and Restart answer as the plain functions say.
-/
import Derived.WalkKit
import Derived.WalkSpells
import Derived.Lib.Hide
import Derived.Outline
import Derived.Test.YtnkmljdkokcdjaaChecked
import Derived.Test.YtnkmljdkokcdjaaMn
import Derived.Test.YtnkmljdkokcdjaaMem
import Derived.Test.YtnkmljdkokcdjaaFed
import Derived.Test.YtnkmljdkokcdjaaMa
import Derived.Test.YtnkmljdkokcdjaaMc
import Derived.Test.YtnkmljdkokcdjaaRc3
import Derived.Test.YtnkmljdkokcdjaaRn0
import Derived.Test.YtnkmljdkokcdjaaRe0
import Derived.Deep.DeepCutAuto
import Derived.Deep.CutBlock
import Derived.Deep.OwnRows
import Derived.IntWalk
import Derived.Test.YtnkmljdkokcdjaaClone
import Derived.Test.YtnkmljdkokcdjaaMd
set_option linter.unusedVariables false
set_option linter.unusedSimpArgs false
namespace Go.Proofs.Ytnkmljdkokcdjaa
open Go.RowKit Fed
set_option linter.unusedVariables false
attribute [local go_sem high] Fed.max2_int Fed.min2_int

set_option maxRecDepth 100000 in
set_option maxHeartbeats 40000000 in
theorem propose_any (w : World) (ok : Nat → Prop) (n : Fed.Node) (σ : Sl5) (d : ByteArray) (h : NodeVs w ok n σ) (l1 : n.log.length ≤ 900000) (l2 : n.votes.length ≤ 1000) (l3 : n.nxt.length = n.votes.length) (l4 : n.mtch.length = n.votes.length) (l5 : n.forms.length ≤ 1000) (hi0 : 0 ≤ n.id) (hi1 : n.id < n.votes.length)
    (hx : ∀ i, i < n.nxt.length → -1000000000 ≤ n.nxt.getD i 0 ∧ n.nxt.getD i 0 ≤ 1000000000) :
    Calls Try.prog 30 #[.agg #[.int .i64 n.id, .int .i64 n.term, .int .i64 n.vote, .slice σ.A3 n.log.length σ.k3, .int .i64 n.form, .int .i64 n.role, .int .i64 n.commit, .slice σ.A7 n.votes.length σ.k7, .slice σ.A8 n.nxt.length σ.k8, .slice σ.A9 n.mtch.length σ.k9, .slice σ.A10 n.forms.length σ.k10, .int .i64 n.clock, .int .i64 n.due], .string d] w fun e w' => ∃ (τ : Sl5) (A : Option Addr) (c : Nat), e = .returned (.tuple #[.agg #[.int .i64 (proposeS n d).n.id, .int .i64 (proposeS n d).n.term, .int .i64 (proposeS n d).n.vote, .slice τ.A3 (proposeS n d).n.log.length τ.k3, .int .i64 (proposeS n d).n.form, .int .i64 (proposeS n d).n.role, .int .i64 (proposeS n d).n.commit, .slice τ.A7 (proposeS n d).n.votes.length τ.k7, .slice τ.A8 (proposeS n d).n.nxt.length τ.k8, .slice τ.A9 (proposeS n d).n.mtch.length τ.k9, .slice τ.A10 (proposeS n d).n.forms.length τ.k10, .int .i64 (proposeS n d).n.clock, .int .i64 (proposeS n d).n.due], .slice A (proposeS n d).out.length c, .bool (decide (n.role = 2))]) ∧ NodeVs w' (fun k => w.heap.size ≤ k) (proposeS n d).n τ ∧ MsgsV w' (fun k => w.heap.size ≤ k) (.slice A (proposeS n d).out.length c) (proposeS n d).out ∧ Below w.heap.size w w' := by
  have HS := Lib.hid (show proposeS n d = if n.role = 2 then putS ⟨n, []⟩ d else ⟨n, []⟩ from by
    unfold proposeS
    by_cases q : n.role = 2
    · rw [if_pos ⟨q, hi0, hi1⟩, if_pos q]
    · rw [if_neg (fun h => q h.1), if_neg q])
  generalize proposeS n d = s1 at HS ⊢
  have H := Lib.hid (h.mono (ok' := fun k => k < w.heap.size) (fun k _ hk => hk))
  have HXX := Lib.hid hx
  have L3 := Lib.hid l3
  have L4 := Lib.hid l4
  have k3 : n.nxt.length ≤ 1000 := by omega
  have k4 : n.mtch.length ≤ 1000 := by omega
  clear h hx l3 l4
  go_enter Try.func30, Try.ntmps30
  go_upto_region 1 with (fail)
  refine name_world (F := fun W => Hid (W.heap[w.heap.size]? = some (.cells #[.int .i64 n.id, .int .i64 n.term, .int .i64 n.vote, .slice σ.A3 n.log.length σ.k3, .int .i64 n.form, .int .i64 n.role, .int .i64 n.commit, .slice σ.A7 n.votes.length σ.k7, .slice σ.A8 n.nxt.length σ.k8, .slice σ.A9 n.mtch.length σ.k9, .slice σ.A10 n.forms.length σ.k10, .int .i64 n.clock, .int .i64 n.due] 28 (0, 0))) ∧ Hid (W.heap[w.heap.size + 1]? = some (.cells #[.int .i64 0, .int .i64 0, .int .i64 0, .slice none 0 0, .int .i64 0, .int .i64 0, .int .i64 0, .slice none 0 0, .slice none 0 0, .slice none 0 0, .slice none 0 0, .int .i64 0, .int .i64 0] 28 (0, 0))) ∧ Hid (NodeVs W (fun k => k < w.heap.size) n σ) ∧ Hid (Below w.heap.size w W) ∧ Hid (W.heap.size = w.heap.size + 2)) _ ⟨Lib.hid ((Below.heap_alloc _ _ _ (by simp)).trans (MM.alloc_new w _)), Lib.hid (MM.alloc_new1 w _ _), Lib.hid (H.out.step (fun k hk _ => (Below.heap_alloc _ _ k (by simp; omega)).trans (Below.heap_alloc w _ k hk))), Lib.hid (((Below.refl _ w).alloc (Nat.le_refl _) _).alloc (by simp) _), Lib.hid (by simp)⟩ ?_
  clear H
  intro w1 ⟨X, Y, V, HB, Z⟩
  obtain ⟨c0, c1, c2, c3, c4, c5, c6, c7, c8, c9, c10, c11, c12⟩ := MM.cells13 X.out
  go_wp2_with fail
  refine (show Calls Try.prog 59 #[.agg #[.int .i64 n.id, .int .i64 n.term, .int .i64 n.vote, .slice σ.A3 n.log.length σ.k3, .int .i64 n.form, .int .i64 n.role, .int .i64 n.commit, .slice σ.A7 n.votes.length σ.k7, .slice σ.A8 n.nxt.length σ.k8, .slice σ.A9 n.mtch.length σ.k9, .slice σ.A10 n.forms.length σ.k10, .int .i64 n.clock, .int .i64 n.due]] _ _ from begin_any _ _ n _ _ _ _ _ V.out (by omega) l2 (by omega) (by omega) (by omega)).mono ?_
  rintro e w2 ⟨g, μ, rfl, hn2, hb2⟩
  have Y2 := Lib.hid ((hb2.block _ (MM.blk_lt Y.out)).trans Y.out)
  have HB2 := Lib.hid (HB.out.trans (hb2.mono HB.out.size))
  have HN2 := Lib.hid hn2
  clear hn2 hb2 c0 c1 c2 c3 c4 c5 c6 c7 c8 c9 c10 c11 c12 X V Y HB
  have c5 : w2.cell? ⟨g, 5, none⟩ = some (.int .i64 n.role) := HN2.out.c 5 _ rfl
  have c0 : w2.cell? ⟨g, 0, none⟩ = some (.int .i64 n.id) := HN2.out.c 0 _ rfl
  by_cases hr : n.role = 2
  · have hrb : (n.role == 2) = true := by simpa using hr
    have hfb : decide (0 ≤ n.id ∧ n.id < (n.votes.length : Int)) = true := decide_eq_true ⟨hi0, hi1⟩
    have HE0 := Lib.hid (HS.out.trans (if_pos hr))
    have HDR := Lib.hid (decide_eq_true hr)
    clear hr HS
    go_wp2_with fail
    refine (show Calls Try.prog 60 _ _ (fun e w' => e = .returned (.bool (decide (0 ≤ n.id ∧ n.id < (n.votes.length : Int)))) ∧ _ = w') from within_any _ w1.heap.size g _ _ n.id HN2.out).mono ?_
    rintro e w3 ⟨rfl, rfl⟩
    go_upto_region 4 with (fail)
    clear hrb hfb c5 c0
    go_wp2_with fail
    refine (put_any _ w1.heap.size g ⟨n, []⟩ μ d HN2.out (by simp) l1 l2 hi0 hi1 L3.out L4.out HXX.out).mono ?_
    rintro e w4 ⟨μ', rfl, hn4, hb4⟩
    have Y := Lib.hid ((hb4.block _ (by have h9 := Z.out; omega)).trans Y2.out)
    have HB := Lib.hid (HB2.out.trans (hb4.mono (by have h9 := Z.out; omega)))
    obtain ⟨s2, hs2⟩ : ∃ x, x = putS ⟨n, []⟩ d := ⟨_, rfl⟩
    have hso : s2.out.length ≤ 1000000 := by
      rw [hs2]
      have h9 := spreadMsgs_le (putN n d) n.votes.length
      show ([] ++ spreadMsgs (putN n d) n.votes.length).length ≤ 1000000
      rw [List.nil_append]
      omega
    rw [← hs2] at hn4 HE0
    have HE := HE0
    have HN := Lib.hid hn4
    clear hs2 hn4 hb4 HE0 HN2 Y2 HB2
    go_wp2_with fail
    refine (end_shape _ _ g s2 _ HN.out hso).mono ?_
    rintro e we ⟨A3, k3, A7, k7, A8, k8, A9, k9, A10, k10, Ao, ko, rfl, hnv, hms, hbe⟩
    obtain ⟨τ, hτ⟩ : ∃ τ : Sl5, τ = ⟨A3, k3, A7, k7, A8, k8, A9, k9, A10, k10⟩ := ⟨_, rfl⟩
    obtain rfl : A3 = τ.A3 := by rw [hτ]
    obtain rfl : k3 = τ.k3 := by rw [hτ]
    obtain rfl : A7 = τ.A7 := by rw [hτ]
    obtain rfl : k7 = τ.k7 := by rw [hτ]
    obtain rfl : A8 = τ.A8 := by rw [hτ]
    obtain rfl : k8 = τ.k8 := by rw [hτ]
    obtain rfl : A9 = τ.A9 := by rw [hτ]
    obtain rfl : k9 = τ.k9 := by rw [hτ]
    obtain rfl : A10 = τ.A10 := by rw [hτ]
    obtain rfl : k10 = τ.k10 := by rw [hτ]
    clear hτ
    have Ye := Lib.hid ((hbe.block _ (MM.blk_lt Y.out)).trans Y.out)
    have HBe := Lib.hid (HB.out.trans (hbe.mono HB.out.size))
    have HNe := Lib.hid (show NodeVs we _ s2.n τ from hnv)
    have HMe := Lib.hid hms
    clear hnv hms hbe
    obtain ⟨y0, y1, y2, y3, y4, y5, y6, y7, y8, y9, y10, y11, y12⟩ := MM.cells13 Ye.out
    obtain ⟨z0, z1, z2, z3, z4, z5, z6, z7, z8, z9, z10, z11, z12⟩ := MM.frees13 Ye.out
    go_upto_region 6 with (fail)
    refine name_world (F := fun W => Hid (W.heap[w.heap.size + 1]? = some (.cells #[.int .i64 s2.n.id, .int .i64 s2.n.term, .int .i64 s2.n.vote, .slice τ.A3 s2.n.log.length τ.k3, .int .i64 s2.n.form, .int .i64 s2.n.role, .int .i64 s2.n.commit, .slice τ.A7 s2.n.votes.length τ.k7, .slice τ.A8 s2.n.nxt.length τ.k8, .slice τ.A9 s2.n.mtch.length τ.k9, .slice τ.A10 s2.n.forms.length τ.k10, .int .i64 s2.n.clock, .int .i64 s2.n.due] 28 (0, 0))) ∧ Hid (NodeVs W (fun k => w1.heap.size ≤ k) s2.n τ) ∧ Hid (MsgsV W (fun k => w1.heap.size ≤ k) (.slice Ao s2.out.length ko) s2.out) ∧ Hid (Below w.heap.size w W)) _ ⟨Lib.hid ((set13 Ye.out).trans rfl), Lib.hid (HNe.out.step (fun k hk _ => far13 (by have h9 : w1.heap.size ≤ k := hk; have h8 := Z.out; show k ≠ w.heap.size + 1; omega))), Lib.hid (HMe.out.step (fun k hk _ => far13 (by have h9 : w1.heap.size ≤ k := hk; have h8 := Z.out; show k ≠ w.heap.size + 1; omega))), Lib.hid (below13 HBe.out (by omega))⟩ ?_
    clear Y HB Ye HBe HNe HMe HN y0 z0 y1 z1 y2 z2 y3 z3 y4 z4 y5 z5 y6 z6 y7 z7 y8 z8 y9 z9 y10 z10 y11 z11 y12 z12
    intro w6 ⟨Y6, N6, M6, B6⟩
    obtain ⟨c0, c1, c2, c3, c4, c5, c6, c7, c8, c9, c10, c11, c12⟩ := MM.cells13 Y6.out
    obtain ⟨z0, z1, z2, z3, z4, z5, z6, z7, z8, z9, z10, z11, z12⟩ := MM.frees13 Y6.out
    go_wp2_with fail
    refine name_world (F := fun W => Hid (W.heap[w.heap.size + 1]? = some (.cells #[.int .i64 s2.n.id, .int .i64 s2.n.term, .int .i64 s2.n.vote, .slice τ.A3 s2.n.log.length τ.k3, .int .i64 s2.n.form, .int .i64 s2.n.role, .int .i64 s2.n.commit, .slice τ.A7 s2.n.votes.length τ.k7, .slice τ.A8 s2.n.nxt.length τ.k8, .slice τ.A9 s2.n.mtch.length τ.k9, .slice τ.A10 s2.n.forms.length τ.k10, .int .i64 s2.n.clock, .int .i64 s2.n.due] 28 (0, 0))) ∧ Hid (NodeVs W (fun k => w1.heap.size ≤ k) s2.n τ) ∧ Hid (MsgsV W (fun k => w1.heap.size ≤ k) (.slice Ao s2.out.length ko) s2.out) ∧ Hid (Below w.heap.size w W)) _ ⟨Lib.hid ((set13 Y6.out).trans rfl), Lib.hid (N6.out.step (fun k hk _ => far13 (by have h9 : w1.heap.size ≤ k := hk; have h8 := Z.out; show k ≠ w.heap.size + 1; omega))), Lib.hid (M6.out.step (fun k hk _ => far13 (by have h9 : w1.heap.size ≤ k := hk; have h8 := Z.out; show k ≠ w.heap.size + 1; omega))), Lib.hid (below13 B6.out (by omega))⟩ ?_
    intro w7 ⟨Y7, N7, M7, B7⟩
    obtain ⟨u0, u1, u2, u3, u4, u5, u6, u7, u8, u9, u10, u11, u12⟩ := MM.cells13 Y7.out
    refine bodyPost_ret (v := .tuple #[.agg #[.int .i64 s2.n.id, .int .i64 s2.n.term, .int .i64 s2.n.vote, .slice τ.A3 s2.n.log.length τ.k3, .int .i64 s2.n.form, .int .i64 s2.n.role, .int .i64 s2.n.commit, .slice τ.A7 s2.n.votes.length τ.k7, .slice τ.A8 s2.n.nxt.length τ.k8, .slice τ.A9 s2.n.mtch.length τ.k9, .slice τ.A10 s2.n.forms.length τ.k10, .int .i64 s2.n.clock, .int .i64 s2.n.due], .slice Ao s2.out.length ko, .bool true]) (by simp [results, Try.results30, go_sem, u0, u1, u2, u3, u4, u5, u6, u7, u8, u9, u10, u11, u12]) rfl ?_
    have hz := Z.out
    rw [HE.out]
    exact ⟨τ, Ao, ko, by rw [HDR.out], N7.out.mono (fun k hk _ => by have h9 : w1.heap.size ≤ k := hk; omega), M7.out.mono (fun k hk _ => by have h9 : w1.heap.size ≤ k := hk; omega), B7.out⟩
  · have hrb : (n.role == 2) = false := by simpa using hr
    have HE0 := Lib.hid (HS.out.trans (if_neg hr))
    have HDR := Lib.hid (decide_eq_false hr)
    clear hr HS
    go_upto_region 5 with (fail)
    clear hrb c5 c0
    obtain ⟨s2, hs2⟩ : ∃ x, x = (⟨n, []⟩ : NS) := ⟨_, rfl⟩
    have hso : s2.out.length ≤ 1000000 := by rw [hs2]; simp
    have hn4 := HN2.out
    rw [← hs2] at hn4 HE0
    have HE := HE0
    have HN := Lib.hid hn4
    have Y := Y2
    have HB := HB2
    clear hs2 hn4 HE0 HN2 Y2 HB2
    go_wp2_with fail
    refine (end_shape _ _ g s2 _ HN.out hso).mono ?_
    rintro e we ⟨A3, k3, A7, k7, A8, k8, A9, k9, A10, k10, Ao, ko, rfl, hnv, hms, hbe⟩
    obtain ⟨τ, hτ⟩ : ∃ τ : Sl5, τ = ⟨A3, k3, A7, k7, A8, k8, A9, k9, A10, k10⟩ := ⟨_, rfl⟩
    obtain rfl : A3 = τ.A3 := by rw [hτ]
    obtain rfl : k3 = τ.k3 := by rw [hτ]
    obtain rfl : A7 = τ.A7 := by rw [hτ]
    obtain rfl : k7 = τ.k7 := by rw [hτ]
    obtain rfl : A8 = τ.A8 := by rw [hτ]
    obtain rfl : k8 = τ.k8 := by rw [hτ]
    obtain rfl : A9 = τ.A9 := by rw [hτ]
    obtain rfl : k9 = τ.k9 := by rw [hτ]
    obtain rfl : A10 = τ.A10 := by rw [hτ]
    obtain rfl : k10 = τ.k10 := by rw [hτ]
    clear hτ
    have Ye := Lib.hid ((hbe.block _ (MM.blk_lt Y.out)).trans Y.out)
    have HBe := Lib.hid (HB.out.trans (hbe.mono HB.out.size))
    have HNe := Lib.hid (show NodeVs we _ s2.n τ from hnv)
    have HMe := Lib.hid hms
    clear hnv hms hbe
    obtain ⟨y0, y1, y2, y3, y4, y5, y6, y7, y8, y9, y10, y11, y12⟩ := MM.cells13 Ye.out
    obtain ⟨z0, z1, z2, z3, z4, z5, z6, z7, z8, z9, z10, z11, z12⟩ := MM.frees13 Ye.out
    go_upto_region 6 with (fail)
    refine name_world (F := fun W => Hid (W.heap[w.heap.size + 1]? = some (.cells #[.int .i64 s2.n.id, .int .i64 s2.n.term, .int .i64 s2.n.vote, .slice τ.A3 s2.n.log.length τ.k3, .int .i64 s2.n.form, .int .i64 s2.n.role, .int .i64 s2.n.commit, .slice τ.A7 s2.n.votes.length τ.k7, .slice τ.A8 s2.n.nxt.length τ.k8, .slice τ.A9 s2.n.mtch.length τ.k9, .slice τ.A10 s2.n.forms.length τ.k10, .int .i64 s2.n.clock, .int .i64 s2.n.due] 28 (0, 0))) ∧ Hid (NodeVs W (fun k => w1.heap.size ≤ k) s2.n τ) ∧ Hid (MsgsV W (fun k => w1.heap.size ≤ k) (.slice Ao s2.out.length ko) s2.out) ∧ Hid (Below w.heap.size w W)) _ ⟨Lib.hid ((set13 Ye.out).trans rfl), Lib.hid (HNe.out.step (fun k hk _ => far13 (by have h9 : w1.heap.size ≤ k := hk; have h8 := Z.out; show k ≠ w.heap.size + 1; omega))), Lib.hid (HMe.out.step (fun k hk _ => far13 (by have h9 : w1.heap.size ≤ k := hk; have h8 := Z.out; show k ≠ w.heap.size + 1; omega))), Lib.hid (below13 HBe.out (by omega))⟩ ?_
    clear Y HB Ye HBe HNe HMe HN y0 z0 y1 z1 y2 z2 y3 z3 y4 z4 y5 z5 y6 z6 y7 z7 y8 z8 y9 z9 y10 z10 y11 z11 y12 z12
    intro w6 ⟨Y6, N6, M6, B6⟩
    obtain ⟨c0, c1, c2, c3, c4, c5, c6, c7, c8, c9, c10, c11, c12⟩ := MM.cells13 Y6.out
    obtain ⟨z0, z1, z2, z3, z4, z5, z6, z7, z8, z9, z10, z11, z12⟩ := MM.frees13 Y6.out
    go_wp2_with fail
    refine name_world (F := fun W => Hid (W.heap[w.heap.size + 1]? = some (.cells #[.int .i64 s2.n.id, .int .i64 s2.n.term, .int .i64 s2.n.vote, .slice τ.A3 s2.n.log.length τ.k3, .int .i64 s2.n.form, .int .i64 s2.n.role, .int .i64 s2.n.commit, .slice τ.A7 s2.n.votes.length τ.k7, .slice τ.A8 s2.n.nxt.length τ.k8, .slice τ.A9 s2.n.mtch.length τ.k9, .slice τ.A10 s2.n.forms.length τ.k10, .int .i64 s2.n.clock, .int .i64 s2.n.due] 28 (0, 0))) ∧ Hid (NodeVs W (fun k => w1.heap.size ≤ k) s2.n τ) ∧ Hid (MsgsV W (fun k => w1.heap.size ≤ k) (.slice Ao s2.out.length ko) s2.out) ∧ Hid (Below w.heap.size w W)) _ ⟨Lib.hid ((set13 Y6.out).trans rfl), Lib.hid (N6.out.step (fun k hk _ => far13 (by have h9 : w1.heap.size ≤ k := hk; have h8 := Z.out; show k ≠ w.heap.size + 1; omega))), Lib.hid (M6.out.step (fun k hk _ => far13 (by have h9 : w1.heap.size ≤ k := hk; have h8 := Z.out; show k ≠ w.heap.size + 1; omega))), Lib.hid (below13 B6.out (by omega))⟩ ?_
    intro w7 ⟨Y7, N7, M7, B7⟩
    obtain ⟨u0, u1, u2, u3, u4, u5, u6, u7, u8, u9, u10, u11, u12⟩ := MM.cells13 Y7.out
    refine bodyPost_ret (v := .tuple #[.agg #[.int .i64 s2.n.id, .int .i64 s2.n.term, .int .i64 s2.n.vote, .slice τ.A3 s2.n.log.length τ.k3, .int .i64 s2.n.form, .int .i64 s2.n.role, .int .i64 s2.n.commit, .slice τ.A7 s2.n.votes.length τ.k7, .slice τ.A8 s2.n.nxt.length τ.k8, .slice τ.A9 s2.n.mtch.length τ.k9, .slice τ.A10 s2.n.forms.length τ.k10, .int .i64 s2.n.clock, .int .i64 s2.n.due], .slice Ao s2.out.length ko, .bool false]) (by simp [results, Try.results30, go_sem, u0, u1, u2, u3, u4, u5, u6, u7, u8, u9, u10, u11, u12]) rfl ?_
    have hz := Z.out
    rw [HE.out]
    exact ⟨τ, Ao, ko, by rw [HDR.out], N7.out.mono (fun k hk _ => by have h9 : w1.heap.size ≤ k := hk; omega), M7.out.mono (fun k hk _ => by have h9 : w1.heap.size ≤ k := hk; omega), B7.out⟩

end Go.Proofs.Ytnkmljdkokcdjaa
namespace Go.Proofs.Ytnkmljdkokcdjaa
open Go.RowKit Fed
set_option linter.unusedVariables false
attribute [local go_sem high] Fed.max2_int Fed.min2_int

set_option maxRecDepth 100000 in
set_option maxHeartbeats 40000000 in
theorem restart_any (w : World) (ok : Nat → Prop) (n : Fed.Node) (σ : Sl5) (form : Int) (h : NodeVs w ok n σ) (l1 : n.log.length ≤ 900000) (l2 : n.votes.length ≤ 1000) (hi0 : -1000000000 ≤ n.id) (hi1 : n.id ≤ 1000000000) :
    Calls Try.prog 32 #[.agg #[.int .i64 n.id, .int .i64 n.term, .int .i64 n.vote, .slice σ.A3 n.log.length σ.k3, .int .i64 n.form, .int .i64 n.role, .int .i64 n.commit, .slice σ.A7 n.votes.length σ.k7, .slice σ.A8 n.nxt.length σ.k8, .slice σ.A9 n.mtch.length σ.k9, .slice σ.A10 n.forms.length σ.k10, .int .i64 n.clock, .int .i64 n.due], .int .i64 form] w fun e w' => ∃ τ : Sl5, e = .returned (.agg #[.int .i64 (restartN n form).id, .int .i64 (restartN n form).term, .int .i64 (restartN n form).vote, .slice τ.A3 (restartN n form).log.length τ.k3, .int .i64 (restartN n form).form, .int .i64 (restartN n form).role, .int .i64 (restartN n form).commit, .slice τ.A7 (restartN n form).votes.length τ.k7, .slice τ.A8 (restartN n form).nxt.length τ.k8, .slice τ.A9 (restartN n form).mtch.length τ.k9, .slice τ.A10 (restartN n form).forms.length τ.k10, .int .i64 (restartN n form).clock, .int .i64 (restartN n form).due]) ∧ NodeVs w' (fun k => w.heap.size ≤ k) (restartN n form) τ ∧ Below w.heap.size w w' := by
  have H := Lib.hid (h.mono (ok' := fun k => k < w.heap.size) (fun k _ hk => hk))
  clear h
  go_enter Try.func32, Try.ntmps32
  go_upto_region 1 with (fail)
  refine name_world (F := fun W => Hid (W.heap[w.heap.size]? = some (.cells #[.int .i64 n.id, .int .i64 n.term, .int .i64 n.vote, .slice σ.A3 n.log.length σ.k3, .int .i64 n.form, .int .i64 n.role, .int .i64 n.commit, .slice σ.A7 n.votes.length σ.k7, .slice σ.A8 n.nxt.length σ.k8, .slice σ.A9 n.mtch.length σ.k9, .slice σ.A10 n.forms.length σ.k10, .int .i64 n.clock, .int .i64 n.due] 28 (0, 0))) ∧ Hid (W.heap[w.heap.size + 1]? = some (.cells #[.int .i64 0, .int .i64 0, .int .i64 0, .slice none 0 0, .int .i64 0, .int .i64 0, .int .i64 0, .slice none 0 0, .slice none 0 0, .slice none 0 0, .slice none 0 0, .int .i64 0, .int .i64 0] 28 (0, 0))) ∧ Hid (NodeVs W (fun k => k < w.heap.size) n σ) ∧ Hid (Below w.heap.size w W) ∧ Hid (W.heap.size = w.heap.size + 2)) _ ⟨Lib.hid ((Below.heap_alloc _ _ _ (by simp)).trans (MM.alloc_new w _)), Lib.hid (MM.alloc_new1 w _ _), Lib.hid (H.out.step (fun k hk _ => (Below.heap_alloc _ _ k (by simp; omega)).trans (Below.heap_alloc w _ k hk))), Lib.hid (((Below.refl _ w).alloc (Nat.le_refl _) _).alloc (by simp) _), Lib.hid (by simp)⟩ ?_
  clear H
  intro w1 ⟨X, Y, V, HB, Z⟩
  have c0 : w1.cell? ⟨w.heap.size, 0, none⟩ = some (.int .i64 n.id) := MM.cell_blk X.out rfl
  have c1 : w1.cell? ⟨w.heap.size, 1, none⟩ = some (.int .i64 n.term) := MM.cell_blk X.out rfl
  have c2 : w1.cell? ⟨w.heap.size, 2, none⟩ = some (.int .i64 n.vote) := MM.cell_blk X.out rfl
  have c3 : w1.cell? ⟨w.heap.size, 3, none⟩ = some (.slice σ.A3 n.log.length σ.k3) := MM.cell_blk X.out rfl
  have c4 : w1.cell? ⟨w.heap.size, 4, none⟩ = some (.int .i64 n.form) := MM.cell_blk X.out rfl
  have c7 : w1.cell? ⟨w.heap.size, 7, none⟩ = some (.slice σ.A7 n.votes.length σ.k7) := MM.cell_blk X.out rfl
  go_wp2_with fail
  refine Go.RT.wp_region_tree [0, 1, 0, 4, 0, 16, 0, 64, 192, 0, 512, 0, 3584, 8191, 0, 16384, 49152, 131071, 262143] (.p 0 (.s 1 (.p 2 (.s 3 (.p 4 (.s 5 (.p 6 (.s 7 (.p 9 (.s 10 (.p 11 (.p 12 (.p 14 (.s 15 (.p 16 (.w 8 [1, 3, 5, 10, 15] (.p 13 (.w 17 [] (.w 18 [] .nil .stop) .stop)) .stop)))))))))))))))) (by kernel_rfl) (by kernel_rfl) ?_
  repeat (first | (refine Go.RT.step_p rfl (fun K hK => ?_); go_simp; refine hK _ ?_; clear hK K) | (refine Go.RT.step_s rfl (fun K hK => ?_); go_simp; refine hK _ ?_; clear hK K))
  (refine Go.RT.step_w rfl rfl (fun K hK => ?_) Go.RT.step_stop)
  go_wp2_with fail
  refine (clone_entry _ _ _ _ _ V.out.hl.drew (entsC_one _) (by omega)).mono ?_
  rintro e v ⟨vl, ob, rfl, hr4, hb4⟩
  obtain ⟨A', c', rfl, _, _⟩ := hr4.slice
  have X4 := Lib.hid ((hb4.block _ (MM.blk_lt X.out)).trans X.out)
  have Y4 := Lib.hid ((hb4.block _ (MM.blk_lt Y.out)).trans Y.out)
  have HB4 := Lib.hid (HB.out.drew.trans (hb4.mono HB.out.size))
  have HR4 := Lib.hid hr4
  have S4 := Lib.hid (show w1.heap.size ≤ v.heap.size from hb4.size)
  clear hr4 hb4
  have ca0 : v.cell? ⟨w.heap.size, 0, none⟩ = some (.int .i64 n.id) := MM.cell_blk X4.out rfl
  have ca1 : v.cell? ⟨w.heap.size, 1, none⟩ = some (.int .i64 n.term) := MM.cell_blk X4.out rfl
  have ca2 : v.cell? ⟨w.heap.size, 2, none⟩ = some (.int .i64 n.vote) := MM.cell_blk X4.out rfl
  have ca4 : v.cell? ⟨w.heap.size, 4, none⟩ = some (.int .i64 n.form) := MM.cell_blk X4.out rfl
  have ca7 : v.cell? ⟨w.heap.size, 7, none⟩ = some (.slice σ.A7 n.votes.length σ.k7) := MM.cell_blk X4.out rfl
  go_wp2_with fail
  refine Go.RT.QK_normal _ _ _ _ (hK _ _ ?_ ?_) <;> clear hK K
  · repeat (first | exact Go.RT.again_nil | (refine Go.RT.again_not rfl rfl ?_) | (refine Go.RT.again_one rfl (by go_simp <;> rfl) ?_))
  repeat (first | (refine Go.RT.step_p rfl (fun K hK => ?_); go_simp; refine hK _ ?_; clear hK K) | (refine Go.RT.step_s rfl (fun K hK => ?_); go_simp; refine hK _ ?_; clear hK K))
  (refine Go.RT.step_w rfl rfl (fun K hK => ?_) Go.RT.step_stop)
  go_wp2_with fail
  refine (show Calls Try.prog 58 #[.agg #[.int .i64 n.id, .int .i64 n.term, .int .i64 n.vote, .slice A' n.log.length c', .int .i64 (mx n.form form), .int .i64 0, .int .i64 0, .slice none 0 0, .slice none 0 0, .slice none 0 0, .slice none 0 0, .int .i64 0, .int .i64 0], .int .i64 n.votes.length] _ _ from fresh_any v (⟨n.id, n.term, n.vote, n.log, mx n.form form, 0, 0, [], [], [], [], 0, 0⟩ : Fed.Node) A' n.log.length c' (.slice none 0 0) (.slice none 0 0) (.slice none 0 0) (.slice none 0 0) n.votes.length l2 hi0 hi1).mono ?_
  rintro e w6 ⟨r7, r8, r9, r10, rfl, hb6, h7, h8, h9, h10⟩
  obtain ⟨A7, k7, rfl, _, _⟩ := h7.slice
  obtain ⟨A8, k8, rfl, _, _⟩ := h8.slice
  obtain ⟨A9, k9, rfl, _, _⟩ := h9.slice
  obtain ⟨A10, k10, rfl, _, _⟩ := h10.slice
  have Y6 := Lib.hid ((hb6.block _ (MM.blk_lt Y4.out)).trans Y4.out)
  have HB6 := Lib.hid (HB4.out.trans (hb6.mono HB4.out.size))
  have R3 := Lib.hid ((HR4.out.rd.mono (ok' := fun k => w1.heap.size ≤ k) (fun k hk _ => (HR4.out.lt k hk).1)).below hb6)
  have R7 := Lib.hid (h7.mono (ok' := fun k => w1.heap.size ≤ k) (fun k hk _ => by have h9 : v.heap.size ≤ k := hk; have h8 := S4.out; omega))
  have R8 := Lib.hid (h8.mono (ok' := fun k => w1.heap.size ≤ k) (fun k hk _ => by have h9 : v.heap.size ≤ k := hk; have h8 := S4.out; omega))
  have R9 := Lib.hid (h9.mono (ok' := fun k => w1.heap.size ≤ k) (fun k hk _ => by have h9 : v.heap.size ≤ k := hk; have h8 := S4.out; omega))
  have R10 := Lib.hid (h10.mono (ok' := fun k => w1.heap.size ≤ k) (fun k hk _ => by have h9 : v.heap.size ≤ k := hk; have h8 := S4.out; omega))
  have HF := Lib.hid (show freshN (⟨n.id, n.term, n.vote, n.log, mx n.form form, 0, 0, [], [], [], [], 0, 0⟩ : Fed.Node) n.votes.length = restartN n form from by unfold freshN restartN; rfl)
  clear hb6 h7 h8 h9 h10
  unfold nodeC
  obtain ⟨nf, hnf⟩ : ∃ x, x = freshN (⟨n.id, n.term, n.vote, n.log, mx n.form form, 0, 0, [], [], [], [], 0, 0⟩ : Fed.Node) n.votes.length := ⟨_, rfl⟩
  rw [← hnf] at HF ⊢
  clear hnf
  obtain ⟨y0, y1, y2, y3, y4, y5, y6, y7, y8, y9, y10, y11, y12⟩ := MM.cells13 Y6.out
  obtain ⟨z0, z1, z2, z3, z4, z5, z6, z7, z8, z9, z10, z11, z12⟩ := MM.frees13 Y6.out
  go_wp2_with fail
  refine Go.RT.QK_normal _ _ _ _ (hK _ _ ?_ ?_) <;> clear hK K
  · repeat (first | exact Go.RT.again_nil | (refine Go.RT.again_not rfl rfl ?_) | (refine Go.RT.again_one rfl (by go_simp <;> rfl) ?_))
  (refine Go.RT.step_w rfl rfl (fun K hK => ?_) Go.RT.step_stop)
  go_wp2
  refine Go.RT.QK_normal _ _ _ _ (hK _ _ ?_ ?_) <;> clear hK K
  · repeat (first | exact Go.RT.again_nil | (refine Go.RT.again_not rfl rfl ?_) | (refine Go.RT.again_one rfl (by go_simp <;> rfl) ?_))
  refine Go.RT.step_nil ?_
  go_wp2_with fail
  refine name_world (F := fun W => Hid (W.heap[w.heap.size + 1]? = some (.cells #[.int .i64 nf.id, .int .i64 nf.term, .int .i64 nf.vote, .slice A' n.log.length c', .int .i64 nf.form, .int .i64 nf.role, .int .i64 nf.commit, .slice A7 n.votes.length k7, .slice A8 n.votes.length k8, .slice A9 n.votes.length k9, .slice A10 n.votes.length k10, .int .i64 nf.clock, .int .i64 nf.due] 28 (0, 0))) ∧ Hid (MM.Rd W (fun k => w1.heap.size ≤ k) 2 (.slice A' n.log.length c') n.log.length (entsC n.log)) ∧ Hid (MM.Rd W (fun k => w1.heap.size ≤ k) 1 (.slice A7 n.votes.length k7) n.votes.length (boolsC (List.replicate n.votes.length false))) ∧ Hid (MM.Rd W (fun k => w1.heap.size ≤ k) 1 (.slice A8 n.votes.length k8) n.votes.length (intsC (List.replicate n.votes.length 1))) ∧ Hid (MM.Rd W (fun k => w1.heap.size ≤ k) 1 (.slice A9 n.votes.length k9) n.votes.length (intsC (List.replicate n.votes.length 0))) ∧ Hid (MM.Rd W (fun k => w1.heap.size ≤ k) 1 (.slice A10 n.votes.length k10) n.votes.length (intsC (List.replicate n.votes.length 1))) ∧ Hid (Below w.heap.size w W)) _ ⟨Lib.hid ((set13 Y6.out).trans rfl), Lib.hid (R3.out.step (fun k hk _ => far13 (by have h9 : w1.heap.size ≤ k := hk; have h8 := Z.out; show k ≠ w.heap.size + 1; omega))), Lib.hid (R7.out.step (fun k hk _ => far13 (by have h9 : w1.heap.size ≤ k := hk; have h8 := Z.out; show k ≠ w.heap.size + 1; omega))), Lib.hid (R8.out.step (fun k hk _ => far13 (by have h9 : w1.heap.size ≤ k := hk; have h8 := Z.out; show k ≠ w.heap.size + 1; omega))), Lib.hid (R9.out.step (fun k hk _ => far13 (by have h9 : w1.heap.size ≤ k := hk; have h8 := Z.out; show k ≠ w.heap.size + 1; omega))), Lib.hid (R10.out.step (fun k hk _ => far13 (by have h9 : w1.heap.size ≤ k := hk; have h8 := Z.out; show k ≠ w.heap.size + 1; omega))), Lib.hid (below13 HB6.out (by omega))⟩ ?_
  intro wf ⟨Y9, S3, S7, S8, S9, S10, B9⟩
  obtain ⟨u0, u1, u2, u3, u4, u5, u6, u7, u8, u9, u10, u11, u12⟩ := MM.cells13 Y9.out
  refine bodyPost_ret (v := .agg #[.int .i64 nf.id, .int .i64 nf.term, .int .i64 nf.vote, .slice A' n.log.length c', .int .i64 nf.form, .int .i64 nf.role, .int .i64 nf.commit, .slice A7 n.votes.length k7, .slice A8 n.votes.length k8, .slice A9 n.votes.length k9, .slice A10 n.votes.length k10, .int .i64 nf.clock, .int .i64 nf.due]) (by simp [results, Try.results32, go_sem, u0, u1, u2, u3, u4, u5, u6, u7, u8, u9, u10, u11, u12]) rfl ?_
  have hz := Z.out
  have hl : ∀ x, (List.replicate n.votes.length x : List Int).length = n.votes.length := fun x => by simp
  have hlb : (List.replicate n.votes.length false).length = n.votes.length := by simp
  refine ⟨⟨A', c', A7, k7, A8, k8, A9, k9, A10, k10⟩, ?_, ?_, B9.out⟩
  · rw [HF.out]
    unfold restartN
    simp only [List.length_replicate]
  · unfold restartN
    refine ⟨S3.out.mono (fun k hk _ => by have h9 : w1.heap.size ≤ k := hk; omega), ?_, ?_, ?_, ?_⟩
    · show MM.Rd _ _ 1 (.slice A7 (List.replicate n.votes.length false).length k7) (List.replicate n.votes.length false).length _
      rw [hlb]
      exact S7.out.mono (fun k hk _ => by have h9 : w1.heap.size ≤ k := hk; omega)
    · show MM.Rd _ _ 1 (.slice A8 (List.replicate n.votes.length (1 : Int)).length k8) (List.replicate n.votes.length (1 : Int)).length _
      rw [hl]
      exact S8.out.mono (fun k hk _ => by have h9 : w1.heap.size ≤ k := hk; omega)
    · show MM.Rd _ _ 1 (.slice A9 (List.replicate n.votes.length (0 : Int)).length k9) (List.replicate n.votes.length (0 : Int)).length _
      rw [hl]
      exact S9.out.mono (fun k hk _ => by have h9 : w1.heap.size ≤ k := hk; omega)
    · show MM.Rd _ _ 1 (.slice A10 (List.replicate n.votes.length (1 : Int)).length k10) (List.replicate n.votes.length (1 : Int)).length _
      rw [hl]
      exact S10.out.mono (fun k hk _ => by have h9 : w1.heap.size ≤ k := hk; omega)

end Go.Proofs.Ytnkmljdkokcdjaa
