/-
  The law GroupDown returns true, and writes nothing that was there, for any int and any string.
-/
import Derived.WalkKit
import Derived.KernelRfl
import Derived.WalkSpells
import Derived.Lib.Hide
import Derived.Outline
import Derived.Test.YtnkmljdkokcdjaaChecked
import Derived.Test.YtnkmljdkokcdjaaMn
import Derived.Test.YtnkmljdkokcdjaaMem
import Derived.Test.YtnkmljdkokcdjaaFed
import Derived.Test.YtnkmljdkokcdjaaGs
import Derived.Test.YtnkmljdkokcdjaaMj
import Derived.Deep.DeepCutAuto
import Derived.Deep.CutBlock
import Derived.Deep.OwnRows
import Derived.IntWalk
set_option linter.unusedVariables false
set_option linter.unusedSimpArgs false
namespace Go.Proofs.Ytnkmljdkokcdjaa
open Go.RowKit Fed
set_option linter.unusedVariables false
attribute [local go_sem high] Fed.max2_int Fed.min2_int

def dn (k : Nat) : GS := (GS.new 3).crash (k : Int)
theorem dn_facts (k : Nat) (hk : k < 3) : (dn k).isUp (k : Int) = false ∧ (dn k).f.length = 0 ∧ (dn k).leader = -1 := by
  have h : k = 0 ∨ k = 1 ∨ k = 2 := by omega
  rcases h with rfl | rfl | rfl <;> exact ⟨by kernel_rfl, by kernel_rfl, by kernel_rfl⟩
theorem grp_wider {w w1 w3 w4 : World} {g : Nat} {s : GS} {o : Obj} (h : GrpAt w w4 g s (fun x => x < w1.heap.size ∨ (w3.heap.size ≤ x ∧ x < w4.heap.size))) : GrpAt w (w4.alloc o) g s (fun x => x < w1.heap.size ∨ (w3.heap.size ≤ x ∧ x < (w4.alloc o).heap.size)) := by
  obtain ⟨μ, ok, h1, h2, h3⟩ := h
  refine ⟨μ, ok, h1.alloc o, h2.alloc h2.size o, fun x hx => ?_⟩
  have hsz : (w4.alloc o).heap.size = w4.heap.size + 1 := by simp
  by_cases hxe : x = w4.heap.size
  · exact ⟨by omega, fun q => by have := (h1.ownlt x q).2; omega⟩
  · have := h3 x (by rcases hx with hx | hx; exact .inl hx; exact .inr ⟨hx.1, by omega⟩)
    exact ⟨by omega, this.2⟩
theorem dn_tick (k : Nat) (hk : k < 3) : (dn k).tick (k : Int) = dn k := by unfold GS.tick; rw [(dn_facts k hk).1]; rfl
theorem dn_prop (k : Nat) (hk : k < 3) (d : ByteArray) : (dn k).prop (k : Int) d = dn k := by unfold GS.prop; rw [(dn_facts k hk).1]; rfl
theorem dn_propOk (k : Nat) (hk : k < 3) : (dn k).propOk (k : Int) = false := by unfold GS.propOk; rw [(dn_facts k hk).1]; rfl
theorem dn_applied (k : Nat) (hk : k < 3) : (dn k).applied (k : Int) = [] := by unfold GS.applied; rw [(dn_facts k hk).1]; rfl
set_option maxRecDepth 100000 in
set_option maxHeartbeats 40000000 in
theorem down_law (a0 : Int) (d : ByteArray) (x0 : (Lit.int .i64 a0).wf = true) (w : World) :
    Calls Try.prog 15 #[.int .i64 a0, .string d] w fun e w' => e = .returned (.bool true) ∧ Below w.heap.size w w' := by
  go_enter Try.func15, Try.ntmps15
  go_wp2_with fail
  refine (gknown_any _).mono ?_
  rintro e w1 ⟨rfl, hb1⟩
  have HB1 := Lib.hid hb1
  clear hb1
  go_upto_region 3 with (fail)
  by_cases hd : d.size ≤ 60
  rotate_left
  · have hdb : decide (60 < d.size) = true := decide_eq_true (by omega)
    go_wp2_with fail
    go_ret
    exact ⟨rfl, HB1.out⟩
  have hdb : decide (60 < d.size) = false := decide_eq_false (by omega)
  go_wp2_with fail
  refine (newG w w1 3 3 rfl (by omega) (by omega) HB1.out).mono ?_
  rintro e w2 ⟨g, rfl, h2⟩
  have H2 := Lib.hid h2
  have S2 := Lib.hid (GSys.new 3)
  clear h2
  go_wp2_with fail
  refine (within9_fn _ a0 3 x0 (by omega) (by omega)).mono ?_
  rintro e w' ⟨rfl, rfl⟩
  have hv := wi_range a0 3 (by omega)
  generalize wi a0 3 = kk at hv ⊢
  obtain ⟨k, rfl⟩ : ∃ k' : Nat, kk = k' := ⟨kk.toNat, by omega⟩
  have hk3 : k < 3 := by omega
  clear hv
  go_wp2_with fail
  refine (crashG w w2 g _ _ H2.out 3 (S2.out.good (by omega)) (by omega) (k : Int)).mono ?_
  rintro e w3 ⟨rfl, h3, _⟩
  have H3 := Lib.hid (show GrpAt w w3 g (dn k) (fun x => x < w1.heap.size) from h3)
  have S3 := Lib.hid (show GSys 3 1 (dn k) from S2.out.crash (k : Int))
  have GO := Lib.hid (S3.out.good (by omega))
  clear h3 H2
  generalize (GS.new 3).isUp (k : Int) = uu
  go_wp2_with fail
  refine (nodeG w w3 g _ _ H3.out 3 GO.out (by omega) (k : Int)).mono ?_
  rintro e w4 ⟨hns, h4, hb4⟩
  have H4 := Lib.hid (H3.out.newer hb4)
  have HB4 := Lib.hid hb4
  clear h4 hb4 H3
  rcases hns with ⟨i, hki, hil, σ, rfl, hn⟩ | ⟨hno, rfl⟩
  rotate_left
  · exact absurd ⟨by omega, by rw [GO.out.len]; omega⟩ hno
  clear hki hil
  have gx := GO.out.node (i := k) (by rw [GO.out.len]; exact hk3)
  have l1 : ((dn k).node (k : Int)).log.length ≤ 1000000 := by have := gx.l; omega
  have l2 : ((dn k).node (k : Int)).votes.length ≤ 1000 := by rw [gx.v]; omega
  have l3 : ((dn k).node (k : Int)).nxt.length = ((dn k).node (k : Int)).votes.length := by rw [gx.x, gx.v]
  have l4 : ((dn k).node (k : Int)).mtch.length = ((dn k).node (k : Int)).votes.length := by rw [gx.m, gx.v]
  have l5 : ((dn k).node (k : Int)).forms.length = ((dn k).node (k : Int)).votes.length := by rw [gx.f, gx.v]
  have LL := Lib.hid (And.intro l1 (And.intro l2 (And.intro l3 (And.intro l4 l5))))
  clear gx l1 l2 l3 l4 l5
  obtain ⟨n, hnn⟩ : ∃ n, n = (dn k).node (k : Int) := ⟨_, rfl⟩
  rw [← hnn] at hn LL ⊢
  have HNN := Lib.hid hnn
  clear hnn
  have N4 := Lib.hid hn
  clear hn
  go_upto_region 11 with (fail)
  refine name_world (F := fun W => Hid (W.heap[w4.heap.size]? = some (.cells #[.int .i64 n.id, .int .i64 n.term, .int .i64 n.vote, .slice σ.A3 n.log.length σ.k3, .int .i64 n.form, .int .i64 n.role, .int .i64 n.commit, .slice σ.A7 n.votes.length σ.k7, .slice σ.A8 n.nxt.length σ.k8, .slice σ.A9 n.mtch.length σ.k9, .slice σ.A10 n.forms.length σ.k10, .int .i64 n.clock, .int .i64 n.due] 28 (0, 0))) ∧ Hid (GrpAt w W g (dn k) (fun x => x < w1.heap.size ∨ (w3.heap.size ≤ x ∧ x < W.heap.size))) ∧ Hid (NodeVs W (fun x => w3.heap.size ≤ x ∧ x < W.heap.size) n σ)) _ (by exact ⟨Lib.hid (MM.alloc_new _ _), Lib.hid (grp_wider H4.out), Lib.hid ((N4.out.mono (ok' := fun x => w3.heap.size ≤ x ∧ x < w4.heap.size) (fun x hx hl => ⟨hx, hl⟩)).step (fun x _ hl => Below.heap_alloc _ _ x hl) |>.mono (fun x hx hl => ⟨hx.1, hl⟩))⟩) ?_
  intro w5 ⟨X5, H5, N5⟩
  have BLT := Lib.hid (MM.blk_lt X5.out)
  have H34 := Lib.hid (show w3.heap.size ≤ w4.heap.size from HB4.out.size)
  go_wp2_with fail
  go_loopw [9] (fun t9 wr => ∃ j : Nat, j ≤ 20 ∧ t9 = .int .i64 j ∧ Hid (GrpAt w wr g (dn k) (fun x => x < w1.heap.size ∨ (w3.heap.size ≤ x ∧ x < w5.heap.size))) ∧ Hid (wr.heap[w4.heap.size]? = some (.cells #[.int .i64 n.id, .int .i64 n.term, .int .i64 n.vote, .slice σ.A3 n.log.length σ.k3, .int .i64 n.form, .int .i64 n.role, .int .i64 n.commit, .slice σ.A7 n.votes.length σ.k7, .slice σ.A8 n.nxt.length σ.k8, .slice σ.A9 n.mtch.length σ.k9, .slice σ.A10 n.forms.length σ.k10, .int .i64 n.clock, .int .i64 n.due] 28 (0, 0))) ∧ Hid (NodeVs wr (fun x => w3.heap.size ≤ x ∧ x < w5.heap.size) n σ)) (fun t9 _ => 20 - (intOf t9).toNat)
  case atStart => exact ⟨0, by omega, rfl, H5, X5, N5⟩
  case round =>
    clear H5 X5 N5
    obtain ⟨j, hj, rfl, H, X, N⟩ := hrel
    by_cases hlt : j < 20
    · have hlb : decide ((j : Int) < 20) = true := decide_eq_true (by omega)
      go_wp2_with fail
      refine (tickG w wr g _ _ H.out 3 GO.out (by omega) (k : Int)).mono ?_
      rintro e w6 ⟨rfl, h6, hst⟩
      rw [dn_tick k hk3] at h6
      have H6 := Lib.hid h6
      have X6 := Lib.hid ((hst w4.heap.size (.inr ⟨H34.out, BLT.out⟩)).trans X.out)
      have N6 := Lib.hid (N.out.step (w1 := w6) (fun x hx _ => hst x (.inr hx)))
      clear h6 hst
      go_wp2_with fail
      go_roundw
      case rel => exact ⟨j + 1, by omega, by go_num, H6, X6, N6⟩
      case measure => simp [intOf]; omega
    · have hlb : decide ((j : Int) < 20) = false := decide_eq_false (by omega)
      go_wp2_with fail
      refine (nodeG w wr g _ _ H.out 3 GO.out (by omega) (k : Int)).mono ?_
      rintro e w7 ⟨hns, h7, hb7⟩
      have H7 := Lib.hid h7
      have X7 := Lib.hid ((hb7.block _ (MM.blk_lt X.out)).trans X.out)
      have N7 := Lib.hid (N.out.below hb7)
      have HB7 := Lib.hid hb7
      clear h7 hb7 H X N
      rcases hns with ⟨i, hki, hil, τ, rfl, hn⟩ | ⟨hno, rfl⟩
      rotate_left
      · exact absurd ⟨by omega, by rw [GO.out.len]; omega⟩ hno
      clear hki hil
      rw [← HNN.out] at hn ⊢
      have M7 := Lib.hid (hn.mono (ok' := fun x => x < w7.heap.size) (fun x _ hl => hl))
      clear hn
      go_upto_region 16 with (fail)
      refine name_world (F := fun W => Hid (W.heap[w4.heap.size]? = some (.cells #[.int .i64 n.id, .int .i64 n.term, .int .i64 n.vote, .slice σ.A3 n.log.length σ.k3, .int .i64 n.form, .int .i64 n.role, .int .i64 n.commit, .slice σ.A7 n.votes.length σ.k7, .slice σ.A8 n.nxt.length σ.k8, .slice σ.A9 n.mtch.length σ.k9, .slice σ.A10 n.forms.length σ.k10, .int .i64 n.clock, .int .i64 n.due] 28 (0, 0))) ∧ Hid (W.heap[w7.heap.size]? = some (.cells #[.int .i64 n.id, .int .i64 n.term, .int .i64 n.vote, .slice τ.A3 n.log.length τ.k3, .int .i64 n.form, .int .i64 n.role, .int .i64 n.commit, .slice τ.A7 n.votes.length τ.k7, .slice τ.A8 n.nxt.length τ.k8, .slice τ.A9 n.mtch.length τ.k9, .slice τ.A10 n.forms.length τ.k10, .int .i64 n.clock, .int .i64 n.due] 28 (0, 0))) ∧ Hid (GrpAt w W g (dn k) (fun x => x < w1.heap.size ∨ (w3.heap.size ≤ x ∧ x < w5.heap.size))) ∧ Hid (NodeVs W (fun x => w3.heap.size ≤ x ∧ x < w5.heap.size) n σ) ∧ Hid (NodeVs W (fun x => x < w7.heap.size) n τ)) _ (by exact ⟨Lib.hid ((Below.heap_alloc _ _ _ (MM.blk_lt X7.out)).trans X7.out), Lib.hid (MM.alloc_new _ _), Lib.hid (H7.out.alloc _), Lib.hid (N7.out.step (fun x _ hl => Below.heap_alloc _ _ x hl)), Lib.hid (M7.out.step (fun x _ hl => Below.heap_alloc _ _ x hl))⟩) ?_
      clear X7 H7 N7 M7
      intro w8 ⟨X8, Y8, H8, N8, M8⟩
      obtain ⟨c0, c1, c2, c3, c4, c5, c6, c7, c8, c9, c10, c11, c12⟩ := MM.cells13 X8.out
      obtain ⟨y0, y1, y2, y3, y4, y5, y6, y7, y8, y9, y10, y11, y12⟩ := MM.cells13 Y8.out
      go_wp2_with fail
      refine (rsame_any _ _ _ n σ τ N8.out M8.out LL.out.1 LL.out.2.1 LL.out.2.2.1 LL.out.2.2.2.1 LL.out.2.2.2.2).mono ?_
      rintro e w9 ⟨rfl, hb9⟩
      have H9 := Lib.hid (H8.out.below hb9)
      clear hb9 H8 c0 y0 c1 y1 c2 y2 c3 y3 c4 y4 c5 y5 c6 y6 c7 y7 c8 y8 c9 y9 c10 y10 c11 y11 c12 y12
      go_wp2_with fail
      refine (flightG w w9 g _ _ H9.out 3 GO.out (by omega)).mono ?_
      rintro e w' ⟨rfl, rfl⟩
      rw [(dn_facts k hk3).2.1]
      go_wp2_with fail
      refine (propG w w9 g _ _ H9.out 3 GO.out (by omega) (k : Int) d).mono ?_
      rintro e w10 ⟨rfl, h10, _⟩
      rw [dn_prop k hk3] at h10
      rw [dn_propOk k hk3]
      have H10 := Lib.hid h10
      clear h10
      go_wp2_with fail
      refine (appliedG w w10 g _ _ H10.out 3 GO.out (by omega) (k : Int)).mono ?_
      rintro e w11 ⟨⟨A, c, rfl, hr⟩, h11, _⟩
      have H11 := Lib.hid h11
      rw [dn_applied k hk3]
      clear hr h11
      go_wp2_with fail
      refine (upG w w11 g _ _ H11.out 3 GO.out (by omega) (k : Int)).mono ?_
      rintro e w' ⟨rfl, rfl⟩
      rw [(dn_facts k hk3).1]
      go_wp2_with fail
      refine (leaderG w w11 g _ _ H11.out 3 GO.out (by omega) (by omega)).mono ?_
      rintro e w12 ⟨rfl, h12, _⟩
      rw [(dn_facts k hk3).2.2]
      have H12 := Lib.hid h12
      clear h12
      go_wp2_with fail
      go_ret
      exact ⟨rfl, H12.out.bel⟩

end Go.Proofs.Ytnkmljdkokcdjaa
