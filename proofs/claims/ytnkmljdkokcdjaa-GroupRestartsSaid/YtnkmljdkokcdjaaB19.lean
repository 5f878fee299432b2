/-
The document's Tick and Propose answer as the plain functions. Condition: the group may be walked.
The document's take answers as the plain function. Condition: the document's group lies there.
The document's Drop and Twice answer as the plain functions. Condition: the document's group lies there.
-/
import Derived.WalkKit
import Derived.WalkSpells
import Derived.Lib.Hide
import Derived.Outline
import Derived.Test.YtnkmljdkokcdjaaChecked
import Derived.Test.YtnkmljdkokcdjaaB0
import Derived.Test.YtnkmljdkokcdjaaB1
import Derived.Test.YtnkmljdkokcdjaaB15
import Derived.Test.YtnkmljdkokcdjaaB14
import Derived.Test.YtnkmljdkokcdjaaB18
import Derived.Deep.DeepCutAuto
import Derived.Deep.CutBlock
import Derived.Deep.OwnRows
import Derived.IntWalk
import Derived.Test.YtnkmljdkokcdjaaB11
set_option maxRecDepth 100000
set_option maxHeartbeats 40000000
set_option linter.unusedVariables false
set_option linter.unusedSimpArgs false
namespace Go.Proofs.Ytnkmljdkokcdjaa
open Go.RowKit Fed
attribute [local go_sem high] Fed.max2_int Fed.min2_int Fed.MA Fed.ZN Fed.ZM Fed.NA
theorem rTick_any (w : World) (B x : Nat) (s : GS) (ρ : RM) (ok : Nat → Prop) (h : RefAt w B x s ρ ok) (K : Nat) (G : GoodG K s) (hK : K ≤ 1000) (id : Int) :
  Calls Try.prog 86 #[.pointer (some ⟨x, 0, none⟩), .int .i64 id] w fun e w' => ∃ ρ' ok', e = .returned (.tuple #[]) ∧ RefAt w' B x (s.tick id) ρ' ok' ∧ OStep w w' B (ρ.owns x) (ρ'.owns x) ok ok' := by
 have HU := Hd (rUp_any w B x s ρ ok h id (by rw [G.len]; omega))
 have H := Hd h
 have HG := Hd G
 clear h G
 cases hu : s.isUp id
 ·have OPE := Hd (show s.tick id = s from by unfold GS.tick; rw [hu]; rfl)
  have HS := Hd hu
  clear hu
  go_enter Try.func86, Try.ntmps86
  go_wp2_with fail
  refine HU.out.mono ?_
  rintro e w' ⟨rfl, rfl⟩
  rw [HS.out]
  go_wp2_with fail
  go_end0
  rw [OPE.out]
  exact ⟨ρ, ok, rfl, H.out, OStep.refl _ _ _ _⟩
 ·obtain ⟨i, rfl, hi, _⟩ := isUp_some hu
  obtain ⟨pb, hp, ea, _, _, _, σ, hv, hc⟩ := H.out.place hi
  have c0 := H.out.c0
  rw [ea] at c0
  have x0 : w.cell? ⟨pb, i * 13, none⟩ = some (.int .i64 (s.node i).id) := hc 0 _ rfl
  have x1 : w.cell? ⟨pb, i * 13 + 1, none⟩ = some (.int .i64 (s.node i).term) := hc 1 _ rfl
  have x2 : w.cell? ⟨pb, i * 13 + 2, none⟩ = some (.int .i64 (s.node i).vote) := hc 2 _ rfl
  have x3 : w.cell? ⟨pb, i * 13 + 3, none⟩ = some (.slice σ.A3 (s.node i).log.length σ.k3) := hc 3 _ rfl
  have x4 : w.cell? ⟨pb, i * 13 + 4, none⟩ = some (.int .i64 (s.node i).form) := hc 4 _ rfl
  have x5 : w.cell? ⟨pb, i * 13 + 5, none⟩ = some (.int .i64 (s.node i).role) := hc 5 _ rfl
  have x6 : w.cell? ⟨pb, i * 13 + 6, none⟩ = some (.int .i64 (s.node i).commit) := hc 6 _ rfl
  have x7 : w.cell? ⟨pb, i * 13 + 7, none⟩ = some (.slice σ.A7 (s.node i).votes.length σ.k7) := hc 7 _ rfl
  have x8 : w.cell? ⟨pb, i * 13 + 8, none⟩ = some (.slice σ.A8 (s.node i).nxt.length σ.k8) := hc 8 _ rfl
  have x9 : w.cell? ⟨pb, i * 13 + 9, none⟩ = some (.slice σ.A9 (s.node i).mtch.length σ.k9) := hc 9 _ rfl
  have x10 : w.cell? ⟨pb, i * 13 + 10, none⟩ = some (.slice σ.A10 (s.node i).forms.length σ.k10) := hc 10 _ rfl
  have x11 : w.cell? ⟨pb, i * 13 + 11, none⟩ = some (.int .i64 (s.node i).clock) := hc 11 _ rfl
  have x12 : w.cell? ⟨pb, i * 13 + 12, none⟩ = some (.int .i64 (s.node i).due) := hc 12 _ rfl
  have gx := HG.out.node hi
  have V := Hd hv
  have H1 := Hd hu
  have OPE := Hd (show s.tick (i : Int) = ⟨s.ns.set i ((tickS (s.node i))).n, s.us, s.f ++ ((tickS (s.node i))).out⟩ from by unfold GS.tick GS.put; rw [if_pos hu, Int.toNat_natCast])
  have HOL := Hd (tickS_out (s.node i) (by rw [gx.v]; omega))
  clear hu hp hv hc ea
  go_enter Try.func86, Try.ntmps86
  go_wp2_with fail
  refine HU.out.mono ?_
  rintro e w' ⟨rfl, rfl⟩
  rw [H1.out]
  go_wp2_with fail
  refine (rtick_any _ _ (s.node i) σ V.out (by have := gx.l; omega) (by rw [gx.v]; omega) (by rw [gx.x, gx.v]) (by rw [gx.m, gx.v]) (by rw [gx.f]; omega) gx.i0 (by rw [gx.v]; exact gx.i1) (by have := gx.t0; omega) (by have := gx.t1; omega) (by have := gx.c0; omega) (by have := gx.c1; omega) (fun hr j hj _ => gx.ld hr j (by rw [← gx.v]; exact hj))).mono ?_
  rintro e w1 ⟨τ, Ao, ko, rfl, hn, hm, hb⟩
  clear gx
  have G1 := Hd (H.out.newer hb)
  have N1 := Hd (hn.mono (ok' := (fun k => ok k ∨ (w.heap.size ≤ k ∧ k < w1.heap.size))) (fun k hk hl => .inr ⟨hk, hl⟩))
  have M1 := Hd (hm.mono (ok' := (fun k => ok k ∨ (w.heap.size ≤ k ∧ k < w1.heap.size))) (fun k hk hl => .inr ⟨hk, hl⟩))
  have HB1 := Hd hb
  clear hn hm hb
  obtain ⟨r, hr⟩ : ∃ r, r = (tickS (s.node i)) := ⟨_, rfl⟩
  rw [← hr] at OPE N1 M1 HOL ⊢
  clear hr x0 x1 x2 x3 x4 x5 x6 x7 x8 x9 x10 x11 x12
  go_upto_region 2 with (fail)
  refine name_world (F := fun W => Hid (W.heap[w1.heap.size]? = some (.cells (NA r.n τ) 28 (0, 0))) ∧ Hid (RefAt W B x s ρ (fun k => ok k ∨ (w.heap.size ≤ k ∧ k < w1.heap.size))) ∧ Hid (NodeVs W (fun k => ok k ∨ (w.heap.size ≤ k ∧ k < w1.heap.size)) r.n τ) ∧ Hid (MsgsV W (fun k => ok k ∨ (w.heap.size ≤ k ∧ k < w1.heap.size)) (.slice Ao r.out.length ko) r.out) ∧ Hid (Below w1.heap.size w1 W)) _ (by exact ⟨Hd (MM.alloc_new _ _), Hd (G1.out.alloc _), Hd (N1.out.step (fun k _ hl => Below.heap_alloc _ _ k hl)), Hd (M1.out.step (fun k _ hl => Below.heap_alloc _ _ k hl)), Hd ((Below.refl _ _).alloc (Nat.le_refl _) _)⟩) ?_
  clear G1 N1 M1
  intro w2 ⟨R2, G2, N2, M2, S2⟩
  obtain ⟨u0, u1, u2, u3, u4, u5, u6, u7, u8, u9, u10, u11, u12⟩ := MM.cells13 R2.out
  go_wp2_with fail
  refine (rSent_any w2 B x s ρ (fun k => ok k ∨ (w.heap.size ≤ k ∧ k < w1.heap.size)) G2.out i hi r.n τ N2.out Ao ko r.out M2.out (by have := HG.out.fl; have := HOL.out; omega) (by rw [HG.out.len]; omega)).mono ?_
  rintro e w3 ⟨ρ', rfl, hG, hS⟩
  rw [← OPE.out] at hG
  have G3 := Hd hG
  have S3 := Hd hS
  clear hG hS u0 u1 u2 u3 u4 u5 u6 u7 u8 u9 u10 u11 u12
  go_wp2_with fail
  go_end0
  exact ⟨ρ', (fun k => ok k ∨ (w.heap.size ≤ k ∧ k < w1.heap.size)), rfl, G3.out, S3.out.since (HB1.out.trans (S2.out.mono HB1.out.size)) H.out.Bsize (fun k hk => by
   rcases hk with hk | hk
   ·exact .inl hk
   ·exact .inr hk.1)⟩
theorem set_node {s : GS} {i : Nat} (hi : i < s.ns.length) : s.ns.set i (s.node (i : Int)) = s.ns := by
 unfold GS.node
 rw [Int.toNat_natCast, List.getD_eq_getElem?_getD, List.getElem?_eq_getElem hi]
 exact List.set_getElem_self hi
theorem prop_not {s : GS} {i : Nat} (hi : i < s.ns.length) (d : ByteArray) (q : ¬ (s.node (i : Int)).role = 2) : s.prop (i : Int) d = s := by
 unfold GS.prop
 split
 ·unfold GS.put proposeS
  rw [if_neg (fun h => q h.1), Int.toNat_natCast]
  show (GS.mk (s.ns.set i (s.node (i : Int))) s.us (s.f ++ [])) = s
  rw [List.append_nil, set_node hi]
 ·rfl
theorem rPropose_any (w : World) (B x : Nat) (s : GS) (ρ : RM) (ok : Nat → Prop) (h : RefAt w B x s ρ ok) (K : Nat) (G : GoodG K s) (hK : K ≤ 1000) (id : Int) (d : ByteArray) :
  Calls Try.prog 90 #[.pointer (some ⟨x, 0, none⟩), .int .i64 id, .string d] w fun e w' => ∃ ρ' ok', e = .returned (.bool (s.propOk id)) ∧ RefAt w' B x (s.prop id d) ρ' ok' ∧ OStep w w' B (ρ.owns x) (ρ'.owns x) ok ok' := by
 have HU := Hd (rUp_any w B x s ρ ok h id (by rw [G.len]; omega))
 have H := Hd h
 have HG := Hd G
 clear h G
 cases hu : s.isUp id
 ·have OPE := Hd (show s.prop id d = s from by unfold GS.prop; rw [hu]; rfl)
  have RB := Hd (show s.propOk id = false from by unfold GS.propOk; rw [hu]; rfl)
  have HS := Hd hu
  clear hu
  go_enter Try.func90, Try.ntmps90
  go_wp2_with fail
  refine HU.out.mono ?_
  rintro e w' ⟨rfl, rfl⟩
  rw [HS.out]
  go_wp2_with fail
  go_ret
  rw [OPE.out]
  exact ⟨ρ, ok, MM.ret_bool RB.out.symm, H.out, OStep.refl _ _ _ _⟩
 ·obtain ⟨i, rfl, hi, _⟩ := isUp_some hu
  obtain ⟨pb, hp, ea, _, _, _, σ, hv, hc⟩ := H.out.place hi
  have c0 := H.out.c0
  rw [ea] at c0
  have x0 : w.cell? ⟨pb, i * 13, none⟩ = some (.int .i64 (s.node i).id) := hc 0 _ rfl
  have x1 : w.cell? ⟨pb, i * 13 + 1, none⟩ = some (.int .i64 (s.node i).term) := hc 1 _ rfl
  have x2 : w.cell? ⟨pb, i * 13 + 2, none⟩ = some (.int .i64 (s.node i).vote) := hc 2 _ rfl
  have x3 : w.cell? ⟨pb, i * 13 + 3, none⟩ = some (.slice σ.A3 (s.node i).log.length σ.k3) := hc 3 _ rfl
  have x4 : w.cell? ⟨pb, i * 13 + 4, none⟩ = some (.int .i64 (s.node i).form) := hc 4 _ rfl
  have x5 : w.cell? ⟨pb, i * 13 + 5, none⟩ = some (.int .i64 (s.node i).role) := hc 5 _ rfl
  have x6 : w.cell? ⟨pb, i * 13 + 6, none⟩ = some (.int .i64 (s.node i).commit) := hc 6 _ rfl
  have x7 : w.cell? ⟨pb, i * 13 + 7, none⟩ = some (.slice σ.A7 (s.node i).votes.length σ.k7) := hc 7 _ rfl
  have x8 : w.cell? ⟨pb, i * 13 + 8, none⟩ = some (.slice σ.A8 (s.node i).nxt.length σ.k8) := hc 8 _ rfl
  have x9 : w.cell? ⟨pb, i * 13 + 9, none⟩ = some (.slice σ.A9 (s.node i).mtch.length σ.k9) := hc 9 _ rfl
  have x10 : w.cell? ⟨pb, i * 13 + 10, none⟩ = some (.slice σ.A10 (s.node i).forms.length σ.k10) := hc 10 _ rfl
  have x11 : w.cell? ⟨pb, i * 13 + 11, none⟩ = some (.int .i64 (s.node i).clock) := hc 11 _ rfl
  have x12 : w.cell? ⟨pb, i * 13 + 12, none⟩ = some (.int .i64 (s.node i).due) := hc 12 _ rfl
  have gx := HG.out.node hi
  have V := Hd hv
  have H1 := Hd hu
  have OPE := Hd (show s.prop (i : Int) d = ⟨s.ns.set i ((proposeS (s.node i) d)).n, s.us, s.f ++ ((proposeS (s.node i) d)).out⟩ from by unfold GS.prop GS.put; rw [if_pos hu, Int.toNat_natCast])
  have HOL := Hd (proposeS_out (s.node i) d (by rw [gx.v]; omega))
  have RB := Hd (show s.propOk (i : Int) = decide ((s.node (i : Int)).role = 2) from by unfold GS.propOk; rw [hu]; rfl)
  clear hu hp hv hc ea
  go_enter Try.func90, Try.ntmps90
  go_wp2_with fail
  refine HU.out.mono ?_
  rintro e w' ⟨rfl, rfl⟩
  rw [H1.out]
  go_wp2_with fail
  refine (rpropose_any _ _ (s.node i) σ d V.out (by have := gx.l; omega) (by rw [gx.v]; omega) (by rw [gx.x, gx.v]) (by rw [gx.m, gx.v]) (by rw [gx.f]; omega) gx.i0 (by rw [gx.v]; exact gx.i1) (fun hr j hj _ => gx.ld hr j (by rw [← gx.v]; exact hj))).mono ?_
  rintro e w1 ⟨τ, Ao, ko, rfl, hn, hm, hb⟩
  clear gx
  obtain ⟨bb, hbb⟩ : ∃ bb, bb = decide ((s.node (i : Int)).role = 2) := ⟨_, rfl⟩
  rw [← hbb] at RB ⊢
  have HBB := Hd hbb
  clear hbb
  have G1 := Hd (H.out.newer hb)
  have N1 := Hd (hn.mono (ok' := (fun k => ok k ∨ (w.heap.size ≤ k ∧ k < w1.heap.size))) (fun k hk hl => .inr ⟨hk, hl⟩))
  have M1 := Hd (hm.mono (ok' := (fun k => ok k ∨ (w.heap.size ≤ k ∧ k < w1.heap.size))) (fun k hk hl => .inr ⟨hk, hl⟩))
  have HB1 := Hd hb
  clear hn hm hb
  obtain ⟨r, hr⟩ : ∃ r, r = (proposeS (s.node i) d) := ⟨_, rfl⟩
  rw [← hr] at OPE N1 M1 HOL ⊢
  clear hr x0 x1 x2 x3 x4 x5 x6 x7 x8 x9 x10 x11 x12
  go_upto_region 4 with (fail)
  refine name_world (F := fun W => Hid (W.heap[w1.heap.size]? = some (.cells (NA r.n τ) 28 (0, 0))) ∧ Hid (RefAt W B x s ρ (fun k => ok k ∨ (w.heap.size ≤ k ∧ k < w1.heap.size))) ∧ Hid (NodeVs W (fun k => ok k ∨ (w.heap.size ≤ k ∧ k < w1.heap.size)) r.n τ) ∧ Hid (MsgsV W (fun k => ok k ∨ (w.heap.size ≤ k ∧ k < w1.heap.size)) (.slice Ao r.out.length ko) r.out) ∧ Hid (Below w1.heap.size w1 W)) _ (by exact ⟨Hd (MM.alloc_new _ _), Hd (G1.out.alloc _), Hd (N1.out.step (fun k _ hl => Below.heap_alloc _ _ k hl)), Hd (M1.out.step (fun k _ hl => Below.heap_alloc _ _ k hl)), Hd ((Below.refl _ _).alloc (Nat.le_refl _) _)⟩) ?_
  clear G1 N1 M1
  intro w2 ⟨R2, G2, N2, M2, S2⟩
  obtain ⟨u0, u1, u2, u3, u4, u5, u6, u7, u8, u9, u10, u11, u12⟩ := MM.cells13 R2.out
  cases bb
  ·have PE := Hd (prop_not hi d (of_decide_eq_false HBB.out.symm))
   go_wp2_with fail
   go_ret
   refine ⟨ρ, (fun k => ok k ∨ (w.heap.size ≤ k ∧ k < w1.heap.size)), MM.ret_bool RB.out.symm, ?_, OStep.ofBelow (HB1.out.trans (S2.out.mono HB1.out.size)) H.out.Bsize (fun k hk => by
    rcases hk with hk | hk
    ·exact .inl hk
    ·exact .inr hk.1)⟩
   rw [PE.out]
   exact G2.out
  go_wp2_with fail
  refine (rSent_any w2 B x s ρ (fun k => ok k ∨ (w.heap.size ≤ k ∧ k < w1.heap.size)) G2.out i hi r.n τ N2.out Ao ko r.out M2.out (by have := HG.out.fl; have := HOL.out; omega) (by rw [HG.out.len]; omega)).mono ?_
  rintro e w3 ⟨ρ', rfl, hG, hS⟩
  rw [← OPE.out] at hG
  have G3 := Hd hG
  have S3 := Hd hS
  clear hG hS u0 u1 u2 u3 u4 u5 u6 u7 u8 u9 u10 u11 u12
  go_wp2_with fail
  go_ret
  exact ⟨ρ', (fun k => ok k ∨ (w.heap.size ≤ k ∧ k < w1.heap.size)), MM.ret_bool RB.out.symm, G3.out, S3.out.since (HB1.out.trans (S2.out.mono HB1.out.size)) H.out.Bsize (fun k hk => by
   rcases hk with hk | hk
   ·exact .inl hk
   ·exact .inr hk.1)⟩
end Go.Proofs.Ytnkmljdkokcdjaa
namespace Go.Proofs.Ytnkmljdkokcdjaa
open Go.RowKit Fed Go.RT
attribute [local go_sem high] Fed.max2_int Fed.min2_int Fed.MA Fed.ZN Fed.ZM Fed.NA
theorem src_front {w : World} {okr ok : Nat → Prop} {ms : List Fed.Msg} {A : Option Addr} {c hi m : Nat} (h : Src w okr ok (.slice A ms.length c) ms) (h1 : hi ≤ ms.length) (h2 : hi ≤ m) (h3 : m ≤ c) : Src w okr ok (.slice A hi m) (ms.take hi) := by
 obtain ⟨cs, k1, k2⟩ := h
 refine ⟨_, ?_, k2.take' hi⟩
 rw [show (ms.take hi).length = hi from by rw [List.length_take]; omega]
 exact rd_front k1 h1 h2 h3
theorem src_back {w : World} {okr ok : Nat → Prop} {ms : List Fed.Msg} {A : Option Addr} {c lo : Nat} (h : Src w okr ok (.slice A ms.length c) ms) (h1 : lo ≤ ms.length) (h3 : ms.length ≤ c) :
  Src w okr ok (.slice (if c = lo then A else A.map (·.add (lo * 10))) (ms.length - lo) (c - lo)) (ms.drop lo) := by
 obtain ⟨cs, k1, k2⟩ := h
 have h9 := k1.cut h1 (Nat.le_refl _) h3 (Nat.le_refl _)
 have h8 := (k2.drop' lo).take' (ms.length - lo)
 rw [List.take_of_length_le (by rw [List.length_drop]; exact Nat.le_refl _)] at h8
 refine ⟨_, ?_, h8⟩
 rw [show (ms.drop lo).length = ms.length - lo from by rw [List.length_drop]]
 exact h9
theorem Src.step3 {w w1 : World} {okr ok : Nat → Prop} {v : Value} {ms : List Fed.Msg} (h : Src w okr ok v ms) (hm : ∀ k, k < w.heap.size → w1.heap[k]? = w.heap[k]?) : Src w1 okr ok v ms := by
 obtain ⟨ds, h1, h2⟩ := h
 exact ⟨ds, h1.step fun k _ hk => hm k hk, h2.step fun k _ hk => hm k hk⟩
theorem OStep.fresh {w w1 w2 : World} {B : Nat} {o o1 ok ok1 : Nat → Prop} (h : OStep w w1 B o o1 ok ok1) (hb : Below w.heap.size w1 w2) (hB : B ≤ w.heap.size) : OStep w w2 B o o1 ok ok1 :=
 ⟨h.below.trans (hb.mono hB), fun k hk hn => (hb.block k hk).trans (h.keep k hk hn), h.own, h.oks⟩
theorem rtake_any (w : World) (B x : Nat) (s : GS) (ρ : RM) (ok : Nat → Prop) (h : RefAt w B x s ρ ok) (a : Int) (hl : s.f.length ≤ 1000000) :
  Calls Try.prog 94 #[.pointer (some ⟨x, 0, none⟩), .int .i64 a] w fun e w' => ∃ ρ', AtSays w' ok s a e ∧ RefAt w' B x (s.cut a) ρ' ok ∧ OStep w w' B (ρ.owns x) (ρ'.owns x) ok ok := by
 have HLT := Hd (show ∀ k, ρ.owns x k ∨ ok k → k < w.heap.size from fun k hk => by rcases hk with hk | hk; exact (h.ownlt k hk).2; exact h.okl k hk)
 have HBS := Hd h.Bsize
 have H := Hd h
 have hx0 := h.lt
 clear h
 go_enter Try.func94, Try.ntmps94
 go_upto_region 1 with (fail)
 refine name_world (F := fun W => Hid (W.heap[w.heap.size]? = some (.cells ZM 34 (0, 0))) ∧ Hid (RefAt W B x s ρ ok) ∧ Hid (Below w.heap.size w W)) _ (by exact ⟨Hd (MM.alloc_new _ _), Hd (H.out.alloc _), Hd ((Below.refl _ _).alloc (Nat.le_refl _) _)⟩) ?_
 intro w1 ⟨R1, H1, S1⟩
 have c2 := H1.out.c2
 cases hs : s.has a
 ·have HS := Hd hs
  have hn : ¬ (0 ≤ a ∧ a < (s.f.length : Int)) := fun q => by unfold GS.has at hs; rw [decide_eq_true q.1, decide_eq_true q.2] at hs; cases hs
  have HC := Hd (show s.cut a = s from by unfold GS.cut; rw [hs]; rfl)
  clear hs
  by_cases h0 : a < 0
  ·have h0b : decide (a < 0) = true := decide_eq_true h0
   clear h0 hn
   go_upto_region 2 with (fail)
   obtain ⟨y0, y1, y2, y3, y4, y5, y6, y7, y8, y9⟩ := MM.cells10 R1.out
   have z0 : w1.frozen? ⟨w.heap.size, 0, none⟩ = false := MM.free_blk R1.out
   have z1 : w1.frozen? ⟨w.heap.size, 1, none⟩ = false := MM.free_blk R1.out
   have z2 : w1.frozen? ⟨w.heap.size, 2, none⟩ = false := MM.free_blk R1.out
   have z3 : w1.frozen? ⟨w.heap.size, 3, none⟩ = false := MM.free_blk R1.out
   have z4 : w1.frozen? ⟨w.heap.size, 4, none⟩ = false := MM.free_blk R1.out
   have z5 : w1.frozen? ⟨w.heap.size, 5, none⟩ = false := MM.free_blk R1.out
   have z6 : w1.frozen? ⟨w.heap.size, 6, none⟩ = false := MM.free_blk R1.out
   have z7 : w1.frozen? ⟨w.heap.size, 7, none⟩ = false := MM.free_blk R1.out
   have z8 : w1.frozen? ⟨w.heap.size, 8, none⟩ = false := MM.free_blk R1.out
   have z9 : w1.frozen? ⟨w.heap.size, 9, none⟩ = false := MM.free_blk R1.out
   go_wp2_with fail
   clear y0 z0 y1 z1 y2 z2 y3 z3 y4 z4 y5 z5 y6 z6 y7 z7 y8 z8 y9 z9 c2
   refine name_world (F := fun W => Hid (W.heap[w.heap.size]? = some (.cells ZM 34 (0, 0))) ∧ Hid (RefAt W B x s ρ ok) ∧ Hid (Below w.heap.size w1 W)) _ (by exact ⟨Hd ((set10 R1.out).trans rfl), Hd (H1.out.step (fun k hk => far10 (Nat.ne_of_lt (HLT.out k hk))) (by simp [World.setCell])), Hd (below10 (Below.refl _ _) (Nat.le_refl _))⟩) ?_
   intro w6 ⟨R6, H6, B6⟩
   obtain ⟨u0, u1, u2, u3, u4, u5, u6, u7, u8, u9⟩ := MM.cells10 R6.out
   refine bodyPost_ret (v := .tuple #[.agg ZM, .bool false]) (by simp [results, Try.results94, go_sem, u0, u1, u2, u3, u4, u5, u6, u7, u8, u9]) rfl ?_
   exact ⟨ρ, .inr ⟨HS.out, rfl⟩, by rw [HC.out]; exact H6.out, (OStep.ofBelow S1.out HBS.out (fun k hk => .inl hk)).fresh B6.out HBS.out⟩
  ·have h0b : decide (a < 0) = false := decide_eq_false h0
   have h1b : decide ((s.f.length : Int) ≤ a) = true := decide_eq_true (by omega)
   clear h0 hn
   go_upto_region 2 with (fail)
   obtain ⟨y0, y1, y2, y3, y4, y5, y6, y7, y8, y9⟩ := MM.cells10 R1.out
   have z0 : w1.frozen? ⟨w.heap.size, 0, none⟩ = false := MM.free_blk R1.out
   have z1 : w1.frozen? ⟨w.heap.size, 1, none⟩ = false := MM.free_blk R1.out
   have z2 : w1.frozen? ⟨w.heap.size, 2, none⟩ = false := MM.free_blk R1.out
   have z3 : w1.frozen? ⟨w.heap.size, 3, none⟩ = false := MM.free_blk R1.out
   have z4 : w1.frozen? ⟨w.heap.size, 4, none⟩ = false := MM.free_blk R1.out
   have z5 : w1.frozen? ⟨w.heap.size, 5, none⟩ = false := MM.free_blk R1.out
   have z6 : w1.frozen? ⟨w.heap.size, 6, none⟩ = false := MM.free_blk R1.out
   have z7 : w1.frozen? ⟨w.heap.size, 7, none⟩ = false := MM.free_blk R1.out
   have z8 : w1.frozen? ⟨w.heap.size, 8, none⟩ = false := MM.free_blk R1.out
   have z9 : w1.frozen? ⟨w.heap.size, 9, none⟩ = false := MM.free_blk R1.out
   go_wp2_with fail
   clear y0 z0 y1 z1 y2 z2 y3 z3 y4 z4 y5 z5 y6 z6 y7 z7 y8 z8 y9 z9 c2
   refine name_world (F := fun W => Hid (W.heap[w.heap.size]? = some (.cells ZM 34 (0, 0))) ∧ Hid (RefAt W B x s ρ ok) ∧ Hid (Below w.heap.size w1 W)) _ (by exact ⟨Hd ((set10 R1.out).trans rfl), Hd (H1.out.step (fun k hk => far10 (Nat.ne_of_lt (HLT.out k hk))) (by simp [World.setCell])), Hd (below10 (Below.refl _ _) (Nat.le_refl _))⟩) ?_
   intro w6 ⟨R6, H6, B6⟩
   obtain ⟨u0, u1, u2, u3, u4, u5, u6, u7, u8, u9⟩ := MM.cells10 R6.out
   refine bodyPost_ret (v := .tuple #[.agg ZM, .bool false]) (by simp [results, Try.results94, go_sem, u0, u1, u2, u3, u4, u5, u6, u7, u8, u9]) rfl ?_
   exact ⟨ρ, .inr ⟨HS.out, rfl⟩, by rw [HC.out]; exact H6.out, (OStep.ofBelow S1.out HBS.out (fun k hk => .inl hk)).fresh B6.out HBS.out⟩
 ·obtain ⟨i, rfl, hi⟩ := has_some hs
  have HS := Hd hs
  have h0b : decide ((i : Int) < 0) = false := decide_eq_false (by omega)
  have h1b : decide ((s.f.length : Int) ≤ (i : Int)) = false := decide_eq_false (by omega)
  obtain ⟨fb, hfb, hF, hd1, hd2, _, A, c, hrd, hc⟩ := H1.out.fly hi
  rw [hF] at c2
  have x0 : w1.cell? ⟨fb, i * 10, none⟩ = some (.int .i64 (s.msg (i : Int)).kind) := hc 0 _ rfl
  have x1 : w1.cell? ⟨fb, i * 10 + 1, none⟩ = some (.int .i64 (s.msg (i : Int)).frm) := hc 1 _ rfl
  have x2 : w1.cell? ⟨fb, i * 10 + 2, none⟩ = some (.int .i64 (s.msg (i : Int)).to) := hc 2 _ rfl
  have x3 : w1.cell? ⟨fb, i * 10 + 3, none⟩ = some (.int .i64 (s.msg (i : Int)).term) := hc 3 _ rfl
  have x4 : w1.cell? ⟨fb, i * 10 + 4, none⟩ = some (.int .i64 (s.msg (i : Int)).index) := hc 4 _ rfl
  have x5 : w1.cell? ⟨fb, i * 10 + 5, none⟩ = some (.int .i64 (s.msg (i : Int)).logTerm) := hc 5 _ rfl
  have x6 : w1.cell? ⟨fb, i * 10 + 6, none⟩ = some (.bool (s.msg (i : Int)).ok) := hc 6 _ rfl
  have x7 : w1.cell? ⟨fb, i * 10 + 7, none⟩ = some (.slice A (s.msg (i : Int)).entries.length c) := hc 7 _ rfl
  have x8 : w1.cell? ⟨fb, i * 10 + 8, none⟩ = some (.int .i64 (s.msg (i : Int)).commit) := hc 8 _ rfl
  have x9 : w1.cell? ⟨fb, i * 10 + 9, none⟩ = some (.int .i64 (s.msg (i : Int)).form) := hc 9 _ rfl
  have HFB := Hd hfb
  have HF := Hd hF
  have RD := Hd hrd
  have H1S := Hd H1.out.lt
  clear hs hfb hF hc hrd
  go_upto_region 4 with (fail)
  refine name_world (F := fun W => Hid (W.heap[w.heap.size]? = some (.cells ZM 34 (0, 0))) ∧ Hid (W.heap[w1.heap.size]? = some (.cells (MA (s.msg (i : Int)) (.slice A (s.msg (i : Int)).entries.length c)) 34 (0, 0))) ∧ Hid (RefAt W B x s ρ ok) ∧ Hid (MM.Rd W ok 2 (.slice A (s.msg (i : Int)).entries.length c) (s.msg (i : Int)).entries.length (entsC (s.msg (i : Int)).entries)) ∧ Hid (Below w1.heap.size w1 W)) _ (by exact ⟨Hd ((Below.heap_alloc _ _ _ (MM.blk_lt R1.out)).trans R1.out), Hd (MM.alloc_new _ _), Hd (H1.out.alloc _), Hd (RD.out.alloc _), Hd ((Below.refl _ _).alloc (Nat.le_refl _) _)⟩) ?_
  clear R1 H1 RD
  intro w2 ⟨R2, M2, H2, RD2, S2⟩
  clear x0 x1 x2 x3 x4 x5 x6 x7 x8 x9 h0b h1b
  have c2b := H2.out.c2
  have f2b := H2.out.fr 2
  have hxl := H2.out.lt
  rw [HF.out] at c2b
  clear c2
  have F2 := Hd (show FlyAt w2 B (.slice (some ⟨fb, 0, none⟩) s.f.length ρ.d) s.f ρ.fb ok from by have := H2.out.fl; rw [HF.out] at this; exact this)
  have hpc : i ≤ ρ.d := by omega
  have hpl1 : i + 1 ≤ s.f.length := hi
  have hpc2 : i + 1 ≤ ρ.d := by omega
  have hpw : IntKind.i64.wrap ((i : Int) + 1) = (i : Int) + 1 := IntWalk.i64_in _ (by omega)
  have hpi : (i : Int) + 1 ≤ (s.f.length : Int) := by omega
  have hp0 : (0 : Int) ≤ (i : Int) + 1 := by omega
  have hpn : ((i : Int) + 1).toNat = i + 1 := rfl
  have HPL := Hd hi
  obtain ⟨f1, hf1⟩ : ∃ f1, f1 = s.f.take i := ⟨_, rfl⟩
  obtain ⟨f2, hf2⟩ : ∃ f2, f2 = s.f.drop (i + 1) := ⟨_, rfl⟩
  obtain ⟨fz, hfz⟩ : ∃ fz, fz = s.f.eraseIdx i := ⟨_, rfl⟩
  have HL12 := Hd (show f1.length + f2.length ≤ 2000000 from by rw [hf1, hf2, List.length_take, List.length_drop]; omega)
  have HZ := Hd (show fz = f1 ++ f2 from by rw [hfz, hf1, hf2]; exact List.eraseIdx_eq_take_drop_succ _ _)
  have HFZ := Hd hfz
  have HF1 := Hd hf1
  have HF2 := Hd hf2
  clear hf1 hf2 hfz
  have SL := Hd hd1
  refine wT (.p 0 (.p 2 (.p 3 (.p 4 (.s 5 (.p 6 (.p 7 (.p 9 (.p 10 (.p 11 (.s 12 (.p 13 (.p 14 (.p 15 (.w 1 [5, 12] (.w 8 [12] (.w 16 [] (.p 17 (.p 18 (.w 19 [] .nil .stop))) .stop) .stop) .stop))))))))))))))) (by kernel_rfl) (by kernel_rfl) ?_
  repeat ((first | refine sP rfl fun K hK => ?_ | refine sS rfl fun K hK => ?_); go_simp; refine hK _ ?_; clear hK K)
  refine sW rfl rfl (fun K hK => ?_) sT
  repeat (first | go_values | go_skip | go_guarded | go_step | go_upon)
  refine qN _ _ _ _ (hK _ _ ?_ ?_) <;> clear hK K
  ·repeat first | exact aN | refine aO rfl rfl ?_ | refine aI rfl (by go_simp <;> rfl) ?_
  refine sW rfl rfl (fun K hK => ?_) sT
  refine append_flyR _ rfl (.tmp 27) (.tmp 33) rfl rfl B _ [] none (fun k => ρ.fb = some k) ok rfl (FlyAt.nil _ _ _ _) _ f1 rfl (by rw [HF1.out]; exact src_front ((src_fly F2.out).below (((Below.refl _ _).drew).alloc (Nat.le_refl _) _)) (by have := HPL.out; omega) (by have := HPL.out; omega) (by have := HPL.out; have := SL.out; omega)) (fun k hk e => by cases e) (by have := HL12.out; simp; omega) (by have := H2.out.Bsize; simp; omega) f1 rfl ?_ (fun k hk => by have := H2.out.okl k hk; simp; omega)
  intro A3 c3 w3 ob3 hf3 kp3 hob3 hbl3
  have HF3 := Hd hf3
  have K3 := Hd (show ∀ k, k < w2.heap.size → w3.heap[k]? = w2.heap[k]? from fun k hk => (kp3 k (by first | omega | (simp; omega)) (by simp)).trans (Below.heap_alloc _ _ k hk))
  have HB3 := Hd (show Below B w2 w3 from (((Below.refl _ _).drew).alloc H2.out.Bsize _).trans hbl3)
  have O3 := Hd (show ∀ k, ob3 = some k → w2.heap.size ≤ k from fun k hk => by
   rcases hob3 with e | ⟨b, e, hb⟩
   ·rw [e] at hk; cases hk
   ·rw [e] at hk; injection hk with hk; first | omega | (simp at hb; omega))
  have c23 := (World.cell?_of_block (a := ⟨x, 2, none⟩) (K3.out x hxl)).trans c2b
  clear hf3 kp3 hob3 hbl3
  repeat (first | go_values | go_skip | go_guarded | go_step | go_upon)
  refine qN _ _ _ _ (hK _ _ ?_ ?_) <;> clear hK K
  ·repeat first | exact aN | refine aO rfl rfl ?_ | refine aI rfl (by go_simp <;> rfl) ?_
  refine sW rfl rfl (fun K hK => ?_) sT
  refine append_flyR _ rfl (.tmp 34) (.tmp 41) rfl rfl B _ f1 ob3 (fun k => ρ.fb = some k) ok rfl HF3.out _ f2 rfl (by rw [HF2.out]; have h9 := src_back (lo := i + 1) ((src_fly F2.out).step3 K3.out) HPL.out SL.out; rw [show Option.map (fun x : Addr => x.add ((i + 1) * 10)) (some ⟨fb, 0, none⟩) = some ⟨fb, (i + 1) * 10, none⟩ from by rw [Option.map_some, Addr.add_lit, Nat.zero_add]] at h9; exact h9) (fun k hk e => by have h1 := O3.out k e; have h2 := H2.out.okl k hk; omega) HL12.out (Nat.le_trans H2.out.Bsize HB3.out.size) fz HZ.out ?_ (fun k hk => Nat.lt_of_lt_of_le (H2.out.okl k hk) HB3.out.size)
  intro A4 c4 w4 ob4 hf4 kp4 hob4 hbl4
  have HF4 := Hd hf4
  have K4 := Hd (show ∀ k, k < w2.heap.size → w4.heap[k]? = w2.heap[k]? from fun k hk => (kp4 k (Nat.lt_of_lt_of_le hk HB3.out.size) (fun e => by have := O3.out k e; omega)).trans (K3.out k hk))
  have O4 := Hd (show ob4 = none ∨ ∃ b, ob4 = some b ∧ w2.heap.size ≤ b from by
   rcases hob4 with e | ⟨b, e, hb⟩
   ·cases h3 : ob3
    ·exact .inl (by rw [e, h3])
    ·exact .inr ⟨_, by rw [e, h3], O3.out _ h3⟩
   ·exact .inr ⟨b, e, Nat.le_trans HB3.out.size hb⟩)
  have P := Hd (H2.out.putF HF4.out K4.out O4.out (HB3.out.trans hbl4))
  have c24 := (World.cell?_of_block (a := ⟨x, 2, none⟩) (K4.out x hxl)).trans c2b
  have f24 := (World.frozen?_of_block (a := ⟨x, 2, none⟩) (K4.out x hxl)).trans f2b
  have hx4 : x < w4.heap.size := by have := HB3.out.size; have := hbl4.size; omega
  have HB4 := Hd (show w2.heap.size ≤ w4.heap.size from Nat.le_trans HB3.out.size hbl4.size)
  clear hf4 kp4 hob4 hbl4 O3 K3
  repeat (first | go_values | go_skip | go_guarded | go_step | go_upon)
  refine qN _ _ _ _ (hK _ _ ?_ ?_) <;> clear hK K
  ·repeat first | exact aN | refine aO rfl rfl ?_ | refine aI rfl (by go_simp <;> rfl) ?_
  repeat ((first | refine sP rfl fun K hK => ?_ | refine sS rfl fun K hK => ?_); go_simp; refine hK _ ?_; clear hK K)
  refine sW rfl rfl (fun K hK => ?_) sT
  repeat (first | go_values | go_skip | go_guarded | go_step | go_upon)
  refine qN _ _ _ _ (hK _ _ ?_ ?_) <;> clear hK K
  ·repeat first | exact aN | refine aO rfl rfl ?_ | refine aI rfl (by go_simp <;> rfl) ?_
  refine sN ?_
  have hcut : s.cut (i : Int) = ⟨s.ns, s.us, s.f.eraseIdx i⟩ := by unfold GS.cut; rw [if_pos HS.out]; rfl
  obtain ⟨ρ', P1, P2⟩ : ∃ ρ', RefAt (w4.setCell ⟨x, 2, none⟩ (.slice A4 fz.length c4)) B x (s.cut (i : Int)) ρ' ok ∧ OStep w2 (w4.setCell ⟨x, 2, none⟩ (.slice A4 fz.length c4)) B (ρ.owns x) (ρ'.owns x) ok ok := ⟨_, by rw [hcut, ← HFZ.out]; exact P.out.1, P.out.2⟩
  have HNE := Hd (show ∀ k, ρ'.owns x k ∨ ok k → k ≠ w.heap.size from fun k hk => by
   rcases hk with hk | hk
   ·rcases P2.own k hk with q | q
    ·exact Nat.ne_of_lt (HLT.out k (.inl q))
    ·have := MM.blk_lt R2.out; omega
   ·exact Nat.ne_of_lt (HLT.out k (.inr hk)))
  have R4 := Hd (show (w4.setCell ⟨x, 2, none⟩ (.slice A4 fz.length c4)).heap[w.heap.size]? = some (.cells ZM 34 (0, 0)) from (Below.heap_setCell _ _ _ _ (by show w.heap.size ≠ x; omega)).trans ((K4.out _ (MM.blk_lt R2.out)).trans R2.out))
  have M4 := Hd (show (w4.setCell ⟨x, 2, none⟩ (.slice A4 fz.length c4)).heap[w1.heap.size]? = some (.cells (MA (s.msg (i : Int)) (.slice A (s.msg (i : Int)).entries.length c)) 34 (0, 0)) from (Below.heap_setCell _ _ _ _ (by have := H1S.out; show w1.heap.size ≠ x; omega)).trans ((K4.out _ (MM.blk_lt M2.out)).trans M2.out))
  have RD4 := Hd (show MM.Rd (w4.setCell ⟨x, 2, none⟩ (.slice A4 fz.length c4)) ok 2 (.slice A (s.msg (i : Int)).entries.length c) (s.msg (i : Int)).entries.length (entsC (s.msg (i : Int)).entries) from (RD2.out.step (w1 := w4) (fun k hk hl => K4.out k hl)).far (fun k hk e => H2.out.no k hk (.inl e)) _)
  have P1' := Hd P1
  have P2' := Hd P2
  clear P1 P2 P hcut
  go_upto_region 5 with (fail)
  refine name_world (F := fun W => Hid (W.heap[w.heap.size]? = some (.cells ZM 34 (0, 0))) ∧ Hid (W.heap[w1.heap.size]? = some (.cells (MA (s.msg (i : Int)) (.slice A (s.msg (i : Int)).entries.length c)) 34 (0, 0))) ∧ Hid (RefAt W B x (s.cut (i : Int)) ρ' ok) ∧ Hid (MM.Rd W ok 2 (.slice A (s.msg (i : Int)).entries.length c) (s.msg (i : Int)).entries.length (entsC (s.msg (i : Int)).entries)) ∧ Hid (OStep w2 W B (ρ.owns x) (ρ'.owns x) ok ok)) _ (by exact ⟨Hd (R4.out), Hd (M4.out), Hd (P1'.out), Hd (RD4.out), Hd (P2'.out)⟩) ?_
  clear R4 M4 P1' RD4 P2'
  intro w5 ⟨R5, M5, H5, RD5, O5⟩
  obtain ⟨y0, y1, y2, y3, y4, y5, y6, y7, y8, y9⟩ := MM.cells10 R5.out
  have z0 : w5.frozen? ⟨w.heap.size, 0, none⟩ = false := MM.free_blk R5.out
  have z1 : w5.frozen? ⟨w.heap.size, 1, none⟩ = false := MM.free_blk R5.out
  have z2 : w5.frozen? ⟨w.heap.size, 2, none⟩ = false := MM.free_blk R5.out
  have z3 : w5.frozen? ⟨w.heap.size, 3, none⟩ = false := MM.free_blk R5.out
  have z4 : w5.frozen? ⟨w.heap.size, 4, none⟩ = false := MM.free_blk R5.out
  have z5 : w5.frozen? ⟨w.heap.size, 5, none⟩ = false := MM.free_blk R5.out
  have z6 : w5.frozen? ⟨w.heap.size, 6, none⟩ = false := MM.free_blk R5.out
  have z7 : w5.frozen? ⟨w.heap.size, 7, none⟩ = false := MM.free_blk R5.out
  have z8 : w5.frozen? ⟨w.heap.size, 8, none⟩ = false := MM.free_blk R5.out
  have z9 : w5.frozen? ⟨w.heap.size, 9, none⟩ = false := MM.free_blk R5.out
  obtain ⟨v0, v1, v2, v3, v4, v5, v6, v7, v8, v9⟩ := MM.cells10 M5.out
  clear c24 f24 c2b f2b
  generalize (if ρ.d = i + 1 then some (⟨fb, 0, none⟩ : Addr) else some ⟨fb, (i + 1) * 10, none⟩) = zz
  go_wp2_with fail
  clear y0 z0 v0 y1 z1 v1 y2 z2 v2 y3 z3 v3 y4 z4 v4 y5 z5 v5 y6 z6 v6 y7 z7 v7 y8 z8 v8 y9 z9 v9
  refine name_world (F := fun W => Hid (W.heap[w.heap.size]? = some (.cells (MA (s.msg (i : Int)) (.slice A (s.msg (i : Int)).entries.length c)) 34 (0, 0))) ∧ Hid (RefAt W B x (s.cut (i : Int)) ρ' ok) ∧ Hid (MM.Rd W ok 2 (.slice A (s.msg (i : Int)).entries.length c) (s.msg (i : Int)).entries.length (entsC (s.msg (i : Int)).entries)) ∧ Hid (Below w.heap.size w5 W)) _ (by exact ⟨Hd ((set10 R5.out).trans rfl), Hd (H5.out.step (fun k hk => far10 (HNE.out k hk)) (by simp [World.setCell])), Hd (RD5.out.step (fun k hk _ => far10 (HNE.out k (.inr hk)))), Hd (below10 (Below.refl _ _) (Nat.le_refl _))⟩) ?_
  intro w6 ⟨R6, H6, RD6, B6⟩
  obtain ⟨u0, u1, u2, u3, u4, u5, u6, u7, u8, u9⟩ := MM.cells10 R6.out
  refine bodyPost_ret (v := .tuple #[.agg (MA (s.msg (i : Int)) (.slice A (s.msg (i : Int)).entries.length c)), .bool true]) (by simp [results, Try.results94, go_sem, u0, u1, u2, u3, u4, u5, u6, u7, u8, u9]) rfl ?_
  exact ⟨ρ', .inl ⟨HS.out, A, c, rfl, RD6.out⟩, H6.out, ((OStep.ofBelow (S1.out.trans (S2.out.mono S1.out.size)) HBS.out (fun k hk => .inl hk)).trans O5.out).fresh B6.out HBS.out⟩
end Go.Proofs.Ytnkmljdkokcdjaa
namespace Go.Proofs.Ytnkmljdkokcdjaa
open Go.RowKit Fed Go.RT
attribute [local go_sem high] Fed.max2_int Fed.min2_int Fed.MA Fed.ZN Fed.ZM Fed.NA
theorem rDrop_any (w : World) (B x : Nat) (s : GS) (ρ : RM) (ok : Nat → Prop) (h : RefAt w B x s ρ ok) (a : Int) (hl : s.f.length ≤ 1000000) :
  Calls Try.prog 87 #[.pointer (some ⟨x, 0, none⟩), .int .i64 a] w fun e w' => ∃ ρ', e = .returned (.bool (s.has a)) ∧ RefAt w' B x (s.cut a) ρ' ok ∧ OStep w w' B (ρ.owns x) (ρ'.owns x) ok ok := by
 have HT := Hd (rtake_any w B x s ρ ok h a hl)
 have HLT := Hd h.Bsize
 clear h
 go_enter Try.func87, Try.ntmps87
 go_wp2_with fail
 refine HT.out.mono ?_
 rintro e w1 ⟨ρ', hat, hG, hS⟩
 have HG := Hd (hG.alloc)
 have HS := Hd hS
 have HBW := Hd hS.below.size
 clear hG hS
 rcases hat with ⟨hs, A, c, rfl, _⟩ | ⟨hs, rfl⟩
 ·have H1 := Hd hs
  clear hs
  go_wp2_with fail
  go_ret
  exact ⟨ρ', MM.ret_bool H1.out.symm, HG.out _, HS.out.fresh ((Below.refl _ _).alloc HBW.out _) HLT.out⟩
 ·have H1 := Hd hs
  clear hs
  go_wp2_with fail
  go_ret
  exact ⟨ρ', MM.ret_bool H1.out.symm, HG.out _, HS.out.fresh ((Below.refl _ _).alloc HBW.out _) HLT.out⟩
theorem rTwice_any (w : World) (B x : Nat) (s : GS) (ρ : RM) (ok : Nat → Prop) (h : RefAt w B x s ρ ok) (a : Int) (hl : s.f.length ≤ 1000000) :
  Calls Try.prog 88 #[.pointer (some ⟨x, 0, none⟩), .int .i64 a] w fun e w' => ∃ ρ', e = .returned (.bool (s.has a)) ∧ RefAt w' B x (s.twice a) ρ' ok ∧ OStep w w' B (ρ.owns x) (ρ'.owns x) ok ok := by
 have HBS := Hd h.Bsize
 have H := Hd h
 have hxl := h.lt
 have c2 := h.c2
 have f2 := h.fr 2
 clear h
 cases hs : s.has a
 ·have HS := Hd hs
  have hn : ¬ (0 ≤ a ∧ a < (s.f.length : Int)) := fun q => by unfold GS.has at hs; rw [decide_eq_true q.1, decide_eq_true q.2] at hs; cases hs
  have HC := Hd (show s.twice a = s from by unfold GS.twice; rw [hs]; rfl)
  clear hs
  by_cases h0 : a < 0
  ·have h0b : decide (a < 0) = true := decide_eq_true h0
   clear hn h0
   go_enter Try.func88, Try.ntmps88
   go_wp2_with fail
   go_ret
   refine ⟨ρ, rfl, ?_, OStep.refl _ _ _ _⟩
   rw [HC.out]; exact H.out
  ·have h0b : decide (a < 0) = false := decide_eq_false h0
   have h1b : decide ((s.f.length : Int) ≤ a) = true := decide_eq_true (by omega)
   clear hn h0
   go_enter Try.func88, Try.ntmps88
   go_wp2_with fail
   go_ret
   refine ⟨ρ, rfl, ?_, OStep.refl _ _ _ _⟩
   rw [HC.out]; exact H.out
 ·obtain ⟨i, rfl, hi⟩ := has_some hs
  have HS := Hd hs
  have h0b : decide ((i : Int) < 0) = false := decide_eq_false (by omega)
  have h1b : decide ((s.f.length : Int) ≤ (i : Int)) = false := decide_eq_false (by omega)
  obtain ⟨fb, hfb, hF, hd1, hd2, _, A, c, hrd, hc⟩ := H.out.fly hi
  rw [hF] at c2
  have hfl := (H.out.ltf fb hfb).2
  have x0 : w.cell? ⟨fb, i * 10, none⟩ = some (.int .i64 (s.msg (i : Int)).kind) := hc 0 _ rfl
  have x1 : w.cell? ⟨fb, i * 10 + 1, none⟩ = some (.int .i64 (s.msg (i : Int)).frm) := hc 1 _ rfl
  have x2 : w.cell? ⟨fb, i * 10 + 2, none⟩ = some (.int .i64 (s.msg (i : Int)).to) := hc 2 _ rfl
  have x3 : w.cell? ⟨fb, i * 10 + 3, none⟩ = some (.int .i64 (s.msg (i : Int)).term) := hc 3 _ rfl
  have x4 : w.cell? ⟨fb, i * 10 + 4, none⟩ = some (.int .i64 (s.msg (i : Int)).index) := hc 4 _ rfl
  have x5 : w.cell? ⟨fb, i * 10 + 5, none⟩ = some (.int .i64 (s.msg (i : Int)).logTerm) := hc 5 _ rfl
  have x6 : w.cell? ⟨fb, i * 10 + 6, none⟩ = some (.bool (s.msg (i : Int)).ok) := hc 6 _ rfl
  have x7 : w.cell? ⟨fb, i * 10 + 7, none⟩ = some (.slice A (s.msg (i : Int)).entries.length c) := hc 7 _ rfl
  have x8 : w.cell? ⟨fb, i * 10 + 8, none⟩ = some (.int .i64 (s.msg (i : Int)).commit) := hc 8 _ rfl
  have x9 : w.cell? ⟨fb, i * 10 + 9, none⟩ = some (.int .i64 (s.msg (i : Int)).form) := hc 9 _ rfl
  have RD := Hd hrd
  have F := Hd (show FlyAt w B (.slice (some ⟨fb, 0, none⟩) s.f.length ρ.d) s.f ρ.fb ok from by have h9 := H.out.fl; rw [hF] at h9; exact h9)
  obtain ⟨m, hm⟩ : ∃ m, m = s.msg (i : Int) := ⟨_, rfl⟩
  obtain ⟨fz, hfz⟩ : ∃ fz, fz = s.f ++ [m] := ⟨_, rfl⟩
  have HZ := Hd hfz
  have OPE := Hd (show s.twice (i : Int) = ⟨s.ns, s.us, fz⟩ from by unfold GS.twice; rw [if_pos hs, hfz, hm])
  have HLM := Hd hl
  rw [← hm] at RD x0 x1 x2 x3 x4 x5 x6 x7 x8 x9
  clear hs hfb hF hc hrd hm hfz
  go_enter Try.func88, Try.ntmps88
  go_upto_region 3 with (fail)
  refine wT (.p 0 (.p 2 (.p 3 (.p 4 (.s 5 (.p 7 (.p 8 (.p 9 (.s 10 (.p 11 (.p 12 (.s 13 (.w 1 [5, 10, 13] (.w 6 [10, 13] (.w 14 [5] (.w 15 [] (.p 16 (.p 17 (.w 18 [] .nil .stop))) .stop) .stop) (.w 14 [5] (.w 6 [10, 13] (.w 15 [] (.p 16 (.p 17 (.w 18 [] .nil .stop))) .stop) .stop) .stop)) (.w 14 [5] (.w 1 [5, 10, 13] (.w 6 [10, 13] (.w 15 [] (.p 16 (.p 17 (.w 18 [] .nil .stop))) .stop) .stop) .stop) .stop)))))))))))))) (by kernel_rfl) (by kernel_rfl) ?_
  repeat ((first | refine sP rfl fun K hK => ?_ | refine sS rfl fun K hK => ?_); go_simp; refine hK _ ?_; clear hK K)
  refine sW rfl rfl (fun K hK => ?_) ?_
  ·repeat (first | go_values | go_skip | go_guarded | go_step | go_upon)
   refine qN _ _ _ _ (hK _ _ ?_ ?_) <;> clear hK K
   ·repeat first | exact aN | refine aO rfl rfl ?_ | refine aI rfl (by go_simp <;> rfl) ?_
   refine sW rfl rfl (fun K hK => ?_) ?_
   ·refine append_flyR _ rfl (.tmp 17) (.tmp 21) rfl rfl B _ [] none (fun k => ρ.fb = some k) ok rfl (FlyAt.nil _ _ _ _) _ s.f rfl ((src_fly F.out).below ((Below.refl _ _).drew.alloc (Nat.le_refl _) _)) (fun k hk e => by cases e) (by have := HLM.out; simp; omega) (by have := HBS.out; simp; omega) s.f rfl ?_ (fun k hk => by have := H.out.okl k hk; simp; omega)
    intro A3 c3 w3 ob3 hf3 kp3 hob3 hbl3
    have HF3 := Hd hf3
    have K3 := Hd (show ∀ k, k < w.heap.size → w3.heap[k]? = w.heap[k]? from fun k hk => (kp3 k (by first | omega | (simp; omega)) (by simp)).trans (Below.heap_alloc _ _ k hk))
    have HB3 := Hd (show Below B w w3 from (((Below.refl _ _).drew.alloc H.out.Bsize _)).trans hbl3)
    have O3 := Hd (show ∀ k, ob3 = some k → w.heap.size ≤ k from fun k hk => by
     rcases hob3 with e | ⟨b, e, hb⟩
     ·rw [e] at hk; cases hk
     ·rw [e] at hk; injection hk with hk; first | omega | (simp at hb; omega))
    have y0 := (World.cell?_of_block (a := ⟨fb, i * 10, none⟩) (K3.out fb hfl)).trans x0
    have y1 := (World.cell?_of_block (a := ⟨fb, i * 10 + 1, none⟩) (K3.out fb hfl)).trans x1
    have y2 := (World.cell?_of_block (a := ⟨fb, i * 10 + 2, none⟩) (K3.out fb hfl)).trans x2
    have y3 := (World.cell?_of_block (a := ⟨fb, i * 10 + 3, none⟩) (K3.out fb hfl)).trans x3
    have y4 := (World.cell?_of_block (a := ⟨fb, i * 10 + 4, none⟩) (K3.out fb hfl)).trans x4
    have y5 := (World.cell?_of_block (a := ⟨fb, i * 10 + 5, none⟩) (K3.out fb hfl)).trans x5
    have y6 := (World.cell?_of_block (a := ⟨fb, i * 10 + 6, none⟩) (K3.out fb hfl)).trans x6
    have y7 := (World.cell?_of_block (a := ⟨fb, i * 10 + 7, none⟩) (K3.out fb hfl)).trans x7
    have y8 := (World.cell?_of_block (a := ⟨fb, i * 10 + 8, none⟩) (K3.out fb hfl)).trans x8
    have y9 := (World.cell?_of_block (a := ⟨fb, i * 10 + 9, none⟩) (K3.out fb hfl)).trans x9
    have hxl3 : x < w3.heap.size := Nat.lt_of_lt_of_le hxl HB3.out.size
    have hfl3 : fb < w3.heap.size := Nat.lt_of_lt_of_le hfl HB3.out.size
    have c23 := (World.cell?_of_block (a := ⟨x, 2, none⟩) (K3.out x hxl)).trans c2
    clear hf3 kp3 hob3 hbl3
    repeat (first | go_values | go_skip | go_guarded | go_step | go_upon)
    refine qN _ _ _ _ (hK _ _ ?_ ?_) <;> clear hK K
    ·repeat first | exact aN | refine aO rfl rfl ?_ | refine aI rfl (by go_simp <;> rfl) ?_
    refine sW rfl rfl (fun K hK => ?_) sT
    repeat (first | go_values | go_skip | go_guarded | go_step | go_upon)
    refine qN _ _ _ _ (hK _ _ ?_ ?_) <;> clear hK K
    ·repeat first | exact aN | refine aO rfl rfl ?_ | refine aI rfl (by go_simp <;> rfl) ?_
    refine sW rfl rfl (fun K hK => ?_) sT
    refine append_fly1 _ rfl (.tmp 22) (.tmp 30) rfl rfl B _ s.f ob3 ok rfl (HF3.out.below ((Below.refl _ _).alloc (Nat.le_refl _) _)) (w3.heap.size) m A c rfl (MM.alloc_new _ _) ((RD.out.step (w1 := w3) (fun k hk hl => K3.out k hl)).alloc _) (fun k hk e => by have h1 := O3.out k e; have h2 := H.out.okl k hk; omega) HLM.out ((by have h1 := HBS.out; have h2 := HB3.out.size; simp; omega)) fz HZ.out ?_
    intro A4 c4 w4 ob4 hf4 kp4 hob4 hbl4
    have HF4 := Hd (hf4.mono (ok' := ok) (fun k hk _ => hk.1))
    have K4 := Hd (show ∀ k, k < w.heap.size → w4.heap[k]? = w.heap[k]? from fun k hk => (kp4 k (by have := HB3.out.size; first | omega | (simp; omega)) (fun e => by have := O3.out k e; omega)).trans ((Below.heap_alloc _ _ k (Nat.lt_of_lt_of_le hk HB3.out.size)).trans (K3.out k hk)))
    have O4 := Hd (show ob4 = none ∨ ∃ b, ob4 = some b ∧ w.heap.size ≤ b from by
     rcases hob4 with e | ⟨b, e, hb⟩
     ·cases h3 : ob3
      ·exact .inl (by rw [e, h3])
      ·exact .inr ⟨_, by rw [e, h3], O3.out _ h3⟩
     ·exact .inr ⟨b, e, by have := HB3.out.size; first | omega | (simp at hb; omega)⟩)
    have HB4 := Hd (show Below B w w4 from (HB3.out.alloc (Nat.le_trans HBS.out HB3.out.size) _).trans hbl4)
    have P := Hd (H.out.putF HF4.out K4.out O4.out HB4.out)
    have c24 := (World.cell?_of_block (a := ⟨x, 2, none⟩) (K4.out x hxl)).trans c2
    have f24 := (World.frozen?_of_block (a := ⟨x, 2, none⟩) (K4.out x hxl)).trans f2
    have hx4 : x < w4.heap.size := by have := HB4.out.size; omega
    clear hf4 kp4 hob4 hbl4
    repeat (first | go_values | go_skip | go_guarded | go_step | go_upon)
    refine qN _ _ _ _ (hK _ _ ?_ ?_) <;> clear hK K
    ·repeat first | exact aN | refine aO rfl rfl ?_ | refine aI rfl (by go_simp <;> rfl) ?_
    repeat ((first | refine sP rfl fun K hK => ?_ | refine sS rfl fun K hK => ?_); go_simp; refine hK _ ?_; clear hK K)
    refine sW rfl rfl (fun K hK => ?_) sT
    repeat (first | go_values | go_skip | go_guarded | go_step | go_upon)
    refine qN _ _ _ _ (hK _ _ ?_ ?_) <;> clear hK K
    ·repeat first | exact aN | refine aO rfl rfl ?_ | refine aI rfl (by go_simp <;> rfl) ?_
    refine sN ?_
    go_upto_region 4 with (fail)
    clear x0 y0 x1 y1 x2 y2 x3 y3 x4 y4 x5 y5 x6 y6 x7 y7 x8 y8 x9 y9
    go_wp2_with fail
    go_ret
    refine ⟨_, rfl, ?_, P.out.2⟩
    rw [OPE.out]
    exact P.out.1
   refine sW rfl rfl (fun K hK => ?_) sT
   repeat (first | go_values | go_skip | go_guarded | go_step | go_upon)
   refine qN _ _ _ _ (hK _ _ ?_ ?_) <;> clear hK K
   ·repeat first | exact aN | refine aO rfl rfl ?_ | refine aI rfl (by go_simp <;> rfl) ?_
   refine sW rfl rfl (fun K hK => ?_) sT
   refine append_flyR _ rfl (.tmp 17) (.tmp 21) rfl rfl B _ [] none (fun k => ρ.fb = some k) ok rfl (FlyAt.nil _ _ _ _) _ s.f rfl ((src_fly F.out).below (((Below.refl _ _).drew.alloc (Nat.le_refl _) _).alloc (by simp) _)) (fun k hk e => by cases e) (by have := HLM.out; simp; omega) (by have := HBS.out; simp; omega) s.f rfl ?_ (fun k hk => by have := H.out.okl k hk; simp; omega)
   intro A3 c3 w3 ob3 hf3 kp3 hob3 hbl3
   have HF3 := Hd hf3
   have K3 := Hd (show ∀ k, k < w.heap.size → w3.heap[k]? = w.heap[k]? from fun k hk => (kp3 k (by first | omega | (simp; omega)) (by simp)).trans ((Below.heap_alloc _ _ k (by simp; omega)).trans (Below.heap_alloc _ _ k hk)))
   have HB3 := Hd (show Below B w w3 from ((((Below.refl _ _).drew.alloc H.out.Bsize _).alloc (by have := H.out.Bsize; simp; omega) _)).trans hbl3)
   have O3 := Hd (show ∀ k, ob3 = some k → w.heap.size ≤ k from fun k hk => by
    rcases hob3 with e | ⟨b, e, hb⟩
    ·rw [e] at hk; cases hk
    ·rw [e] at hk; injection hk with hk; first | omega | (simp at hb; omega))
   have X3 := Hd (show w3.heap[w.heap.size + 1]? = some (.cells (MA m (.slice A m.entries.length c)) 34 (0, 0)) from (kp3 _ (by simp) (by simp)).trans (MM.alloc_new1 w.drew _ _))
   have y0 := (World.cell?_of_block (a := ⟨fb, i * 10, none⟩) (K3.out fb hfl)).trans x0
   have y1 := (World.cell?_of_block (a := ⟨fb, i * 10 + 1, none⟩) (K3.out fb hfl)).trans x1
   have y2 := (World.cell?_of_block (a := ⟨fb, i * 10 + 2, none⟩) (K3.out fb hfl)).trans x2
   have y3 := (World.cell?_of_block (a := ⟨fb, i * 10 + 3, none⟩) (K3.out fb hfl)).trans x3
   have y4 := (World.cell?_of_block (a := ⟨fb, i * 10 + 4, none⟩) (K3.out fb hfl)).trans x4
   have y5 := (World.cell?_of_block (a := ⟨fb, i * 10 + 5, none⟩) (K3.out fb hfl)).trans x5
   have y6 := (World.cell?_of_block (a := ⟨fb, i * 10 + 6, none⟩) (K3.out fb hfl)).trans x6
   have y7 := (World.cell?_of_block (a := ⟨fb, i * 10 + 7, none⟩) (K3.out fb hfl)).trans x7
   have y8 := (World.cell?_of_block (a := ⟨fb, i * 10 + 8, none⟩) (K3.out fb hfl)).trans x8
   have y9 := (World.cell?_of_block (a := ⟨fb, i * 10 + 9, none⟩) (K3.out fb hfl)).trans x9
   have hxl3 : x < w3.heap.size := Nat.lt_of_lt_of_le hxl HB3.out.size
   have hfl3 : fb < w3.heap.size := Nat.lt_of_lt_of_le hfl HB3.out.size
   have c23 := (World.cell?_of_block (a := ⟨x, 2, none⟩) (K3.out x hxl)).trans c2
   clear hf3 kp3 hob3 hbl3
   repeat (first | go_values | go_skip | go_guarded | go_step | go_upon)
   refine qN _ _ _ _ (hK _ _ ?_ ?_) <;> clear hK K
   ·repeat first | exact aN | refine aO rfl rfl ?_ | refine aI rfl (by go_simp <;> rfl) ?_
   refine sW rfl rfl (fun K hK => ?_) sT
   refine append_fly1 _ rfl (.tmp 22) (.tmp 30) rfl rfl B _ s.f ob3 ok rfl HF3.out (w.heap.size + 1) m A c rfl X3.out (RD.out.step (fun k hk hl => K3.out k hl)) (fun k hk e => by have h1 := O3.out k e; have h2 := H.out.okl k hk; omega) HLM.out (Nat.le_trans HBS.out HB3.out.size) fz HZ.out ?_
   intro A4 c4 w4 ob4 hf4 kp4 hob4 hbl4
   have HF4 := Hd (hf4.mono (ok' := ok) (fun k hk _ => hk.1))
   have K4 := Hd (show ∀ k, k < w.heap.size → w4.heap[k]? = w.heap[k]? from fun k hk => (kp4 k (by have := HB3.out.size; first | omega | (simp; omega)) (fun e => by have := O3.out k e; omega)).trans ((K3.out k hk)))
   have O4 := Hd (show ob4 = none ∨ ∃ b, ob4 = some b ∧ w.heap.size ≤ b from by
    rcases hob4 with e | ⟨b, e, hb⟩
    ·cases h3 : ob3
     ·exact .inl (by rw [e, h3])
     ·exact .inr ⟨_, by rw [e, h3], O3.out _ h3⟩
    ·exact .inr ⟨b, e, by have := HB3.out.size; first | omega | (simp at hb; omega)⟩)
   have HB4 := Hd (show Below B w w4 from (HB3.out).trans hbl4)
   have P := Hd (H.out.putF HF4.out K4.out O4.out HB4.out)
   have c24 := (World.cell?_of_block (a := ⟨x, 2, none⟩) (K4.out x hxl)).trans c2
   have f24 := (World.frozen?_of_block (a := ⟨x, 2, none⟩) (K4.out x hxl)).trans f2
   have hx4 : x < w4.heap.size := by have := HB4.out.size; omega
   clear hf4 kp4 hob4 hbl4
   repeat (first | go_values | go_skip | go_guarded | go_step | go_upon)
   refine qN _ _ _ _ (hK _ _ ?_ ?_) <;> clear hK K
   ·repeat first | exact aN | refine aO rfl rfl ?_ | refine aI rfl (by go_simp <;> rfl) ?_
   repeat ((first | refine sP rfl fun K hK => ?_ | refine sS rfl fun K hK => ?_); go_simp; refine hK _ ?_; clear hK K)
   refine sW rfl rfl (fun K hK => ?_) sT
   repeat (first | go_values | go_skip | go_guarded | go_step | go_upon)
   refine qN _ _ _ _ (hK _ _ ?_ ?_) <;> clear hK K
   ·repeat first | exact aN | refine aO rfl rfl ?_ | refine aI rfl (by go_simp <;> rfl) ?_
   refine sN ?_
   go_upto_region 4 with (fail)
   clear x0 y0 x1 y1 x2 y2 x3 y3 x4 y4 x5 y5 x6 y6 x7 y7 x8 y8 x9 y9
   go_wp2_with fail
   go_ret
   refine ⟨_, rfl, ?_, P.out.2⟩
   rw [OPE.out]
   exact P.out.1
  refine sW rfl rfl (fun K hK => ?_) sT
  repeat (first | go_values | go_skip | go_guarded | go_step | go_upon)
  refine qN _ _ _ _ (hK _ _ ?_ ?_) <;> clear hK K
  ·repeat first | exact aN | refine aO rfl rfl ?_ | refine aI rfl (by go_simp <;> rfl) ?_
  refine sW rfl rfl (fun K hK => ?_) sT
  repeat (first | go_values | go_skip | go_guarded | go_step | go_upon)
  refine qN _ _ _ _ (hK _ _ ?_ ?_) <;> clear hK K
  ·repeat first | exact aN | refine aO rfl rfl ?_ | refine aI rfl (by go_simp <;> rfl) ?_
  refine sW rfl rfl (fun K hK => ?_) sT
  refine append_flyR _ rfl (.tmp 17) (.tmp 21) rfl rfl B _ [] none (fun k => ρ.fb = some k) ok rfl (FlyAt.nil _ _ _ _) _ s.f rfl ((src_fly F.out).below (((Below.refl _ _).drew.alloc (Nat.le_refl _) _).alloc (by simp) _)) (fun k hk e => by cases e) (by have := HLM.out; simp; omega) (by have := HBS.out; simp; omega) s.f rfl ?_ (fun k hk => by have := H.out.okl k hk; simp; omega)
  intro A3 c3 w3 ob3 hf3 kp3 hob3 hbl3
  have HF3 := Hd hf3
  have K3 := Hd (show ∀ k, k < w.heap.size → w3.heap[k]? = w.heap[k]? from fun k hk => (kp3 k (by first | omega | (simp; omega)) (by simp)).trans ((Below.heap_alloc _ _ k (by simp; omega)).trans (Below.heap_alloc _ _ k hk)))
  have HB3 := Hd (show Below B w w3 from ((((Below.refl _ _).drew.alloc H.out.Bsize _).alloc (by have := H.out.Bsize; simp; omega) _)).trans hbl3)
  have O3 := Hd (show ∀ k, ob3 = some k → w.heap.size ≤ k from fun k hk => by
   rcases hob3 with e | ⟨b, e, hb⟩
   ·rw [e] at hk; cases hk
   ·rw [e] at hk; injection hk with hk; first | omega | (simp at hb; omega))
  have X3 := Hd (show w3.heap[w.heap.size]? = some (.cells (MA m (.slice A m.entries.length c)) 34 (0, 0)) from (kp3 _ (by simp; omega) (by simp)).trans ((Below.heap_alloc _ _ _ (by simp)).trans (MM.alloc_new w.drew _)))
  have y0 := (World.cell?_of_block (a := ⟨fb, i * 10, none⟩) (K3.out fb hfl)).trans x0
  have y1 := (World.cell?_of_block (a := ⟨fb, i * 10 + 1, none⟩) (K3.out fb hfl)).trans x1
  have y2 := (World.cell?_of_block (a := ⟨fb, i * 10 + 2, none⟩) (K3.out fb hfl)).trans x2
  have y3 := (World.cell?_of_block (a := ⟨fb, i * 10 + 3, none⟩) (K3.out fb hfl)).trans x3
  have y4 := (World.cell?_of_block (a := ⟨fb, i * 10 + 4, none⟩) (K3.out fb hfl)).trans x4
  have y5 := (World.cell?_of_block (a := ⟨fb, i * 10 + 5, none⟩) (K3.out fb hfl)).trans x5
  have y6 := (World.cell?_of_block (a := ⟨fb, i * 10 + 6, none⟩) (K3.out fb hfl)).trans x6
  have y7 := (World.cell?_of_block (a := ⟨fb, i * 10 + 7, none⟩) (K3.out fb hfl)).trans x7
  have y8 := (World.cell?_of_block (a := ⟨fb, i * 10 + 8, none⟩) (K3.out fb hfl)).trans x8
  have y9 := (World.cell?_of_block (a := ⟨fb, i * 10 + 9, none⟩) (K3.out fb hfl)).trans x9
  have hxl3 : x < w3.heap.size := Nat.lt_of_lt_of_le hxl HB3.out.size
  have hfl3 : fb < w3.heap.size := Nat.lt_of_lt_of_le hfl HB3.out.size
  have c23 := (World.cell?_of_block (a := ⟨x, 2, none⟩) (K3.out x hxl)).trans c2
  clear hf3 kp3 hob3 hbl3
  repeat (first | go_values | go_skip | go_guarded | go_step | go_upon)
  refine qN _ _ _ _ (hK _ _ ?_ ?_) <;> clear hK K
  ·repeat first | exact aN | refine aO rfl rfl ?_ | refine aI rfl (by go_simp <;> rfl) ?_
  refine sW rfl rfl (fun K hK => ?_) sT
  refine append_fly1 _ rfl (.tmp 22) (.tmp 30) rfl rfl B _ s.f ob3 ok rfl HF3.out (w.heap.size) m A c rfl X3.out (RD.out.step (fun k hk hl => K3.out k hl)) (fun k hk e => by have h1 := O3.out k e; have h2 := H.out.okl k hk; omega) HLM.out (Nat.le_trans HBS.out HB3.out.size) fz HZ.out ?_
  intro A4 c4 w4 ob4 hf4 kp4 hob4 hbl4
  have HF4 := Hd (hf4.mono (ok' := ok) (fun k hk _ => hk.1))
  have K4 := Hd (show ∀ k, k < w.heap.size → w4.heap[k]? = w.heap[k]? from fun k hk => (kp4 k (by have := HB3.out.size; first | omega | (simp; omega)) (fun e => by have := O3.out k e; omega)).trans ((K3.out k hk)))
  have O4 := Hd (show ob4 = none ∨ ∃ b, ob4 = some b ∧ w.heap.size ≤ b from by
   rcases hob4 with e | ⟨b, e, hb⟩
   ·cases h3 : ob3
    ·exact .inl (by rw [e, h3])
    ·exact .inr ⟨_, by rw [e, h3], O3.out _ h3⟩
   ·exact .inr ⟨b, e, by have := HB3.out.size; first | omega | (simp at hb; omega)⟩)
  have HB4 := Hd (show Below B w w4 from (HB3.out).trans hbl4)
  have P := Hd (H.out.putF HF4.out K4.out O4.out HB4.out)
  have c24 := (World.cell?_of_block (a := ⟨x, 2, none⟩) (K4.out x hxl)).trans c2
  have f24 := (World.frozen?_of_block (a := ⟨x, 2, none⟩) (K4.out x hxl)).trans f2
  have hx4 : x < w4.heap.size := by have := HB4.out.size; omega
  clear hf4 kp4 hob4 hbl4
  repeat (first | go_values | go_skip | go_guarded | go_step | go_upon)
  refine qN _ _ _ _ (hK _ _ ?_ ?_) <;> clear hK K
  ·repeat first | exact aN | refine aO rfl rfl ?_ | refine aI rfl (by go_simp <;> rfl) ?_
  repeat ((first | refine sP rfl fun K hK => ?_ | refine sS rfl fun K hK => ?_); go_simp; refine hK _ ?_; clear hK K)
  refine sW rfl rfl (fun K hK => ?_) sT
  repeat (first | go_values | go_skip | go_guarded | go_step | go_upon)
  refine qN _ _ _ _ (hK _ _ ?_ ?_) <;> clear hK K
  ·repeat first | exact aN | refine aO rfl rfl ?_ | refine aI rfl (by go_simp <;> rfl) ?_
  refine sN ?_
  go_upto_region 4 with (fail)
  clear x0 y0 x1 y1 x2 y2 x3 y3 x4 y4 x5 y5 x6 y6 x7 y7 x8 y8 x9 y9
  go_wp2_with fail
  go_ret
  refine ⟨_, rfl, ?_, P.out.2⟩
  rw [OPE.out]
  exact P.out.1
end Go.Proofs.Ytnkmljdkokcdjaa
