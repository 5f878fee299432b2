/-
The group's set and Drop answer as the plain functions. Condition: a group lies there.
The group's up, Up, Flight, Crash answer as the plain functions. Condition: a group lies there.
append answers entries, as the plain appendS says. Conditions: lengths and numbers are bounded as the theorem says.
-/
import Derived.WalkKit
import Derived.WalkSpells
import Derived.Lib.Hide
import Derived.Outline
import Derived.Test.YtnkmljdkokcdjaaChecked
import Derived.Test.YtnkmljdkokcdjaaB0
import Derived.Test.YtnkmljdkokcdjaaB1
import Derived.Test.YtnkmljdkokcdjaaB11
import Derived.Deep.DeepCutAuto
import Derived.Deep.CutBlock
import Derived.Deep.OwnRows
import Derived.IntWalk
import Derived.Test.YtnkmljdkokcdjaaB10
set_option maxRecDepth 100000
set_option maxHeartbeats 40000000
set_option linter.unusedVariables false
set_option linter.unusedSimpArgs false
namespace Go.Proofs.Ytnkmljdkokcdjaa
open Go.RowKit Fed
attribute [local go_sem high] Fed.max2_int Fed.min2_int Fed.MA Fed.ZN Fed.ZM Fed.NA
theorem GroupAt.set14 {w : World} {B g : Nat} {s : GS} {μ : GM} {ok : Nat → Prop} (h : GroupAt w B g s μ ok) {i pb : Nat} (hi : i < s.ns.length) (hp : μ.p = some pb) {n : Fed.Node} {σ : Sl5} (hn : NodeVs w ok n σ) :
  GroupAt (((((((((((((w.setCell ⟨pb, i * 14, none⟩ (.int .i64 n.id)).setCell ⟨pb, i * 14 + 1, none⟩ (.int .i64 n.term)).setCell ⟨pb, i * 14 + 2, none⟩ (.int .i64 n.vote)).setCell ⟨pb, i * 14 + 3, none⟩ (.slice σ.A3 n.log.length σ.k3)).setCell ⟨pb, i * 14 + 4, none⟩ (.int .i64 n.form)).setCell ⟨pb, i * 14 + 5, none⟩ (.int .i64 n.role)).setCell ⟨pb, i * 14 + 6, none⟩ (.int .i64 n.commit)).setCell ⟨pb, i * 14 + 7, none⟩ (.slice σ.A7 n.votes.length σ.k7)).setCell ⟨pb, i * 14 + 8, none⟩ (.slice σ.A8 n.nxt.length σ.k8)).setCell ⟨pb, i * 14 + 9, none⟩ (.slice σ.A9 n.mtch.length σ.k9)).setCell ⟨pb, i * 14 + 10, none⟩ (.slice σ.A10 n.forms.length σ.k10)).setCell ⟨pb, i * 14 + 11, none⟩ (.int .i64 n.clock)).setCell ⟨pb, i * 14 + 12, none⟩ (.int .i64 n.due)) B g ⟨s.ns.set i n, s.us, s.f⟩ μ ok ∧ GStep w (((((((((((((w.setCell ⟨pb, i * 14, none⟩ (.int .i64 n.id)).setCell ⟨pb, i * 14 + 1, none⟩ (.int .i64 n.term)).setCell ⟨pb, i * 14 + 2, none⟩ (.int .i64 n.vote)).setCell ⟨pb, i * 14 + 3, none⟩ (.slice σ.A3 n.log.length σ.k3)).setCell ⟨pb, i * 14 + 4, none⟩ (.int .i64 n.form)).setCell ⟨pb, i * 14 + 5, none⟩ (.int .i64 n.role)).setCell ⟨pb, i * 14 + 6, none⟩ (.int .i64 n.commit)).setCell ⟨pb, i * 14 + 7, none⟩ (.slice σ.A7 n.votes.length σ.k7)).setCell ⟨pb, i * 14 + 8, none⟩ (.slice σ.A8 n.nxt.length σ.k8)).setCell ⟨pb, i * 14 + 9, none⟩ (.slice σ.A9 n.mtch.length σ.k9)).setCell ⟨pb, i * 14 + 10, none⟩ (.slice σ.A10 n.forms.length σ.k10)).setCell ⟨pb, i * 14 + 11, none⟩ (.int .i64 n.clock)).setCell ⟨pb, i * 14 + 12, none⟩ (.int .i64 n.due)) B g μ μ ok ok := by
 rw [put13]
 exact h.setN hi hp hn
theorem gset_any (w : World) (B g : Nat) (s : GS) (μ : GM) (ok : Nat → Prop) (h : GroupAt w B g s μ ok) (i pb : Nat) (hi : i < s.ns.length) (hp : μ.p = some pb) (n : Fed.Node) (σ : Sl5) (hn : NodeVs w ok n σ) (A : Option Addr) (c : Nat) (ys : List Fed.Msg) (hY : MsgsV w ok (.slice A ys.length c) ys) (hl : s.f.length + ys.length ≤ 2000000) :
  Calls Try.prog 78 #[.pointer (some ⟨g, 0, none⟩), .pointer (some ⟨pb, i * 14, none⟩), .agg (NA n σ), .slice A ys.length c] w fun e w' => ∃ μ', e = .returned (.tuple #[]) ∧ GroupAt w' B g ⟨s.ns.set i n, s.us, s.f ++ ys⟩ μ' ok ∧ GStep w w' B g μ μ' ok ok ∧ μ'.p = μ.p := by
 obtain ⟨pb', hp', _, _, _, hf, σ0, _, hc⟩ := h.place hi
 rw [hp] at hp'
 injection hp' with hp'
 subst hp'
 have x0 : w.cell? ⟨pb, i * 14, none⟩ = some (.int .i64 (s.node i).id) := hc 0 _ rfl
 have x1 : w.cell? ⟨pb, i * 14 + 1, none⟩ = some (.int .i64 (s.node i).term) := hc 1 _ rfl
 have x2 : w.cell? ⟨pb, i * 14 + 2, none⟩ = some (.int .i64 (s.node i).vote) := hc 2 _ rfl
 have x3 : w.cell? ⟨pb, i * 14 + 3, none⟩ = some (.slice σ0.A3 (s.node i).log.length σ0.k3) := hc 3 _ rfl
 have x4 : w.cell? ⟨pb, i * 14 + 4, none⟩ = some (.int .i64 (s.node i).form) := hc 4 _ rfl
 have x5 : w.cell? ⟨pb, i * 14 + 5, none⟩ = some (.int .i64 (s.node i).role) := hc 5 _ rfl
 have x6 : w.cell? ⟨pb, i * 14 + 6, none⟩ = some (.int .i64 (s.node i).commit) := hc 6 _ rfl
 have x7 : w.cell? ⟨pb, i * 14 + 7, none⟩ = some (.slice σ0.A7 (s.node i).votes.length σ0.k7) := hc 7 _ rfl
 have x8 : w.cell? ⟨pb, i * 14 + 8, none⟩ = some (.slice σ0.A8 (s.node i).nxt.length σ0.k8) := hc 8 _ rfl
 have x9 : w.cell? ⟨pb, i * 14 + 9, none⟩ = some (.slice σ0.A9 (s.node i).mtch.length σ0.k9) := hc 9 _ rfl
 have x10 : w.cell? ⟨pb, i * 14 + 10, none⟩ = some (.slice σ0.A10 (s.node i).forms.length σ0.k10) := hc 10 _ rfl
 have x11 : w.cell? ⟨pb, i * 14 + 11, none⟩ = some (.int .i64 (s.node i).clock) := hc 11 _ rfl
 have x12 : w.cell? ⟨pb, i * 14 + 12, none⟩ = some (.int .i64 (s.node i).due) := hc 12 _ rfl
 have z0 : w.frozen? ⟨pb, i * 14, none⟩ = false := hf _
 have z1 : w.frozen? ⟨pb, i * 14 + 1, none⟩ = false := hf _
 have z2 : w.frozen? ⟨pb, i * 14 + 2, none⟩ = false := hf _
 have z3 : w.frozen? ⟨pb, i * 14 + 3, none⟩ = false := hf _
 have z4 : w.frozen? ⟨pb, i * 14 + 4, none⟩ = false := hf _
 have z5 : w.frozen? ⟨pb, i * 14 + 5, none⟩ = false := hf _
 have z6 : w.frozen? ⟨pb, i * 14 + 6, none⟩ = false := hf _
 have z7 : w.frozen? ⟨pb, i * 14 + 7, none⟩ = false := hf _
 have z8 : w.frozen? ⟨pb, i * 14 + 8, none⟩ = false := hf _
 have z9 : w.frozen? ⟨pb, i * 14 + 9, none⟩ = false := hf _
 have z10 : w.frozen? ⟨pb, i * 14 + 10, none⟩ = false := hf _
 have z11 : w.frozen? ⟨pb, i * 14 + 11, none⟩ = false := hf _
 have z12 : w.frozen? ⟨pb, i * 14 + 12, none⟩ = false := hf _
 have hpl := (h.ltp pb hp).2
 have H := Hd h
 have HN := Hd hn
 have HY := Hd hY
 have HP := Hd hp
 have HOK := Hd (show ∀ k, ok k → k ≠ pb from fun k hk e => h.no k hk (.inr (.inl (by rw [hp, e]))))
 clear h hn hY hp hf hc
 go_enter Try.func78, Try.ntmps78
 go_upto_region 2 with (fail)
 refine name_world (F := fun W => Hid (GroupAt W B g ⟨s.ns.set i n, s.us, s.f⟩ μ ok) ∧ Hid (GStep w W B g μ μ ok ok) ∧ Hid (MsgsV W ok (.slice A ys.length c) ys)) _ (by exact ⟨Hd ((H.out.set14 hi HP.out HN.out).1.alloc _), Hd ((H.out.set14 hi HP.out HN.out).2.fresh ((Below.refl _ _).alloc (by simp [World.setCell]) _) H.out.Bsize), Hd (HY.out.step (fun k hk hl => (Below.heap_alloc _ _ k (by simpa [World.setCell] using hl)).trans (far13o (HOK.out k hk))))⟩) ?_
 clear H HN HY
 intro w2 ⟨G2, S2, HY2⟩
 clear x0 z0 x1 z1 x2 z2 x3 z3 x4 z4 x5 z5 x6 z6 x7 z7 x8 z8 x9 z9 x10 z10 x11 z11 x12 z12
 go_wp2_with fail
 refine (gput_any _ B g _ μ ok G2.out A c ys HY2.out hl).mono ?_
 rintro e w3 ⟨μ', rfl, hG, hS, hp3, _, _⟩
 have HG := Hd hG
 have HS := Hd (S2.out.trans hS)
 have HP3 := Hd hp3
 clear hG hS hp3
 go_wp2_with fail
 go_end0
 exact ⟨μ', rfl, HG.out, HS.out, HP3.out⟩
theorem gDrop_any (w : World) (B g : Nat) (s : GS) (μ : GM) (ok : Nat → Prop) (h : GroupAt w B g s μ ok) (a : Int) (hl : s.f.length ≤ 1000000) :
  Calls Try.prog 44 #[.pointer (some ⟨g, 0, none⟩), .int .i64 a] w fun e w' => ∃ μ', e = .returned (.bool (s.has a)) ∧ GroupAt w' B g (s.cut a) μ' ok ∧ GStep w w' B g μ μ' ok ok := by
 have HT := Hd (gtake_any w B g s μ ok h a hl)
 have HLT := Hd h.Bsize
 clear h
 go_enter Try.func44, Try.ntmps44
 go_wp2_with fail
 refine HT.out.mono ?_
 rintro e w1 ⟨μ', hat, hG, hS, _⟩
 have HG := Hd (hG.alloc)
 have HS := Hd hS
 have HBW := Hd hS.below.size
 clear hG hS
 rcases hat with ⟨hs, A, c, rfl, _⟩ | ⟨hs, rfl⟩
 ·have H1 := Hd hs
  clear hs
  go_wp2_with fail
  go_ret
  exact ⟨μ', MM.ret_bool H1.out.symm, HG.out _, HS.out.fresh ((Below.refl _ _).alloc HBW.out _) HLT.out⟩
 ·have H1 := Hd hs
  clear hs
  go_wp2_with fail
  go_ret
  exact ⟨μ', MM.ret_bool H1.out.symm, HG.out _, HS.out.fresh ((Below.refl _ _).alloc HBW.out _) HLT.out⟩
end Go.Proofs.Ytnkmljdkokcdjaa
namespace Go.Proofs.Ytnkmljdkokcdjaa
open Go.RowKit Fed
attribute [local go_sem high] Fed.max2_int Fed.min2_int Fed.MA Fed.ZN Fed.ZM Fed.NA
theorem isUp_some {s : GS} {id : Int} (h : s.isUp id = true) : ∃ i : Nat, id = i ∧ i < s.ns.length ∧ s.us.getD i false = true := by
 unfold GS.isUp at h
 simp only [Bool.and_eq_true, decide_eq_true_eq] at h
 obtain ⟨i, rfl⟩ := Int.eq_ofNat_of_zero_le h.1.1
 exact ⟨i, rfl, by omega, by simpa using h.2⟩
def UpSays (s : GS) (μ : GM) (id : Int) (e : Ending) : Prop := (∃ i pb : Nat, s.isUp id = true ∧ id = (i : Int) ∧ i < s.ns.length ∧ μ.p = some pb ∧ e = .returned (.pointer (some ⟨pb, i * 14, none⟩))) ∨ (s.isUp id = false ∧ e = .returned (.pointer none))
theorem gup_any (w : World) (B g : Nat) (s : GS) (μ : GM) (ok : Nat → Prop) (h : GroupAt w B g s μ ok) (id : Int) (hl : s.ns.length ≤ 1000) :
  Calls Try.prog 77 #[.pointer (some ⟨g, 0, none⟩), .int .i64 id] w fun e w' => UpSays s μ id e ∧ w = w' := by
 have c0 := h.c0
 by_cases h0 : id < 0
 ·have h0b : decide (id < 0) = true := decide_eq_true h0
  have hu : s.isUp id = false := by unfold GS.isUp; rw [decide_eq_false (by omega)]; rfl
  clear h
  go_enter Try.func77, Try.ntmps77
  go_wp2
  go_ret
  exact ⟨.inr ⟨hu, rfl⟩, rfl⟩
 have h0b : decide (id < 0) = false := decide_eq_false h0
 obtain ⟨i, rfl⟩ := Int.eq_ofNat_of_zero_le (show 0 ≤ id by omega)
 by_cases h1 : i < s.ns.length
 ·have h1b : decide ((s.ns.length : Int) ≤ (i : Int)) = false := decide_eq_false (by omega)
  obtain ⟨pb, hp, ea, hc1, hc2, hf, σ, v, hc⟩ := h.place h1
  have c13 : w.cell? ⟨pb, i * 14 + 13, none⟩ = some (.bool (s.us.getD i false)) := hc 13 _ rfl
  have hu : s.isUp (i : Int) = s.us.getD i false := by
   unfold GS.isUp
   rw [decide_eq_true (show (0 : Int) ≤ (i : Int) by omega), decide_eq_true (show (i : Int) < (s.ns.length : Int) by omega), Int.toNat_natCast]; rfl
  rw [ea] at c0
  clear h hc hf v
  generalize s.us.getD i false = u at c13 hu
  have HU := Hd hu
  clear hu
  have HP := Hd hp
  clear hp ea
  cases u
  ·go_enter Try.func77, Try.ntmps77
   go_wp2
   go_ret
   exact ⟨.inr ⟨HU.out, rfl⟩, rfl⟩
  ·go_enter Try.func77, Try.ntmps77
   go_wp2
   go_ret
   exact ⟨.inl ⟨i, pb, HU.out, rfl, h1, HP.out, rfl⟩, rfl⟩
 ·have h1b : decide ((s.ns.length : Int) ≤ (i : Int)) = true := decide_eq_true (by omega)
  have hu : s.isUp i = false := by unfold GS.isUp; rw [decide_eq_false (show ¬ (i : Int) < (s.ns.length : Int) by omega), Bool.and_false]; rfl
  clear h
  go_enter Try.func77, Try.ntmps77
  go_wp2
  go_ret
  exact ⟨.inr ⟨hu, rfl⟩, rfl⟩
theorem gUp_any (w : World) (B g : Nat) (s : GS) (μ : GM) (ok : Nat → Prop) (h : GroupAt w B g s μ ok) (id : Int) (hl : s.ns.length ≤ 1000) :
  Calls Try.prog 40 #[.pointer (some ⟨g, 0, none⟩), .int .i64 id] w fun e w' => e = .returned (.bool (s.isUp id)) ∧ w = w' := by
 have HU := Hd (gup_any w B g s μ ok h id hl)
 clear h
 go_enter Try.func40, Try.ntmps40
 go_wp2_with fail
 refine HU.out.mono ?_
 rintro e w' ⟨⟨i, pb, h1, h2, h3, h4, rfl⟩ | ⟨h1, rfl⟩, rfl⟩
 ·have H1 := Hd h1
  clear h4 h2 h1
  go_wp2
  go_ret
  exact ⟨MM.ret_bool H1.out.symm, rfl⟩
 ·have H1 := Hd h1
  clear h1
  go_wp2
  go_ret
  exact ⟨MM.ret_bool H1.out.symm, rfl⟩
theorem gFlight_any (w : World) (B g : Nat) (s : GS) (μ : GM) (ok : Nat → Prop) (h : GroupAt w B g s μ ok) :
  Calls Try.prog 47 #[.pointer (some ⟨g, 0, none⟩)] w fun e w' => e = .returned (.int .i64 s.f.length) ∧ w = w' := by
 have c1 := h.c1
 clear h
 go_enter Try.func47, Try.ntmps47
 go_wp2
 go_ret
 exact ⟨rfl, rfl⟩
theorem GroupAt.setUp {w : World} {B g : Nat} {s : GS} {μ : GM} {ok : Nat → Prop} (h : GroupAt w B g s μ ok) {i pb : Nat} (hi : i < s.ns.length) (hp : μ.p = some pb) (u : Bool) :
  GroupAt (w.setCell ⟨pb, i * 14 + 13, none⟩ (.bool u)) B g ⟨s.ns, s.us.set i u, s.f⟩ μ ok ∧ GStep w (w.setCell ⟨pb, i * 14 + 13, none⟩ (.bool u)) B g μ μ ok ok := by
 have tp := h.typ pb hp
 have far : ∀ k, k ≠ pb → (w.setCell ⟨pb, i * 14 + 13, none⟩ (.bool u)).heap[k]? = w.heap[k]? := fun k hk => Below.heap_setCell w _ _ k hk
 have okp : ∀ k, ok k → k ≠ pb := fun k hk e => h.no k hk (.inr (.inl (by rw [hp, e])))
 have fbp : ∀ k, μ.fb = some k → k ≠ pb := fun k hk => ty_ne (h.tyf k hk) tp (by decide)
 obtain ⟨cs, p1, p2⟩ := h.pl
 obtain ⟨ds, f1, f2⟩ := h.fl
 have hlp := (h.ltp pb hp).2
 refine ⟨⟨h.hB, (far g (ty_ne h.tyg tp (by decide))).trans h.blk, by simp [h.ul], ⟨cs.set (i * 14 + 13) (.bool u), ?_, fun j n v hn hv => ?_⟩, ⟨ds, f1.step fun k hk _ => far k (fbp k hk), f2.step fun k hk _ => far k (okp k hk)⟩, h.no, fun k hk => by have := h.okl k hk; simpa [World.setCell] using this⟩, ⟨(Below.refl B w).setCell (h.ltp pb hp).1 _, fun k hk hn => far k (fun e => hn (.inr (.inl (by rw [hp, e])))), fun _ q => .inl q, fun _ q => .inl q⟩⟩
 ·rw [hp] at p1 ⊢
  obtain ⟨h0, cap, cur, h1, h2, h3, h4, h5, h6, h7⟩ := p1
  refine ⟨by rw [List.length_set]; exact h0, cap, cur.setIfInBounds (i * 14 + 13) (.bool u), h1, h2, ?_, h4, h5, by simp [h6], ?_⟩
  ·simp [World.setCell, Array.getElem?_modify, h3]
  ·rw [Array.toList_setIfInBounds, ← h7, List.take_set]
 ·have hl0 := p1.len
  have hv' : (s.us.set i u)[j]? = some v := hv
  rw [List.getElem?_set] at hv'
  have hjl : j < s.ns.length := (List.getElem?_eq_some_iff.1 hn).1
  by_cases e : i = j
  ·subst e
   rw [if_pos rfl, if_pos (by rw [h.ul]; exact hi)] at hv'
   injection hv' with hv'
   subst hv'
   obtain ⟨σ, q, hc⟩ := p2 i n (s.us.getD i false) hn (by rw [List.getD_eq_getElem?_getD, List.getElem?_eq_getElem (by rw [h.ul]; exact hi)]; rfl)
   refine ⟨σ, q.step fun k hk _ => far k (okp k hk), fun m x hx => ?_⟩
   have hm := (List.getElem?_eq_some_iff.1 hx).1
   rw [placeL_len] at hm
   rw [List.getElem?_set]
   by_cases e13 : m = 13
   ·subst e13
    rw [if_pos rfl, if_pos (by omega)]
    exact hx
   ·rw [if_neg (by omega)]
    refine hc m x ?_
    have : m < (nodeL n σ).length := by rw [nodeL_len]; omega
    unfold placeL at hx ⊢
    rw [List.getElem?_append_left this] at hx ⊢
    exact hx
  ·rw [if_neg e] at hv'
   obtain ⟨σ, q, hc⟩ := p2 j n v hn hv'
   refine ⟨σ, q.step fun k hk _ => far k (okp k hk), fun m x hx => ?_⟩
   have hm := (List.getElem?_eq_some_iff.1 hx).1
   rw [placeL_len] at hm
   rw [List.getElem?_set, if_neg (by omega)]
   exact hc m x hx
theorem gCrash_any (w : World) (B g : Nat) (s : GS) (μ : GM) (ok : Nat → Prop) (h : GroupAt w B g s μ ok) (id : Int) (hl : s.ns.length ≤ 1000) :
  Calls Try.prog 37 #[.pointer (some ⟨g, 0, none⟩), .int .i64 id] w fun e w' => e = .returned (.bool (s.isUp id)) ∧ GroupAt w' B g (s.crash id) μ ok ∧ GStep w w' B g μ μ ok ok := by
 have HU := Hd (gup_any w B g s μ ok h id hl)
 have H := Hd h
 clear h
 go_enter Try.func37, Try.ntmps37
 go_wp2_with fail
 refine HU.out.mono ?_
 rintro e w' ⟨⟨i, pb, h1, rfl, h3, h4, rfl⟩ | ⟨h1, rfl⟩, rfl⟩
 ·have HS := Hd (H.out.setUp h3 h4 false)
  have hfz : w.frozen? ⟨pb, i * 14 + 13, none⟩ = false := by
   obtain ⟨pb', hp', _, _, _, hf, _⟩ := H.out.place h3
   rw [h4] at hp'
   injection hp' with hp'
   rw [hp']
   exact hf _
  have hcc : ∃ u, w.cell? ⟨pb, i * 14 + 13, none⟩ = some u := by
   obtain ⟨pb', hp', _, _, _, hf, σ, _, hc⟩ := H.out.place h3
   rw [h4] at hp'
   injection hp' with hp'
   rw [hp']
   exact ⟨_, hc 13 _ rfl⟩
  obtain ⟨u, hcc⟩ := hcc
  have H1 := Hd h1
  have e : s.crash (i : Int) = ⟨s.ns, s.us.set i false, s.f⟩ := by unfold GS.crash; rw [if_pos h1]; rfl
  rw [← e] at HS
  clear h1 h4 e
  go_wp2
  go_ret
  exact ⟨MM.ret_bool H1.out.symm, HS.out⟩
 ·have e : s.crash id = s := by unfold GS.crash; rw [h1]; rfl
  rw [← e] at H
  have H1 := Hd h1
  clear h1 e
  go_wp2
  go_ret
  exact ⟨MM.ret_bool H1.out.symm, H.out, GStep.refl _ _ _ _ _⟩
end Go.Proofs.Ytnkmljdkokcdjaa
namespace Go.Proofs.Ytnkmljdkokcdjaa
open Go.RowKit Fed Go.RT
attribute [local go_sem high] Fed.max2_int Fed.min2_int Fed.MA Fed.ZN Fed.ZM
theorem anew_keep (w : World) (B g : Nat) (s : NS) (μ : NM) (h : NodeAt w B g s μ) (hc0 : -1000000000 ≤ s.n.clock) (hc1 : s.n.clock ≤ 1000000000) (hi0 : -1000000000 ≤ s.n.id) (hi1 : s.n.id ≤ 1000000000) :
  Calls Try.prog 102 #[.pointer (some ⟨g, 0, none⟩)] w
   fun e w' => e = .returned (.tuple #[]) ∧ NodeAt w' B g ⟨{ s.n with due := s.n.clock + 5 + 2 * s.n.id }, s.out⟩ μ ∧ Below B w w' ∧ Keep g w w' := by
 have c0 : w.cell? ⟨g, 0, none⟩ = some (.int .i64 s.n.id) := h.c 0 _ rfl
 have c11 : w.cell? ⟨g, 11, none⟩ = some (.int .i64 s.n.clock) := h.c 11 _ rfl
 have c12 : w.cell? ⟨g, 12, none⟩ = some (.int .i64 s.n.due) := h.c 12 _ rfl
 have fr12 := h.fr 12
 have H := Hd h
 clear h
 go_enter Try.func102, Try.ntmps102
 go_wp2
 refine wT (.p 0 (.p 1 (.p 2 (.p 3 (.p 4 (.s 5 (.p 6 (.p 7 (.p 8 (.p 9 (.p 10 (.s 11 (.p 12 (.p 13 (.p 14 (.p 15 (.p 16 (.w 17 [] .nil .stop)))))))))))))))))) (by kernel_rfl) (by kernel_rfl) ?_
 (refine sP rfl fun K hK => ?_; go_simp; refine hK _ ?_; clear hK K)
 (refine sP rfl fun K hK => ?_; go_simp; refine hK _ ?_; clear hK K)
 (refine sP rfl fun K hK => ?_; go_simp; refine hK _ ?_; clear hK K)
 (refine sP rfl fun K hK => ?_; go_simp; refine hK _ ?_; clear hK K)
 (refine sP rfl fun K hK => ?_; go_simp; refine hK _ ?_; clear hK K)
 (refine sS rfl fun K hK => ?_; go_simp; refine hK _ ?_; clear hK K)
 (refine sP rfl fun K hK => ?_; go_simp; refine hK _ ?_; clear hK K)
 (refine sP rfl fun K hK => ?_; go_simp; refine hK _ ?_; clear hK K)
 (refine sP rfl fun K hK => ?_; go_simp; refine hK _ ?_; clear hK K)
 (refine sP rfl fun K hK => ?_; go_simp; refine hK _ ?_; clear hK K)
 (refine sP rfl fun K hK => ?_; go_simp; refine hK _ ?_; clear hK K)
 (refine sS rfl fun K hK => ?_; go_simp; refine hK _ ?_; clear hK K)
 (refine sP rfl fun K hK => ?_; go_simp; refine hK _ ?_; clear hK K)
 (refine sP rfl fun K hK => ?_; go_simp; refine hK _ ?_; clear hK K)
 (refine sP rfl fun K hK => ?_; go_simp; refine hK _ ?_; clear hK K)
 (refine sP rfl fun K hK => ?_; go_simp; refine hK _ ?_; clear hK K)
 (refine sP rfl fun K hK => ?_; go_simp; refine hK _ ?_; clear hK K)
 refine sW rfl rfl (fun K hK => ?_) sT
 go_wp2
 refine qN _ _ _ _ (hK _ _ ?_ ?_) <;> clear hK K
 ·exact aN
 refine sN ?_
 go_end0
 refine ⟨rfl, NodeAt.setg H.out.drew (by rfl) rfl rfl rfl rfl rfl rfl, ((Below.refl B w).drew).setCell H.out.hB _, ?_⟩
 exact (Keep.refl g w).drew.set _
theorem append_any (w : World) (B g : Nat) (s : NS) (μ : NM) (m : Fed.Msg) (A : Option Addr) (c : Nat) (h : NodeAt w B g s μ) (hr : MM.Rd w (fun k => k < B) 2 (.slice A m.entries.length c) m.entries.length (entsC m.entries)) (ho : s.out.length ≤ 800000) (hl : s.n.log.length ≤ 700000) (he : m.entries.length ≤ 1000)
  (hc0 : -1000000000 ≤ s.n.clock) (hc1 : s.n.clock ≤ 1000000000) (hi0 : -1000000000 ≤ s.n.id) (hi1 : s.n.id ≤ 1000000000) (hz : 0 ≤ m.index ∧ m.index ≤ 1000000) :
  Calls Try.prog 67 #[.pointer (some ⟨g, 0, none⟩), .agg (MA m (.slice A m.entries.length c))] w
   fun e w' => ∃ μ', e = .returned (.tuple #[]) ∧ NodeAt w' B g (appendS s m) μ' ∧ Below B w w' := by
 have HR0 := Hd hr
 clear hr
 have hbs := h.Bsize
 have hn0 := h.alloc (.cells (MA m (.slice A m.entries.length c)) 34)
 have hB0 : Below B w (w.alloc (.cells (MA m (.slice A m.entries.length c)) 34)) := (Below.refl B w).alloc hbs _
 have hX0 := MM.alloc_new w (.cells (MA m (.slice A m.entries.length c)) 34)
 obtain ⟨bx, hbx⟩ : ∃ bx, bx = w.heap.size := ⟨_, rfl⟩
 rw [← hbx] at hX0
 go_enter Try.func67, Try.ntmps67
 go_wp2
 rw [← hbx]
 obtain ⟨w0, hw0⟩ : ∃ W, W = w.alloc (.cells (MA m (.slice A m.entries.length c)) 34) := ⟨_, rfl⟩
 have qN0 : NodeAt (w.alloc (.cells (MA m (.slice A m.entries.length c)) 34)) B g s μ := hn0
 have qB0 : Below B w (w.alloc (.cells (MA m (.slice A m.entries.length c)) 34)) := hB0
 have qX0 : ((w.alloc (.cells (MA m (.slice A m.entries.length c)) 34))).heap[bx]? = some (.cells (MA m (.slice A m.entries.length c)) 34 (0, 0)) := hX0
 rw [← hw0] at qN0 qB0 qX0 ⊢
 have HN0 := Hd qN0
 have HB0 := Hd qB0
 have HX0 := Hd qX0
 clear qN0 qB0 qX0 hw0 hn0 hB0 hX0 h
 have c1 : w0.cell? ⟨g, 1, none⟩ = some (.int .i64 s.n.term) := HN0.out.c 1 _ rfl
 have c4 : w0.cell? ⟨g, 4, none⟩ = some (.int .i64 s.n.form) := HN0.out.c 4 _ rfl
 have hge : B ≤ bx := by omega
 have HBX := Hd hbx
 clear hbx
 have d1 : w0.cell? ⟨bx, 1, none⟩ = some (.int .i64 m.frm) := MM.cell_blk HX0.out rfl
 have d3 : w0.cell? ⟨bx, 3, none⟩ = some (.int .i64 m.term) := MM.cell_blk HX0.out rfl
 have d4 : w0.cell? ⟨bx, 4, none⟩ = some (.int .i64 m.index) := MM.cell_blk HX0.out rfl
 have d5 : w0.cell? ⟨bx, 5, none⟩ = some (.int .i64 m.logTerm) := MM.cell_blk HX0.out rfl
 have d7 : w0.cell? ⟨bx, 7, none⟩ = some (.slice A m.entries.length c) := MM.cell_blk HX0.out rfl
 have d8 : w0.cell? ⟨bx, 8, none⟩ = some (.int .i64 m.commit) := MM.cell_blk HX0.out rfl
 have hlt0 := HN0.out.lt
 have hlx0 := MM.blk_lt HX0.out
 go_upto_region 1 with (fail)
 go_cut [4] (fun v4 wc => ∃ b : Nat, v4 = .pointer (some ⟨b, 0, none⟩) ∧ Hid (wc.heap[b]? = some (.cells #[.int .i64 4, .int .i64 0, .int .i64 0, .int .i64 0, .int .i64 (s.n.log.length), .int .i64 0, .bool false, .slice none 0 0, .int .i64 0, .int .i64 s.n.form] 34 (0, 0))) ∧ Hid (wc.heap[bx]? = some (.cells (MA m (.slice A m.entries.length c)) 34 (0, 0))) ∧ Hid (NodeAt wc B g s μ) ∧ Hid (Below B w wc) ∧ Hid (B ≤ b ∧ b ≠ bx ∧ μ.o.ob ≠ some b))
 case first =>
  refine wT (.p 0 (.p 2 (.p 3 (.p 4 (.p 5 (.s 6 (.w 1 [6] (.p 7 (.w 8 [6] (.w 9 [] .nil .stop) .stop)) (.w 8 [6] (.w 1 [6] (.p 7 (.w 9 [] .nil .stop)) .stop) .stop)))))))) (by kernel_rfl) (by kernel_rfl) ?_
  repeat ((first | refine sP rfl fun K hK => ?_ | refine sS rfl fun K hK => ?_); go_simp; refine hK _ ?_; clear hK K)
  refine sW rfl rfl (fun K hK => ?_) ?_
  ·go_wp2_with fail
   refine (last_any _ B g s μ (HN0.out.below (by repeat (first | exact Below.refl _ _ | refine Below.setCell ?_ (by simp) _ | refine Below.alloc ?_ (by simp) _ | refine Below.drew ?_)))).mono ?_
   rintro e w2 ⟨rfl, rfl⟩
   go_wp2_with fail
   refine qN _ _ _ _ (hK _ _ ?_ ?_) <;> clear hK K
   ·repeat first | exact aN | refine aO rfl rfl ?_ | refine aI rfl (by go_simp <;> rfl) ?_
   repeat ((first | refine sP rfl fun K hK => ?_ | refine sS rfl fun K hK => ?_); go_simp; refine hK _ ?_; clear hK K)
   refine sW rfl rfl (fun K hK => ?_) sT
   go_wp2
   refine qN _ _ _ _ (hK _ _ ?_ ?_) <;> clear hK K
   ·repeat first | exact aN | refine aO rfl rfl ?_ | refine aI rfl (by go_simp <;> rfl) ?_
   refine sW rfl rfl (fun K hK => ?_) sT
   go_wp2
   refine qN _ _ _ _ (hK _ _ ?_ ?_) <;> clear hK K
   ·repeat first | exact aN | refine aO rfl rfl ?_ | refine aI rfl (by go_simp <;> rfl) ?_
   refine sN ?_
   go_wp2_with fail
   go_meet
   case rel => exact ⟨w0.heap.size, rfl, Hd (MM.alloc_new w0 _), Hd ((Below.heap_alloc w0 _ bx hlx0).trans HX0.out), Hd (HN0.out.alloc _).drew, Hd (HB0.out.alloc HN0.out.Bsize _).drew, Hd ⟨HN0.out.Bsize, by omega, fun e => by obtain ⟨cs, hro, _⟩ := HN0.out.ho; have := (hro.lt _ e).2; omega⟩⟩
  refine sW rfl rfl (fun K hK => ?_) sT
  go_wp2
  refine qN _ _ _ _ (hK _ _ ?_ ?_) <;> clear hK K
  ·repeat first | exact aN | refine aO rfl rfl ?_ | refine aI rfl (by go_simp <;> rfl) ?_
  refine sW rfl rfl (fun K hK => ?_) sT
  go_wp2_with fail
  refine (last_any _ B g s μ (HN0.out.below (by repeat (first | exact Below.refl _ _ | refine Below.setCell ?_ (by simp) _ | refine Below.alloc ?_ (by simp) _ | refine Below.drew ?_)))).mono ?_
  rintro e w2 ⟨rfl, rfl⟩
  go_wp2_with fail
  refine qN _ _ _ _ (hK _ _ ?_ ?_) <;> clear hK K
  ·repeat first | exact aN | refine aO rfl rfl ?_ | refine aI rfl (by go_simp <;> rfl) ?_
  repeat ((first | refine sP rfl fun K hK => ?_ | refine sS rfl fun K hK => ?_); go_simp; refine hK _ ?_; clear hK K)
  refine sW rfl rfl (fun K hK => ?_) sT
  go_wp2
  refine qN _ _ _ _ (hK _ _ ?_ ?_) <;> clear hK K
  ·repeat first | exact aN | refine aO rfl rfl ?_ | refine aI rfl (by go_simp <;> rfl) ?_
  refine sN ?_
  go_wp2_with fail
  go_meet
  case rel => exact ⟨w0.heap.size, rfl, Hd (MM.alloc_new w0 _), Hd ((Below.heap_alloc w0 _ bx hlx0).trans HX0.out), Hd (HN0.out.alloc _).drew, Hd (HB0.out.alloc HN0.out.Bsize _).drew, Hd ⟨HN0.out.Bsize, by omega, fun e => by obtain ⟨cs, hro, _⟩ := HN0.out.ho; have := (hro.lt _ e).2; omega⟩⟩
 case rest =>
  obtain ⟨bz, rfl, HZ, HX, HN, HB, HG⟩ := hcut
  clear HX0 HN0 HB0 hlt0 hlx0 c1 c4 d1 d3 d4 d5 d7 d8
  have c1 : wc.cell? ⟨g, 1, none⟩ = some (.int .i64 s.n.term) := HN.out.c 1 _ rfl
  have d3 : wc.cell? ⟨bx, 3, none⟩ = some (.int .i64 m.term) := MM.cell_blk HX.out rfl
  go_wp2
  refine wT (.p 0 (.s 1 (.p 2 (.p 3 (.p 4 (.p 5 (.s 6 (.p 7 .nil)))))))) (by kernel_rfl) (by kernel_rfl) ?_
  repeat ((first | refine sP rfl fun K hK => ?_ | refine sS rfl fun K hK => ?_); go_simp; refine hK _ ?_; clear hK K)
  refine sN ?_
  obtain ⟨wq, hwq⟩ : ∃ W, W = wc.drew := ⟨_, rfl⟩
  have qNq : NodeAt (wc.drew) B g s μ := HN.out.drew
  have qBq : Below B w (wc.drew) := HB.out.drew
  have qZq : ((wc.drew)).heap[bz]? = some (.cells #[.int .i64 4, .int .i64 0, .int .i64 0, .int .i64 0, .int .i64 (s.n.log.length), .int .i64 0, .bool false, .slice none 0 0, .int .i64 0, .int .i64 s.n.form] 34 (0, 0)) := HZ.out
  have qXq : ((wc.drew)).heap[bx]? = some (.cells (MA m (.slice A m.entries.length c)) 34 (0, 0)) := HX.out
  rw [← hwq] at qNq qBq qZq qXq ⊢
  have HNq := Hd qNq
  have HBq := Hd qBq
  have HZq := Hd qZq
  have HXq := Hd qXq
  clear qNq qBq qZq qXq hwq HZ HX HN HB c1 d3
  go_upto_if 20 with (fail)
  go_cut [] (fun wc => ∃ (n' : Fed.Node) (ix : Int) (ok : Bool) (μ' : NM), Hid (appendS s m = ⟨n', s.out ++ [⟨4, n'.id, m.frm, n'.term, ix, 0, ok, [], 0, s.n.form⟩]⟩) ∧ Hid (wc.heap[bz]? = some (.cells #[.int .i64 4, .int .i64 0, .int .i64 0, .int .i64 0, .int .i64 (ix), .int .i64 0, .bool ok, .slice none 0 0, .int .i64 0, .int .i64 s.n.form] 34 (0, 0))) ∧ Hid (wc.heap[bx]? = some (.cells (MA m (.slice A m.entries.length c)) 34 (0, 0))) ∧ Hid (NodeAt wc B g ⟨n', s.out⟩ μ') ∧ Hid (Below B w wc))
  case first =>
   by_cases ht : m.term = s.n.term
   case neg =>
    have htb : (m.term == s.n.term) = false := by simpa using ht
    have HS := Hd (show appendS s m = ⟨s.n, s.out ++ [matchMsg s.n m.frm s.n.log.length false]⟩ from by unfold appendS; rw [if_pos ht])
    clear ht
    go_wp2
    go_meet
    case rel => exact ⟨s.n, s.n.log.length, false, μ, HS, HZq, HXq, HNq, HBq⟩
   have htb : (m.term == s.n.term) = true := by simpa using ht
   have HS := Hd (show appendS s m = if fits s.n m = false then ⟨appendN0 s.n, s.out ++ [matchMsg s.n m.frm (mn s.n.log.length (m.index - 1)) false]⟩ else ⟨appendN s.n m, s.out ++ [matchMsg s.n m.frm (m.index + m.entries.length) true]⟩ from by unfold appendS; rw [if_neg (by simp [ht])])
   clear ht
   have c5 : wq.cell? ⟨g, 5, none⟩ = some (.int .i64 s.n.role) := HNq.out.c 5 _ rfl
   have fr5 := HNq.out.fr 5
   go_wp2_with fail
   obtain ⟨w2, hw2⟩ : ∃ W, W = wq.setCell ⟨g, 5, none⟩ (.int .i64 0) := ⟨_, rfl⟩
   have qN2 : NodeAt (wq.setCell ⟨g, 5, none⟩ (.int .i64 0)) B g ⟨{ s.n with role := 0 }, s.out⟩ μ := HNq.out.setg rfl rfl rfl rfl rfl rfl rfl
   have qB2 : Below B w (wq.setCell ⟨g, 5, none⟩ (.int .i64 0)) := HBq.out.setCell (p := ⟨g, 5, none⟩) HNq.out.hB _
   have qZ2 : ((wq.setCell ⟨g, 5, none⟩ (.int .i64 0))).heap[bz]? = some (.cells #[.int .i64 4, .int .i64 0, .int .i64 0, .int .i64 0, .int .i64 (s.n.log.length), .int .i64 0, .bool false, .slice none 0 0, .int .i64 0, .int .i64 s.n.form] 34 (0, 0)) := ret_far HZq.out (p := ⟨g, 5, none⟩) (ty_ne ⟨_, _, HZq.out⟩ HNq.out.tyg (by decide)) _
   have qX2 : ((wq.setCell ⟨g, 5, none⟩ (.int .i64 0))).heap[bx]? = some (.cells (MA m (.slice A m.entries.length c)) 34 (0, 0)) := ret_far HXq.out (p := ⟨g, 5, none⟩) (ty_ne ⟨_, _, HXq.out⟩ HNq.out.tyg (by decide)) _
   rw [← hw2] at qN2 qB2 qZ2 qX2 ⊢
   have HN2 := Hd qN2
   have HB2 := Hd qB2
   have HZ2 := Hd qZ2
   have HX2 := Hd qX2
   clear qN2 qB2 qZ2 qX2 hw2
   clear HZq HXq HNq HBq c5 fr5
   refine (anew_keep _ B g _ _ HN2.out hc0 hc1 hi0 hi1).mono ?_
   rintro e w3 ⟨rfl, hn3, hb3, hk3⟩
   have HN3 := Hd (show NodeAt w3 B g ⟨appendN0 s.n, s.out⟩ μ from hn3)
   have HB3 := Hd (HB2.out.trans hb3)
   have HZ3 := Hd (hk3.blk HZ2.out (ty_ne ⟨_, _, HZ2.out⟩ HN2.out.tyg (by decide)))
   have HX3 := Hd (hk3.blk HX2.out (ty_ne ⟨_, _, HX2.out⟩ HN2.out.tyg (by decide)))
   clear hn3 hb3 hk3 HN2 HB2 HZ2 HX2
   have d4 : w3.cell? ⟨bx, 4, none⟩ = some (.int .i64 m.index) := MM.cell_blk HX3.out rfl
   have d5 : w3.cell? ⟨bx, 5, none⟩ = some (.int .i64 m.logTerm) := MM.cell_blk HX3.out rfl
   go_upto_region 5 with (fail)
   go_cut [45] (fun v45 wc => v45 = .bool (!fits s.n m) ∧ Hid (wc.heap[bz]? = some (.cells #[.int .i64 4, .int .i64 0, .int .i64 0, .int .i64 0, .int .i64 (s.n.log.length), .int .i64 0, .bool false, .slice none 0 0, .int .i64 0, .int .i64 s.n.form] 34 (0, 0))) ∧ Hid (wc.heap[bx]? = some (.cells (MA m (.slice A m.entries.length c)) 34 (0, 0))) ∧ Hid (NodeAt wc B g ⟨appendN0 s.n, s.out⟩ μ) ∧ Hid (Below B w wc))
   case first =>
    have REL5 : ∀ b : Bool, (!fits s.n m) = b → (Value.bool b = .bool (!fits s.n m) ∧ Hid (w3.drew.heap[bz]? = some (.cells #[.int .i64 4, .int .i64 0, .int .i64 0, .int .i64 0, .int .i64 (s.n.log.length), .int .i64 0, .bool false, .slice none 0 0, .int .i64 0, .int .i64 s.n.form] 34 (0, 0))) ∧ Hid (w3.drew.heap[bx]? = some (.cells (MA m (.slice A m.entries.length c)) 34 (0, 0))) ∧ Hid (NodeAt w3.drew B g ⟨appendN0 s.n, s.out⟩ μ) ∧ Hid (Below B w w3.drew)) := fun b hb => ⟨by rw [hb], HZ3, HX3, Hd HN3.out.drew, Hd HB3.out.drew⟩
    have HREL := Hd REL5
    clear REL5
    by_cases h1 : (s.n.log.length : Int) < m.index
    ·have h1b : decide ((s.n.log.length : Int) < m.index) = true := decide_eq_true h1
     have HF := Hd (show (!fits s.n m) = true from by simp [fits, h1])
     clear h1
     refine wT (.p 0 (.s 1 (.p 2 (.w 3 [1] (.p 4 (.p 5 (.p 6 (.s 7 (.p 8 (.p 9 (.p 10 (.p 11 (.s 12 (.p 14 (.s 15 (.w 13 [15] (.p 16 (.p 17 (.p 18 .nil))) .stop)))))))))))) .stop)))) (by kernel_rfl) (by kernel_rfl) ?_
     repeat ((first | refine sP rfl fun K hK => ?_ | refine sS rfl fun K hK => ?_); go_simp; refine hK _ ?_; clear hK K)
     refine sW rfl rfl (fun K hK => ?_) sT
     go_wp2_with fail
     refine ((show Calls Try.prog 98 #[.pointer (some ⟨g, 0, none⟩)] _ (fun e w' => e = .returned (.int .i64 s.n.log.length) ∧ _ = w') from last_any _ B g ⟨appendN0 s.n, s.out⟩ μ (HN3.out.below (by repeat (first | exact Below.refl _ _ | refine Below.setCell ?_ (by simp) _ | refine Below.alloc ?_ (by simp) _ | refine Below.drew ?_))))).mono ?_
     rintro e w2 ⟨rfl, rfl⟩
     go_wp2_with fail
     refine qN _ _ _ _ (hK _ _ ?_ ?_) <;> clear hK K
     ·repeat first | exact aN | refine aO rfl rfl ?_ | refine aI rfl (by go_simp <;> rfl) ?_
     repeat ((first | refine sP rfl fun K hK => ?_ | refine sS rfl fun K hK => ?_); go_simp; refine hK _ ?_; clear hK K)
     (refine kW rfl rfl ?_ sT)
     (try simp only [Act.put, List.setIfInBounds_toArray, List.set_cons_zero, List.set_cons_succ])
     repeat ((first | refine sP rfl fun K hK => ?_ | refine sS rfl fun K hK => ?_); go_simp; refine hK _ ?_; clear hK K)
     refine sN ?_
     go_wp2_with fail
     go_meet
     case rel => exact HREL.out _ HF.out
    have h1b : decide ((s.n.log.length : Int) < m.index) = false := decide_eq_false h1
    by_cases h2 : 0 < m.index
    case neg =>
     have h2b : decide (0 < m.index) = false := decide_eq_false h2
     have HF := Hd (show (!fits s.n m) = false from by simp [fits, h1, h2])
     clear h1 h2
     refine wT (.p 0 (.s 1 (.p 2 (.w 3 [1] (.p 4 (.p 5 (.p 6 (.s 7 (.p 8 (.p 9 (.p 10 (.p 11 (.s 12 (.p 14 (.s 15 (.w 13 [15] (.p 16 (.p 17 (.p 18 .nil))) .stop)))))))))))) .stop)))) (by kernel_rfl) (by kernel_rfl) ?_
     repeat ((first | refine sP rfl fun K hK => ?_ | refine sS rfl fun K hK => ?_); go_simp; refine hK _ ?_; clear hK K)
     refine sW rfl rfl (fun K hK => ?_) sT
     go_wp2_with fail
     refine ((show Calls Try.prog 98 #[.pointer (some ⟨g, 0, none⟩)] _ (fun e w' => e = .returned (.int .i64 s.n.log.length) ∧ _ = w') from last_any _ B g ⟨appendN0 s.n, s.out⟩ μ (HN3.out.below (by repeat (first | exact Below.refl _ _ | refine Below.setCell ?_ (by simp) _ | refine Below.alloc ?_ (by simp) _ | refine Below.drew ?_))))).mono ?_
     rintro e w2 ⟨rfl, rfl⟩
     go_wp2_with fail
     refine qN _ _ _ _ (hK _ _ ?_ ?_) <;> clear hK K
     ·repeat first | exact aN | refine aO rfl rfl ?_ | refine aI rfl (by go_simp <;> rfl) ?_
     repeat ((first | refine sP rfl fun K hK => ?_ | refine sS rfl fun K hK => ?_); go_simp; refine hK _ ?_; clear hK K)
     (refine kW rfl rfl ?_ sT)
     (try simp only [Act.put, List.setIfInBounds_toArray, List.set_cons_zero, List.set_cons_succ])
     repeat ((first | refine sP rfl fun K hK => ?_ | refine sS rfl fun K hK => ?_); go_simp; refine hK _ ?_; clear hK K)
     refine sN ?_
     go_wp2_with fail
     go_meet
     case rel => exact HREL.out _ HF.out
    have h2b : decide (0 < m.index) = true := decide_eq_true h2
    by_cases h3 : termAt s.n.log m.index = m.logTerm
    ·have h3b : (termAt s.n.log m.index != m.logTerm) = false := by simpa using h3
     have HF := Hd (show (!fits s.n m) = false from by simp [fits, h1, h2, h3])
     clear h1 h2 h3
     refine wT (.p 0 (.s 1 (.p 2 (.w 3 [1] (.p 4 (.p 5 (.p 6 (.s 7 (.p 8 (.p 9 (.p 10 (.p 11 (.s 12 (.p 14 (.s 15 (.w 13 [15] (.p 16 (.p 17 (.p 18 .nil))) .stop)))))))))))) .stop)))) (by kernel_rfl) (by kernel_rfl) ?_
     repeat ((first | refine sP rfl fun K hK => ?_ | refine sS rfl fun K hK => ?_); go_simp; refine hK _ ?_; clear hK K)
     refine sW rfl rfl (fun K hK => ?_) sT
     go_wp2_with fail
     refine ((show Calls Try.prog 98 #[.pointer (some ⟨g, 0, none⟩)] _ (fun e w' => e = .returned (.int .i64 s.n.log.length) ∧ _ = w') from last_any _ B g ⟨appendN0 s.n, s.out⟩ μ (HN3.out.below (by repeat (first | exact Below.refl _ _ | refine Below.setCell ?_ (by simp) _ | refine Below.alloc ?_ (by simp) _ | refine Below.drew ?_))))).mono ?_
     rintro e w2 ⟨rfl, rfl⟩
     go_wp2_with fail
     refine qN _ _ _ _ (hK _ _ ?_ ?_) <;> clear hK K
     ·repeat first | exact aN | refine aO rfl rfl ?_ | refine aI rfl (by go_simp <;> rfl) ?_
     repeat ((first | refine sP rfl fun K hK => ?_ | refine sS rfl fun K hK => ?_); go_simp; refine hK _ ?_; clear hK K)
     refine sW rfl rfl (fun K hK => ?_) sT
     go_wp2_with fail
     refine ((show Calls Try.prog 100 #[.pointer (some ⟨g, 0, none⟩), .int .i64 m.index] _ (fun e w' => e = .returned (.int .i64 (termAt s.n.log m.index)) ∧ _ = w') from term_any _ B g ⟨appendN0 s.n, s.out⟩ μ _ (by omega) (by omega) (HN3.out.below (by repeat (first | exact Below.refl _ _ | refine Below.setCell ?_ (by simp) _ | refine Below.alloc ?_ (by simp) _ | refine Below.drew ?_))))).mono ?_
     rintro e w2 ⟨rfl, rfl⟩
     go_wp2_with fail
     refine qN _ _ _ _ (hK _ _ ?_ ?_) <;> clear hK K
     ·repeat first | exact aN | refine aO rfl rfl ?_ | refine aI rfl (by go_simp <;> rfl) ?_
     repeat ((first | refine sP rfl fun K hK => ?_ | refine sS rfl fun K hK => ?_); go_simp; refine hK _ ?_; clear hK K)
     refine sN ?_
     go_wp2_with fail
     go_meet
     case rel => exact HREL.out _ HF.out
    ·have h3b : (termAt s.n.log m.index != m.logTerm) = true := by simpa using h3
     have HF := Hd (show (!fits s.n m) = true from by simp [fits, h1, h2, h3])
     clear h1 h2 h3
     refine wT (.p 0 (.s 1 (.p 2 (.w 3 [1] (.p 4 (.p 5 (.p 6 (.s 7 (.p 8 (.p 9 (.p 10 (.p 11 (.s 12 (.p 14 (.s 15 (.w 13 [15] (.p 16 (.p 17 (.p 18 .nil))) .stop)))))))))))) .stop)))) (by kernel_rfl) (by kernel_rfl) ?_
     repeat ((first | refine sP rfl fun K hK => ?_ | refine sS rfl fun K hK => ?_); go_simp; refine hK _ ?_; clear hK K)
     refine sW rfl rfl (fun K hK => ?_) sT
     go_wp2_with fail
     refine ((show Calls Try.prog 98 #[.pointer (some ⟨g, 0, none⟩)] _ (fun e w' => e = .returned (.int .i64 s.n.log.length) ∧ _ = w') from last_any _ B g ⟨appendN0 s.n, s.out⟩ μ (HN3.out.below (by repeat (first | exact Below.refl _ _ | refine Below.setCell ?_ (by simp) _ | refine Below.alloc ?_ (by simp) _ | refine Below.drew ?_))))).mono ?_
     rintro e w2 ⟨rfl, rfl⟩
     go_wp2_with fail
     refine qN _ _ _ _ (hK _ _ ?_ ?_) <;> clear hK K
     ·repeat first | exact aN | refine aO rfl rfl ?_ | refine aI rfl (by go_simp <;> rfl) ?_
     repeat ((first | refine sP rfl fun K hK => ?_ | refine sS rfl fun K hK => ?_); go_simp; refine hK _ ?_; clear hK K)
     refine sW rfl rfl (fun K hK => ?_) sT
     go_wp2_with fail
     refine ((show Calls Try.prog 100 #[.pointer (some ⟨g, 0, none⟩), .int .i64 m.index] _ (fun e w' => e = .returned (.int .i64 (termAt s.n.log m.index)) ∧ _ = w') from term_any _ B g ⟨appendN0 s.n, s.out⟩ μ _ (by omega) (by omega) (HN3.out.below (by repeat (first | exact Below.refl _ _ | refine Below.setCell ?_ (by simp) _ | refine Below.alloc ?_ (by simp) _ | refine Below.drew ?_))))).mono ?_
     rintro e w2 ⟨rfl, rfl⟩
     go_wp2_with fail
     refine qN _ _ _ _ (hK _ _ ?_ ?_) <;> clear hK K
     ·repeat first | exact aN | refine aO rfl rfl ?_ | refine aI rfl (by go_simp <;> rfl) ?_
     repeat ((first | refine sP rfl fun K hK => ?_ | refine sS rfl fun K hK => ?_); go_simp; refine hK _ ?_; clear hK K)
     refine sN ?_
     go_wp2_with fail
     go_meet
     case rel => exact HREL.out _ HF.out
   case rest =>
    obtain ⟨rfl, HZ4, HX4, HN4, HB4⟩ := hcut
    clear HZ3 HX3 HN3 HB3 d4 d5
    have hlt4 := HN4.out.lt
    have d4 : wc.cell? ⟨bx, 4, none⟩ = some (.int .i64 m.index) := MM.cell_blk HX4.out rfl
    have d7 : wc.cell? ⟨bx, 7, none⟩ = some (.slice A m.entries.length c) := MM.cell_blk HX4.out rfl
    have d8 : wc.cell? ⟨bx, 8, none⟩ = some (.int .i64 m.commit) := MM.cell_blk HX4.out rfl
    have b4 : wc.cell? ⟨bz, 4, none⟩ = some (.int .i64 (s.n.log.length)) := MM.cell_blk HZ4.out rfl
    have b6 : wc.cell? ⟨bz, 6, none⟩ = some (.bool false) := MM.cell_blk HZ4.out rfl
    have z4 : wc.frozen? ⟨bz, 4, none⟩ = false := MM.free_blk HZ4.out
    have z6 : wc.frozen? ⟨bz, 6, none⟩ = false := MM.free_blk HZ4.out
    cases hfit : fits s.n m
    ·have HS2 := Hd (show appendS s m = ⟨appendN0 s.n, s.out ++ [matchMsg s.n m.frm (mn s.n.log.length (m.index - 1)) false]⟩ from by rw [HS.out, if_pos hfit])
     clear hfit
     simp only [Bool.not_false]
     go_upto_region 6 with (fail)
     refine wT (.p 0 (.p 2 (.s 3 (.p 4 (.w 1 [3] (.p 5 (.p 6 (.w 7 [] .nil .stop))) .stop))))) (by kernel_rfl) (by kernel_rfl) ?_
     repeat ((first | refine sP rfl fun K hK => ?_ | refine sS rfl fun K hK => ?_); go_simp; refine hK _ ?_; clear hK K)
     refine sW rfl rfl (fun K hK => ?_) sT
     go_wp2_with fail
     refine ((show Calls Try.prog 98 #[.pointer (some ⟨g, 0, none⟩)] _ (fun e w' => e = .returned (.int .i64 s.n.log.length) ∧ _ = w') from last_any _ B g ⟨appendN0 s.n, s.out⟩ μ (HN4.out.below (by repeat (first | exact Below.refl _ _ | refine Below.setCell ?_ (by simp) _ | refine Below.alloc ?_ (by simp) _ | refine Below.drew ?_))))).mono ?_
     rintro e w2 ⟨rfl, rfl⟩
     go_wp2_with fail
     refine qN _ _ _ _ (hK _ _ ?_ ?_) <;> clear hK K
     ·repeat first | exact aN | refine aO rfl rfl ?_ | refine aI rfl (by go_simp <;> rfl) ?_
     repeat ((first | refine sP rfl fun K hK => ?_ | refine sS rfl fun K hK => ?_); go_simp; refine hK _ ?_; clear hK K)
     refine sW rfl rfl (fun K hK => ?_) sT
     go_wp2
     refine qN _ _ _ _ (hK _ _ ?_ ?_) <;> clear hK K
     ·repeat first | exact aN | refine aO rfl rfl ?_ | refine aI rfl (by go_simp <;> rfl) ?_
     refine sN ?_
     go_wp2_with fail
     go_meet
     case rel => exact ⟨appendN0 s.n, mn s.n.log.length (m.index - 1), false, μ, HS2, Hd ((setCell_blk _ HZ4.out).trans rfl), Hd (ret_far HX4.out (p := ⟨bz, _, none⟩) HG.out.2.1.symm _), Hd (HN4.out.far34 ⟨_, _, HZ4.out⟩ HG.out.2.2).drew, Hd (HB4.out.setCell (p := ⟨bz, _, none⟩) HG.out.1 _).drew⟩
    ·have HS2 := Hd (show appendS s m = ⟨appendN s.n m, s.out ++ [matchMsg s.n m.frm (m.index + m.entries.length) true]⟩ from by rw [HS.out, if_neg (by rw [hfit]; simp)])
     have HIX := Hd (show m.index ≤ (s.n.log.length : Int) from by simp [fits] at hfit; omega)
     clear hfit
     have hix : m.index ≤ (s.n.log.length : Int) := HIX.out
     have hmx : mx m.index 0 = m.index := by unfold mx; omega
     have HRD := Hd (HR0.out.step (w1 := wc) (fun k hk _ => HB4.out.block k hk))
     have htk := take_any wc B g ⟨appendN0 s.n, s.out⟩ μ (mx m.index 0).toNat m.entries A c HN4.out HRD.out hl (by show (mx m.index 0).toNat ≤ s.n.log.length; rw [hmx]; omega) he
     rw [show (((mx m.index 0).toNat : Nat) : Int) = mx m.index 0 from by rw [hmx]; omega] at htk
     have HTK := Hd htk
     have HMX := Hd hmx
     clear htk hmx
     simp only [Bool.not_true]
     go_wp2_with fail
     refine HTK.out.mono ?_
     rintro e w5 ⟨μ5, rfl, hn5, hb5, hk5, ho5⟩
     have HN5 := Hd (show NodeAt w5 B g ⟨{ appendN0 s.n with log := takeL s.n.log (mx m.index 0).toNat m.entries }, s.out⟩ μ5 from hn5)
     have HB5 := Hd (HB4.out.trans hb5)
     have HZ5 := Hd (hk5.blk HZ4.out (ty_ne ⟨_, _, HZ4.out⟩ HN4.out.tyg (by decide)))
     have HX5 := Hd (hk5.blk HX4.out (ty_ne ⟨_, _, HX4.out⟩ HN4.out.tyg (by decide)))
     have HO5 := Hd (show μ5.o.ob ≠ some bz from by rw [ho5]; exact HG.out.2.2)
     clear hn5 hb5 hk5 ho5 HN4 HB4 HZ4 HX4 d4 d7 d8 b4 b6 z4 z6 HTK
     have d4 : w5.cell? ⟨bx, 4, none⟩ = some (.int .i64 m.index) := MM.cell_blk HX5.out rfl
     have d7 : w5.cell? ⟨bx, 7, none⟩ = some (.slice A m.entries.length c) := MM.cell_blk HX5.out rfl
     have b4 : w5.cell? ⟨bz, 4, none⟩ = some (.int .i64 (s.n.log.length)) := MM.cell_blk HZ5.out rfl
     have b6 : w5.cell? ⟨bz, 6, none⟩ = some (.bool false) := MM.cell_blk HZ5.out rfl
     have z4 : w5.frozen? ⟨bz, 4, none⟩ = false := MM.free_blk HZ5.out
     have z6 : w5.frozen? ⟨bz, 6, none⟩ = false := MM.free_blk HZ5.out
     go_wp2_with fail
     refine wT (.p 0 (.s 1 (.p 2 (.s 3 (.p 4 (.p 5 (.p 6 (.w 7 [1, 3] (.p 8 (.w 9 [] .nil .stop)) .stop)))))))) (by kernel_rfl) (by kernel_rfl) ?_
     repeat ((first | refine sP rfl fun K hK => ?_ | refine sS rfl fun K hK => ?_); go_simp; refine hK _ ?_; clear hK K)
     refine sW rfl rfl (fun K hK => ?_) sT
     go_wp2
     refine qN _ _ _ _ (hK _ _ ?_ ?_) <;> clear hK K
     ·repeat first | exact aN | refine aO rfl rfl ?_ | refine aI rfl (by go_simp <;> rfl) ?_
     repeat ((first | refine sP rfl fun K hK => ?_ | refine sS rfl fun K hK => ?_); go_simp; refine hK _ ?_; clear hK K)
     refine sW rfl rfl (fun K hK => ?_) sT
     go_wp2
     refine qN _ _ _ _ (hK _ _ ?_ ?_) <;> clear hK K
     ·repeat first | exact aN | refine aO rfl rfl ?_ | refine aI rfl (by go_simp <;> rfl) ?_
     refine sN ?_
     obtain ⟨w6, hw6⟩ : ∃ W, W = ((w5.setCell ⟨bz, 6, none⟩ (.bool true)).setCell ⟨bz, 4, none⟩ (.int .i64 (m.index + m.entries.length))).drew := ⟨_, rfl⟩
     have qN6 : NodeAt (((w5.setCell ⟨bz, 6, none⟩ (.bool true)).setCell ⟨bz, 4, none⟩ (.int .i64 (m.index + m.entries.length))).drew) B g ⟨{ appendN0 s.n with log := takeL s.n.log (mx m.index 0).toNat m.entries }, s.out⟩ μ5 := ((HN5.out.far34 ⟨_, _, HZ5.out⟩ HO5.out).far34 ⟨_, _, setCell_blk _ HZ5.out⟩ HO5.out).drew
     have qB6 : Below B w (((w5.setCell ⟨bz, 6, none⟩ (.bool true)).setCell ⟨bz, 4, none⟩ (.int .i64 (m.index + m.entries.length))).drew) := ((HB5.out.setCell (p := ⟨bz, _, none⟩) HG.out.1 _).setCell (p := ⟨bz, _, none⟩) HG.out.1 _).drew
     have qZ6 : ((((w5.setCell ⟨bz, 6, none⟩ (.bool true)).setCell ⟨bz, 4, none⟩ (.int .i64 (m.index + m.entries.length))).drew)).heap[bz]? = some (.cells #[.int .i64 4, .int .i64 0, .int .i64 0, .int .i64 0, .int .i64 (m.index + m.entries.length), .int .i64 0, .bool true, .slice none 0 0, .int .i64 0, .int .i64 s.n.form] 34 (0, 0)) := (setCell_blk _ (setCell_blk _ HZ5.out)).trans rfl
     have qX6 : ((((w5.setCell ⟨bz, 6, none⟩ (.bool true)).setCell ⟨bz, 4, none⟩ (.int .i64 (m.index + m.entries.length))).drew)).heap[bx]? = some (.cells (MA m (.slice A m.entries.length c)) 34 (0, 0)) := ret_far (p := ⟨bz, _, none⟩) (ret_far HX5.out (p := ⟨bz, _, none⟩) HG.out.2.1.symm _) HG.out.2.1.symm _
     rw [← hw6] at qN6 qB6 qZ6 qX6 ⊢
     have HN6 := Hd qN6
     have HB6 := Hd qB6
     have HZ6 := Hd qZ6
     have HX6 := Hd qX6
     clear qN6 qB6 qZ6 qX6 hw6 HN5 HB5 HZ5 HX5 d4 d7 b4 b6 z4 z6
     have d8 : w6.cell? ⟨bx, 8, none⟩ = some (.int .i64 m.commit) := MM.cell_blk HX6.out rfl
     have b4 : w6.cell? ⟨bz, 4, none⟩ = some (.int .i64 (m.index + m.entries.length)) := MM.cell_blk HZ6.out rfl
     have c6 : w6.cell? ⟨g, 6, none⟩ = some (.int .i64 s.n.commit) := HN6.out.c 6 _ rfl
     have fr6 := HN6.out.fr 6
     go_wp2_with fail
     refine wT (.p 0 (.p 1 (.p 2 (.p 3 (.p 4 (.s 5 (.p 6 (.s 7 (.p 8 (.s 9 (.p 10 (.p 11 (.p 12 (.p 13 (.p 14 (.w 15 [] .nil .stop)))))))))))))))) (by kernel_rfl) (by kernel_rfl) ?_
     repeat ((first | refine sP rfl fun K hK => ?_ | refine sS rfl fun K hK => ?_); go_simp; refine hK _ ?_; clear hK K)
     refine sW rfl rfl (fun K hK => ?_) sT
     go_wp2
     refine qN _ _ _ _ (hK _ _ ?_ ?_) <;> clear hK K
     ·repeat first | exact aN | refine aO rfl rfl ?_ | refine aI rfl (by go_simp <;> rfl) ?_
     refine sN ?_
     go_wp2_with fail
     go_meet
     case rel => exact ⟨appendN s.n m, m.index + m.entries.length, true, μ5, HS2, Hd (ret_far HZ6.out (p := ⟨g, 6, none⟩) (ty_ne ⟨_, _, HZ6.out⟩ HN6.out.tyg (by decide)) _), Hd (ret_far HX6.out (p := ⟨g, 6, none⟩) (ty_ne ⟨_, _, HX6.out⟩ HN6.out.tyg (by decide)) _), Hd (HN6.out.setg (i := 6) (s' := ⟨appendN s.n m, s.out⟩) rfl rfl rfl rfl rfl rfl rfl).drew, Hd (HB6.out.setCell HN6.out.hB _).drew⟩
  case rest =>
   obtain ⟨n', ix, ok, μ', HS, HZ, HX, HN, HB⟩ := hcut
   have d1 : wc.cell? ⟨bx, 1, none⟩ = some (.int .i64 m.frm) := MM.cell_blk HX.out rfl
   obtain ⟨b0, b1, b2, b3, b4, b5, b6, b7, b8, b9⟩ := MM.cells10 HZ.out
   have hvn := MM.Rd.nil wc (fun k => B ≤ k ∧ MM.Ty wc k 40 ∧ μ'.l.ob ≠ some k) 2 none 0 (by simp [maxLen])
   have HVN := Hd hvn
   clear hvn HZq HXq HNq HBq
   go_wp2_with fail
   refine (send_any _ B g ⟨n', s.out⟩ μ' 4 0 0 0 _ _ _ _ _ _ [] _ HN.out (by show s.out.length ≤ 1000000; omega) HVN.out).mono ?_
   rintro e w9 ⟨o9, rfl, hn9, hb9, _⟩
   go_wp2_with fail
   go_end0
   exact ⟨_, rfl, by rw [HS.out]; exact hn9, HB.out.trans hb9⟩
end Go.Proofs.Ytnkmljdkokcdjaa
