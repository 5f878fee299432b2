/-
  The group's Tick and Propose answer as the plain functions. Condition: the group may be walked.
-/
import Derived.WalkKit
import Derived.WalkSpells
import Derived.Lib.Hide
import Derived.Outline
import Derived.Test.YtnkmljdkokcdjaaChecked
import Derived.Test.YtnkmljdkokcdjaaMn
import Derived.Test.YtnkmljdkokcdjaaMem
import Derived.Test.YtnkmljdkokcdjaaFed
import Derived.Test.YtnkmljdkokcdjaaGf
import Derived.Test.YtnkmljdkokcdjaaGb
import Derived.Test.YtnkmljdkokcdjaaRl1
import Derived.Test.YtnkmljdkokcdjaaMm
import Derived.Test.YtnkmljdkokcdjaaMh
import Derived.Deep.DeepCutAuto
import Derived.Deep.CutBlock
import Derived.Deep.OwnRows
import Derived.IntWalk
set_option linter.unusedVariables false
set_option linter.unusedSimpArgs false
namespace Go.Proofs.Ytnkmljdkokcdjaa
open Go.RowKit Fed
set_option linter.unusedVariables false
attribute [local go_sem high] Fed.max2_int Fed.min2_int

/-- A group that may be walked. -/
structure GoodG (K : Nat) (s : GS) : Prop where
  len : s.ns.length = K
  ul : s.us.length = K
  ns : ∀ n ∈ s.ns, NodeGood K n
  fl : s.f.length ≤ 900000
  f : ∀ m ∈ s.f, MsgGood K m
theorem GoodG.node {K : Nat} {s : GS} (h : GoodG K s) {i : Nat} (hi : i < s.ns.length) : NodeGood K (s.node (i : Int)) := by
  unfold GS.node
  rw [Int.toNat_natCast, List.getD_eq_getElem?_getD, List.getElem?_eq_getElem hi]
  exact h.ns _ (List.getElem_mem hi)
theorem GoodG.msg {K : Nat} {s : GS} (h : GoodG K s) {i : Nat} (hi : i < s.f.length) : MsgGood K (s.msg (i : Int)) := by
  unfold GS.msg
  rw [Int.toNat_natCast, List.getD_eq_getElem?_getD, List.getElem?_eq_getElem hi]
  exact h.f _ (List.getElem_mem hi)
/-- It leads to what is new, too. -/
theorem GroupAt.newer {w w1 : World} {B g : Nat} {s : GS} {μ : GM} {ok : Nat → Prop} (h : GroupAt w B g s μ ok) (hb : Below w.heap.size w w1) : GroupAt w1 B g s μ (fun k => ok k ∨ (w.heap.size ≤ k ∧ k < w1.heap.size)) :=
  (h.below hb).more (fun k hk => .inl hk) (fun k hk q => by
    rcases hk with hk | hk
    · exact h.no k hk q
    · have := (h.ownlt k q).2; omega) (fun k hk => by
    rcases hk with hk | hk
    · exact Nat.lt_of_lt_of_le (h.okl k hk) hb.size
    · exact hk.2)
theorem GStep.newer {w w1 w2 : World} {B g : Nat} {μ μ' : GM} {ok : Nat → Prop} (hb : Below w.heap.size w w1) (hB : B ≤ w.heap.size) (h : GStep w1 w2 B g μ μ' (fun k => ok k ∨ (w.heap.size ≤ k ∧ k < w1.heap.size)) (fun k => ok k ∨ (w.heap.size ≤ k ∧ k < w1.heap.size))) : GStep w w2 B g μ μ' ok (fun k => ok k ∨ (w.heap.size ≤ k ∧ k < w1.heap.size)) where
  below := (hb.mono hB).trans h.below
  keep k hk hn := (h.keep k (Nat.lt_of_lt_of_le hk hb.size) hn).trans (hb.block k hk)
  own k q := by
    rcases h.own k q with q | q
    · exact .inl q
    · exact .inr (Nat.le_trans hb.size q)
  oks k q := by
    rcases q with q | q
    · exact .inl q
    · exact .inr q.1
set_option maxRecDepth 100000 in
set_option maxHeartbeats 40000000 in
theorem gTick_any (w : World) (B g : Nat) (s : GS) (μ : GM) (ok : Nat → Prop) (h : GroupAt w B g s μ ok) (K : Nat) (G : GoodG K s) (hK : K ≤ 1000) (id : Int) :
    Calls Try.prog 49 #[.pointer (some ⟨g, 0, none⟩), .int .i64 id] w fun e w' => ∃ μ' ok', e = .returned (.tuple #[]) ∧ GroupAt w' B g (s.tick id) μ' ok' ∧ GStep w w' B g μ μ' ok ok' := by
  have HU := Lib.hid (gup_any w B g s μ ok h id (by rw [G.len]; omega))
  have H := Lib.hid h
  have HG := Lib.hid G
  clear h G
  go_enter Try.func49, Try.ntmps49
  go_wp2_with fail
  refine HU.out.mono ?_
  rintro e w' ⟨⟨i, pb, h1, rfl, hi, hp, rfl⟩ | ⟨h1, rfl⟩, rfl⟩
  · obtain ⟨pb', hp', _, _, _, _, σ, hv, hc⟩ := H.out.place hi
    rw [hp] at hp'
    injection hp' with hp'
    subst hp'
    have x0 : w.cell? ⟨pb, i * 14, none⟩ = some (.int .i64 (s.node i).id) := hc 0 _ rfl
    have x1 : w.cell? ⟨pb, i * 14 + 1, none⟩ = some (.int .i64 (s.node i).term) := hc 1 _ rfl
    have x2 : w.cell? ⟨pb, i * 14 + 2, none⟩ = some (.int .i64 (s.node i).vote) := hc 2 _ rfl
    have x3 : w.cell? ⟨pb, i * 14 + 3, none⟩ = some (.slice σ.A3 (s.node i).log.length σ.k3) := hc 3 _ rfl
    have x4 : w.cell? ⟨pb, i * 14 + 4, none⟩ = some (.int .i64 (s.node i).form) := hc 4 _ rfl
    have x5 : w.cell? ⟨pb, i * 14 + 5, none⟩ = some (.int .i64 (s.node i).role) := hc 5 _ rfl
    have x6 : w.cell? ⟨pb, i * 14 + 6, none⟩ = some (.int .i64 (s.node i).commit) := hc 6 _ rfl
    have x7 : w.cell? ⟨pb, i * 14 + 7, none⟩ = some (.slice σ.A7 (s.node i).votes.length σ.k7) := hc 7 _ rfl
    have x8 : w.cell? ⟨pb, i * 14 + 8, none⟩ = some (.slice σ.A8 (s.node i).nxt.length σ.k8) := hc 8 _ rfl
    have x9 : w.cell? ⟨pb, i * 14 + 9, none⟩ = some (.slice σ.A9 (s.node i).mtch.length σ.k9) := hc 9 _ rfl
    have x10 : w.cell? ⟨pb, i * 14 + 10, none⟩ = some (.slice σ.A10 (s.node i).forms.length σ.k10) := hc 10 _ rfl
    have x11 : w.cell? ⟨pb, i * 14 + 11, none⟩ = some (.int .i64 (s.node i).clock) := hc 11 _ rfl
    have x12 : w.cell? ⟨pb, i * 14 + 12, none⟩ = some (.int .i64 (s.node i).due) := hc 12 _ rfl
    have gx := HG.out.node hi
    have V := Lib.hid hv
    have HP := Lib.hid hp
    have H1 := Lib.hid h1
    have OPE := Lib.hid (show s.tick (i : Int) = ⟨s.ns.set i ((tickS (s.node i))).n, s.us, s.f ++ ((tickS (s.node i))).out⟩ from by unfold GS.tick GS.put; rw [if_pos h1, Int.toNat_natCast])
    have HOL := Lib.hid (tickS_out (s.node i) (by rw [gx.v]; omega))
    clear h1 hp hv hc
    go_wp2_with fail
    refine (tick_c _ _ (s.node i) σ V.out (by have := gx.l; omega) (by rw [gx.v]; omega) (by rw [gx.x, gx.v]) (by rw [gx.m]; omega) (by rw [gx.f]; omega) (by have := gx.t0; omega) (by have := gx.t1; omega) (by have := gx.c0; omega) (by have := gx.c1; omega) (fun j hj => by have := gx.hx j (by rw [← gx.x]; exact hj); omega)).mono ?_
    rintro e w1 ⟨τ, Ao, ko, rfl, hn, hm, hb⟩
    clear gx
    have G1 := Lib.hid (H.out.newer hb)
    have N1 := Lib.hid (hn.mono (ok' := (fun k => ok k ∨ (w.heap.size ≤ k ∧ k < w1.heap.size))) (fun k hk hl => .inr ⟨hk, hl⟩))
    have M1 := Lib.hid (hm.mono (ok' := (fun k => ok k ∨ (w.heap.size ≤ k ∧ k < w1.heap.size))) (fun k hk hl => .inr ⟨hk, hl⟩))
    have HB1 := Lib.hid hb
    clear hn hm hb
    obtain ⟨r, hr⟩ : ∃ r, r = (tickS (s.node i)) := ⟨_, rfl⟩
    rw [← hr] at OPE N1 M1 HOL ⊢
    clear hr x0 x1 x2 x3 x4 x5 x6 x7 x8 x9 x10 x11 x12
    go_upto_region 3 with (fail)
    refine name_world (F := fun W => Hid (W.heap[w1.heap.size]? = some (.cells #[.int .i64 r.n.id, .int .i64 r.n.term, .int .i64 r.n.vote, .slice τ.A3 r.n.log.length τ.k3, .int .i64 r.n.form, .int .i64 r.n.role, .int .i64 r.n.commit, .slice τ.A7 r.n.votes.length τ.k7, .slice τ.A8 r.n.nxt.length τ.k8, .slice τ.A9 r.n.mtch.length τ.k9, .slice τ.A10 r.n.forms.length τ.k10, .int .i64 r.n.clock, .int .i64 r.n.due] 28 (0, 0))) ∧ Hid (GroupAt W B g s μ (fun k => ok k ∨ (w.heap.size ≤ k ∧ k < w1.heap.size))) ∧ Hid (NodeVs W (fun k => ok k ∨ (w.heap.size ≤ k ∧ k < w1.heap.size)) r.n τ) ∧ Hid (MsgsV W (fun k => ok k ∨ (w.heap.size ≤ k ∧ k < w1.heap.size)) (.slice Ao r.out.length ko) r.out) ∧ Hid (Below w1.heap.size w1 W)) _ (by exact ⟨Lib.hid (MM.alloc_new _ _), Lib.hid (G1.out.alloc _), Lib.hid (N1.out.step (fun k _ hl => Below.heap_alloc _ _ k hl)), Lib.hid (M1.out.step (fun k _ hl => Below.heap_alloc _ _ k hl)), Lib.hid ((Below.refl _ _).alloc (Nat.le_refl _) _)⟩) ?_
    clear G1 N1 M1
    intro w2 ⟨R2, G2, N2, M2, S2⟩
    obtain ⟨u0, u1, u2, u3, u4, u5, u6, u7, u8, u9, u10, u11, u12⟩ := MM.cells13 R2.out
    go_wp2_with fail
    refine (gset_any _ B g s μ (fun k => ok k ∨ (w.heap.size ≤ k ∧ k < w1.heap.size)) G2.out i pb hi HP.out r.n τ N2.out Ao ko r.out M2.out (by have := HG.out.fl; have := HOL.out; omega)).mono ?_
    rintro e w3 ⟨μ', rfl, hG, hS, _⟩
    rw [← OPE.out] at hG
    have G3 := Lib.hid hG
    have S3 := Lib.hid hS
    clear hG hS u0 u1 u2 u3 u4 u5 u6 u7 u8 u9 u10 u11 u12
    go_wp2_with fail
    go_end0
    exact ⟨μ', (fun k => ok k ∨ (w.heap.size ≤ k ∧ k < w1.heap.size)), rfl, G3.out, GStep.newer HB1.out H.out.Bsize (GStep.trans (GStep.ofBelow S2.out (Nat.le_trans H.out.Bsize HB1.out.size)) S3.out)⟩
  · have OPE := Lib.hid (show s.tick id = s from by unfold GS.tick; rw [h1]; rfl)
    clear h1
    go_wp2_with fail
    go_end0
    rw [OPE.out]
    exact ⟨μ, ok, rfl, H.out, GStep.refl _ _ _ _ _⟩
set_option maxRecDepth 100000 in
set_option maxHeartbeats 40000000 in
theorem gPropose_any (w : World) (B g : Nat) (s : GS) (μ : GM) (ok : Nat → Prop) (h : GroupAt w B g s μ ok) (K : Nat) (G : GoodG K s) (hK : K ≤ 1000) (id : Int) (d : ByteArray) :
    Calls Try.prog 41 #[.pointer (some ⟨g, 0, none⟩), .int .i64 id, .string d] w fun e w' => ∃ μ' ok', e = .returned (.bool (s.propOk id)) ∧ GroupAt w' B g (s.prop id d) μ' ok' ∧ GStep w w' B g μ μ' ok ok' := by
  have HU := Lib.hid (gup_any w B g s μ ok h id (by rw [G.len]; omega))
  have H := Lib.hid h
  have HG := Lib.hid G
  clear h G
  go_enter Try.func41, Try.ntmps41
  go_wp2_with fail
  refine HU.out.mono ?_
  rintro e w' ⟨⟨i, pb, h1, rfl, hi, hp, rfl⟩ | ⟨h1, rfl⟩, rfl⟩
  · obtain ⟨pb', hp', _, _, _, _, σ, hv, hc⟩ := H.out.place hi
    rw [hp] at hp'
    injection hp' with hp'
    subst hp'
    have x0 : w.cell? ⟨pb, i * 14, none⟩ = some (.int .i64 (s.node i).id) := hc 0 _ rfl
    have x1 : w.cell? ⟨pb, i * 14 + 1, none⟩ = some (.int .i64 (s.node i).term) := hc 1 _ rfl
    have x2 : w.cell? ⟨pb, i * 14 + 2, none⟩ = some (.int .i64 (s.node i).vote) := hc 2 _ rfl
    have x3 : w.cell? ⟨pb, i * 14 + 3, none⟩ = some (.slice σ.A3 (s.node i).log.length σ.k3) := hc 3 _ rfl
    have x4 : w.cell? ⟨pb, i * 14 + 4, none⟩ = some (.int .i64 (s.node i).form) := hc 4 _ rfl
    have x5 : w.cell? ⟨pb, i * 14 + 5, none⟩ = some (.int .i64 (s.node i).role) := hc 5 _ rfl
    have x6 : w.cell? ⟨pb, i * 14 + 6, none⟩ = some (.int .i64 (s.node i).commit) := hc 6 _ rfl
    have x7 : w.cell? ⟨pb, i * 14 + 7, none⟩ = some (.slice σ.A7 (s.node i).votes.length σ.k7) := hc 7 _ rfl
    have x8 : w.cell? ⟨pb, i * 14 + 8, none⟩ = some (.slice σ.A8 (s.node i).nxt.length σ.k8) := hc 8 _ rfl
    have x9 : w.cell? ⟨pb, i * 14 + 9, none⟩ = some (.slice σ.A9 (s.node i).mtch.length σ.k9) := hc 9 _ rfl
    have x10 : w.cell? ⟨pb, i * 14 + 10, none⟩ = some (.slice σ.A10 (s.node i).forms.length σ.k10) := hc 10 _ rfl
    have x11 : w.cell? ⟨pb, i * 14 + 11, none⟩ = some (.int .i64 (s.node i).clock) := hc 11 _ rfl
    have x12 : w.cell? ⟨pb, i * 14 + 12, none⟩ = some (.int .i64 (s.node i).due) := hc 12 _ rfl
    have gx := HG.out.node hi
    have V := Lib.hid hv
    have HP := Lib.hid hp
    have H1 := Lib.hid h1
    have OPE := Lib.hid (show s.prop (i : Int) d = ⟨s.ns.set i ((proposeS (s.node i) d)).n, s.us, s.f ++ ((proposeS (s.node i) d)).out⟩ from by unfold GS.prop GS.put; rw [if_pos h1, Int.toNat_natCast])
    have HOL := Lib.hid (proposeS_out (s.node i) d (by rw [gx.v]; omega))
    have RB := Lib.hid (show s.propOk (i : Int) = decide ((s.node (i : Int)).role = 2) from by unfold GS.propOk; rw [h1]; rfl)
    clear h1 hp hv hc
    go_wp2_with fail
    refine (propose_any _ _ (s.node i) σ d V.out (by have := gx.l; omega) (by rw [gx.v]; omega) (by rw [gx.x, gx.v]) (by rw [gx.m, gx.v]) (by rw [gx.f]; omega) gx.i0 (by rw [gx.v]; exact gx.i1) (fun j hj => by have := gx.hx j (by rw [← gx.x]; exact hj); omega)).mono ?_
    rintro e w1 ⟨τ, Ao, ko, rfl, hn, hm, hb⟩
    clear gx
    generalize decide ((s.node (i : Int)).role = 2) = bb at RB ⊢
    have G1 := Lib.hid (H.out.newer hb)
    have N1 := Lib.hid (hn.mono (ok' := (fun k => ok k ∨ (w.heap.size ≤ k ∧ k < w1.heap.size))) (fun k hk hl => .inr ⟨hk, hl⟩))
    have M1 := Lib.hid (hm.mono (ok' := (fun k => ok k ∨ (w.heap.size ≤ k ∧ k < w1.heap.size))) (fun k hk hl => .inr ⟨hk, hl⟩))
    have HB1 := Lib.hid hb
    clear hn hm hb
    obtain ⟨r, hr⟩ : ∃ r, r = (proposeS (s.node i) d) := ⟨_, rfl⟩
    rw [← hr] at OPE N1 M1 HOL ⊢
    clear hr x0 x1 x2 x3 x4 x5 x6 x7 x8 x9 x10 x11 x12
    go_upto_region 5 with (fail)
    refine name_world (F := fun W => Hid (W.heap[w1.heap.size]? = some (.cells #[.int .i64 r.n.id, .int .i64 r.n.term, .int .i64 r.n.vote, .slice τ.A3 r.n.log.length τ.k3, .int .i64 r.n.form, .int .i64 r.n.role, .int .i64 r.n.commit, .slice τ.A7 r.n.votes.length τ.k7, .slice τ.A8 r.n.nxt.length τ.k8, .slice τ.A9 r.n.mtch.length τ.k9, .slice τ.A10 r.n.forms.length τ.k10, .int .i64 r.n.clock, .int .i64 r.n.due] 28 (0, 0))) ∧ Hid (GroupAt W B g s μ (fun k => ok k ∨ (w.heap.size ≤ k ∧ k < w1.heap.size))) ∧ Hid (NodeVs W (fun k => ok k ∨ (w.heap.size ≤ k ∧ k < w1.heap.size)) r.n τ) ∧ Hid (MsgsV W (fun k => ok k ∨ (w.heap.size ≤ k ∧ k < w1.heap.size)) (.slice Ao r.out.length ko) r.out) ∧ Hid (Below w1.heap.size w1 W)) _ (by exact ⟨Lib.hid (MM.alloc_new _ _), Lib.hid (G1.out.alloc _), Lib.hid (N1.out.step (fun k _ hl => Below.heap_alloc _ _ k hl)), Lib.hid (M1.out.step (fun k _ hl => Below.heap_alloc _ _ k hl)), Lib.hid ((Below.refl _ _).alloc (Nat.le_refl _) _)⟩) ?_
    clear G1 N1 M1
    intro w2 ⟨R2, G2, N2, M2, S2⟩
    obtain ⟨u0, u1, u2, u3, u4, u5, u6, u7, u8, u9, u10, u11, u12⟩ := MM.cells13 R2.out
    go_wp2_with fail
    refine (gset_any _ B g s μ (fun k => ok k ∨ (w.heap.size ≤ k ∧ k < w1.heap.size)) G2.out i pb hi HP.out r.n τ N2.out Ao ko r.out M2.out (by have := HG.out.fl; have := HOL.out; omega)).mono ?_
    rintro e w3 ⟨μ', rfl, hG, hS, _⟩
    rw [← OPE.out] at hG
    have G3 := Lib.hid hG
    have S3 := Lib.hid hS
    clear hG hS u0 u1 u2 u3 u4 u5 u6 u7 u8 u9 u10 u11 u12
    go_wp2_with fail
    go_ret
    exact ⟨μ', (fun k => ok k ∨ (w.heap.size ≤ k ∧ k < w1.heap.size)), MM.ret_bool RB.out.symm, G3.out, GStep.newer HB1.out H.out.Bsize (GStep.trans (GStep.ofBelow S2.out (Nat.le_trans H.out.Bsize HB1.out.size)) S3.out)⟩
  · have OPE := Lib.hid (show s.prop id d = s from by unfold GS.prop; rw [h1]; rfl)
    have RB := Lib.hid (show s.propOk id = false from by unfold GS.propOk; rw [h1]; rfl)
    clear h1
    go_wp2_with fail
    go_ret
    rw [OPE.out]
    exact ⟨μ, ok, MM.ret_bool RB.out.symm, H.out, GStep.refl _ _ _ _ _⟩

end Go.Proofs.Ytnkmljdkokcdjaa
