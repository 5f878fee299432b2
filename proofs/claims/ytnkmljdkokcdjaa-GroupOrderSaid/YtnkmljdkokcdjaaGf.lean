/-
  The group's set and Drop answer as the plain functions. Condition: a group lies there.
-/
import Derived.WalkKit
import Derived.WalkSpells
import Derived.Lib.Hide
import Derived.Outline
import Derived.Test.YtnkmljdkokcdjaaChecked
import Derived.Test.YtnkmljdkokcdjaaMn
import Derived.Test.YtnkmljdkokcdjaaMem
import Derived.Test.YtnkmljdkokcdjaaFed
import Derived.Test.YtnkmljdkokcdjaaGe
import Derived.Deep.DeepCutAuto
import Derived.Deep.CutBlock
import Derived.Deep.OwnRows
import Derived.IntWalk
set_option linter.unusedVariables false
set_option linter.unusedSimpArgs false
namespace Go.Proofs.Ytnkmljdkokcdjaa
open Go.RowKit Fed
set_option linter.unusedVariables false
attribute [local go_sem high] Fed.max2_int Fed.min2_int

theorem GroupAt.set14 {w : World} {B g : Nat} {s : GS} {μ : GM} {ok : Nat → Prop} (h : GroupAt w B g s μ ok) {i pb : Nat} (hi : i < s.ns.length) (hp : μ.p = some pb) {n : Fed.Node} {σ : Sl5} (hn : NodeVs w ok n σ) :
    GroupAt (((((((((((((w.setCell ⟨pb, i * 14, none⟩ (.int .i64 n.id)).setCell ⟨pb, i * 14 + 1, none⟩ (.int .i64 n.term)).setCell ⟨pb, i * 14 + 2, none⟩ (.int .i64 n.vote)).setCell ⟨pb, i * 14 + 3, none⟩ (.slice σ.A3 n.log.length σ.k3)).setCell ⟨pb, i * 14 + 4, none⟩ (.int .i64 n.form)).setCell ⟨pb, i * 14 + 5, none⟩ (.int .i64 n.role)).setCell ⟨pb, i * 14 + 6, none⟩ (.int .i64 n.commit)).setCell ⟨pb, i * 14 + 7, none⟩ (.slice σ.A7 n.votes.length σ.k7)).setCell ⟨pb, i * 14 + 8, none⟩ (.slice σ.A8 n.nxt.length σ.k8)).setCell ⟨pb, i * 14 + 9, none⟩ (.slice σ.A9 n.mtch.length σ.k9)).setCell ⟨pb, i * 14 + 10, none⟩ (.slice σ.A10 n.forms.length σ.k10)).setCell ⟨pb, i * 14 + 11, none⟩ (.int .i64 n.clock)).setCell ⟨pb, i * 14 + 12, none⟩ (.int .i64 n.due)) B g ⟨s.ns.set i n, s.us, s.f⟩ μ ok ∧ GStep w (((((((((((((w.setCell ⟨pb, i * 14, none⟩ (.int .i64 n.id)).setCell ⟨pb, i * 14 + 1, none⟩ (.int .i64 n.term)).setCell ⟨pb, i * 14 + 2, none⟩ (.int .i64 n.vote)).setCell ⟨pb, i * 14 + 3, none⟩ (.slice σ.A3 n.log.length σ.k3)).setCell ⟨pb, i * 14 + 4, none⟩ (.int .i64 n.form)).setCell ⟨pb, i * 14 + 5, none⟩ (.int .i64 n.role)).setCell ⟨pb, i * 14 + 6, none⟩ (.int .i64 n.commit)).setCell ⟨pb, i * 14 + 7, none⟩ (.slice σ.A7 n.votes.length σ.k7)).setCell ⟨pb, i * 14 + 8, none⟩ (.slice σ.A8 n.nxt.length σ.k8)).setCell ⟨pb, i * 14 + 9, none⟩ (.slice σ.A9 n.mtch.length σ.k9)).setCell ⟨pb, i * 14 + 10, none⟩ (.slice σ.A10 n.forms.length σ.k10)).setCell ⟨pb, i * 14 + 11, none⟩ (.int .i64 n.clock)).setCell ⟨pb, i * 14 + 12, none⟩ (.int .i64 n.due)) B g μ μ ok ok := by
  rw [put13]
  exact h.setN hi hp hn
set_option maxRecDepth 100000 in
set_option maxHeartbeats 40000000 in
theorem gset_any (w : World) (B g : Nat) (s : GS) (μ : GM) (ok : Nat → Prop) (h : GroupAt w B g s μ ok) (i pb : Nat) (hi : i < s.ns.length) (hp : μ.p = some pb) (n : Fed.Node) (σ : Sl5) (hn : NodeVs w ok n σ) (A : Option Addr) (c : Nat) (ys : List Fed.Msg) (hY : MsgsV w ok (.slice A ys.length c) ys) (hl : s.f.length + ys.length ≤ 2000000) :
    Calls Try.prog 78 #[.pointer (some ⟨g, 0, none⟩), .pointer (some ⟨pb, i * 14, none⟩), .agg #[.int .i64 n.id, .int .i64 n.term, .int .i64 n.vote, .slice σ.A3 n.log.length σ.k3, .int .i64 n.form, .int .i64 n.role, .int .i64 n.commit, .slice σ.A7 n.votes.length σ.k7, .slice σ.A8 n.nxt.length σ.k8, .slice σ.A9 n.mtch.length σ.k9, .slice σ.A10 n.forms.length σ.k10, .int .i64 n.clock, .int .i64 n.due], .slice A ys.length c] w fun e w' => ∃ μ', e = .returned (.tuple #[]) ∧ GroupAt w' B g ⟨s.ns.set i n, s.us, s.f ++ ys⟩ μ' ok ∧ GStep w w' B g μ μ' ok ok ∧ μ'.p = μ.p := by
  obtain ⟨pb', hp', _, _, _, hf, σ0, _, hc⟩ := h.place hi
  rw [hp] at hp'
  injection hp' with hp'
  subst hp'
  have x0 : w.cell? ⟨pb, i * 14, none⟩ = some (.int .i64 (s.node i).id) := hc 0 _ rfl
  have x1 : w.cell? ⟨pb, i * 14 + 1, none⟩ = some (.int .i64 (s.node i).term) := hc 1 _ rfl
  have x2 : w.cell? ⟨pb, i * 14 + 2, none⟩ = some (.int .i64 (s.node i).vote) := hc 2 _ rfl
  have x3 : w.cell? ⟨pb, i * 14 + 3, none⟩ = some (.slice σ0.A3 (s.node i).log.length σ0.k3) := hc 3 _ rfl
  have x4 : w.cell? ⟨pb, i * 14 + 4, none⟩ = some (.int .i64 (s.node i).form) := hc 4 _ rfl
  have x5 : w.cell? ⟨pb, i * 14 + 5, none⟩ = some (.int .i64 (s.node i).role) := hc 5 _ rfl
  have x6 : w.cell? ⟨pb, i * 14 + 6, none⟩ = some (.int .i64 (s.node i).commit) := hc 6 _ rfl
  have x7 : w.cell? ⟨pb, i * 14 + 7, none⟩ = some (.slice σ0.A7 (s.node i).votes.length σ0.k7) := hc 7 _ rfl
  have x8 : w.cell? ⟨pb, i * 14 + 8, none⟩ = some (.slice σ0.A8 (s.node i).nxt.length σ0.k8) := hc 8 _ rfl
  have x9 : w.cell? ⟨pb, i * 14 + 9, none⟩ = some (.slice σ0.A9 (s.node i).mtch.length σ0.k9) := hc 9 _ rfl
  have x10 : w.cell? ⟨pb, i * 14 + 10, none⟩ = some (.slice σ0.A10 (s.node i).forms.length σ0.k10) := hc 10 _ rfl
  have x11 : w.cell? ⟨pb, i * 14 + 11, none⟩ = some (.int .i64 (s.node i).clock) := hc 11 _ rfl
  have x12 : w.cell? ⟨pb, i * 14 + 12, none⟩ = some (.int .i64 (s.node i).due) := hc 12 _ rfl
  have z0 : w.frozen? ⟨pb, i * 14, none⟩ = false := hf _
  have z1 : w.frozen? ⟨pb, i * 14 + 1, none⟩ = false := hf _
  have z2 : w.frozen? ⟨pb, i * 14 + 2, none⟩ = false := hf _
  have z3 : w.frozen? ⟨pb, i * 14 + 3, none⟩ = false := hf _
  have z4 : w.frozen? ⟨pb, i * 14 + 4, none⟩ = false := hf _
  have z5 : w.frozen? ⟨pb, i * 14 + 5, none⟩ = false := hf _
  have z6 : w.frozen? ⟨pb, i * 14 + 6, none⟩ = false := hf _
  have z7 : w.frozen? ⟨pb, i * 14 + 7, none⟩ = false := hf _
  have z8 : w.frozen? ⟨pb, i * 14 + 8, none⟩ = false := hf _
  have z9 : w.frozen? ⟨pb, i * 14 + 9, none⟩ = false := hf _
  have z10 : w.frozen? ⟨pb, i * 14 + 10, none⟩ = false := hf _
  have z11 : w.frozen? ⟨pb, i * 14 + 11, none⟩ = false := hf _
  have z12 : w.frozen? ⟨pb, i * 14 + 12, none⟩ = false := hf _
  have hpl := (h.ltp pb hp).2
  have H := Lib.hid h
  have HN := Lib.hid hn
  have HY := Lib.hid hY
  have HP := Lib.hid hp
  have HOK := Lib.hid (show ∀ k, ok k → k ≠ pb from fun k hk e => h.no k hk (.inr (.inl (by rw [hp, e]))))
  clear h hn hY hp hf hc
  go_enter Try.func78, Try.ntmps78
  go_upto_region 2 with (fail)
  refine name_world (F := fun W => Hid (GroupAt W B g ⟨s.ns.set i n, s.us, s.f⟩ μ ok) ∧ Hid (GStep w W B g μ μ ok ok) ∧ Hid (MsgsV W ok (.slice A ys.length c) ys)) _ (by exact ⟨Lib.hid ((H.out.set14 hi HP.out HN.out).1.alloc _), Lib.hid ((H.out.set14 hi HP.out HN.out).2.fresh ((Below.refl _ _).alloc (by simp [World.setCell]) _) H.out.Bsize), Lib.hid (HY.out.step (fun k hk hl => (Below.heap_alloc _ _ k (by simpa [World.setCell] using hl)).trans (far13o (HOK.out k hk))))⟩) ?_
  clear H HN HY
  intro w2 ⟨G2, S2, HY2⟩
  clear x0 z0 x1 z1 x2 z2 x3 z3 x4 z4 x5 z5 x6 z6 x7 z7 x8 z8 x9 z9 x10 z10 x11 z11 x12 z12
  go_wp2_with fail
  refine (gput_any _ B g _ μ ok G2.out A c ys HY2.out hl).mono ?_
  rintro e w3 ⟨μ', rfl, hG, hS, hp3, _, _⟩
  have HG := Lib.hid hG
  have HS := Lib.hid (S2.out.trans hS)
  have HP3 := Lib.hid hp3
  clear hG hS hp3
  go_wp2_with fail
  go_end0
  exact ⟨μ', rfl, HG.out, HS.out, HP3.out⟩
set_option maxRecDepth 100000 in
set_option maxHeartbeats 40000000 in
theorem gDrop_any (w : World) (B g : Nat) (s : GS) (μ : GM) (ok : Nat → Prop) (h : GroupAt w B g s μ ok) (a : Int) (hl : s.f.length ≤ 1000000) :
    Calls Try.prog 44 #[.pointer (some ⟨g, 0, none⟩), .int .i64 a] w fun e w' => ∃ μ', e = .returned (.bool (s.has a)) ∧ GroupAt w' B g (s.cut a) μ' ok ∧ GStep w w' B g μ μ' ok ok := by
  have HT := Lib.hid (gtake_any w B g s μ ok h a hl)
  have HLT := Lib.hid h.Bsize
  clear h
  go_enter Try.func44, Try.ntmps44
  go_wp2_with fail
  refine HT.out.mono ?_
  rintro e w1 ⟨μ', hat, hG, hS, _⟩
  have HG := Lib.hid (hG.alloc)
  have HS := Lib.hid hS
  have HBW := Lib.hid hS.below.size
  clear hG hS
  rcases hat with ⟨hs, A, c, rfl, _⟩ | ⟨hs, rfl⟩
  · have H1 := Lib.hid hs
    clear hs
    go_wp2_with fail
    go_ret
    exact ⟨μ', MM.ret_bool H1.out.symm, HG.out _, HS.out.fresh ((Below.refl _ _).alloc HBW.out _) HLT.out⟩
  · have H1 := Lib.hid hs
    clear hs
    go_wp2_with fail
    go_ret
    exact ⟨μ', MM.ret_bool H1.out.symm, HG.out _, HS.out.fresh ((Below.refl _ _).alloc HBW.out _) HLT.out⟩

end Go.Proofs.Ytnkmljdkokcdjaa
