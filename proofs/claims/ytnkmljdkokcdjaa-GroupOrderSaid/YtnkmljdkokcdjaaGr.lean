/-
  Contracts over a group that is all newer than the call. Conditions: the group may be walked.
-/
import Derived.WalkKit
import Derived.WalkSpells
import Derived.Lib.Hide
import Derived.Outline
import Derived.Test.YtnkmljdkokcdjaaChecked
import Derived.Test.YtnkmljdkokcdjaaMn
import Derived.Test.YtnkmljdkokcdjaaMem
import Derived.Test.YtnkmljdkokcdjaaFed
import Derived.Test.YtnkmljdkokcdjaaMp
import Derived.Test.YtnkmljdkokcdjaaGn
import Derived.Test.YtnkmljdkokcdjaaGp
import Derived.Test.YtnkmljdkokcdjaaGq
import Derived.Deep.DeepCutAuto
import Derived.Deep.CutBlock
import Derived.Deep.OwnRows
import Derived.IntWalk
set_option linter.unusedVariables false
set_option linter.unusedSimpArgs false
namespace Go.Proofs.Ytnkmljdkokcdjaa
open Go.RowKit Fed
set_option linter.unusedVariables false
attribute [local go_sem high] Fed.max2_int Fed.min2_int

theorem GroupAt.lower {w : World} {B B' g : Nat} {s : GS} {μ : GM} {ok : Nat → Prop} (h : GroupAt w B g s μ ok) (hb : B' ≤ B) : GroupAt w B' g s μ ok := by
  obtain ⟨cs, p1, p2⟩ := h.pl
  obtain ⟨ds, f1, f2⟩ := h.fl
  exact ⟨Nat.le_trans hb h.hB, h.blk, h.ul, ⟨cs, p1.lower hb, p2⟩, ⟨ds, f1.lower hb, f2⟩, h.no, h.okl⟩
/-- A group at g, all of it newer than the world w0. -/
def GrpAt (w0 w : World) (g : Nat) (s : GS) (Z : Nat → Prop) : Prop := ∃ μ ok, GroupAt w w0.heap.size g s μ ok ∧ Below w0.heap.size w0 w ∧ ∀ k, Z k → k < w.heap.size ∧ ¬ μ.owns g k ∧ ¬ ok k
/-- What is in Z stays. -/
def Stays (w w' : World) (Z : Nat → Prop) : Prop := ∀ k, Z k → w'.heap[k]? = w.heap[k]?
theorem Stays.trans {w w1 w2 : World} {Z : Nat → Prop} (h : Stays w w1 Z) (h' : Stays w1 w2 Z) : Stays w w2 Z := fun k hk => (h' k hk).trans (h k hk)
theorem Stays.refl (w : World) (Z : Nat → Prop) : Stays w w Z := fun _ _ => rfl
theorem GrpAt.go {w0 w w' : World} {g : Nat} {s' : GS} {μ μ' : GM} {ok ok' Z : Nat → Prop} (hb : Below w0.heap.size w0 w) (hz : ∀ k, Z k → k < w.heap.size ∧ ¬ μ.owns g k ∧ ¬ ok k) (h' : GroupAt w' w0.heap.size g s' μ' ok') (hs : GStep w w' w0.heap.size g μ μ' ok ok') : GrpAt w0 w' g s' Z ∧ Stays w w' Z :=
  ⟨⟨μ', ok', h', hb.trans hs.below, fun k hk => ⟨Nat.lt_of_lt_of_le (hz k hk).1 hs.below.size, fun q => by rcases hs.own k q with q | q; exact (hz k hk).2.1 q; have := (hz k hk).1; omega, fun q => by rcases hs.oks k q with q | q; exact (hz k hk).2.2 q; have := (hz k hk).1; omega⟩⟩, fun k hk => hs.keep k (hz k hk).1 (hz k hk).2.1⟩
theorem GrpAt.bel {w0 w : World} {g : Nat} {s : GS} {Z : Nat → Prop} (h : GrpAt w0 w g s Z) : Below w0.heap.size w0 w := by obtain ⟨_, _, _, hb, _⟩ := h; exact hb
theorem GrpAt.below {w0 w w' : World} {g : Nat} {s : GS} {Z : Nat → Prop} (h : GrpAt w0 w g s Z) (hb : Below w.heap.size w w') : GrpAt w0 w' g s Z := by
  obtain ⟨μ, ok, h1, h2, h3⟩ := h
  exact ⟨μ, ok, h1.below hb, h2.trans (hb.mono h2.size), fun k hk => ⟨Nat.lt_of_lt_of_le (h3 k hk).1 hb.size, (h3 k hk).2⟩⟩
/-- What is new stays, too. -/
theorem GrpAt.newer {w0 w w' : World} {g : Nat} {s : GS} {Z : Nat → Prop} (h : GrpAt w0 w g s Z) (hb : Below w.heap.size w w') : GrpAt w0 w' g s (fun k => Z k ∨ (w.heap.size ≤ k ∧ k < w'.heap.size)) := by
  obtain ⟨μ, ok, h1, h2, h3⟩ := h
  refine ⟨μ, ok, h1.below hb, h2.trans (hb.mono h2.size), fun k hk => ?_⟩
  rcases hk with hk | hk
  · exact ⟨Nat.lt_of_lt_of_le (h3 k hk).1 hb.size, (h3 k hk).2⟩
  · exact ⟨hk.2, fun q => by have := (h1.ownlt k q).2; omega, fun q => by have := h1.okl k q; omega⟩
/-- What is in Z may change; what is new may come to it. -/
theorem GrpAt.touch {w0 w w' : World} {g : Nat} {s : GS} {Z Z' : Nat → Prop} (h : GrpAt w0 w g s Z) (hm : ∀ k, k < w.heap.size → ¬ Z k → w'.heap[k]? = w.heap[k]?) (hb : Below w0.heap.size w w') (hz' : ∀ k, Z' k → Z k ∨ (w.heap.size ≤ k ∧ k < w'.heap.size)) : GrpAt w0 w' g s Z' := by
  obtain ⟨μ, ok, h1, h2, h3⟩ := h
  refine ⟨μ, ok, h1.step (fun k hk => hm k (by rcases hk with hk | hk; exact (h1.ownlt k hk).2; exact h1.okl k hk) (fun q => by rcases hk with hk | hk; exact (h3 k q).2.1 hk; exact (h3 k q).2.2 hk)) hb.size, h2.trans hb, fun k hk => ?_⟩
  rcases hz' k hk with hk | hk
  · exact ⟨Nat.lt_of_lt_of_le (h3 k hk).1 hb.size, (h3 k hk).2⟩
  · exact ⟨hk.2, fun q => by have := (h1.ownlt k q).2; omega, fun q => by have := h1.okl k q; omega⟩
theorem GrpAt.drew {w0 w : World} {g : Nat} {s : GS} {Z : Nat → Prop} (h : GrpAt w0 w g s Z) : GrpAt w0 w.drew g s Z := h.below ((Below.refl _ w).drew)
theorem GrpAt.alloc {w0 w : World} {g : Nat} {s : GS} {Z : Nat → Prop} (h : GrpAt w0 w g s Z) (o : Obj) : GrpAt w0 (w.alloc o) g s Z := h.below ((Below.refl _ w).alloc (Nat.le_refl _) o)
section
variable (w0 w : World) (g : Nat) (s : GS) (Z : Nat → Prop) (h : GrpAt w0 w g s Z) (K : Nat) (G : GoodG K s) (hK : K ≤ 1000)
include h G hK
theorem tickG (id : Int) : Calls Try.prog 49 #[.pointer (some ⟨g, 0, none⟩), .int .i64 id] w fun e w' => e = .returned (.tuple #[]) ∧ GrpAt w0 w' g (s.tick id) Z ∧ Stays w w' Z := by
  obtain ⟨μ, ok, h1, h2, hz⟩ := h
  refine (gTick_any w _ g s μ ok h1 K G hK id).mono ?_
  rintro e w' ⟨μ', ok', rfl, h3, h4⟩
  exact ⟨rfl, GrpAt.go h2 hz h3 h4⟩
theorem propG (id : Int) (d : ByteArray) : Calls Try.prog 41 #[.pointer (some ⟨g, 0, none⟩), .int .i64 id, .string d] w fun e w' => e = .returned (.bool (s.propOk id)) ∧ GrpAt w0 w' g (s.prop id d) Z ∧ Stays w w' Z := by
  obtain ⟨μ, ok, h1, h2, hz⟩ := h
  refine (gPropose_any w _ g s μ ok h1 K G hK id d).mono ?_
  rintro e w' ⟨μ', ok', rfl, h3, h4⟩
  exact ⟨rfl, GrpAt.go h2 hz h3 h4⟩
theorem deliverG (a : Int) : Calls Try.prog 46 #[.pointer (some ⟨g, 0, none⟩), .int .i64 a] w fun e w' => e = .returned (.bool (s.has a)) ∧ GrpAt w0 w' g (s.deliver a) Z ∧ Stays w w' Z := by
  obtain ⟨μ, ok, h1, h2, hz⟩ := h
  refine (gDeliver_any w _ g s μ ok h1 K G hK a).mono ?_
  rintro e w' ⟨μ', ok', rfl, h3, h4⟩
  exact ⟨rfl, GrpAt.go h2 hz h3 h4⟩
theorem crashG (id : Int) : Calls Try.prog 37 #[.pointer (some ⟨g, 0, none⟩), .int .i64 id] w fun e w' => e = .returned (.bool (s.isUp id)) ∧ GrpAt w0 w' g (s.crash id) Z ∧ Stays w w' Z := by
  obtain ⟨μ, ok, h1, h2, hz⟩ := h
  refine (gCrash_any w _ g s μ ok h1 id (by rw [G.len]; omega)).mono ?_
  rintro e w' ⟨rfl, h3, h4⟩
  exact ⟨rfl, GrpAt.go h2 hz h3 h4⟩
theorem flightG : Calls Try.prog 47 #[.pointer (some ⟨g, 0, none⟩)] w fun e w' => e = .returned (.int .i64 s.f.length) ∧ w = w' := by
  obtain ⟨μ, ok, h1, h2, hz⟩ := h
  have h3 := G.fl
  have h4 := hK
  exact gFlight_any w _ g s μ ok h1
theorem upG (id : Int) : Calls Try.prog 40 #[.pointer (some ⟨g, 0, none⟩), .int .i64 id] w fun e w' => e = .returned (.bool (s.isUp id)) ∧ w = w' := by
  obtain ⟨μ, ok, h1, h2, hz⟩ := h
  exact gUp_any w _ g s μ ok h1 id (by rw [G.len]; omega)
theorem leaderG (h0 : 0 < K) : Calls Try.prog 39 #[.pointer (some ⟨g, 0, none⟩)] w fun e w' => e = .returned (.int .i64 s.leader) ∧ GrpAt w0 w' g s Z ∧ Below w.heap.size w w' := by
  have h' := h
  obtain ⟨μ, ok, h1, h2, hz⟩ := h
  refine (gLeader_any w _ g s μ ok h1 (by rw [G.len]; omega) (by rw [G.len]; exact h0)).mono ?_
  rintro e w' ⟨rfl, hb⟩
  exact ⟨rfl, h'.below hb, hb⟩
theorem appliedRowG (id : Int) : Calls Try.prog 43 #[.pointer (some ⟨g, 0, none⟩), .int .i64 id] w fun e w' => (∃ A c ob, e = .returned (.slice A (s.applied id).length c) ∧ MM.Row w' w.heap.size 9 1 (.slice A (s.applied id).length c) (s.applied id).length (textsC (s.applied id)) ob) ∧ GrpAt w0 w' g s Z ∧ Below w.heap.size w w' := by
  have h' := h
  obtain ⟨μ, ok, h1, h2, hz⟩ := h
  cases hu : s.isUp id
  · refine (gApplied_down w _ g s μ ok h1 id (by rw [G.len]; omega) hu).mono ?_
    rintro e w' ⟨rfl, rfl⟩
    have e0 : s.applied id = [] := by unfold GS.applied; rw [hu]; rfl
    rw [e0]
    exact ⟨⟨none, 0, none, rfl, MM.Row.nil _ _ _ _ _⟩, h', Below.refl _ _⟩
  · refine (gApplied_up w _ g s μ ok h1 K G hK id hu).mono ?_
    rintro e w' ⟨v, ob, rfl, hr, hb⟩
    obtain ⟨A, c, rfl, _, _⟩ := hr.slice
    exact ⟨⟨A, c, ob, rfl, hr⟩, h'.below hb, hb⟩
theorem appliedG (id : Int) : Calls Try.prog 43 #[.pointer (some ⟨g, 0, none⟩), .int .i64 id] w fun e w' => (∃ A c, e = .returned (.slice A (s.applied id).length c) ∧ MM.Rd w' (fun k => w.heap.size ≤ k) 1 (.slice A (s.applied id).length c) (s.applied id).length (textsC (s.applied id))) ∧ GrpAt w0 w' g s Z ∧ Below w.heap.size w w' := by
  refine (appliedRowG w0 w g s Z h K G hK id).mono ?_
  rintro e w' ⟨⟨A, c, ob, rfl, hr⟩, h2, h3⟩
  exact ⟨⟨A, c, rfl, hr.rd.mono (fun k hk _ => (hr.lt k hk).1)⟩, h2, h3⟩
theorem nodeG (id : Int) : Calls Try.prog 48 #[.pointer (some ⟨g, 0, none⟩), .int .i64 id] w fun e w' => NodeSays w w' s id e ∧ GrpAt w0 w' g s Z ∧ Below w.heap.size w w' := by
  have h' := h
  obtain ⟨μ, ok, h1, h2, hz⟩ := h
  refine (gNode_any w _ g s μ ok h1 K G hK id).mono ?_
  rintro e w' ⟨h3, hb⟩
  exact ⟨h3, h'.below hb, hb⟩
end
theorem newG (w0 w : World) (k : Int) (n : Nat) (hkn : k = n) (h1 : 1 ≤ n) (hk : n ≤ 1000) (hb : Below w0.heap.size w0 w) :
    Calls Try.prog 36 #[.int .i64 k] w fun e w' => ∃ g, e = .returned (.pointer (some ⟨g, 0, none⟩)) ∧ GrpAt w0 w' g (GS.new n) (fun k => k < w.heap.size) := by
  subst hkn
  refine (gNew_any w n h1 hk).mono ?_
  rintro e w' ⟨g, μ, ok, rfl, h2, h3, h4⟩
  exact ⟨g, rfl, μ, ok, h2.lower hb.size, hb.trans (h4.mono hb.size), fun k hk => ⟨Nat.lt_of_lt_of_le hk h4.size, fun q => by have := (h2.ownlt k q).1; omega, fun q => by have := h3 k q; omega⟩⟩

end Go.Proofs.Ytnkmljdkokcdjaa
