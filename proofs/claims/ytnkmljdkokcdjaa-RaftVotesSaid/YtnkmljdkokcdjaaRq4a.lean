/- What a node answers to one that asks for its vote; what it is behind a restart: in plain Lean. -/
import Derived.Test.YtnkmljdkokcdjaaMi
import Derived.Test.YtnkmljdkokcdjaaMh
set_option linter.unusedVariables false
set_option linter.unusedSimpArgs false
namespace Go.Proofs.Ytnkmljdkokcdjaa
open Go Go.RowKit Fed
set_option linter.unusedVariables false

/-- One asks for a vote: it has much. -/
def askMsg (f t lt : Int) : Fed.Msg := ⟨1, f, 0, t, 20, lt, false, [], 0, 0⟩
structure Asked (K : Nat) (n : Fed.Node) (f t : Int) (s : NS) : Prop where
  good : NodeGood K s.n
  one : ∃ x, s.out = [x] ∧ x.kind = 2 ∧ x.to = f ∧ x.term = s.n.term ∧ (x.ok = true → s.n.vote = f)
  up : n.term ≤ s.n.term
  most : s.n.term ≤ n.term ∨ s.n.term ≤ t
  form : s.n.form = n.form
  stays : s.n.term = n.term → 0 ≤ n.vote → s.n.vote = n.vote
theorem good_bump {K : Nat} {n : Fed.Node} (h : NodeGood K n) {m : Fed.Msg} (t0 : 0 ≤ m.term) (t1 : m.term ≤ 1000000) : NodeGood K (Fed.bump n m) := by
  unfold Fed.bump
  split
  · exact ⟨h.v, h.x, h.m, h.f, h.i0, h.i1, h.l, t0, t1, h.c0, h.c1, h.cm, h.hx, h.hy, fun q => absurd q (by decide : (0 : Int) ≠ 2)⟩
  · exact h
theorem asked_next {K : Nat} {n : Fed.Node} (h : NodeGood K n) {f t lt : Int} (f0 : 0 ≤ f) (f1 : f < K) (t0 : 0 ≤ t) (t1 : t ≤ 1000000) : Asked K n f t (handleS n (askMsg f t lt)) := by
  unfold handleS
  rw [if_pos ⟨⟨f0, by show f < n.votes.length; rw [h.v]; exact f1⟩, h.i0, by rw [h.v]; exact h.i1⟩]
  unfold handleIn
  rw [if_pos (show (askMsg f t lt).kind = 1 from rfl)]
  have hb := good_bump h (m := askMsg f t lt) t0 t1
  have hu : n.term ≤ (Fed.bump n (askMsg f t lt)).term ∧ ((Fed.bump n (askMsg f t lt)).term ≤ n.term ∨ (Fed.bump n (askMsg f t lt)).term ≤ t) ∧ (Fed.bump n (askMsg f t lt)).form = n.form ∧ ((Fed.bump n (askMsg f t lt)).term = n.term → (Fed.bump n (askMsg f t lt)).vote = n.vote) := by
    unfold Fed.bump
    split
    · rename_i hh
      have hh' : n.term < t := hh
      exact ⟨by show n.term ≤ t; omega, .inr (Int.le_refl _), rfl, fun e => by have : t = n.term := e; omega⟩
    · exact ⟨Int.le_refl _, .inl (Int.le_refl _), rfl, fun _ => rfl⟩
  obtain ⟨u1, u2, u3, u4⟩ := hu
  generalize Fed.bump n (askMsg f t lt) = b at hb u1 u2 u3 u4
  unfold voteS
  split
  · rename_i hok
    refine ⟨⟨hb.v, hb.x, hb.m, hb.f, hb.i0, hb.i1, hb.l, hb.t0, hb.t1, hb.c0, hb.c1, hb.cm, hb.hx, hb.hy, hb.ld⟩, ⟨_, rfl, rfl, rfl, rfl, fun _ => rfl⟩, u1, u2, u3, fun e h0 => ?_⟩
    have e' := u4 e
    show f = n.vote
    simp only [voteOk, Bool.and_eq_true, Bool.or_eq_true, decide_eq_true_eq] at hok
    rcases hok.1.2 with hv | hv
    · rw [e'] at hv; omega
    · rw [← e', hv]; rfl
  · exact ⟨hb, ⟨_, rfl, rfl, rfl, rfl, fun q => by cases q⟩, u1, u2, u3, fun e _ => u4 e⟩
theorem restart_good {K : Nat} {n : Fed.Node} (h : NodeGood K n) (form : Int) : NodeGood K (restartN n form) := by
  refine ⟨by simp [restartN, h.v], by simp [restartN, h.v], by simp [restartN, h.v], by simp [restartN, h.v], h.i0, h.i1, h.l, h.t0, h.t1, Int.le_refl _, by show (0 : Int) ≤ 1000000; decide, Int.le_refl _, fun i _ => ?_, fun i _ => ?_, fun q => absurd q (by decide : (0 : Int) ≠ 2)⟩
  · have := getD_replicate_le (m := n.votes.length) (x := i) (v := 1) (B := 1000000) (by decide) (by decide) (by decide)
    exact ⟨by have := this.1; show -1000000 ≤ (List.replicate n.votes.length (1 : Int)).getD i 0; omega, this.2⟩
  · have := getD_replicate_le (m := n.votes.length) (x := i) (v := 0) (B := 1000000) (by decide) (by decide) (by decide)
    exact ⟨by have := this.1; show -1000000 ≤ (List.replicate n.votes.length (0 : Int)).getD i 0; omega, this.2⟩
end Go.Proofs.Ytnkmljdkokcdjaa
