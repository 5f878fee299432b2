/-
  A node alone, tick by tick, in plain Lean.
-/
import Derived.WalkKit
import Derived.WalkSpells
import Derived.Lib.Hide
import Derived.Outline
import Derived.Test.YtnkmljdkokcdjaaChecked
import Derived.Test.YtnkmljdkokcdjaaRg
import Derived.Test.YtnkmljdkokcdjaaMem
import Derived.Test.YtnkmljdkokcdjaaFed
import Derived.Test.YtnkmljdkokcdjaaRd3
namespace Go.Proofs.Ytnkmljdkokcdjaa
open Go.RowKit Fed
set_option linter.unusedVariables false
attribute [local go_sem high] Fed.max2_int Fed.min2_int

/-- A node that nobody answers, behind tick t. -/
structure Alone (i k : Nat) (t : Int) (n : Fed.Node) : Prop where
  id : n.id = i
  votes : n.votes.length = k
  nxt : n.nxt.length = k
  one : ∀ j, j < n.nxt.length → -1000000000 ≤ n.nxt.getD j 0 ∧ n.nxt.getD j 0 ≤ 1000000000
  mtch : n.mtch.length = k
  forms : n.forms.length = k
  log : n.log = []
  clock : n.clock = t
  due : t < n.due
  due1 : n.due ≤ t + 5 + 2 * i
  term : 0 ≤ n.term ∧ n.term ≤ t
  role : (n.role = 1 ∧ 0 < n.term) ∨ (n.role = 0 ∧ n.term = 0)
theorem Alone.new (i k : Nat) : Alone i k 0 (newN i k 1) := by
  unfold newN
  refine ⟨rfl, by simp, by simp, ?_, by simp, by simp, rfl, rfl, by show (0 : Int) < 5 + 2 * i; omega, by show (5 + 2 * i : Int) ≤ 0 + 5 + 2 * i; omega, by simp, Or.inr ⟨rfl, rfl⟩⟩
  intro j hj
  simp at hj
  simp [List.getD, hj]
theorem Alone.wait {i k : Nat} {t : Int} {n : Fed.Node} (h : Alone i k t n) (hi : i < k) (hd : n.due ≠ t + 1) : tickS n = ⟨{ n with clock := t + 1 }, []⟩ ∧ Alone i k (t + 1) { n with clock := t + 1 } := by
  have hr : n.role ≠ 2 := by rcases h.role with h1 | h1 <;> omega
  have hin : ¬ (decide (0 ≤ n.id ∧ n.id < (n.votes.length : Int)) = false) := by
    have h1 := h.id; have h2 := h.votes
    simp; omega
  constructor
  · unfold tickS
    rw [if_neg hin, if_neg hr, h.clock, if_neg (by have := h.due; omega)]
  · exact ⟨h.id, h.votes, h.nxt, h.one, h.mtch, h.forms, h.log, rfl, by have := h.due; show t + 1 < n.due; omega, by have := h.due1; show n.due ≤ t + 1 + 5 + 2 * i; omega, ⟨h.term.1, by have := h.term.2; show n.term ≤ t + 1; omega⟩, h.role⟩
theorem ask_mem {n : Fed.Node} {k : Nat} {m : Fed.Msg} (h : m ∈ askMsgs n k) : m.kind = 1 ∧ m.term = n.term ∧ m.frm = n.id ∧ m.to ≠ n.id := by
  unfold askMsgs at h
  obtain ⟨j, hj, rfl⟩ := List.mem_map.1 h
  obtain ⟨_, hj⟩ := List.mem_filter.1 hj
  exact ⟨rfl, rfl, rfl, by simpa [voteMsg] using hj⟩
theorem ask_len {n : Fed.Node} {i : Nat} (hi : n.id = i) : ∀ k, (askMsgs n k).length = if i < k then k - 1 else k := by
  intro k
  induction k with
  | zero => simp [askMsgs]
  | succ k ih =>
    by_cases h : (k : Int) = n.id
    · rw [askMsgs_skip h, ih]
      rw [if_neg (by omega), if_pos (by omega)]
      omega
    · rw [askMsgs_step h, List.length_append, ih]
      split <;> simp <;> (try split) <;> omega
theorem Alone.stand {i k : Nat} {t : Int} {n : Fed.Node} (h : Alone i k t n) (hi : i < k) (hk : 2 ≤ k) (ht : 0 ≤ t) (hd : n.due = t + 1) :
    ∃ o : NS, tickS n = o ∧ Alone i k (t + 1) o.n ∧ o.n.term = n.term + 1 ∧ o.n.due = t + 1 + 5 + 2 * i ∧ o.out.length = k - 1 ∧ ∀ m, m ∈ o.out → m.kind = 1 ∧ m.term = n.term + 1 ∧ m.frm = i ∧ m.to ≠ i := by
  have hr : n.role ≠ 2 := by rcases h.role with h1 | h1 <;> omega
  have hin : ¬ (decide (0 ≤ n.id ∧ n.id < (n.votes.length : Int)) = false) := by
    have h1 := h.id; have h2 := h.votes
    simp; omega
  have hv := h.votes
  have he : tickS n = ⟨standN { n with clock := t + 1 }, askMsgs (standN { n with clock := t + 1 }) n.votes.length⟩ := by
    unfold tickS
    rw [if_neg hin, if_neg hr, h.clock, if_pos (by omega)]
    unfold standS
    rw [if_neg (by show ¬ n.votes.length = 1; omega)]
    simp
  refine ⟨⟨standN { n with clock := t + 1 }, askMsgs (standN { n with clock := t + 1 }) n.votes.length⟩, he, ?_, rfl, ?_, ?_, ?_⟩
  · exact ⟨h.id, by show ((List.replicate n.votes.length false).set _ true).length = k; simpa using hv, h.nxt, h.one, h.mtch, h.forms, h.log, rfl, by show t + 1 < t + 1 + 5 + 2 * n.id; have := h.id; omega, by show t + 1 + 5 + 2 * n.id ≤ t + 1 + 5 + 2 * i; have := h.id; omega, ⟨by show 0 ≤ n.term + 1; have := h.term.1; omega, by show n.term + 1 ≤ t + 1; have := h.term.2; omega⟩, Or.inl ⟨rfl, by show 0 < n.term + 1; have := h.term.1; omega⟩⟩
  · show t + 1 + 5 + 2 * n.id = t + 1 + 5 + 2 * i; rw [h.id]
  · rw [ask_len (n := standN { n with clock := t + 1 }) (i := i) h.id]
    rw [if_pos (by omega), hv]
  · intro m hm
    obtain ⟨h1, h2, h3, h4⟩ := ask_mem hm
    have e1 : (standN { n with clock := t + 1 }).id = i := h.id
    rw [e1] at h3 h4
    exact ⟨h1, h2, h3, h4⟩

end Go.Proofs.Ytnkmljdkokcdjaa
