/-
  A node alone; a candidate and its votes, in plain Lean.
-/
import Derived.WalkKit
import Derived.WalkSpells
import Derived.Lib.Hide
import Derived.Outline
import Derived.Test.YtnkmljdkokcdjaaChecked
import Derived.Test.YtnkmljdkokcdjaaMn
import Derived.Test.YtnkmljdkokcdjaaMem
import Derived.Test.YtnkmljdkokcdjaaFed
import Derived.Test.YtnkmljdkokcdjaaMe
import Derived.Test.YtnkmljdkokcdjaaRe7
set_option linter.unusedVariables false
set_option linter.unusedSimpArgs false
namespace Go.Proofs.Ytnkmljdkokcdjaa
open Go.RowKit Fed
set_option linter.unusedVariables false
attribute [local go_sem high] Fed.max2_int Fed.min2_int

/-- A node that nobody answers, behind tick t. -/
structure Alone (i k : Nat) (t : Int) (n : Fed.Node) : Prop where
  id : n.id = i
  votes : n.votes.length = k
  nxt : n.nxt.length = k
  one : ∀ j, j < n.nxt.length → -1000000000 ≤ n.nxt.getD j 0 ∧ n.nxt.getD j 0 ≤ 1000000000
  mtch : n.mtch.length = k
  forms : n.forms.length = k
  log : n.log = []
  clock : n.clock = t
  due : t < n.due
  due1 : n.due ≤ t + 5 + 2 * i
  term : 0 ≤ n.term ∧ n.term ≤ t
  role : (n.role = 1 ∧ 0 < n.term) ∨ (n.role = 0 ∧ n.term = 0)
theorem Alone.new (i k : Nat) : Alone i k 0 (newN i k 1) := by
  unfold newN
  refine ⟨rfl, by simp, by simp, ?_, by simp, by simp, rfl, rfl, by show (0 : Int) < 5 + 2 * i; omega, by show (5 + 2 * i : Int) ≤ 0 + 5 + 2 * i; omega, by simp, Or.inr ⟨rfl, rfl⟩⟩
  intro j hj
  simp at hj
  simp [List.getD, hj]
theorem Alone.wait {i k : Nat} {t : Int} {n : Fed.Node} (h : Alone i k t n) (hi : i < k) (hd : n.due ≠ t + 1) : tickS n = ⟨{ n with clock := t + 1 }, []⟩ ∧ Alone i k (t + 1) { n with clock := t + 1 } := by
  have hr : n.role ≠ 2 := by rcases h.role with h1 | h1 <;> omega
  have hin : ¬ (decide (0 ≤ n.id ∧ n.id < (n.votes.length : Int)) = false) := by
    have h1 := h.id; have h2 := h.votes
    simp; omega
  constructor
  · unfold tickS
    rw [if_neg hin, if_neg hr, h.clock, if_neg (by have := h.due; omega)]
  · exact ⟨h.id, h.votes, h.nxt, h.one, h.mtch, h.forms, h.log, rfl, by have := h.due; show t + 1 < n.due; omega, by have := h.due1; show n.due ≤ t + 1 + 5 + 2 * i; omega, ⟨h.term.1, by have := h.term.2; show n.term ≤ t + 1; omega⟩, h.role⟩
theorem ask_mem {n : Fed.Node} {k : Nat} {m : Fed.Msg} (h : m ∈ askMsgs n k) : m.kind = 1 ∧ m.term = n.term ∧ m.frm = n.id ∧ m.to ≠ n.id := by
  unfold askMsgs at h
  obtain ⟨j, hj, rfl⟩ := List.mem_map.1 h
  obtain ⟨_, hj⟩ := List.mem_filter.1 hj
  exact ⟨rfl, rfl, rfl, by simpa [voteMsg] using hj⟩
theorem ask_len {n : Fed.Node} {i : Nat} (hi : n.id = i) : ∀ k, (askMsgs n k).length = if i < k then k - 1 else k := by
  intro k
  induction k with
  | zero => simp [askMsgs]
  | succ k ih =>
    by_cases h : (k : Int) = n.id
    · rw [askMsgs_skip h, ih]
      rw [if_neg (by omega), if_pos (by omega)]
      omega
    · rw [askMsgs_step h, List.length_append, ih]
      split <;> simp <;> (try split) <;> omega
theorem Alone.stand {i k : Nat} {t : Int} {n : Fed.Node} (h : Alone i k t n) (hi : i < k) (hk : 2 ≤ k) (ht : 0 ≤ t) (hd : n.due = t + 1) :
    ∃ o : NS, tickS n = o ∧ Alone i k (t + 1) o.n ∧ o.n.term = n.term + 1 ∧ o.n.due = t + 1 + 5 + 2 * i ∧ o.out.length = k - 1 ∧ ∀ m, m ∈ o.out → m.kind = 1 ∧ m.term = n.term + 1 ∧ m.frm = i ∧ m.to ≠ i := by
  have hr : n.role ≠ 2 := by rcases h.role with h1 | h1 <;> omega
  have hin : ¬ (decide (0 ≤ n.id ∧ n.id < (n.votes.length : Int)) = false) := by
    have h1 := h.id; have h2 := h.votes
    simp; omega
  have hv := h.votes
  have he : tickS n = ⟨standN { n with clock := t + 1 }, askMsgs (standN { n with clock := t + 1 }) n.votes.length⟩ := by
    unfold tickS
    rw [if_neg hin, if_neg hr, h.clock, if_pos (by omega)]
    unfold standS
    rw [if_neg (by show ¬ n.votes.length = 1; omega)]
    simp
  refine ⟨⟨standN { n with clock := t + 1 }, askMsgs (standN { n with clock := t + 1 }) n.votes.length⟩, he, ?_, rfl, ?_, ?_, ?_⟩
  · exact ⟨h.id, by show ((List.replicate n.votes.length false).set _ true).length = k; simpa using hv, h.nxt, h.one, h.mtch, h.forms, h.log, rfl, by show t + 1 < t + 1 + 5 + 2 * n.id; have := h.id; omega, by show t + 1 + 5 + 2 * n.id ≤ t + 1 + 5 + 2 * i; have := h.id; omega, ⟨by show 0 ≤ n.term + 1; have := h.term.1; omega, by show n.term + 1 ≤ t + 1; have := h.term.2; omega⟩, Or.inl ⟨rfl, by show 0 < n.term + 1; have := h.term.1; omega⟩⟩
  · show t + 1 + 5 + 2 * n.id = t + 1 + 5 + 2 * i; rw [h.id]
  · rw [ask_len (n := standN { n with clock := t + 1 }) (i := i) h.id]
    rw [if_pos (by omega), hv]
  · intro m hm
    obtain ⟨h1, h2, h3, h4⟩ := ask_mem hm
    have e1 : (standN { n with clock := t + 1 }).id = i := h.id
    rw [e1] at h3 h4
    exact ⟨h1, h2, h3, h4⟩

end Go.Proofs.Ytnkmljdkokcdjaa
namespace Go.Proofs.Ytnkmljdkokcdjaa
open Go Go.RowKit Fed
set_option linter.unusedVariables false
attribute [local go_sem high] Fed.max2_int Fed.min2_int

theorem within_big (w : World) (a n : Int) (ha : (Lit.int .i64 a).wf = true) (h0 : 0 < n) (h1 : n ≤ 1152921504606846976) :
    Calls Try.prog 23 #[.int .i64 a, .int .i64 n] w fun e w' => e = .returned (.int .i64 (wi a n)) ∧ w = w' := by
  have h2 := Int.tmod_lt_of_pos a h0
  have h3 : -n < a.tmod n := Int.lt_tmod_of_pos a h0
  have h4 : (n == 0) = false := by simp; omega
  unfold wi
  by_cases h : a.tmod n < 0
  · go_enter Try.func23, Try.ntmps23
    go_wp2
    all_goals go_ret
    all_goals exact ⟨MM.ret_int (by first | (simp; done) | go_num), rfl⟩
  · go_enter Try.func23, Try.ntmps23
    go_wp2
    all_goals go_ret
    all_goals exact ⟨MM.ret_int (by first | (simp; done) | go_num), rfl⟩

theorem countT_set {l : List Bool} {f : Nat} (h : f < l.length) : countT (l.set f true) = if l.getD f false = true then countT l else countT l + 1 := by
  induction l generalizing f with
  | nil => cases h
  | cons b l ih =>
    cases f with
    | zero => cases b <;> simp [countT]
    | succ f =>
      have := ih (f := f) (by simpa using h)
      simp only [List.set_cons_succ, List.getD_cons_succ]
      unfold countT at this ⊢
      cases b <;> simp [List.filter_cons, this] <;> split <;> omega
theorem countT_take {l : List Bool} : ∀ {k : Nat}, (∀ j, k ≤ j → l.getD j false = false) → countT (l.take k) = countT l := by
  induction l with
  | nil => intro k _; simp [countT]
  | cons b l ih =>
    intro k h
    cases k with
    | zero =>
      have h0 := h 0 (Nat.le_refl _)
      simp at h0
      have := ih (k := 0) (fun j _ => by have := h (j + 1) (by omega); simpa using this)
      subst h0
      simpa [countT] using this
    | succ k =>
      have := ih (k := k) (fun j hj => by have := h (j + 1) (by omega); simpa using this)
      unfold countT at this ⊢
      cases b <;> simp [List.filter_cons, this]

theorem spread_len {n : Fed.Node} {i : Nat} (hi : n.id = i) : ∀ k, (spreadMsgs n k).length = if i < k then k - 1 else k := by
  intro k
  induction k with
  | zero => simp [spreadMsgs]
  | succ k ih =>
    by_cases h : (k : Int) = n.id
    · rw [spreadMsgs_skip h, ih]
      rw [if_neg (by omega), if_pos (by omega)]
      omega
    · rw [spreadMsgs_step h, List.length_append, ih]
      split <;> simp <;> (try split) <;> omega

/-- A vote for node 0, in term 1. -/
def vmsg (f : Int) (ok : Bool) : Fed.Msg := ⟨2, f, 0, 1, 0, 0, ok, [], 0, 0⟩
/-- Node 0 of k, that stands in term 1 and has these votes; or leads. -/
structure Cand (k : Nat) (n : Fed.Node) (has : List Bool) : Prop where
  id : n.id = 0
  term : n.term = 1
  votes : n.votes.length = k
  nxt : n.nxt.length = k
  mtch : n.mtch.length = k
  forms : n.forms.length = k
  clock : n.clock = 5
  commit : n.commit = 0
  nb : ∀ i, i < n.nxt.length → -1000000 ≤ n.nxt.getD i 0 ∧ n.nxt.getD i 0 ≤ 1000000
  mb : ∀ i, i < n.mtch.length → -1000000 ≤ n.mtch.getD i 0 ∧ n.mtch.getD i 0 ≤ 1000000
  hl : has.length = 5
  st : (2 * countT has ≤ k ∧ n.role = 1 ∧ n.log = [] ∧ n.votes = has.take k ∧ ∀ j, k ≤ j → has.getD j false = false) ∨ (k < 2 * countT has ∧ n.role = 2 ∧ n.log.length = 1)
def hasNext (k : Nat) (has : List Bool) (f : Nat) (ok : Bool) : List Bool := if ok = true ∧ 2 * countT has ≤ k then has.set f true else has
theorem Cand.step {k : Nat} {n : Fed.Node} {has : List Bool} (h : Cand k n has) (hk : 2 ≤ k) (hk1 : k ≤ 5) {f : Nat} (hf1 : f < k) (ok : Bool) :
    Cand k (handleS n (vmsg f ok)).n (hasNext k has f ok) ∧ (handleS n (vmsg f ok)).out.length = if k < 2 * countT (hasNext k has f ok) ∧ 2 * countT has ≤ k then k - 1 else 0 := by
  have e0 : handleS n (vmsg f ok) = votedS ⟨n, []⟩ (vmsg f ok) := by
    unfold handleS
    rw [if_pos ⟨⟨by show (0 : Int) ≤ f; omega, by show (f : Int) < n.votes.length; rw [h.votes]; omega⟩, by rw [h.id]; omega, by rw [h.id, h.votes]; omega⟩]
    have : bump n (vmsg f ok) = n := by unfold bump; rw [if_neg (by rw [h.term]; show ¬ (1 : Int) < 1; omega)]
    rw [this]
    rfl
  rw [e0]
  rcases h.st with ⟨h1, h2, h3, h4, h5⟩ | ⟨h1, h2, h3⟩
  · cases ok with
    | false =>
      have e1 : votedS ⟨n, []⟩ (vmsg f false) = ⟨n, []⟩ := by unfold votedS; rw [if_pos (Or.inr (Or.inr (show (vmsg f false).ok = false from rfl)))]
      have e2 : hasNext k has f false = has := by unfold hasNext; simp
      rw [e1, e2]
      exact ⟨h, by rw [if_neg (by omega)]; rfl⟩
    | true =>
      have e2 : hasNext k has f true = has.set f true := by unfold hasNext; rw [if_pos ⟨rfl, h1⟩]
      have hfl : f < has.length := by rw [h.hl]; omega
      have hv : (votedN n (vmsg f true)).votes = (has.set f true).take k := by
        show n.votes.set ((f : Int)).toNat true = _
        rw [Int.toNat_natCast, h4, List.take_set]
      have hz : ∀ j, k ≤ j → (has.set f true).getD j false = false := fun j hj => by
        have := h5 j hj
        rw [List.getD_eq_getElem?_getD] at this ⊢
        rw [List.getElem?_set_ne (by omega)]
        exact this
      have hc : countT (votedN n (vmsg f true)).votes = countT (has.set f true) := by rw [hv, countT_take hz]
      have e1 : votedS ⟨n, []⟩ (vmsg f true) = if k < 2 * countT (has.set f true) then leadS ⟨votedN n (vmsg f true), []⟩ else ⟨votedN n (vmsg f true), []⟩ := by
        unfold votedS
        rw [if_neg (by intro hh; rcases hh with hh | hh | hh; exact hh h2; exact hh (by rw [h.term]; rfl); cases hh)]
        show (if n.votes.length < 2 * countT (votedN n (vmsg f true)).votes then _ else _) = _
        rw [hc, h.votes]
      have hvl : (votedN n (vmsg f true)).votes.length = k := by show (n.votes.set _ true).length = k; rw [List.length_set]; exact h.votes
      rw [e1, e2]
      by_cases hm : k < 2 * countT (has.set f true)
      · rw [if_pos hm, if_pos ⟨hm, h1⟩]
        have hid : (putN (leadN (votedN n (vmsg f true))) ⟨#[]⟩).id = ((0 : Nat) : Int) := h.id
        refine ⟨⟨h.id, h.term, hvl, ?_, ?_, h.forms, h.clock, ?_, ?_, ?_, by rw [List.length_set]; exact h.hl, Or.inr ⟨hm, rfl, ?_⟩⟩, ?_⟩
        · show (List.replicate (votedN n (vmsg f true)).votes.length _).length = k; rw [List.length_replicate]; exact hvl
        · show ((List.replicate (votedN n (vmsg f true)).votes.length (0 : Int)).set _ _).length = k; rw [List.length_set, List.length_replicate]; exact hvl
        · show (if (votedN n (vmsg f true)).votes.length = 1 then _ else n.commit) = 0; rw [hvl, if_neg (by omega)]; exact h.commit
        · intro i hi
          have hi2 : i < (votedN n (vmsg f true)).votes.length := by
            have : i < (List.replicate (votedN n (vmsg f true)).votes.length (((votedN n (vmsg f true)).log.length : Int) + 1)).length := hi
            simpa using this
          show -1000000 ≤ (List.replicate (votedN n (vmsg f true)).votes.length (((votedN n (vmsg f true)).log.length : Int) + 1)).getD i 0 ∧ _
          have hl0 : (votedN n (vmsg f true)).log.length = 0 := by show n.log.length = 0; rw [h3]; rfl
          rw [List.getD_eq_getElem?_getD, List.getElem?_replicate_of_lt hi2, hl0]
          simp
          have : (leadS ⟨votedN n (vmsg f true), []⟩).n.nxt.getD i 0 = 1 := by
            show (List.replicate (votedN n (vmsg f true)).votes.length (((votedN n (vmsg f true)).log.length : Int) + 1)).getD i 0 = 1
            rw [List.getD_eq_getElem?_getD, List.getElem?_replicate_of_lt hi2, hl0]; rfl
          rw [List.getD_eq_getElem?_getD] at this
          omega
        · intro i hi
          have e : (leadS ⟨votedN n (vmsg f true), []⟩).n.mtch = (List.replicate (votedN n (vmsg f true)).votes.length (0 : Int)).set n.id.toNat ((votedN n (vmsg f true)).log.length + 1) := rfl
          have hl0 : (votedN n (vmsg f true)).log.length = 0 := by show n.log.length = 0; rw [h3]; rfl
          rw [e, hl0] at hi ⊢
          rw [List.getD_eq_getElem?_getD, List.getElem?_set]
          split
          · split <;> simp
          · rw [List.getElem?_replicate]; split <;> simp
        · show (n.log ++ [_]).length = 1; rw [h3]; rfl
        · show ([] ++ spreadMsgs _ (leadN (votedN n (vmsg f true))).votes.length).length = k - 1
          rw [List.nil_append, spread_len hid, show (leadN (votedN n (vmsg f true))).votes.length = k from hvl, if_pos (by omega)]
      · rw [if_neg hm, if_neg (fun hh => hm hh.1)]
        exact ⟨⟨h.id, h.term, hvl, h.nxt, h.mtch, h.forms, h.clock, h.commit, h.nb, h.mb, by rw [List.length_set]; exact h.hl, Or.inl ⟨by omega, h2, h3, hv, hz⟩⟩, rfl⟩
  · have e1 : votedS ⟨n, []⟩ (vmsg f ok) = ⟨n, []⟩ := by unfold votedS; rw [if_pos (Or.inl (by show n.role ≠ 1; rw [h2]; decide))]
    have e2 : hasNext k has f ok = has := by unfold hasNext; rw [if_neg (fun hh => by have := hh.2; omega)]
    rw [e1, e2]
    exact ⟨h, by rw [if_neg (by omega)]; rfl⟩

/-- Node 0 of k, that nobody answers, behind tick j; at the fifth it stands. -/
@[irreducible] def ln (k j : Nat) : Fed.Node := if j < 5 then { newN 0 k 1 with clock := j } else standN { newN 0 k 1 with clock := 5 }
theorem ln_tick {k j : Nat} (hk : 2 ≤ k) (hj : j < 5) : (tickS (ln k j)).n = ln k (j + 1) := by
  unfold ln tickS newN
  rw [if_pos hj]
  rw [if_neg (by simp; omega), if_neg (by show ¬ ((0 : Int) = 2); decide)]
  by_cases h : j + 1 < 5
  · rw [if_neg (by simp; omega), if_pos h]
    simp
  · rw [if_pos (by simp; omega), if_neg h]
    unfold standS
    rw [if_neg (by simp; omega)]
    simp [show j = 4 from by omega]
theorem ln_new (k : Nat) : newN 0 k 1 = ln k 0 := by unfold ln newN; rfl
theorem ln_cand {k : Nat} (hk : 2 ≤ k) (hk1 : k ≤ 5) : Cand k (ln k 5) [true, false, false, false, false] := by
  unfold ln newN
  rw [if_neg (by omega)]
  refine ⟨rfl, by simp [standN], by simp [standN], by simp [standN], by simp [standN], by simp [standN], rfl, rfl, ?_, ?_, rfl, Or.inl ⟨by simpa [countT] using hk, rfl, rfl, ?_, ?_⟩⟩
  · intro i hi
    have : i < k := by simpa [standN] using hi
    simp [standN, List.getD_eq_getElem?_getD, this]
  · intro i hi
    have : i < k := by simpa [standN] using hi
    simp [standN, List.getD_eq_getElem?_getD, this]
  · have : k = 2 ∨ k = 3 ∨ k = 4 ∨ k = 5 := by omega
    rcases this with rfl | rfl | rfl | rfl <;> rfl
  · intro j hj
    have : j = 0 ∨ j = 1 ∨ j = 2 ∨ j = 3 ∨ j = 4 ∨ 5 ≤ j := by omega
    rcases this with rfl | rfl | rfl | rfl | rfl | h
    · omega
    all_goals first | rfl | (rw [List.getD_eq_getElem?_getD, List.getElem?_eq_none (by simpa using h)]; rfl)
theorem ln_facts (k j : Nat) (hj : j ≤ 5) (hk : k ≤ 5) : (ln k j).log.length = 0 ∧ (ln k j).votes.length = k ∧ (ln k j).nxt.length = k ∧ (ln k j).mtch.length = k ∧ (ln k j).forms.length = k ∧ 0 ≤ (ln k j).term ∧ (ln k j).term ≤ 1 ∧ (ln k j).clock = j ∧ ∀ i, i < (ln k j).nxt.length → -1000000000 ≤ (ln k j).nxt.getD i 0 ∧ (ln k j).nxt.getD i 0 ≤ 1000000000 := by
  unfold ln newN
  split
  · refine ⟨rfl, by simp, by simp, by simp, by simp, by simp, by simp, rfl, ?_⟩
    intro i hi
    have : i < k := by simpa using hi
    simp [List.getD_eq_getElem?_getD, this]
  · refine ⟨rfl, by simp [standN], by simp [standN], by simp [standN], by simp [standN], by simp [standN], by simp [standN], by show (5 : Int) = j; omega, ?_⟩
    intro i hi
    have : i < k := by simpa [standN] using hi
    simp [standN, List.getD_eq_getElem?_getD, this]
end Go.Proofs.Ytnkmljdkokcdjaa
