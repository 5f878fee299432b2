/-
  Entries behind a place, cut off or kept, in plain Lean; the law RaftCuts' message and node.
-/
import Derived.Test.YtnkmljdkokcdjaaRk2
namespace Go.Proofs.Ytnkmljdkokcdjaa
open Go Go.RowKit Fed
set_option linter.unusedVariables false

theorem termAt_get {l : List Fed.Entry} {i : Nat} {e : Fed.Entry} (h : l[i]? = some e) : termAt l ((i + 1 : Nat) : Int) = e.term := by
  have hl : i < l.length := (List.getElem?_eq_some_iff.1 h).1
  unfold termAt
  rw [if_pos ⟨by omega, by omega⟩, show ((((i + 1 : Nat) : Int)) - 1).toNat = i from by omega, h]
  rfl
/-- Where entries e stand in a log from k on: each is there, by its term. -/
def fitsAt (l : List Fed.Entry) (k : Nat) : List Fed.Entry → Bool
  | [] => true
  | e :: es => decide (k < l.length) && decide (termAt l ((k + 1 : Nat) : Int) = e.term) && fitsAt l (k + 1) es
theorem takeL_past : ∀ (es l : List Fed.Entry) (k : Nat), l.length = k → takeL l k es = l ++ es
  | [], l, k, _ => by simp [takeL]
  | e :: es, l, k, h => by
    unfold takeL
    rw [if_neg (by omega), List.take_of_length_le (by omega), takeL_past es (l ++ [e]) (k + 1) (by simp; omega)]
    simp
theorem takeL_eq : ∀ (es l : List Fed.Entry) (k : Nat), k ≤ l.length → (takeL l k es).take k = l.take k ∧ (takeL l k es).length = (if fitsAt l k es then l.length else k + es.length) ∧ (∀ j e, es[j]? = some e → ∃ x, (takeL l k es)[k + j]? = some x ∧ x.term = e.term)
  | [], l, k, h => by simp [takeL, fitsAt]
  | e :: es, l, k, h => by
    unfold takeL
    by_cases hc : termAt l ((k + 1 : Nat) : Int) = e.term ∧ k + 1 ≤ l.length
    · rw [if_pos hc]
      obtain ⟨h1, h2, h3⟩ := takeL_eq es l (k + 1) hc.2
      refine ⟨?_, ?_, ?_⟩
      · have := congrArg (List.take k) h1
        simpa [List.take_take, show min k (k + 1) = k from by omega] using this
      · have hf : fitsAt l k (e :: es) = fitsAt l (k + 1) es := by
          simp only [fitsAt]
          rw [decide_eq_true (show k < l.length from by omega), decide_eq_true hc.1]
          simp
        rw [h2, hf]
        simp only [List.length_cons]
        split <;> omega
      · intro j x hj
        cases j with
        | zero =>
          simp at hj
          subst hj
          have hk : k < l.length := by omega
          have h4 := congrArg (fun l => l[k]?) h1
          simp only [List.getElem?_take, show k < k + 1 from by omega, if_true] at h4
          show ∃ x, (takeL l (k + 1) es)[k]? = some x ∧ _
          rw [h4]
          exact ⟨_, List.getElem?_eq_getElem hk, by rw [← hc.1, termAt_get (List.getElem?_eq_getElem hk)]⟩
        | succ j =>
          have := h3 j x (by simpa using hj)
          rwa [show k + (j + 1) = k + 1 + j from by omega]
    · rw [if_neg hc]
      have hl : (l.take k ++ [e]).length = k + 1 := by simp; omega
      rw [takeL_past es (l.take k ++ [e]) (k + 1) hl]
      refine ⟨?_, ?_, ?_⟩
      · rw [List.append_assoc, List.take_append_of_le_length (by simp; omega), List.take_take, Nat.min_self]
      · have hf : fitsAt l k (e :: es) = false := by
          simp only [fitsAt]
          by_cases h1 : k < l.length
          · rw [decide_eq_false (show ¬ termAt l ((k + 1 : Nat) : Int) = e.term from fun h2 => hc ⟨h2, by omega⟩)]
            simp
          · rw [decide_eq_false h1]
            simp
        rw [hf]
        simp
        omega
      · intro j x hj
        have e1 : l.take k ++ [e] ++ es = l.take k ++ (e :: es) := by simp
        rw [e1, List.getElem?_append_right (by simp; omega)]
        simp only [List.length_take, show min k l.length = k from by omega]
        rw [show k + j - k = j from by omega]
        exact ⟨x, hj, rfl⟩
theorem fitsAt_snoc (l : List Fed.Entry) : ∀ (es : List Fed.Entry) (k : Nat) (e : Fed.Entry), fitsAt l k (es ++ [e]) = (fitsAt l k es && decide (k + es.length < l.length) && decide (termAt l ((k + es.length + 1 : Nat) : Int) = e.term))
  | [], k, e => by simp [fitsAt]
  | x :: es, k, e => by
    simp only [List.cons_append, fitsAt]
    rw [fitsAt_snoc l es (k + 1) e]
    simp only [List.length_cons, Bool.and_assoc]
    rw [show k + 1 + es.length = k + (es.length + 1) from by omega]
theorem fitsAt_take_succ {l es : List Fed.Entry} {k j : Nat} {e : Fed.Entry} (h : es[j]? = some e) : fitsAt l k (es.take (j + 1)) = (fitsAt l k (es.take j) && decide (k + j < l.length) && decide (termAt l ((k + j + 1 : Nat) : Int) = e.term)) := by
  have hj : j < es.length := (List.getElem?_eq_some_iff.1 h).1
  rw [List.take_add_one, h, Option.toList_some, fitsAt_snoc, List.length_take, show min j es.length = j from by omega]

/-- The law's message. -/
def cmsg (T : Int) (k : Nat) (lt : Int) (E : List Fed.Entry) : Fed.Msg := ⟨3, 0, 1, T + 1, k, lt, false, E, 0, 0⟩
def cnode (T : Int) (L : List Fed.Entry) : Fed.Node := { id := 1, term := T, vote := -1, log := L, form := 1, role := 0, commit := 0, votes := [false, false, false], nxt := [1, 1, 1], mtch := [0, 0, 0], forms := [1, 1, 1], clock := 0, due := 7 }
theorem cnode_nb (T : Int) (L : List Fed.Entry) : ∀ i, i < (cnode T L).nxt.length → -1000000 ≤ (cnode T L).nxt.getD i 0 ∧ (cnode T L).nxt.getD i 0 ≤ 1000000 := by
  have : ∀ i : Nat, i < 3 → -1000000 ≤ ([1, 1, 1] : List Int).getD i 0 ∧ ([1, 1, 1] : List Int).getD i 0 ≤ 1000000 := by
    intro i hi
    rcases (show i = 0 ∨ i = 1 ∨ i = 2 by omega) with rfl | rfl | rfl <;> exact ⟨by decide, by decide⟩
  exact this
theorem cnode_mb (T : Int) (L : List Fed.Entry) : ∀ i, i < (cnode T L).mtch.length → -1000000 ≤ (cnode T L).mtch.getD i 0 ∧ (cnode T L).mtch.getD i 0 ≤ 1000000 := by
  have : ∀ i : Nat, i < 3 → -1000000 ≤ ([0, 0, 0] : List Int).getD i 0 ∧ ([0, 0, 0] : List Int).getD i 0 ≤ 1000000 := by
    intro i hi
    rcases (show i = 0 ∨ i = 1 ∨ i = 2 by omega) with rfl | rfl | rfl <;> exact ⟨by decide, by decide⟩
  exact this
theorem cuts_step {T : Int} {L E : List Fed.Entry} {k : Nat} {lt : Int} (hk : k ≤ L.length) (hlt : 0 < k → termAt L k = lt) :
    (handleS (cnode T L) (cmsg T k lt E)).n.log = takeL L k E ∧ (handleS (cnode T L) (cmsg T k lt E)).out = [⟨4, 1, 0, T + 1, (k : Int) + E.length, 0, true, [], 0, 1⟩] := by
  have e0 : handleS (cnode T L) (cmsg T k lt E) = appendS ⟨bump (cnode T L) (cmsg T k lt E), []⟩ (cmsg T k lt E) := by
    unfold handleS
    have hv : (cnode T L).votes.length = 3 := by simp [cnode]
    rw [if_pos ⟨⟨by show (0 : Int) ≤ 0; omega, by rw [hv]; show (0 : Int) < 3; omega⟩, by simp [cnode], by rw [hv]; simp [cnode]⟩]
    rfl
  have e1 : bump (cnode T L) (cmsg T k lt E) = { cnode T L with term := T + 1, vote := -1, role := 0 } := by
    unfold bump
    rw [if_pos (by show T < T + 1; omega)]
    rfl
  rw [e0, e1]
  unfold appendS
  rw [if_neg (by show ¬ (T + 1 ≠ T + 1); simp)]
  have hf : fits { cnode T L with term := T + 1, vote := -1, role := 0 } (cmsg T k lt E) = true := by
    unfold fits
    show (!(decide ((L.length : Int) < k) || (decide (0 < (k : Int)) && decide (termAt L k ≠ lt)))) = true
    rw [decide_eq_false (show ¬ (L.length : Int) < k from by omega)]
    by_cases hp : 0 < k
    · have := hlt hp
      simp [this]
    · rw [decide_eq_false (show ¬ (0 : Int) < (k : Int) from by omega)]
      rfl
  rw [hf, if_neg (by decide)]
  have hm : mx (k : Int) 0 = k := by unfold mx; omega
  constructor
  · show takeL L (mx (k : Int) 0).toNat E = _
    rw [hm]; rfl
  · show [] ++ [matchMsg _ _ _ _] = _
    simp [matchMsg, cnode, cmsg]
end Go.Proofs.Ytnkmljdkokcdjaa
