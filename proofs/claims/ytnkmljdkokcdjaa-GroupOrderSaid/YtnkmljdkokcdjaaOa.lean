/- A leader that stays, in plain Lean: what its entries, and what is told of them, bring about at each node. -/
import Derived.Test.YtnkmljdkokcdjaaMi
import Derived.Test.YtnkmljdkokcdjaaGh
set_option linter.unusedVariables false
set_option linter.unusedSimpArgs false
namespace Fed
open Go Go.RowKit Go.Proofs.Ytnkmljdkokcdjaa
set_option linter.unusedVariables false

/-- All of a log is of term 1. -/
def OneT (W : List Entry) : Prop := ∀ c : Nat, 1 ≤ c → c ≤ W.length → termAt W (c : Int) = 1
theorem OneT.snoc {W : List Entry} (h : OneT W) (d : ByteArray) : OneT (W ++ [⟨1, d⟩]) := fun c c1 c2 => by
  by_cases hc : c ≤ W.length
  · rw [termAt_append hc]; exact h c c1 hc
  · exact termAt_new (fun e he => by rw [List.mem_singleton.1 he]) (by omega) c2
/-- The leader, node 0. -/
structure LdN (k : Nat) (W : List Entry) (n : Node) : Prop where
  id : n.id = 0
  tm : n.term = 1
  rl : n.role = 2
  lg : n.log = W
  vl : n.votes.length = k
  xl : n.nxt.length = k
  ml : n.mtch.length = k
  fl : n.forms.length = k
  cm : 0 ≤ n.commit ∧ n.commit ≤ W.length
  mt : ∀ j, j < k → 0 ≤ n.mtch.getD j 0 ∧ n.mtch.getD j 0 ≤ W.length
  nx : ∀ j, j < k → 1 ≤ n.nxt.getD j 0 ∧ n.nxt.getD j 0 ≤ W.length + 1
  m0 : n.mtch.getD 0 0 = W.length
/-- A follower, node j, that has a of the leader's entries, and is not due within d ticks. -/
structure FoN (k : Nat) (W : List Entry) (d : Int) (j a : Nat) (n : Node) : Prop where
  id : n.id = j
  tm : n.term = 1
  rl : n.role = 0
  lg : n.log = W.take a
  al : a ≤ W.length
  vl : n.votes.length = k
  cm : 0 ≤ n.commit ∧ n.commit ≤ W.length
  du : n.clock + d ≤ n.due
/-- Entries of the leader's log fly to j, from behind i on. -/
structure AppOk (k : Nat) (W : List Entry) (j i : Nat) (m : Msg) : Prop where
  kd : m.kind = 3
  fr : m.frm = 0
  dst : m.to = j
  tm : m.term = 1
  ix : m.index = i
  le : i + m.entries.length ≤ W.length
  es : m.entries = (W.drop i).take m.entries.length
  lt : m.logTerm = termAt W (i : Int)
  cm : 0 ≤ m.commit ∧ m.commit ≤ W.length
/-- j tells that it has i of them (or: no more than i). -/
structure MatOk (j i : Nat) (m : Msg) : Prop where
  kd : m.kind = 4
  fr : m.frm = j
  dst : m.to = 0
  tm : m.term = 1
  ix : m.index = i
theorem AppOk.snoc {k j i : Nat} {W : List Entry} {m : Msg} (h : AppOk k W j i m) (e : Entry) : AppOk k (W ++ [e]) j i m := by
  have hl := h.le
  refine ⟨h.kd, h.fr, h.dst, h.tm, h.ix, by rw [List.length_append]; omega, ?_, ?_, h.cm.1, by rw [List.length_append]; have := h.cm.2; omega⟩
  · rw [List.drop_append_of_le_length (by omega), List.take_append_of_le_length (by rw [List.length_drop]; omega)]; exact h.es
  · rw [h.lt]
    by_cases h0 : 1 ≤ i
    · exact (termAt_append (by omega)).symm
    · obtain rfl : i = 0 := by omega
      rw [termAt_zero, termAt_zero]
theorem FoN.snoc {k j a : Nat} {W : List Entry} {d : Int} {n : Node} (h : FoN k W d j a n) (e : Entry) : FoN k (W ++ [e]) d j a n :=
  ⟨h.id, h.tm, h.rl, by rw [List.take_append_of_le_length h.al]; exact h.lg, by rw [List.length_append]; have := h.al; omega, h.vl, ⟨h.cm.1, by rw [List.length_append]; have := h.cm.2; omega⟩, h.du⟩
theorem FoN.less {k j a : Nat} {W : List Entry} {d d' : Int} {n : Node} (h : FoN k W d j a n) (hd : d' ≤ d) : FoN k W d' j a n := ⟨h.id, h.tm, h.rl, h.lg, h.al, h.vl, h.cm, by have := h.du; omega⟩
theorem take_agree {W : List Entry} {a x : Nat} (ha : a ≤ W.length) (hx : x ≤ a) : agree (W.take a) W x := by
  refine ⟨by rw [List.length_take]; omega, by omega, ?_⟩
  rw [List.take_take, Nat.min_eq_left hx]
/-- Entries come to a follower. -/
theorem fo_append {k j a i : Nat} {W : List Entry} {d : Int} {n : Node} {m : Msg} (h : FoN k W d j a n) (hW : OneT W) (hj : j < k) (hm : AppOk k W j i m) :
    ∃ n' r, handleS n m = ⟨n', [r]⟩ ∧ n'.clock = n.clock ∧
      (i ≤ a → MatOk j (i + m.entries.length) r ∧ r.ok = true ∧ FoN k W (5 + 2 * j) j (max a (i + m.entries.length)) n' ∧ n'.commit = mx n.commit (mn m.commit (i + m.entries.length : Nat))) ∧
      (a < i → MatOk j a r ∧ r.ok = false ∧ FoN k W (5 + 2 * j) j a n' ∧ n'.commit = n.commit) := by
  have hll : n.log.length = a := by rw [h.lg, List.length_take]; have := h.al; omega
  have hk0 : 0 < k := by omega
  have e1 : handleS n m = appendS ⟨n, []⟩ m := by
    unfold handleS
    rw [if_pos ⟨⟨by rw [hm.fr]; omega, by rw [hm.fr, h.vl]; omega⟩, by rw [h.id]; omega, by rw [h.id, h.vl]; omega⟩]
    have eb : bump n m = n := by unfold bump; rw [if_neg (by rw [h.tm, hm.tm]; omega)]
    rw [eb]
    unfold handleIn
    rw [if_neg (by rw [hm.kd]; omega), if_neg (by rw [hm.kd]; omega), if_pos hm.kd]
  have hfit : fits n m = decide (i ≤ a) := by
    unfold fits
    rw [hll, hm.ix, hm.lt]
    by_cases hi : i ≤ a
    · have h1 : decide ((a : Int) < (i : Int)) = false := decide_eq_false (by omega)
      rw [h1, decide_eq_true hi, Bool.false_or]
      by_cases h0 : 1 ≤ i
      · have ht : termAt n.log (i : Int) = termAt W (i : Int) := by rw [h.lg]; exact (take_agree h.al hi).term h0 (Nat.le_refl _)
        rw [decide_eq_false (show ¬ termAt n.log (i : Int) ≠ termAt W (i : Int) from fun c => c ht)]
        simp
      · rw [decide_eq_false (show ¬ (0 : Int) < (i : Int) by omega)]; rfl
    · have h1 : decide ((a : Int) < (i : Int)) = true := decide_eq_true (by omega)
      rw [h1, decide_eq_false hi]; rfl
  have e2 : handleS n m = if i ≤ a then ⟨appendN n m, [matchMsg n m.frm (m.index + m.entries.length) true]⟩ else ⟨appendN0 n, [matchMsg n m.frm (mn n.log.length (m.index - 1)) false]⟩ := by
    rw [e1]
    unfold appendS
    rw [if_neg (by rw [hm.tm]; exact fun c => c h.tm.symm), hfit]
    by_cases hi : i ≤ a
    · rw [if_pos hi, if_neg (by rw [decide_eq_true hi]; simp)]; rfl
    · rw [if_neg hi, if_pos (by rw [decide_eq_false hi])]; rfl
  by_cases hi : i ≤ a
  · rw [e2, if_pos hi]
    refine ⟨_, _, rfl, rfl, fun _ => ⟨⟨rfl, h.id, hm.fr, h.tm, by show m.index + _ = _; rw [hm.ix]; omega⟩, rfl, ⟨h.id, h.tm, rfl, ?_, ?_, h.vl, ?_, by show n.clock + (5 + 2 * (j : Int)) ≤ n.clock + 5 + 2 * n.id; rw [h.id]; omega⟩, ?_⟩, fun hc => absurd hi (by omega)⟩
    · show takeL n.log (mx m.index 0).toNat m.entries = _
      have e0 : (mx m.index 0).toNat = i := by rw [hm.ix, mx_eq]; omega
      rw [e0, h.lg]
      rcases takeL_two (l := W.take a) (L := W) (fun x x1 x2 x3 _ => take_agree h.al (by rw [List.length_take] at x2; omega)) m.entries i hm.le hm.es (take_agree h.al hi) with ⟨q1, q2⟩ | ⟨q1, q2⟩
      · have := q2.1
        rw [List.length_take] at this
        rw [q1, Nat.max_eq_left (by omega)]
      · have : ¬ i + m.entries.length ≤ a := fun c => q2 (take_agree h.al c)
        rw [q1, Nat.max_eq_right (by omega)]
    · have := h.al; have := hm.le; omega
    · show 0 ≤ mx n.commit (mn m.commit (m.index + m.entries.length)) ∧ mx n.commit (mn m.commit (m.index + m.entries.length)) ≤ W.length
      have := h.cm; have := hm.cm
      rw [mx_eq, mn_eq]; omega
    · show mx n.commit (mn m.commit (m.index + m.entries.length)) = _
      rw [hm.ix]; rfl
  · rw [e2, if_neg hi]
    refine ⟨_, _, rfl, rfl, fun hc => absurd hc hi, fun _ => ⟨⟨rfl, h.id, hm.fr, h.tm, by show mn n.log.length (m.index - 1) = _; rw [hll, hm.ix, mn_eq]; omega⟩, rfl, ⟨h.id, h.tm, rfl, h.lg, h.al, h.vl, h.cm, by show n.clock + (5 + 2 * (j : Int)) ≤ n.clock + 5 + 2 * n.id; rw [h.id]; omega⟩, rfl⟩⟩
theorem reachedFrom_le {n : Node} {N : Int} (hc : n.commit ≤ N) : ∀ c : Nat, (c : Int) ≤ N → reachedFrom n c ≤ N ∧ n.commit ≤ reachedFrom n c
  | 0, _ => ⟨hc, Int.le_refl _⟩
  | c + 1, h => by
    unfold reachedFrom
    split
    · exact ⟨hc, Int.le_refl _⟩
    · split
      · exact ⟨h, by omega⟩
      · exact reachedFrom_le hc c (by omega)
theorem getD_set_ne {l : List Int} {i j : Nat} {v : Int} (h : i ≠ j) : (l.set i v).getD j 0 = l.getD j 0 := by
  rw [List.getD_eq_getElem?_getD, List.getElem?_set, if_neg h, ← List.getD_eq_getElem?_getD]
theorem getD_set_eq {l : List Int} {i : Nat} {v : Int} (h : i < l.length) : (l.set i v).getD i 0 = v := by
  rw [List.getD_eq_getElem?_getD, List.getElem?_set, if_pos rfl, if_pos h]; rfl
theorem countG_all {x : Int} : ∀ {l : List Int}, (∀ q, q < l.length → x ≤ l.getD q 0) → countG l x = l.length
  | [], _ => rfl
  | y :: l, h => by
    have h0 : x ≤ y := h 0 (by simp)
    have ih := countG_all (x := x) (l := l) fun q hq => h (q + 1) (by simpa using hq)
    unfold countG at ih ⊢
    rw [List.filter_cons, if_pos (by simpa using h0), List.length_cons, List.length_cons, ih]
/-- What is told comes to the leader. -/
theorem ld_match {k j i : Nat} {W : List Entry} {n : Node} {m : Msg} (h : LdN k W n) (hW : OneT W) (hj1 : 1 ≤ j) (hj : j < k) (hm : MatOk j i m) (hi : i ≤ W.length) :
    ∃ n' out, handleS n m = ⟨n', out⟩ ∧ LdN k W n' ∧ n'.clock = n.clock ∧ n.commit ≤ n'.commit ∧ (∀ q, q ≠ j → n'.mtch.getD q 0 = n.mtch.getD q 0 ∧ n'.nxt.getD q 0 = n.nxt.getD q 0) ∧
      (m.ok = true → out = [] ∧ n'.mtch.getD j 0 = max (n.mtch.getD j 0) i ∧ n'.nxt.getD j 0 = n'.mtch.getD j 0 + 1 ∧ ((∀ q, q < k → n'.mtch.getD q 0 = W.length) → n'.commit = W.length)) ∧
      (m.ok = false → n'.commit = n.commit ∧ n'.mtch = n.mtch ∧ n'.nxt.getD j 0 ≤ (i : Int) + 1 ∧ out = [entriesMsg n' (j : Int)]) := by
  have e1 : handleS n m = matchS ⟨n, []⟩ m := by
    unfold handleS
    rw [if_pos ⟨⟨by rw [hm.fr]; omega, by rw [hm.fr, h.vl]; omega⟩, by rw [h.id]; omega, by rw [h.id, h.vl]; omega⟩]
    have eb : bump n m = n := by unfold bump; rw [if_neg (by rw [h.tm, hm.tm]; omega)]
    rw [eb]
    unfold handleIn
    rw [if_neg (by rw [hm.kd]; omega), if_neg (by rw [hm.kd]; omega), if_neg (by rw [hm.kd]; omega), if_pos hm.kd]
  have hjn : m.frm.toNat = j := by rw [hm.fr, Int.toNat_natCast]
  have hmj := h.mt j hj
  have hnj := h.nx j hj
  cases hok : m.ok
  · have e2 : handleS n m = ⟨matchNo n m, [entriesMsg (matchNo n m) m.frm]⟩ := by
      rw [e1]
      unfold matchS
      rw [if_neg (by rintro (q | q); exact q h.rl; exact q (hm.tm.trans h.tm.symm)), if_pos hok]
      rfl
    have hnx : (matchNo n m).nxt.getD j 0 = mx 1 (mn (n.nxt.getD j 0 - 2) (i : Int) + 1) := by
      show (n.nxt.set m.frm.toNat (mx 1 (mn (n.nxt.getD m.frm.toNat 0 - 2) m.index + 1))).getD j 0 = _
      rw [hjn, hm.ix]
      exact getD_set_eq (by rw [h.xl]; exact hj)
    have hnx2 : ∀ q, q ≠ j → (matchNo n m).nxt.getD q 0 = n.nxt.getD q 0 := fun q hq => by
      show (n.nxt.set m.frm.toNat _).getD q 0 = _
      rw [hjn]; exact getD_set_ne (fun e => hq e.symm)
    refine ⟨_, _, e2, ⟨h.id, h.tm, h.rl, h.lg, h.vl, by show (n.nxt.set _ _).length = k; rw [List.length_set]; exact h.xl, h.ml, by show (n.forms.set _ _).length = k; rw [List.length_set]; exact h.fl, h.cm, h.mt, fun q hq => ?_, h.m0⟩, rfl, Int.le_refl _, fun q hq => ⟨rfl, hnx2 q hq⟩, fun hc => (by cases hc), fun _ => ⟨rfl, rfl, ?_, by rw [hm.fr]⟩⟩
    · by_cases hqj : q = j
      · subst hqj; rw [hnx, mx_eq, mn_eq]; omega
      · rw [hnx2 q hqj]; exact h.nx q hq
    · rw [hnx, mx_eq, mn_eq]; omega
  · have e2 : handleS n m = ⟨matchYes n m, []⟩ := by
      rw [e1]
      unfold matchS
      rw [if_neg (by rintro (q | q); exact q h.rl; exact q (hm.tm.trans h.tm.symm)), if_neg (by rw [hok]; simp)]
    have hmt : (matchYes n m).mtch.getD j 0 = mx (n.mtch.getD j 0) (i : Int) := by
      show (n.mtch.set m.frm.toNat (mx (n.mtch.getD m.frm.toNat 0) m.index)).getD j 0 = _
      rw [hjn, hm.ix]
      exact getD_set_eq (by rw [h.ml]; exact hj)
    have hmt2 : ∀ q, q ≠ j → (matchYes n m).mtch.getD q 0 = n.mtch.getD q 0 := fun q hq => by
      show (n.mtch.set m.frm.toNat _).getD q 0 = _
      rw [hjn]; exact getD_set_ne (fun e => hq e.symm)
    have hnx : (matchYes n m).nxt.getD j 0 = mx (n.mtch.getD j 0) (i : Int) + 1 := by
      show (n.nxt.set m.frm.toNat (mx (n.mtch.getD m.frm.toNat 0) m.index + 1)).getD j 0 = _
      rw [hjn, hm.ix]
      exact getD_set_eq (by rw [h.xl]; exact hj)
    have hnx2 : ∀ q, q ≠ j → (matchYes n m).nxt.getD q 0 = n.nxt.getD q 0 := fun q hq => by
      show (n.nxt.set m.frm.toNat _).getD q 0 = _
      rw [hjn]; exact getD_set_ne (fun e => hq e.symm)
    have hr := reachedFrom_le (n := matchN1 n m) (N := W.length) h.cm.2 n.log.length (by rw [h.lg]; omega)
    refine ⟨_, _, e2, ⟨h.id, h.tm, h.rl, h.lg, h.vl, by show (n.nxt.set _ _).length = k; rw [List.length_set]; exact h.xl, by show (n.mtch.set _ _).length = k; rw [List.length_set]; exact h.ml, by show (n.forms.set _ _).length = k; rw [List.length_set]; exact h.fl, ⟨?_, ?_⟩, fun q hq => ?_, fun q hq => ?_, ?_⟩, rfl, ?_, fun q hq => ⟨hmt2 q hq, hnx2 q hq⟩, fun _ => ⟨rfl, by rw [hmt, mx_eq], by rw [hnx, hmt], fun hall => ?_⟩, fun hc => (by cases hc)⟩
    · show 0 ≤ reachedFrom (matchN1 n m) n.log.length
      have := h.cm.1; have h2 : n.commit ≤ _ := hr.2; omega
    · exact hr.1
    · by_cases hqj : q = j
      · subst hqj; rw [hmt, mx_eq]; omega
      · rw [hmt2 q hqj]; exact h.mt q hq
    · by_cases hqj : q = j
      · subst hqj; rw [hnx, mx_eq]; omega
      · rw [hnx2 q hqj]; exact h.nx q hq
    · rw [hmt2 0 (by omega)]; exact h.m0
    · exact hr.2
    · show reachedFrom (matchN1 n m) n.log.length = _
      have hlg : (matchN1 n m).log = W := h.lg
      rw [h.lg]
      cases hL : W.length with
      | zero =>
        unfold reachedFrom
        show n.commit = _
        have := h.cm; omega
      | succ c =>
        unfold reachedFrom
        by_cases hc : ((c + 1 : Nat) : Int) ≤ (matchN1 n m).commit
        · rw [if_pos hc]
          show n.commit = _
          have := h.cm; have hc2 : ((c + 1 : Nat) : Int) ≤ n.commit := hc; omega
        · rw [if_neg hc, if_pos]
          refine ⟨?_, ?_⟩
          · rw [hlg, ← hL, hW _ (by omega) (Nat.le_refl _)]; exact h.tm.symm
          · have hcount : countG (matchN1 n m).mtch ((c + 1 : Nat) : Int) = (matchN1 n m).mtch.length := countG_all fun q hq => by
              have hq2 : q < k := by
                have e : (matchN1 n m).mtch.length = k := by show (n.mtch.set _ _).length = k; rw [List.length_set]; exact h.ml
                omega
              have h9 := hall q hq2
              have h8 : (matchN1 n m).mtch.getD q 0 = W.length := h9
              rw [h8, hL]; omega
            have e : (matchN1 n m).mtch.length = k := by show (n.mtch.set _ _).length = k; rw [List.length_set]; exact h.ml
            rw [hcount, e]
            show n.votes.length < 2 * k
            rw [h.vl]; omega
end Fed
