/- The law RaftCommits in plain Lean: the leader that it makes; how far its commit goes with what is told. -/
import Derived.KernelRfl
import Derived.Test.YtnkmljdkokcdjaaRc3
import Derived.Test.YtnkmljdkokcdjaaRe0
set_option linter.unusedVariables false
set_option linter.unusedSimpArgs false
namespace Fed
open Go Go.RowKit Go.Proofs.Ytnkmljdkokcdjaa
set_option linter.unusedVariables false

/-- The law's leader: it ticks five times, all others vote for it. -/
def ledT (k : Nat) : Nat → Node
  | 0 => newN 0 k 1
  | t + 1 => (tickS (ledT k t)).n
def yesMsg (i : Nat) : Msg := ⟨2, (i : Int), 0, 1, 0, 0, true, [], 0, 0⟩
def ledH (k : Nat) : Nat → Node
  | 0 => ledT k 5
  | i + 1 => (handleS (ledH k i) (yesMsg (i + 1))).n
def chk (k : Nat) (n : Node) : Bool :=
  decide (n.log.length ≤ 100) && (decide (n.votes.length = k) && (decide (n.nxt.length = k) && (decide (n.mtch.length = k) && (decide (n.forms.length = k) && (decide (n.id = 0) && (decide (0 ≤ n.term) && (decide (n.term ≤ 100) && (decide (0 ≤ n.clock) && (decide (n.clock ≤ 100) && (decide (n.commit = 0) && (decide (n.role ≠ 2 ∨ n.log.length = 1) && (n.nxt.all (fun x => decide (1 ≤ x) && decide (x ≤ 1)) && n.mtch.all fun x => decide (0 ≤ x) && decide (x ≤ 100)))))))))))))
structure Chk (k : Nat) (n : Node) : Prop where
  ll : n.log.length ≤ 100
  vl : n.votes.length = k
  xl : n.nxt.length = k
  ml : n.mtch.length = k
  fl : n.forms.length = k
  id : n.id = 0
  t0 : 0 ≤ n.term
  t1 : n.term ≤ 100
  c0 : 0 ≤ n.clock
  c1 : n.clock ≤ 100
  cm : n.commit = 0
  rl : n.role = 2 → n.log.length = 1
  nx : ∀ i, i < n.nxt.length → 1 ≤ n.nxt.getD i 0 ∧ n.nxt.getD i 0 ≤ 1
  mt : ∀ i, i < n.mtch.length → 0 ≤ n.mtch.getD i 0 ∧ n.mtch.getD i 0 ≤ 100
theorem all_getD {l : List Int} {p : Int → Bool} (h : l.all p = true) {i : Nat} (hi : i < l.length) : p (l.getD i 0) = true := by
  rw [List.all_eq_true] at h
  rw [List.getD_eq_getElem?_getD, List.getElem?_eq_getElem hi]
  exact h _ (List.getElem_mem hi)
theorem Chk.of {k : Nat} {n : Node} (h : chk k n = true) : Chk k n := by
  unfold chk at h
  simp only [Bool.and_eq_true, decide_eq_true_eq] at h
  obtain ⟨h1, h2, h3, h4, h5, h6, h7, h8, h9, h10, h11, h12, h13, h14⟩ := h
  refine ⟨h1, h2, h3, h4, h5, h6, h7, h8, h9, h10, h11, fun q => ?_, fun i hi => ?_, fun i hi => ?_⟩
  · rcases h12 with h12 | h12
    · exact absurd q h12
    · exact h12
  · have := all_getD h13 hi
    simpa using this
  · have := all_getD h14 hi
    simpa using this
theorem ledT_chk (k t : Nat) (h1 : 2 ≤ k) (h2 : k ≤ 5) (ht : t ≤ 5) : Chk k (ledT k t) := by
  have hk : k = 2 ∨ k = 3 ∨ k = 4 ∨ k = 5 := by omega
  have ht : t = 0 ∨ t = 1 ∨ t = 2 ∨ t = 3 ∨ t = 4 ∨ t = 5 := by omega
  apply Chk.of
  rcases hk with rfl | rfl | rfl | rfl <;> rcases ht with rfl | rfl | rfl | rfl | rfl | rfl <;> kernel_rfl
theorem ledH_chk (k i : Nat) (h1 : 2 ≤ k) (h2 : k ≤ 5) (hi : i < k) : Chk k (ledH k i) := by
  have hk : (k = 2 ∧ (i = 0 ∨ i = 1)) ∨ (k = 3 ∧ (i = 0 ∨ i = 1 ∨ i = 2)) ∨ (k = 4 ∧ (i = 0 ∨ i = 1 ∨ i = 2 ∨ i = 3)) ∨ (k = 5 ∧ (i = 0 ∨ i = 1 ∨ i = 2 ∨ i = 3 ∨ i = 4)) := by omega
  apply Chk.of
  rcases hk with ⟨rfl, rfl | rfl⟩ | ⟨rfl, rfl | rfl | rfl⟩ | ⟨rfl, rfl | rfl | rfl | rfl⟩ | ⟨rfl, rfl | rfl | rfl | rfl | rfl⟩ <;> kernel_rfl
/-- As far as a majority says it has. -/
def best (k : Nat) (at_ : List Int) : Nat → Nat
  | 0 => 0
  | c + 1 => if k < 2 * countG at_ ((c + 1 : Nat) : Int) then c + 1 else best k at_ c
theorem best_le (k : Nat) (a : List Int) : ∀ c, best k a c ≤ c
  | 0 => Nat.le_refl _
  | c + 1 => by
    unfold best
    split
    · exact Nat.le_refl _
    · have := best_le k a c; omega
theorem best_maj (k : Nat) (a : List Int) : ∀ c, best k a c = 0 ∨ k < 2 * countG a ((best k a c : Nat) : Int)
  | 0 => .inl rfl
  | c + 1 => by
    unfold best
    split
    · rename_i h; exact .inr h
    · exact best_maj k a c
theorem countG_set {x v : Int} : ∀ {l : List Int} {i : Nat}, l.getD i 0 ≤ v → countG l x ≤ countG (l.set i v) x
  | [], i, _ => by simp [countG]
  | y :: l, 0, h => by
    simp at h
    unfold countG
    simp only [List.set_cons_zero, List.filter_cons]
    by_cases h1 : x ≤ y
    · rw [if_pos (by simpa using h1), if_pos (by simp; omega)]; simp
    · rw [if_neg (by simpa using h1)]
      split
      · simp
      · exact Nat.le_refl _
  | y :: l, i + 1, h => by
    have := countG_set (x := x) (l := l) (i := i) (v := v) (by simpa using h)
    unfold countG at this ⊢
    simp only [List.set_cons_succ, List.filter_cons]
    split <;> simp <;> omega
/-- What the law's node is known to be. -/
structure LedN (k j : Nat) (a : List Int) (n : Node) : Prop where
  id : n.id = 0
  tm : n.term = 1
  rl : n.role = 2
  ll : n.log.length = j + 1
  lt : ∀ c : Nat, 1 ≤ c → c ≤ j + 1 → termAt n.log (c : Int) = 1
  vl : n.votes.length = k
  xl : n.nxt.length = k
  ml : n.mtch = a
  al : a.length = k
  fl : n.forms.length = k
  ck : 0 ≤ n.clock ∧ n.clock ≤ 100
  nx : ∀ i, i < k → 1 ≤ n.nxt.getD i 0 ∧ n.nxt.getD i 0 ≤ j + 2
  at0 : ∀ i, i < k → 0 ≤ a.getD i 0 ∧ a.getD i 0 ≤ j + 1
  cm : n.commit = (best k a (j + 1) : Int)
def at0 (k j : Nat) : List Int := (List.replicate k 0).set 0 ((j + 1 : Nat) : Int)
def ledChk (k : Nat) (n : Node) : Bool :=
  decide (n.id = 0) && (decide (n.term = 1) && (decide (n.role = 2) && (decide (n.log.length = 1) && (decide (termAt n.log 1 = 1) && (decide (n.votes.length = k) && (decide (n.nxt = List.replicate k 1) && (decide (n.mtch = at0 k 0) && (decide (n.forms.length = k) && (decide (0 ≤ n.clock ∧ n.clock ≤ 100) && (decide (n.commit = 0) && decide (best k (at0 k 0) 1 = 0)))))))))))
theorem at0_len (k j : Nat) : (at0 k j).length = k := by simp [at0]
theorem at0_get {k j i : Nat} (hi : i < k) : (at0 k j).getD i 0 = if i = 0 then ((j + 1 : Nat) : Int) else 0 := by
  unfold at0
  rw [List.getD_eq_getElem?_getD, List.getElem?_set]
  by_cases h : 0 = i
  · subst h; simp [hi]
  · rw [if_neg h, if_neg (fun e => h e.symm), List.getElem?_replicate, if_pos hi]; rfl
theorem count_at0 {k j : Nat} {c : Int} (hc : 1 ≤ c) : countG (at0 k j) c ≤ 1 := by
  unfold at0
  cases k with
  | zero => simp [countG]
  | succ k =>
    rw [List.replicate_succ, List.set_cons_zero]
    unfold countG
    rw [List.filter_cons]
    have h0 : (List.replicate k (0 : Int)).filter (fun y => decide (c ≤ y)) = [] := by
      rw [List.filter_eq_nil_iff]
      intro x hx
      rw [List.eq_of_mem_replicate hx]
      simp; omega
    rw [h0]
    split <;> simp
theorem best_at0 {k j : Nat} (hk : 2 ≤ k) : ∀ c, best k (at0 k j) c = 0
  | 0 => rfl
  | c + 1 => by
    unfold best
    have := count_at0 (k := k) (j := j) (c := ((c + 1 : Nat) : Int)) (by omega)
    rw [if_neg (by omega)]
    exact best_at0 hk c
theorem led_chk (k : Nat) (h1 : 2 ≤ k) (h2 : k ≤ 5) : ledChk k (ledH k (k - 1)) = true := by
  have hk : k = 2 ∨ k = 3 ∨ k = 4 ∨ k = 5 := by omega
  clear h1 h2
  rcases hk with rfl | rfl | rfl | rfl
  · show ledChk 2 (ledH 2 1) = true; kernel_rfl
  · show ledChk 3 (ledH 3 2) = true; kernel_rfl
  · show ledChk 4 (ledH 4 3) = true; kernel_rfl
  · show ledChk 5 (ledH 5 4) = true; kernel_rfl
theorem led_one (k : Nat) (h1 : 2 ≤ k) (h2 : k ≤ 5) : LedN k 0 (at0 k 0) (ledH k (k - 1)) := by
  have h := led_chk k h1 h2
  unfold ledChk at h
  simp only [Bool.and_eq_true, decide_eq_true_eq] at h
  obtain ⟨g1, g2, g3, g4, g5, g6, g7, g8, g9, g10, g11, g12⟩ := h
  refine ⟨g1, g2, g3, g4, fun c c1 c2 => ?_, g6, by rw [g7]; simp, g8, at0_len _ _, g9, g10, fun i hi => ?_, fun i hi => ?_, by rw [g11, g12]; rfl⟩
  · obtain rfl : c = 1 := by omega
    exact g5
  · rw [g7, List.getD_eq_getElem?_getD, List.getElem?_replicate, if_pos hi]
    refine ⟨?_, ?_⟩ <;> simp
  · rw [at0_get hi]
    split <;> omega
theorem led_prop {k j : Nat} {n : Node} (h : LedN k j (at0 k j) n) (hk : 2 ≤ k) (d : ByteArray) : LedN k (j + 1) (at0 k (j + 1)) (proposeS n d).n := by
  have e : (proposeS n d).n = putN n d := by
    unfold proposeS
    rw [if_pos ⟨h.rl, by rw [h.id]; omega, by rw [h.id, h.vl]; omega⟩]
    rfl
  rw [e]
  refine ⟨h.id, h.tm, h.rl, by show (n.log ++ [_]).length = _; rw [List.length_append, h.ll]; rfl, fun c c1 c2 => ?_, h.vl, h.xl, ?_, at0_len _ _, h.fl, h.ck, fun i hi => ?_, fun i hi => ?_, ?_⟩
  · show termAt (n.log ++ [⟨n.term, d⟩]) (c : Int) = 1
    by_cases hc : c ≤ j + 1
    · have := h.lt c c1 hc
      unfold termAt at this ⊢
      rw [if_pos ⟨by omega, by rw [List.length_append]; have := h.ll; omega⟩, List.getElem?_append_left (by have := h.ll; omega)]
      rw [if_pos ⟨by omega, by have := h.ll; omega⟩] at this
      exact this
    · unfold termAt
      have hl := h.ll
      rw [if_pos ⟨by omega, by rw [List.length_append, hl]; simp; omega⟩, List.getElem?_append_right (by omega), show ((c : Int) - 1).toNat - n.log.length = 0 from by omega]
      simp [h.tm]
  · show n.mtch.set n.id.toNat ((n.log.length : Int) + 1) = at0 k (j + 1)
    rw [h.ml, h.id, h.ll]
    unfold at0
    rw [show (0 : Int).toNat = 0 from rfl, List.set_set]
    congr 1
  · have := h.nx i hi
    exact ⟨this.1, by have := this.2; show n.nxt.getD i 0 ≤ _; omega⟩
  · rw [at0_get hi]
    split <;> omega
  · show (if n.votes.length = 1 then _ else n.commit) = _
    rw [if_neg (by rw [h.vl]; omega), h.cm, best_at0 hk, best_at0 hk]
/-- What is told. -/
def tellMsg (frm index : Nat) : Msg := ⟨4, (frm : Int), 0, 1, (index : Int), 0, true, [], 0, 1⟩
def atNext (a : List Int) (frm index : Nat) : List Int := a.set frm (mx (a.getD frm 0) (index : Int))
theorem reached_best {k j b : Nat} {n : Node} {a : List Int} (ht : ∀ c : Nat, 1 ≤ c → c ≤ j + 1 → termAt n.log (c : Int) = n.term) (hv : n.votes.length = k) (hm : n.mtch = a) (hc : n.commit = (b : Int)) (hb : b = 0 ∨ k < 2 * countG a (b : Int)) :
    ∀ c : Nat, c ≤ j + 1 → reachedFrom n c = if b ≤ c then (best k a c : Int) else (b : Int)
  | 0, _ => by
    unfold reachedFrom
    rw [hc]
    by_cases h : b ≤ 0
    · rw [if_pos h]
      obtain rfl : b = 0 := by omega
      rfl
    · rw [if_neg h]
  | c + 1, hcj => by
    unfold reachedFrom
    rw [hc]
    by_cases h1 : ((c + 1 : Nat) : Int) ≤ (b : Int)
    · rw [if_pos h1]
      by_cases h2 : b ≤ c + 1
      · obtain rfl : b = c + 1 := by omega
        rw [if_pos h2]
        rcases hb with hb | hb
        · omega
        · unfold best; rw [if_pos hb]
      · rw [if_neg h2]
    · rw [if_neg h1, if_pos (show b ≤ c + 1 from by omega), ht (c + 1) (by omega) hcj, hv, hm]
      by_cases h3 : k < 2 * countG a ((c + 1 : Nat) : Int)
      · rw [if_pos ⟨rfl, h3⟩]
        unfold best
        rw [if_pos h3]
      · rw [if_neg (fun q => h3 q.2), reached_best ht hv hm hc hb c (by omega), if_pos (by omega)]
        conv => rhs; unfold best
        rw [if_neg h3]
theorem led_tell {k j frm index : Nat} {n : Node} {a : List Int} (h : LedN k j a n) (hk : 2 ≤ k) (hf1 : 1 ≤ frm) (hf : frm < k) (hi : index ≤ j + 1) :
    LedN k j (atNext a frm index) (handleS n (tellMsg frm index)).n ∧ (handleS n (tellMsg frm index)).out = [] ∧ (handleS n (tellMsg frm index)).n.nxt.getD frm 0 = (atNext a frm index).getD frm 0 + 1 := by
  have e : handleS n (tellMsg frm index) = ⟨matchYes n (tellMsg frm index), []⟩ := by
    unfold handleS
    rw [if_pos ⟨⟨by show (0 : Int) ≤ (frm : Int); omega, by rw [h.vl]; show (frm : Int) < _; omega⟩, by rw [h.id]; omega, by rw [h.id, h.vl]; omega⟩]
    have eb : bump n (tellMsg frm index) = n := by unfold bump; rw [if_neg (by rw [h.tm]; show ¬ (1 : Int) < 1; omega)]
    rw [eb]
    unfold handleIn
    rw [if_neg (by show ¬ (4 : Int) = 1; omega), if_neg (by show ¬ (4 : Int) = 2; omega), if_neg (by show ¬ (4 : Int) = 3; omega), if_pos (by rfl)]
    unfold matchS
    rw [if_neg (by rintro (q | q); exact q h.rl; exact q h.tm.symm), if_neg (by show ¬ true = false; simp)]
  rw [e]
  have em : (matchYes n (tellMsg frm index)).mtch = atNext a frm index := by
    show n.mtch.set _ (mx (n.mtch.getD _ 0) _) = _
    rw [h.ml]; rfl
  have hl2 : (atNext a frm index).length = k := by unfold atNext; rw [List.length_set]; exact h.al
  have hg : ∀ i, i < k → (atNext a frm index).getD i 0 = if i = frm then mx (a.getD frm 0) (index : Int) else a.getD i 0 := fun i hi => by
    unfold atNext
    rw [List.getD_eq_getElem?_getD, List.getElem?_set]
    by_cases q : frm = i
    · subst q; rw [if_pos rfl, if_pos rfl, if_pos (by rw [h.al]; exact hf)]; rfl
    · rw [if_neg q, if_neg (fun e => q e.symm), List.getD_eq_getElem?_getD]
  have hcm : (matchYes n (tellMsg frm index)).commit = (best k (atNext a frm index) (j + 1) : Int) := by
    show reachedN (matchN1 n (tellMsg frm index)) = _
    unfold reachedN
    have hll : (matchN1 n (tellMsg frm index)).log.length = j + 1 := h.ll
    have hb : best k a (j + 1) = 0 ∨ k < 2 * countG (atNext a frm index) ((best k a (j + 1) : Nat) : Int) := by
      rcases best_maj k a (j + 1) with q | q
      · exact .inl q
      · refine .inr (Nat.lt_of_lt_of_le q (Nat.mul_le_mul_left 2 ?_))
        exact countG_set (by rw [mx_eq]; omega)
    rw [hll, reached_best (n := matchN1 n (tellMsg frm index)) (j := j) (b := best k a (j + 1)) (k := k) (a := atNext a frm index) (fun c c1 c2 => (h.lt c c1 c2).trans h.tm.symm) h.vl em h.cm hb (j + 1) (Nat.le_refl _), if_pos (best_le _ _ _)]
  refine ⟨⟨h.id, h.tm, h.rl, h.ll, h.lt, h.vl, ?_, em, hl2, ?_, h.ck, fun i hi' => ?_, fun i hi' => ?_, hcm⟩, rfl, ?_⟩
  · show (n.nxt.set _ _).length = k; rw [List.length_set]; exact h.xl
  · show (n.forms.set _ _).length = k; rw [List.length_set]; exact h.fl
  · show 1 ≤ (n.nxt.set frm (mx (n.mtch.getD frm 0) (index : Int) + 1)).getD i 0 ∧ (n.nxt.set frm (mx (n.mtch.getD frm 0) (index : Int) + 1)).getD i 0 ≤ _
    have hx := h.nx i hi'
    have ha := h.at0 frm hf
    rw [List.getD_eq_getElem?_getD, List.getElem?_set, h.ml, mx_eq]
    by_cases q : frm = i
    · rw [if_pos q, if_pos (by rw [h.xl]; exact hf)]
      show 1 ≤ max (a.getD frm 0) (index : Int) + 1 ∧ max (a.getD frm 0) (index : Int) + 1 ≤ _
      omega
    · rw [if_neg q, ← List.getD_eq_getElem?_getD]; exact hx
  · rw [hg i hi', mx_eq]
    have ha := h.at0 frm hf
    have hb := h.at0 i hi'
    split <;> omega
  · show (n.nxt.set frm (mx (n.mtch.getD frm 0) (index : Int) + 1)).getD frm 0 = _
    rw [hg frm hf, if_pos rfl, List.getD_eq_getElem?_getD, List.getElem?_set, if_pos rfl, if_pos (by rw [h.xl]; exact hf), h.ml]
    rfl
end Fed
