/- A group with a leader that stays, in plain Lean: a delivery; what flies falls to nothing; what is on its way comes about. -/
import Derived.Test.YtnkmljdkokcdjaaOa
import Derived.Test.YtnkmljdkokcdjaaGq
set_option linter.unusedVariables false
set_option linter.unusedSimpArgs false
namespace Fed
open Go Go.RowKit Go.Proofs.Ytnkmljdkokcdjaa
set_option linter.unusedVariables false

def nd (s : GS) (j : Nat) : Node := s.ns.getD j blank
/-- Node 0 leads, all is of one term, each follower has A of its entries. -/
structure Ord (k : Nat) (W : List Entry) (d : Int) (A : Nat → Nat) (s : GS) : Prop where
  nl : s.ns.length = k
  us : s.us = List.replicate k true
  ld : LdN k W (nd s 0)
  fo : ∀ j, 1 ≤ j → j < k → FoN k W d j (A j) (nd s j)
  mt : ∀ j, 1 ≤ j → j < k → (nd s 0).mtch.getD j 0 ≤ A j
  nx : ∀ j, 1 ≤ j → j < k → (nd s 0).nxt.getD j 0 = (nd s 0).mtch.getD j 0 + 1
  ms : ∀ m, m ∈ s.f → ∃ j i, 1 ≤ j ∧ j < k ∧ i ≤ A j ∧ (AppOk k W j i m ∨ (MatOk j i m ∧ m.ok = true))
  al : (∀ q, q < k → (nd s 0).mtch.getD q 0 = W.length) → (nd s 0).commit = W.length
theorem nd_set_eq {l : List Node} {i : Nat} {v : Node} (h : i < l.length) : (l.set i v).getD i blank = v := by
  rw [List.getD_eq_getElem?_getD, List.getElem?_set, if_pos rfl, if_pos h]; rfl
theorem nd_set_ne {l : List Node} {i j : Nat} {v : Node} (h : i ≠ j) : (l.set i v).getD j blank = l.getD j blank := by
  rw [List.getD_eq_getElem?_getD, List.getElem?_set, if_neg h, ← List.getD_eq_getElem?_getD]
/-- A message comes. -/
theorem deliver_eq {s : GS} {a j : Nat} {m : Msg} (ha : s.f[a]? = some m) (hto : m.to = (j : Int)) (hj : j < s.ns.length) (hu : s.us.getD j false = true) :
    s.deliver (a : Int) = ⟨s.ns.set j (handleS (nd s j) m).n, s.us, s.f.eraseIdx a ++ (handleS (nd s j) m).out⟩ := by
  obtain ⟨hl, hm⟩ := List.getElem?_eq_some_iff.1 ha
  have h1 : s.has (a : Int) = true := by unfold GS.has; simp [hl]
  have h2 : s.msg (a : Int) = m := by unfold GS.msg; rw [Int.toNat_natCast, List.getD_eq_getElem?_getD, ha]; rfl
  have h3 : s.isUp (s.msg (a : Int)).to = true := by
    rw [h2, hto]; unfold GS.isUp; rw [Int.toNat_natCast, hu]; simp; exact hj
  unfold GS.deliver
  rw [if_pos h1, if_pos h3, h2, hto]
  unfold GS.put GS.cut
  rw [if_pos h1, Int.toNat_natCast, Int.toNat_natCast]
  unfold GS.node nd
  rw [Int.toNat_natCast]
/-- Entries of the leader's log, as the leader sends them. -/
theorem ld_entries {k j : Nat} {W : List Entry} {n : Node} (h : LdN k W n) (hj1 : 1 ≤ j) (hj : j < k) : AppOk k W j (n.nxt.getD j 0 - 1).toNat (entriesMsg n (j : Int)) ∧ (entriesMsg n (j : Int)).entries.length = min 5 (W.length - (n.nxt.getD j 0 - 1).toNat) ∧ (entriesMsg n (j : Int)).commit = n.commit := by
  have hx := h.nx j hj
  have e : entriesAt n (j : Int) = ((n.nxt.getD j 0 - 1).toNat : Int) := by
    unfold entriesAt
    rw [Int.toNat_natCast, h.lg, mx_eq, mn_eq]; omega
  obtain ⟨x, hxx⟩ : ∃ x, x = (n.nxt.getD j 0 - 1).toNat := ⟨_, rfl⟩
  rw [← hxx] at e ⊢
  have hxl : x ≤ W.length := by omega
  have hl : (entriesMsg n (j : Int)).entries.length = min 5 (W.length - x) := by
    show ((n.log.drop (entriesAt n (j : Int)).toNat).take ((mn (entriesAt n (j : Int) + 5) n.log.length).toNat - (entriesAt n (j : Int)).toNat)).length = _
    rw [e, h.lg, Int.toNat_natCast, List.length_take, List.length_drop, mn_eq]; omega
  refine ⟨⟨rfl, h.id, rfl, h.tm, e, by rw [hl]; omega, ?_, ?_, h.cm⟩, hl, rfl⟩
  · rw [hl]
    show (n.log.drop (entriesAt n (j : Int)).toNat).take ((mn (entriesAt n (j : Int) + 5) n.log.length).toNat - (entriesAt n (j : Int)).toNat) = _
    rw [e, h.lg, Int.toNat_natCast, mn_eq]
    congr 1; omega
  · show termAt n.log (entriesAt n (j : Int)) = _
    rw [e, h.lg]
theorem us_get {k j : Nat} {us : List Bool} (h : us = List.replicate k true) (hj : j < k) : us.getD j false = true := by
  rw [h, List.getD_eq_getElem?_getD, List.getElem?_replicate, if_pos hj]; rfl
/-- How many deliveries a message may still bring about. -/
def wt (m : Msg) : Nat := if m.kind = 3 then 2 else 1
def wsum : List Msg → Nat
  | [] => 0
  | m :: l => wt m + wsum l
theorem wsum_append : ∀ (l r : List Msg), wsum (l ++ r) = wsum l + wsum r
  | [], r => by simp [wsum]
  | m :: l, r => by
    show wt m + wsum (l ++ r) = (wt m + wsum l) + wsum r
    rw [wsum_append l r]; omega
theorem wt_pos (m : Msg) : 1 ≤ wt m ∧ wt m ≤ 2 := by unfold wt; split <;> omega
theorem wsum_zero {l : List Msg} (h : wsum l = 0) : l = [] := by
  cases l with
  | nil => rfl
  | cons m l => have := wt_pos m; have h2 : wt m + wsum l = 0 := h; omega
theorem wsum_erase : ∀ {l : List Msg} {a : Nat} {m : Msg}, l[a]? = some m → wsum (l.eraseIdx a) + wt m = wsum l
  | [], a, m, h => by simp at h
  | x :: l, 0, m, h => by
    simp at h; subst h
    show wsum l + wt x = wt x + wsum l; omega
  | x :: l, a + 1, m, h => by
    have ih := wsum_erase (l := l) (a := a) (m := m) (by simpa using h)
    show (wt x + wsum (l.eraseIdx a)) + wt m = wt x + wsum l; omega
theorem wsum_le : ∀ l, wsum l ≤ 2 * l.length
  | [] => Nat.le_refl _
  | m :: l => by
    have := wsum_le l; have := wt_pos m
    show wt m + wsum l ≤ 2 * (l.length + 1); omega
theorem mem_eraseIdx : ∀ {l : List Msg} {a : Nat} {m x : Msg}, l[a]? = some m → x ∈ l → x = m ∨ x ∈ l.eraseIdx a
  | [], a, m, x, h, _ => by simp at h
  | y :: l, 0, m, x, h, hx => by
    simp at h; subst h
    rcases List.mem_cons.1 hx with rfl | hx
    · exact .inl rfl
    · exact .inr hx
  | y :: l, a + 1, m, x, h, hx => by
    rcases List.mem_cons.1 hx with rfl | hx
    · exact .inr (List.mem_cons_self ..)
    · rcases mem_eraseIdx (l := l) (a := a) (by simpa using h) hx with q | q
      · exact .inl q
      · exact .inr (List.mem_cons_of_mem _ q)
/-- What does not fall. -/
structure Mono (s s' : GS) : Prop where
  ck : ∀ j, (nd s' j).clock = (nd s j).clock
  mt : ∀ j, (nd s 0).mtch.getD j 0 ≤ (nd s' 0).mtch.getD j 0
  cm : ∀ j, (nd s j).commit ≤ (nd s' j).commit
theorem Mono.refl (s : GS) : Mono s s := ⟨fun _ => rfl, fun _ => Int.le_refl _, fun _ => Int.le_refl _⟩
theorem Mono.trans {s s' s'' : GS} (h : Mono s s') (h' : Mono s' s'') : Mono s s'' := ⟨fun j => (h'.ck j).trans (h.ck j), fun j => Int.le_trans (h.mt j) (h'.mt j), fun j => Int.le_trans (h.cm j) (h'.cm j)⟩
/-- Node j will have T entries, the leader will know of it, j's commit will be C: it is so, or it is on its way. -/
def Pend (k : Nat) (W : List Entry) (T : Nat) (C : Int) (s : GS) (j : Nat) : Prop :=
  (∃ m i, m ∈ s.f ∧ AppOk k W j i m ∧ T ≤ i + m.entries.length ∧ C ≤ m.commit) ∨
  ((nd s j).clock + 7 ≤ (nd s j).due ∧ C ≤ (nd s j).commit ∧ ((T : Int) ≤ (nd s 0).mtch.getD j 0 ∨ ∃ m i, m ∈ s.f ∧ MatOk j i m ∧ m.ok = true ∧ T ≤ i))
theorem Ord.dv {k : Nat} {W : List Entry} {d : Int} {A : Nat → Nat} {s : GS} (h : Ord k W d A s) (hW : OneT W) (hd : d ≤ 7) {a : Nat} {m : Msg} (ha : s.f[a]? = some m) :
    ∃ A', (∀ q, A q ≤ A' q) ∧ Ord k W d A' (s.deliver (a : Int)) ∧ Mono s (s.deliver (a : Int)) ∧ wsum (s.deliver (a : Int)).f + 1 ≤ wsum s.f ∧
      ∀ (T : Nat) (C : Int) (j : Nat), 1 ≤ j → j < k → C ≤ (T : Int) → Pend k W T C s j → Pend k W T C (s.deliver (a : Int)) j := by
  obtain ⟨j, i, hj1, hj, hiA, hm⟩ := h.ms m (List.mem_of_getElem? ha)
  have hwe := wsum_erase ha
  have hr : ∀ x, x ∈ s.f.eraseIdx a → x ∈ s.f := fun x hx => List.mem_of_mem_eraseIdx hx
  rcases hm with hm | ⟨hm, hok⟩
  · obtain ⟨n', r, e, ck, yes, _⟩ := fo_append (h.fo j hj1 hj) hW hj hm
    have ed := deliver_eq ha hm.dst (by rw [h.nl]; exact hj) (us_get h.us hj)
    rw [e] at ed
    rw [ed]
    obtain ⟨y1, y2, y3, y4⟩ := yes hiA
    clear yes e ed
    have hn : ∀ q, q ≠ j → nd ⟨s.ns.set j n', s.us, s.f.eraseIdx a ++ [r]⟩ q = nd s q := fun q hq => nd_set_ne (fun e => hq e.symm)
    have hnj : nd ⟨s.ns.set j n', s.us, s.f.eraseIdx a ++ [r]⟩ j = n' := nd_set_eq (by rw [h.nl]; exact hj)
    have hn0 := hn 0 (by omega)
    obtain ⟨A', hA'⟩ : ∃ A' : Nat → Nat, A' = fun q => if q = j then max (A j) (i + m.entries.length) else A q := ⟨_, rfl⟩
    have hAj : A' j = max (A j) (i + m.entries.length) := by rw [hA']; exact if_pos rfl
    have hAn : ∀ q, q ≠ j → A' q = A q := fun q hq => by rw [hA']; exact if_neg hq
    have hA : ∀ q, A q ≤ A' q := fun q => by
      by_cases hq : q = j
      · subst hq; rw [hAj]; omega
      · rw [hAn q hq]; exact Nat.le_refl _
    have hcm : (nd s j).commit ≤ n'.commit := by rw [y4, mx_eq]; omega
    have hrm : r ∈ s.f.eraseIdx a ++ [r] := List.mem_append_right _ (List.mem_singleton.2 rfl)
    refine ⟨A', hA, ⟨by show (s.ns.set _ _).length = k; rw [List.length_set]; exact h.nl, h.us, by rw [hn0]; exact h.ld, fun q hq1 hq => ?_, fun q hq1 hq => ?_, fun q hq1 hq => ?_, fun x hx => ?_, by rw [hn0]; exact h.al⟩, ⟨fun q => ?_, fun q => ?_, fun q => ?_⟩, ?_, fun T C q hq1 hq hCT hp => ?_⟩
    · by_cases hqj : q = j
      · subst hqj; rw [hnj, hAj]; exact y3.less (by omega)
      · rw [hn q hqj, hAn q hqj]; exact h.fo q hq1 hq
    · rw [hn0]; have := h.mt q hq1 hq; have := hA q; omega
    · rw [hn0]; exact h.nx q hq1 hq
    · rcases List.mem_append.1 hx with hx | hx
      · obtain ⟨q, i', q1, q2, q3, q4⟩ := h.ms x (hr x hx)
        exact ⟨q, i', q1, q2, Nat.le_trans q3 (hA q), q4⟩
      · rw [List.mem_singleton.1 hx]
        exact ⟨j, _, hj1, hj, by rw [hAj]; omega, .inr ⟨y1, y2⟩⟩
    · by_cases hqj : q = j
      · subst hqj; rw [hnj]; exact ck
      · rw [hn q hqj]
    · rw [hn0]; exact Int.le_refl _
    · by_cases hqj : q = j
      · subst hqj; rw [hnj]; exact hcm
      · rw [hn q hqj]; exact Int.le_refl _
    · have h1 : wt m = 2 := by unfold wt; exact if_pos hm.kd
      have h2 : wt r = 1 := by unfold wt; exact if_neg (by rw [y1.kd]; omega)
      show wsum (s.f.eraseIdx a ++ [r]) + 1 ≤ _
      rw [wsum_append]
      show _ + (wt r + 0) + 1 ≤ _
      omega
    · by_cases hqj : q = j
      · subst hqj
        rcases hp with ⟨x, i', hx, xa, xT, xC⟩ | ⟨p1, p2, p3⟩
        · rcases mem_eraseIdx ha hx with rfl | hx
          · have hii : i' = i := by have := xa.ix; have := hm.ix; omega
            subst hii
            refine .inr ⟨by rw [hnj]; have := y3.du; omega, ?_, .inr ⟨r, _, hrm, y1, y2, xT⟩⟩
            rw [hnj, y4, mx_eq, mn_eq]; omega
          · exact .inl ⟨x, i', List.mem_append_left _ hx, xa, xT, xC⟩
        · refine .inr ⟨by rw [hnj]; have := y3.du; omega, by rw [hnj]; omega, ?_⟩
          rcases p3 with p3 | ⟨x, i', hx, xm, xo, xT⟩
          · exact .inl (by rw [hn0]; exact p3)
          · rcases mem_eraseIdx ha hx with rfl | hx
            · exact absurd xm.kd (by rw [hm.kd]; omega)
            · exact .inr ⟨x, i', List.mem_append_left _ hx, xm, xo, xT⟩
      · rcases hp with ⟨x, i', hx, xa, xT, xC⟩ | ⟨p1, p2, p3⟩
        · rcases mem_eraseIdx ha hx with rfl | hx
          · exact absurd (xa.dst.symm.trans hm.dst) (by omega)
          · exact .inl ⟨x, i', List.mem_append_left _ hx, xa, xT, xC⟩
        · refine .inr ⟨by rw [hn q hqj]; exact p1, by rw [hn q hqj]; exact p2, ?_⟩
          rcases p3 with p3 | ⟨x, i', hx, xm, xo, xT⟩
          · exact .inl (by rw [hn0]; exact p3)
          · rcases mem_eraseIdx ha hx with rfl | hx
            · exact absurd xm.kd (by rw [hm.kd]; omega)
            · exact .inr ⟨x, i', List.mem_append_left _ hx, xm, xo, xT⟩
  · have hal := (h.fo j hj1 hj).al
    obtain ⟨n', out, e, l, ck, cm, ne, yes, _⟩ := ld_match h.ld hW hj1 hj hm (by omega)
    have ed := deliver_eq (j := 0) ha hm.dst (by rw [h.nl]; omega) (us_get h.us (by omega))
    rw [e] at ed
    rw [ed]
    obtain ⟨y1, y2, y3, y4⟩ := yes hok
    subst y1
    clear yes e ed
    have hn : ∀ q, q ≠ 0 → nd ⟨s.ns.set 0 n', s.us, s.f.eraseIdx a ++ []⟩ q = nd s q := fun q hq => nd_set_ne (fun e => hq e.symm)
    have hn0 : nd ⟨s.ns.set 0 n', s.us, s.f.eraseIdx a ++ []⟩ 0 = n' := nd_set_eq (by rw [h.nl]; omega)
    have hmm : ∀ q, (nd s 0).mtch.getD q 0 ≤ n'.mtch.getD q 0 := fun q => by
      by_cases hqj : q = j
      · subst hqj; rw [y2]; omega
      · rw [(ne q hqj).1]; exact Int.le_refl _
    refine ⟨A, fun _ => Nat.le_refl _, ⟨by show (s.ns.set _ _).length = k; rw [List.length_set]; exact h.nl, h.us, by rw [hn0]; exact l, fun q hq1 hq => by rw [hn q (by omega)]; exact h.fo q hq1 hq, fun q hq1 hq => ?_, fun q hq1 hq => ?_, fun x hx => ?_, by rw [hn0]; exact y4⟩, ⟨fun q => ?_, fun q => by rw [hn0]; exact hmm q, fun q => ?_⟩, ?_, fun T C q hq1 hq hCT hp => ?_⟩
    · rw [hn0]
      have hmq := h.mt q hq1 hq
      by_cases hqj : q = j
      · subst hqj; rw [y2]; omega
      · rw [(ne q hqj).1]; exact hmq
    · rw [hn0]
      by_cases hqj : q = j
      · subst hqj; exact y3
      · rw [(ne q hqj).1, (ne q hqj).2]; exact h.nx q hq1 hq
    · rw [List.append_nil] at hx
      exact h.ms x (hr x hx)
    · by_cases hq : q = 0
      · subst hq; rw [hn0]; exact ck
      · rw [hn q hq]
    · by_cases hq : q = 0
      · subst hq; rw [hn0]; exact cm
      · rw [hn q hq]; exact Int.le_refl _
    · have := wt_pos m
      show wsum (s.f.eraseIdx a ++ []) + 1 ≤ _
      rw [List.append_nil]; omega
    · rcases hp with ⟨x, i', hx, xa, xT, xC⟩ | ⟨p1, p2, p3⟩
      · rcases mem_eraseIdx ha hx with rfl | hx
        · exact absurd xa.kd (by rw [hm.kd]; omega)
        · exact .inl ⟨x, i', List.mem_append_left _ hx, xa, xT, xC⟩
      · refine .inr ⟨by rw [hn q (by omega)]; exact p1, by rw [hn q (by omega)]; exact p2, ?_⟩
        rcases p3 with p3 | ⟨x, i', hx, xm, xo, xT⟩
        · exact .inl (by rw [hn0]; have := hmm q; omega)
        · rcases mem_eraseIdx ha hx with rfl | hx
          · have hqj : q = j := by have := xm.fr; have := hm.fr; omega
            have hii : i' = i := by have := xm.ix; have := hm.ix; omega
            subst hqj hii
            exact .inl (by rw [hn0, y2]; omega)
          · exact .inr ⟨x, i', List.mem_append_left _ hx, xm, xo, xT⟩
end Fed
