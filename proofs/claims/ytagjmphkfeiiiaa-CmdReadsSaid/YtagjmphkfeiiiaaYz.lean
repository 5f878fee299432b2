/-
  The reference's Decode and Up: they come to what the code's come to; conditions: bytes are bytes, not too many.
-/
import Derived.Test.YtagjmphkfeiiiaaYy
namespace Go.Proofs.Ytagjmphkfeiiiaa.Yz
open Go.RowKit Go.Proofs.YtagjmphkfeiiiaaW.PrintWords Go.Proofs.YtagjmphkfeiiiaaW.PrintLast Go.Proofs.YtagjmphkfeiiiaaW.PrintMore Go.Proofs.Ytagjmphkfeiiiaa.Q Go.Proofs.Ytagjmphkfeiiiaa.Ya Go.Proofs.Ytagjmphkfeiiiaa.Yb Go.Proofs.Ytagjmphkfeiiiaa.Yc Go.Proofs.Ytagjmphkfeiiiaa.Yd Go.Proofs.Ytagjmphkfeiiiaa.Ye Go.Proofs.Ytagjmphkfeiiiaa.Yh Go.Proofs.Ytagjmphkfeiiiaa.Yi Go.Proofs.Ytagjmphkfeiiiaa.Yy
theorem dropf {a l : List Int} (hl : Bytes (a ++ l)) : Bytes l := Bytes.right hl
theorem first_l (K I T : Int) (B : Bool) (tx : ByteArray) (ws : List S40) (hw : ws.all okw = true) (hl : ws.length ≤ 1000) (r : List Int) (hr : Bytes (cat wr1 ws ++ r)) : ∀ (d i : Nat), i + d = ws.length → Bytes (cat wr1 (ws.drop i) ++ r) →
    Ev (fun k => federationref7_reader_first.l0 k (ws.length : Int) (i : Int) (strOfNums (cat wr1 (ws.drop i) ++ r)) false K I T B (ws.take i) tx) (K, I, T, B, ws, tx, strOfNums r, false) := by
  intro d
  induction d with
  | zero =>
    intro i hi _
    have e : i = ws.length := by omega
    subst e
    refine succ' ?_
    simp only [federationref7_reader_first.l0, if_neg (show ¬ ((ws.length : Int) < (ws.length : Int)) by omega)]
    refine succ' ?_
    simp only [federationref7_reader_first.j1, Bool.false_eq_true, if_false]
    simpa [cat] using Ev.now _
  | succ d ih =>
    intro i hi hby
    have hlt : i < ws.length := by omega
    have ho : okw ws[i] = true := List.all_eq_true.1 hw _ (List.getElem_mem hlt)
    obtain ⟨_, h2, h3, _⟩ := okw_sizes ho
    rw [drop_at _ _ hlt, cat_cons, List.append_assoc] at hby ⊢
    have hrest := dropf hby
    refine succ' ?_
    simp only [federationref7_reader_first.l0, if_pos (show (i : Int) < (ws.length : Int) by omega), Bool.not_false]
    refine succ' ?_
    simp only [federationref7_reader_first.j1, if_true]
    have ew : wr1 ws[i] = be 2 (ws[i].f0.size : Int) ++ bytesOf ws[i].f0 ++ be 2 (ws[i].f1.size : Int) ++ bytesOf ws[i].f1 ++ fl ws[i].f2 := rfl
    rw [ew] at hby ⊢
    simp only [List.append_assoc] at hby ⊢
    have b1 := dropf hby
    have b2 := dropf b1
    have b3 := dropf b2
    have b4 := dropf b3
    refine Ev.bind (rfixed_ok 2 ws[i].f0.size _ b1 false (by decide) (Yg.lt2 _ (by omega)) (by omega)) ?_
    simp only [text_of, Option.bind_some]
    refine Ev.bind (rfixed_ok 2 ws[i].f1.size _ b3 false (by decide) (Yg.lt2 _ (by omega)) (by omega)) ?_
    simp only [text_of, Option.bind_some]
    refine Ev.bind (rflag_ok ws[i].f2 _ hrest false) ?_
    simp only [if_pos (show (ws.take i).length < 3518437208883 by rw [List.length_take]; omega), one_flag, wrap_succ i _ hlt (show ws.length ≤ 140737488355328 by omega)]
    have e2 : ws.take i ++ [(⟨ws[i].f0, ws[i].f1, ws[i].f2⟩ : S40)] = ws.take (i + 1) := by rw [List.take_succ_eq_append_getElem hlt]
    rw [e2]
    exact ih (i + 1) (by omega) hrest
theorem first_ok (c : C) (r : List Int) (h : Ok c 1) (hb : Bytes (tail1 c ++ r)) : Ev (fun k => federationref7_reader_first.f k (strOfNums (tail1 c ++ r)) false) (c.kind, c.id, c.txn, c.com, c.ws, c.text, strOfNums r, false) := by
  obtain ⟨h1, h2, h3, h4, h5, h6, h7, h8⟩ := right_parts h.right
  have htx := h.text
  have hid := h.id
  have htn := h.txn
  obtain ⟨kind, id, txn, com, ws, text⟩ := c
  dsimp only at *
  obtain ⟨K, rfl⟩ := Int.eq_ofNat_of_zero_le h1
  obtain ⟨I, rfl⟩ := Int.eq_ofNat_of_zero_le h3
  obtain ⟨T, rfl⟩ := Int.eq_ofNat_of_zero_le h4
  unfold federationref7_reader_first.f
  unfold tail1 at hb ⊢
  dsimp only at hb ⊢
  rw [be1] at hb ⊢
  simp only [List.append_assoc] at hb ⊢
  have b1 := dropf hb
  have b2 := dropf b1
  have b3 := dropf b2
  have b4 := dropf b3
  have b5 := dropf b4
  refine Ev.bind (rfixed_ok 1 K _ b1 false (by decide) (by omega) (by omega)) ?_
  dsimp only
  refine Ev.bind (rfixed_ok 8 I _ b2 false (by decide) (by omega) (by omega)) ?_
  dsimp only
  refine Ev.bind (rfixed_ok 8 T _ b3 false (by decide) (by omega) (by omega)) ?_
  dsimp only
  refine Ev.bind (rflag_ok com _ b4 false) ?_
  dsimp only
  refine Ev.bind (rfixed_ok 2 ws.length _ b5 false (by decide) (Yg.lt2 _ (by omega)) (by omega)) ?_
  dsimp only
  rw [one_flag, htx]
  have hw := first_l (K : Int) (I : Int) (T : Int) com (⟨#[]⟩ : ByteArray) ws h7 h5 r b5 ws.length 0 (by omega) b5
  simpa using hw
theorem second_l (K I T : Int) (B : Bool) (tx tx0 : ByteArray) (ws : List S40) (hw : ws.all okw = true) (hl : ws.length ≤ 1000) (ht : tx.size ≤ 40) (r : List Int) : ∀ (d i : Nat), i + d = ws.length → Bytes (cat wr2 (ws.drop i) ++ (var tx.size ++ (bytesOf tx ++ r))) →
    Ev (fun k => federationref7_reader_second.l0 k (ws.length : Int) (i : Int) (strOfNums (cat wr2 (ws.drop i) ++ (var tx.size ++ (bytesOf tx ++ r)))) false K I T B (ws.take i) tx0) (K, I, T, B, ws, tx, strOfNums r, false) := by
  intro d
  induction d with
  | zero =>
    intro i hi hby
    have e : i = ws.length := by omega
    subst e
    have hby' : Bytes (var tx.size ++ (bytesOf tx ++ r)) := dropf hby
    have b1 := dropf hby'
    refine succ' ?_
    simp only [federationref7_reader_second.l0, if_neg (show ¬ ((ws.length : Int) < (ws.length : Int)) by omega)]
    refine succ' ?_
    simp only [federationref7_reader_second.j1, Bool.false_eq_true, if_false, List.drop_length, cat, List.map_nil, List.flatten_nil, List.nil_append]
    refine Ev.bind (num_ok tx.size _ b1 (by omega)) ?_
    simp only [text_of, Option.bind_some]
    simpa using Ev.now _
  | succ d ih =>
    intro i hi hby
    have hlt : i < ws.length := by omega
    have ho : okw ws[i] = true := List.all_eq_true.1 hw _ (List.getElem_mem hlt)
    obtain ⟨_, h2, h3, h4⟩ := okw_sizes ho
    rw [drop_at _ _ hlt, cat_cons, List.append_assoc] at hby ⊢
    have hrest := dropf hby
    have e2 : ws.take i ++ [(⟨ws[i].f0, ws[i].f1, ws[i].f2⟩ : S40)] = ws.take (i + 1) := by rw [List.take_succ_eq_append_getElem hlt]
    have hgo := ih (i + 1) (by omega) hrest
    refine succ' ?_
    simp only [federationref7_reader_second.l0, if_pos (show (i : Int) < (ws.length : Int) by omega), Bool.not_false]
    refine succ' ?_
    simp only [federationref7_reader_second.j1, if_true]
    have ew : wr2 ws[i] = fl ws[i].f2 ++ var ws[i].f0.size ++ bytesOf ws[i].f0 ++ (if ws[i].f2 then [] else var ws[i].f1.size ++ bytesOf ws[i].f1) := rfl
    rw [ew] at hby ⊢
    simp only [List.append_assoc] at hby ⊢
    have b1 := dropf hby
    have b2 := dropf b1
    have b3 := dropf b2
    refine Ev.bind (rflag_ok ws[i].f2 _ b1 false) ?_
    dsimp only
    refine Ev.bind (num_ok ws[i].f0.size _ b2 (by omega)) ?_
    simp only [text_of, Option.bind_some]
    have hlen : (ws.take i).length < 3518437208883 := by rw [List.length_take]; omega
    cases hg : ws[i].f2 with
    | true =>
      rw [hg] at e2
      have h40 := h4 hg
      rw [h40] at e2
      simp only [if_true, List.nil_append, if_pos hlen, wrap_succ i _ hlt (show ws.length ≤ 140737488355328 by omega)]
      have e3 : ((1 : Int) == 1) = true := rfl
      rw [e3, e2]
      exact hgo
    | false =>
      rw [hg] at e2 b3
      simp only [Bool.false_eq_true, if_false, List.append_assoc] at b3 ⊢
      have b4 := dropf b3
      simp only [show ¬ ((0 : Int) = 1) by decide, if_false]
      refine Ev.bind (num_ok ws[i].f1.size _ b4 (by omega)) ?_
      simp only [text_of, Option.bind_some, if_pos hlen, wrap_succ i _ hlt (show ws.length ≤ 140737488355328 by omega)]
      have e3 : ((0 : Int) == 1) = false := rfl
      rw [e3, e2]
      exact hgo
theorem second_ok (c : C) (r : List Int) (h : Ok c 2) (hb : Bytes (tail2 c ++ r)) : Ev (fun k => federationref7_reader_second.f k (strOfNums (tail2 c ++ r)) false) (c.kind, c.id, c.txn, c.com, c.ws, c.text, strOfNums r, false) := by
  obtain ⟨h1, h2, h3, h4, h5, h6, h7, h8⟩ := right_parts h.right
  have hid := h.id
  have htn := h.txn
  obtain ⟨kind, id, txn, com, ws, text⟩ := c
  dsimp only at *
  obtain ⟨K, rfl⟩ := Int.eq_ofNat_of_zero_le h1
  obtain ⟨I, rfl⟩ := Int.eq_ofNat_of_zero_le h3
  obtain ⟨T, rfl⟩ := Int.eq_ofNat_of_zero_le h4
  unfold federationref7_reader_second.f
  unfold tail2 at hb ⊢
  dsimp only at hb ⊢
  rw [be1] at hb ⊢
  simp only [List.append_assoc, Int.toNat_natCast] at hb ⊢
  have b1 := dropf hb
  have b2 := dropf b1
  have b3 := dropf b2
  have b4 := dropf b3
  have b5 := dropf b4
  refine Ev.bind (rfixed_ok 1 K _ b1 false (by decide) (by omega) (by omega)) ?_
  dsimp only
  refine Ev.bind (num_ok I _ b2 (by omega)) ?_
  dsimp only
  refine Ev.bind (num_ok T _ b3 (by omega)) ?_
  dsimp only
  refine Ev.bind (rflag_ok com _ b4 false) ?_
  dsimp only
  refine Ev.bind (num_ok ws.length _ b5 (by omega)) ?_
  dsimp only
  rw [one_flag]
  have hw := second_l (K : Int) (I : Int) (T : Int) com text (⟨#[]⟩ : ByteArray) ws h7 h5 h6 r ws.length 0 (by omega) b5
  simpa using hw
theorem fend (s : ByteArray) (K I T : Int) (B b : Bool) (ws : List S40) (tx : ByteArray) (n i : Int) (h : b = true ∨ ¬ i < n) : Ev (fun k => federationref7_reader_first.l0 k n i s b K I T B ws tx) (K, I, T, B, ws, tx, s, b) := by
  have hj : Ev (fun k => federationref7_reader_first.j1 k n i false s b K I T B ws tx) (K, I, T, B, ws, tx, s, b) := by
    refine succ' ?_
    simp only [federationref7_reader_first.j1, Bool.false_eq_true, if_false]
    exact Ev.now _
  refine succ' ?_
  simp only [federationref7_reader_first.l0]
  by_cases hi : i < n
  · have hb : b = true := h.resolve_right (fun q => q hi)
    subst hb
    simp only [if_pos hi, Bool.not_true]
    exact hj
  · simp only [if_neg hi]
    exact hj
theorem first_any (K I T : Int) (B : Bool) (tx : ByteArray) (n : Int) : ∀ (m : Nat) (l : List Int) (i : Int) (ws : List S40) (b : Bool), l.length ≤ m → Bytes l → ws.length + m + 1 < 3518437208883 →
    ∃ ws' l' b', Ev (fun k => federationref7_reader_first.l0 k n i (strOfNums l) b K I T B ws tx) (K, I, T, B, ws', tx, strOfNums l', b') ∧ ws'.length ≤ ws.length + m + 1 := by
  intro m
  induction m with
  | zero =>
    intro l i ws b hm hl hb
    by_cases he : b = true ∨ ¬ i < n
    · exact ⟨ws, l, b, fend _ K I T B b ws tx n i he, by omega⟩
    · obtain ⟨x1, l1, b1, e1, _, L1⟩ := rfixed_any l b 2 (by decide) hl
      obtain ⟨a2, l2, b2, e2, L2⟩ := text_any l1 b1 x1 L1.1
      obtain ⟨x3, l3, b3, e3, _, L3⟩ := rfixed_any l2 b2 2 (by decide) L2.1
      obtain ⟨a4, l4, b4, e4, L4⟩ := text_any l3 b3 x3 L3.1
      obtain ⟨x5, l5, b5, e5, _, L5⟩ := rfixed_any l4 b4 1 (by decide) L4.1
      have L := (((L1.trans L2).trans L3).trans L4).trans L5
      have hb5 : b5 = true := by
        rcases L.2.2 with h | ⟨_, h⟩
        · exact h
        · omega
      subst hb5
      have hi : i < n := Classical.byContradiction (fun h => he (.inr h))
      obtain rfl : b = false := by simpa using fun h => he (.inl h)
      refine ⟨ws ++ [⟨strOfNums a2, strOfNums a4, x5 == 1⟩], l5, true, ?_, by simp⟩
      refine succ' ?_
      simp only [federationref7_reader_first.l0, if_pos hi]
      simp only [Bool.not_false]
      refine succ' ?_
      simp only [federationref7_reader_first.j1, if_true]
      refine Ev.bind e1 ?_
      simp only [e2, Option.bind_some]
      refine Ev.bind e3 ?_
      simp only [e4, Option.bind_some]
      refine Ev.bind e5 ?_
      simp only [if_pos (show ws.length < 3518437208883 by omega)]
      exact fend _ K I T B true _ tx n _ (.inl rfl)
  | succ m ih =>
    intro l i ws b hm hl hb
    by_cases he : b = true ∨ ¬ i < n
    · exact ⟨ws, l, b, fend _ K I T B b ws tx n i he, by omega⟩
    · obtain ⟨x1, l1, b1, e1, _, L1⟩ := rfixed_any l b 2 (by decide) hl
      obtain ⟨a2, l2, b2, e2, L2⟩ := text_any l1 b1 x1 L1.1
      obtain ⟨x3, l3, b3, e3, _, L3⟩ := rfixed_any l2 b2 2 (by decide) L2.1
      obtain ⟨a4, l4, b4, e4, L4⟩ := text_any l3 b3 x3 L3.1
      obtain ⟨x5, l5, b5, e5, _, L5⟩ := rfixed_any l4 b4 1 (by decide) L4.1
      have L := (((L1.trans L2).trans L3).trans L4).trans L5
      have hi : i < n := Classical.byContradiction (fun h => he (.inr h))
      obtain rfl : b = false := by simpa using fun h => he (.inl h)
      have hgo : ∀ {R}, Ev (fun k => federationref7_reader_first.l0 k n (wrap64 (i + 1)) (strOfNums l5) b5 K I T B (ws ++ [⟨strOfNums a2, strOfNums a4, x5 == 1⟩]) tx) R → Ev (fun k => federationref7_reader_first.l0 k n i (strOfNums l) false K I T B ws tx) R := by
        intro R h
        refine succ' ?_
        simp only [federationref7_reader_first.l0, if_pos hi]
        simp only [Bool.not_false]
        refine succ' ?_
        simp only [federationref7_reader_first.j1, if_true]
        refine Ev.bind e1 ?_
        simp only [e2, Option.bind_some]
        refine Ev.bind e3 ?_
        simp only [e4, Option.bind_some]
        refine Ev.bind e5 ?_
        simp only [if_pos (show ws.length < 3518437208883 by omega)]
        exact h
      rcases L.2.2 with hb1 | ⟨_, h⟩
      · subst hb1
        exact ⟨_, l5, true, hgo (fend _ K I T B true _ tx n _ (.inl rfl)), by simp⟩
      · obtain ⟨ws', l', b', e, hle⟩ := ih l5 (wrap64 (i + 1)) (ws ++ [⟨strOfNums a2, strOfNums a4, x5 == 1⟩]) b5 (by omega) L.1 (by simp; omega)
        exact ⟨ws', l', b', hgo e, by simp at hle; omega⟩
theorem send (l : List Int) (hl : Bytes l) (K I T : Int) (B b : Bool) (ws : List S40) (tx : ByteArray) (n i : Int) (h : b = true ∨ ¬ i < n) : ∃ tx' l' b', Ev (fun k => federationref7_reader_second.l0 k n i (strOfNums l) b K I T B ws tx) (K, I, T, B, ws, tx', strOfNums l', b') := by
  obtain ⟨x, l1, b1, e1, _, L1⟩ := num_any l b hl
  obtain ⟨a, l2, b2, e2, L2⟩ := text_any l1 b1 x L1.1
  refine ⟨strOfNums a, l2, b2, ?_⟩
  have hj : Ev (fun k => federationref7_reader_second.j1 k n i false (strOfNums l) b K I T B ws tx) (K, I, T, B, ws, strOfNums a, strOfNums l2, b2) := by
    refine succ' ?_
    simp only [federationref7_reader_second.j1, Bool.false_eq_true, if_false]
    refine Ev.bind e1 ?_
    simp only [e2, Option.bind_some]
    exact Ev.now _
  refine succ' ?_
  simp only [federationref7_reader_second.l0]
  by_cases hi : i < n
  · have hb : b = true := h.resolve_right (fun q => q hi)
    subst hb
    simp only [if_pos hi, Bool.not_true]
    exact hj
  · simp only [if_neg hi]
    exact hj
theorem step2 (l : List Int) (hl : Bytes l) (K I T : Int) (B : Bool) (tx : ByteArray) (n i : Int) (ws : List S40) (hi : i < n) (hw : ws.length < 3518437208883) :
    ∃ x l' b', Lft l false 1 l' b' ∧ ∀ {R}, Ev (fun k => federationref7_reader_second.l0 k n (wrap64 (i + 1)) (strOfNums l') b' K I T B (ws ++ [x]) tx) R → Ev (fun k => federationref7_reader_second.l0 k n i (strOfNums l) false K I T B ws tx) R := by
  obtain ⟨x1, l1, b1, e1, _, L1⟩ := rfixed_any l false 1 (by decide) hl
  obtain ⟨x2, l2, b2, e2, _, L2⟩ := num_any l1 b1 L1.1
  obtain ⟨a3, l3, b3, e3, L3⟩ := text_any l2 b2 x2 L2.1
  have h3 := (L1.trans L2).trans L3
  by_cases h1 : x1 = 1
  · refine ⟨⟨strOfNums a3, (⟨#[]⟩ : ByteArray), x1 == 1⟩, l3, b3, ⟨h3.1, h3.2.1, h3.2.2.imp id (fun q => ⟨q.1, by omega⟩)⟩, fun {R} h => ?_⟩
    refine succ' ?_
    simp only [federationref7_reader_second.l0, if_pos hi, Bool.not_false]
    refine succ' ?_
    simp only [federationref7_reader_second.j1, if_true]
    refine Ev.bind e1 ?_
    dsimp only
    refine Ev.bind e2 ?_
    simp only [e3, Option.bind_some, if_pos h1, if_pos hw]
    exact h
  · obtain ⟨x4, l4, b4, e4, _, L4⟩ := num_any l3 b3 L3.1
    obtain ⟨a5, l5, b5, e5, L5⟩ := text_any l4 b4 x4 L4.1
    have h5 := (h3.trans L4).trans L5
    refine ⟨⟨strOfNums a3, strOfNums a5, x1 == 1⟩, l5, b5, ⟨h5.1, h5.2.1, h5.2.2.imp id (fun q => ⟨q.1, by omega⟩)⟩, fun {R} h => ?_⟩
    refine succ' ?_
    simp only [federationref7_reader_second.l0, if_pos hi, Bool.not_false]
    refine succ' ?_
    simp only [federationref7_reader_second.j1, if_true]
    refine Ev.bind e1 ?_
    dsimp only
    refine Ev.bind e2 ?_
    simp only [e3, Option.bind_some, if_neg h1]
    refine Ev.bind e4 ?_
    simp only [e5, Option.bind_some, if_pos hw]
    exact h
theorem second_any (K I T : Int) (B : Bool) (tx : ByteArray) (n : Int) : ∀ (m : Nat) (l : List Int) (i : Int) (ws : List S40) (b : Bool), l.length ≤ m → Bytes l → ws.length + m + 1 < 3518437208883 →
    ∃ ws' tx' l' b', Ev (fun k => federationref7_reader_second.l0 k n i (strOfNums l) b K I T B ws tx) (K, I, T, B, ws', tx', strOfNums l', b') ∧ ws'.length ≤ ws.length + m + 1 := by
  intro m
  induction m with
  | zero =>
    intro l i ws b hm hl hb
    by_cases he : b = true ∨ ¬ i < n
    · obtain ⟨tx', l', b', e⟩ := send l hl K I T B b ws tx n i he
      exact ⟨ws, tx', l', b', e, by omega⟩
    · have hi : i < n := Classical.byContradiction (fun h => he (.inr h))
      obtain rfl : b = false := by simpa using fun h => he (.inl h)
      obtain ⟨x, l1, b1, L, hgo⟩ := step2 l hl K I T B tx n i ws hi (by omega)
      have hb1 : b1 = true := by
        rcases L.2.2 with h | ⟨_, h⟩
        · exact h
        · omega
      subst hb1
      obtain ⟨tx', l', b', e⟩ := send l1 L.1 K I T B true (ws ++ [x]) tx n (wrap64 (i + 1)) (.inl rfl)
      exact ⟨ws ++ [x], tx', l', b', hgo e, by simp⟩
  | succ m ih =>
    intro l i ws b hm hl hb
    by_cases he : b = true ∨ ¬ i < n
    · obtain ⟨tx', l', b', e⟩ := send l hl K I T B b ws tx n i he
      exact ⟨ws, tx', l', b', e, by omega⟩
    · have hi : i < n := Classical.byContradiction (fun h => he (.inr h))
      obtain rfl : b = false := by simpa using fun h => he (.inl h)
      obtain ⟨x, l1, b1, L, hgo⟩ := step2 l hl K I T B tx n i ws hi (by omega)
      rcases L.2.2 with hb1 | ⟨_, h⟩
      · subst hb1
        obtain ⟨tx', l', b', e⟩ := send l1 L.1 K I T B true (ws ++ [x]) tx n (wrap64 (i + 1)) (.inl rfl)
        exact ⟨_, tx', l', b', hgo e, by simp⟩
      · obtain ⟨ws', tx', l', b', e2, hle⟩ := ih l1 (wrap64 (i + 1)) (ws ++ [x]) b1 (by omega) L.1 (by simp; omega)
        exact ⟨ws', tx', l', b', hgo e2, by simp at hle; omega⟩
theorem bt0 (x : Int) (l : List Int) (hx : 0 ≤ x ∧ x < 256) : bt (strOfNums (x :: l)) 0 = x := bt_str0 x l hx.1 hx.2
theorem rj0_of (l : List Int) (n : Int) (hn : n = 1 ∨ n = 2) (c : C) (s : ByteArray) (b : Bool)
    (e1 : n = 1 → Ev (fun k => federationref7_reader_first.f k (strOfNums l) false) (c.kind, c.id, c.txn, c.com, c.ws, c.text, s, b))
    (e2 : n = 2 → Ev (fun k => federationref7_reader_second.f k (strOfNums l) false) (c.kind, c.id, c.txn, c.com, c.ws, c.text, s, b)) (hi : c.id < 9223372036854775808) (ht : c.txn < 9223372036854775808) :
    Ev (fun k => federationref7_Decode.j0 k (strOfNums ((48 + n) :: l)) false) (if b = true then zero8 else (if may c n = true then (if (strOfNums (wire c n)).toList = (strOfNums ((48 + n) :: l)).toList then res c n else zero8) else zero8)) := by
  have hsz : ((strOfNums ((48 + n) :: l)).size : Int) = l.length + 1 := by rw [str_size]; simp
  have hb0 : bt (strOfNums ((48 + n) :: l)) 0 = 48 + n := bt0 _ _ (by omega)
  have hm : (48 + n - 48) % 256 = n := by omega
  have fin : ∀ (e : Ev (fun k => federationref7_Encode.f k c.kind c.id c.txn c.com c.ws c.text n) (enc c n)),
      Ev (fun k => (federationref7_Encode.f k c.kind c.id c.txn c.com c.ws c.text n).bind fun bt883 => (if b = true then (some (0, 0, 0, false, ([] : List (S40)), (⟨#[]⟩ : ByteArray), 0, false)) else (if bt883.2 = true then (if bt883.1.toList = (strOfNums ((48 + n) :: l)).toList then (some (c.kind, c.id, c.txn, c.com, c.ws, c.text, n, true)) else (some (0, 0, 0, false, ([] : List (S40)), (⟨#[]⟩ : ByteArray), 0, false))) else (some (0, 0, 0, false, ([] : List (S40)), (⟨#[]⟩ : ByteArray), 0, false))))) (if b = true then zero8 else (if may c n = true then (if (strOfNums (wire c n)).toList = (strOfNums ((48 + n) :: l)).toList then res c n else zero8) else zero8)) := by
    intro e
    refine Ev.bind e ?_
    refine Ev.congr (fun k => ?_) (Ev.now _)
    cases b with
    | true => rfl
    | false =>
      cases hm : may c n with
      | false => rw [enc_none hm]; rfl
      | true =>
        rw [enc_snd hm]
        simp only [Bool.false_eq_true, if_false, if_true]
        by_cases ht2 : (strOfNums (wire c n)).toList = (strOfNums ((48 + n) :: l)).toList
        · rw [if_pos ht2, if_pos ht2]
          rfl
        · rw [if_neg ht2, if_neg ht2]
          rfl
  refine succ' ?_
  have hd1 := drop1 (48 + n) l
  simp only [federationref7_Decode.j0, Bool.false_eq_true, if_false, hsz, if_pos (show (0 : Int) < (l.length : Int) + 1 by omega), if_pos (show (1 : Int) ≤ (l.length : Int) + 1 by omega), own_new65.f, Option.bind_some, hb0, hm, hd1]
  rcases hn with h1 | h2
  · simp only [if_pos h1]
    refine Ev.bind (e1 h1) ?_
    exact fin (Yr.Encode_ev c n hi ht)
  · simp only [if_neg (show ¬ n = 1 by omega)]
    refine Ev.bind (e2 h2) ?_
    exact fin (Yr.Encode_ev c n hi ht)
theorem rdec_nil : Ev (fun k => federationref7_Decode.f k (strOfNums [])) zero8 := by
  unfold federationref7_Decode.f
  have e : ((strOfNums []).size : Int) = 0 := by rw [str_size]; rfl
  simp only [if_pos e]
  refine succ' ?_
  simp only [federationref7_Decode.j0, if_true]
  exact Ev.now _
theorem rdec_cons (x : Int) (l : List Int) (hx : 0 ≤ x ∧ x < 256) (R : R8) (h : ∀ n, (n = 1 ∨ n = 2) → x = 48 + n → Ev (fun k => federationref7_Decode.j0 k (strOfNums (x :: l)) false) R) (h0 : x ≠ 49 → x ≠ 50 → R = zero8) : Ev (fun k => federationref7_Decode.f k (strOfNums (x :: l))) R := by
  unfold federationref7_Decode.f
  have e : ((strOfNums (x :: l)).size : Int) = l.length + 1 := by rw [str_size]; simp
  simp only [e, if_neg (show ¬ ((l.length : Int) + 1 = 0) by omega), if_pos (show (0 : Int) < (l.length : Int) + 1 by omega), bt0 x l hx]
  by_cases h1 : x = 49
  · simp only [if_pos h1]
    exact h 1 (.inl rfl) h1
  · simp only [if_neg h1]
    by_cases h2 : x = 50
    · have e2 : (x != 50) = false := by simp [h2]
      rw [e2]
      exact h 2 (.inr rfl) h2
    · have e2 : (x != 50) = true := by simp [h2]
      rw [e2, h0 h1 h2]
      refine succ' ?_
      simp only [federationref7_Decode.j0, if_true]
      exact Ev.now _
theorem rdec_ok (c : C) (n : Int) (h : Ok c n) : Ev (fun k => federationref7_Decode.f k (strOfNums (wire c n))) (res c n) := by
  have hb := wire_bytes h
  rw [wire_eq c n h.form] at hb ⊢
  have hbt : Bytes (tail c n) := fun x hx => hb x (List.mem_cons_of_mem _ hx)
  refine rdec_cons (48 + n) (tail c n) (hb _ (List.mem_cons_self ..)) _ (fun m hm he => ?_) (fun a b => by rcases h.form with rfl | rfl <;> simp at a b)
  obtain rfl : m = n := by omega
  have e1 : m = 1 → Ev (fun k => federationref7_reader_first.f k (strOfNums (tail c m)) false) (c.kind, c.id, c.txn, c.com, c.ws, c.text, strOfNums [], false) := by
    intro hm1
    subst hm1
    have := first_ok c [] h (by simpa [tail] using hbt)
    simpa [tail] using this
  have e2 : m = 2 → Ev (fun k => federationref7_reader_second.f k (strOfNums (tail c m)) false) (c.kind, c.id, c.txn, c.com, c.ws, c.text, strOfNums [], false) := by
    intro hm2
    subst hm2
    have := second_ok c [] h (by simpa [tail] using hbt)
    simpa [tail] using this
  have := rj0_of (tail c m) m hm c _ _ e1 e2 h.id h.txn
  rw [wire_eq c m h.form] at this
  simpa [h.may] using this
theorem first_all (l : List Int) (hl : Bytes l) (hs : l.length ≤ 1099511627776) : ∃ c : C, ∃ l' b', Ev (fun k => federationref7_reader_first.f k (strOfNums l) false) (c.kind, c.id, c.txn, c.com, c.ws, c.text, strOfNums l', b') ∧ c.id < 9223372036854775808 ∧ c.txn < 9223372036854775808 := by
  obtain ⟨K, l1, b1, e1, _, L1⟩ := rfixed_any l false 1 (by decide) hl
  obtain ⟨I, l2, b2, e2, hI, L2⟩ := rfixed_any l1 b1 8 (by decide) L1.1
  obtain ⟨T, l3, b3, e3, hT, L3⟩ := rfixed_any l2 b2 8 (by decide) L2.1
  obtain ⟨B, l4, b4, e4, _, L4⟩ := rfixed_any l3 b3 1 (by decide) L3.1
  obtain ⟨N, l5, b5, e5, _, L5⟩ := rfixed_any l4 b4 2 (by decide) L4.1
  have hle : l5.length ≤ l.length := ((((L1.trans L2).trans L3).trans L4).trans L5).2.1
  obtain ⟨ws, l6, b6, e6, _⟩ := first_any K I T (B == 1) (⟨#[]⟩ : ByteArray) N l5.length l5 0 [] b5 (Nat.le_refl _) L5.1 (by simp; omega)
  refine ⟨⟨K, I, T, B == 1, ws, (⟨#[]⟩ : ByteArray)⟩, l6, b6, ?_, hI, hT⟩
  unfold federationref7_reader_first.f
  refine Ev.bind e1 ?_
  dsimp only
  refine Ev.bind e2 ?_
  dsimp only
  refine Ev.bind e3 ?_
  dsimp only
  refine Ev.bind e4 ?_
  dsimp only
  refine Ev.bind e5 ?_
  exact e6
theorem second_all (l : List Int) (hl : Bytes l) (hs : l.length ≤ 1099511627776) : ∃ c : C, ∃ l' b', Ev (fun k => federationref7_reader_second.f k (strOfNums l) false) (c.kind, c.id, c.txn, c.com, c.ws, c.text, strOfNums l', b') ∧ c.id < 9223372036854775808 ∧ c.txn < 9223372036854775808 := by
  obtain ⟨K, l1, b1, e1, _, L1⟩ := rfixed_any l false 1 (by decide) hl
  obtain ⟨I, l2, b2, e2, hI, L2⟩ := num_any l1 b1 L1.1
  obtain ⟨T, l3, b3, e3, hT, L3⟩ := num_any l2 b2 L2.1
  obtain ⟨B, l4, b4, e4, _, L4⟩ := rfixed_any l3 b3 1 (by decide) L3.1
  obtain ⟨N, l5, b5, e5, _, L5⟩ := num_any l4 b4 L4.1
  have hle : l5.length ≤ l.length := ((((L1.trans L2).trans L3).trans L4).trans L5).2.1
  obtain ⟨ws, tx, l6, b6, e6, _⟩ := second_any K I T (B == 1) (⟨#[]⟩ : ByteArray) N l5.length l5 0 [] b5 (Nat.le_refl _) L5.1 (by simp; omega)
  refine ⟨⟨K, I, T, B == 1, ws, tx⟩, l6, b6, ?_, hI, hT⟩
  unfold federationref7_reader_second.f
  refine Ev.bind e1 ?_
  dsimp only
  refine Ev.bind e2 ?_
  dsimp only
  refine Ev.bind e3 ?_
  dsimp only
  refine Ev.bind e4 ?_
  dsimp only
  refine Ev.bind e5 ?_
  exact e6
theorem rdec_none (l : List Int) (hl : Bytes l) (hs : l.length ≤ 1099511627776) (hw : ∀ c n, Ok c n → l ≠ wire c n) : Ev (fun k => federationref7_Decode.f k (strOfNums l)) zero8 := by
  cases l with
  | nil => exact rdec_nil
  | cons x r =>
    have hr : Bytes r := fun y hy => hl y (List.mem_cons_of_mem _ hy)
    refine rdec_cons x r (hl x (List.mem_cons_self ..)) zero8 (fun n hn he => ?_) (fun _ _ => rfl)
    subst he
    have hrs : r.length ≤ 1099511627776 := by simp at hs; omega
    have fin : ∀ (c : C) (b' : Bool), c.id < 9223372036854775808 → c.txn < 9223372036854775808 → (if b' = true then zero8 else (if may c n = true then (if (strOfNums (wire c n)).toList = (strOfNums ((48 + n) :: r)).toList then res c n else zero8) else zero8)) = zero8 := by
      intro c b' hi ht
      cases b' with
      | true => rfl
      | false =>
        simp only [Bool.false_eq_true, if_false]
        by_cases hm : may c n = true
        · rw [if_pos hm]
          by_cases hq : (strOfNums (wire c n)).toList = (strOfNums ((48 + n) :: r)).toList
          · have ho : Ok c n := ⟨hm, hi, ht, hn⟩
            exact absurd (str_inj (wire_bytes ho) hl (toList_inj hq)).symm (hw c n ho)
          · rw [if_neg hq]
        · rw [if_neg hm]
    rcases hn with rfl | rfl
    · obtain ⟨c, l', b', e, hi, ht⟩ := first_all r hr hrs
      have h := rj0_of r 1 (.inl rfl) c _ _ (fun _ => e) (fun q => absurd q (by decide)) hi ht
      rw [fin c b' hi ht] at h
      exact h
    · obtain ⟨c, l', b', e, hi, ht⟩ := second_all r hr hrs
      have h := rj0_of r 2 (.inr rfl) c _ _ (fun q => absurd q (by decide)) (fun _ => e) hi ht
      rw [fin c b' hi ht] at h
      exact h
theorem rup_of (s : ByteArray) (R : R8) (u : ByteArray × Bool) (h : Ev (fun k => federationref7_Decode.f k s) R) (hu : R = zero8 ∧ u = ((⟨#[]⟩ : ByteArray), false) ∨ ∃ c n, Ok c n ∧ R = res c n ∧ u = enc c 2) : Ev (fun k => federationref7_Up.f k s) u := by
  unfold federationref7_Up.f
  refine Ev.bind h ?_
  rcases hu with ⟨rfl, rfl⟩ | ⟨c, n, ho, rfl, rfl⟩
  · exact Ev.now _
  · simp only [res, if_true]
    refine Ev.bind (Yr.Encode_ev c 2 ho.id ho.txn) ?_
    exact Ev.now _
theorem both (s : ByteArray) (hs : s.size ≤ 1099511627776) : ∃ (R : R8) (u : ByteArray × Bool), Ev (fun k => cmd_Decode.f k s) R ∧ Ev (fun k => federationref7_Decode.f k s) R ∧ Ev (fun k => cmd_Up.f k s) u ∧ Ev (fun k => federationref7_Up.f k s) u ∧ Ev (fun k => federationref7_Same.f k R.1 R.2.1 R.2.2.1 R.2.2.2.1 R.2.2.2.2.1 R.2.2.2.2.2.1 R.1 R.2.1 R.2.2.1 R.2.2.2.1 R.2.2.2.2.1 R.2.2.2.2.2.1) true := by
  have hl : Bytes (bytesOf s) := bytes_bytesOf s
  have hs2 : (bytesOf s).length ≤ 1099511627776 := by rw [bytesOf_length]; exact hs
  have es := str_bytesOf s
  generalize bytesOf s = l at hl hs2 es
  subst es
  rcases decode_any l hl hs2 with ⟨h1, h2⟩ | ⟨c, n, ho, rfl, h1⟩
  · have h3 := rdec_none l hl hs2 h2
    refine ⟨zero8, ((⟨#[]⟩ : ByteArray), false), h1, h3, up_none _ h1, rup_of _ _ _ h3 (.inl ⟨rfl, rfl⟩), ?_⟩
    exact same_true ⟨0, 0, 0, false, [], (⟨#[]⟩ : ByteArray)⟩ (Nat.zero_le _)
  · have h3 := rdec_ok c n ho
    obtain ⟨_, _, _, _, h5, _, _, _⟩ := right_parts ho.right
    refine ⟨res c n, enc c 2, h1, h3, up_ok c n ho, rup_of _ _ _ h3 (.inr ⟨c, n, ho, rfl, rfl⟩), ?_⟩
    exact same_true c (by omega)
end Go.Proofs.Ytagjmphkfeiiiaa.Yz
