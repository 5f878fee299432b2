/-
  The reference's readers: what was written is read as it was, any bytes are read to an end; conditions: bytes are bytes, numbers below 2^63, not too many.
-/
import Derived.Test.YtagjmphkfeiiiaaQx28
import Derived.Test.YtagjmphkfeiiiaaYr
namespace Go.Proofs.Ytagjmphkfeiiiaa.Yy
open Go.RowKit Go.Proofs.YtagjmphkfeiiiaaW.PrintWords Go.Proofs.YtagjmphkfeiiiaaW.PrintLast Go.Proofs.YtagjmphkfeiiiaaW.PrintMore Go.Proofs.Ytagjmphkfeiiiaa.Q Go.Proofs.Ytagjmphkfeiiiaa.Ya Go.Proofs.Ytagjmphkfeiiiaa.Yb Go.Proofs.Ytagjmphkfeiiiaa.Yc Go.Proofs.Ytagjmphkfeiiiaa.Yd Go.Proofs.Ytagjmphkfeiiiaa.Ye Go.Proofs.Ytagjmphkfeiiiaa.Yf Go.Proofs.Ytagjmphkfeiiiaa.Yg Go.Proofs.Ytagjmphkfeiiiaa.Yh Go.Proofs.Ytagjmphkfeiiiaa.Yi
theorem succ' {α : Type} {g : Nat → Option α} {r : α} (h : Ev (fun k => g (k + 1)) r) : Ev g r := Ev.step (fun _ => rfl) h
theorem rloop (l : List Int) (hl : Bytes l) (b : Bool) (m : Nat) (hm : m ≤ l.length) (h8 : m ≤ 8) : ∀ (d i : Nat) (acc : Int), i + d = m → Ev (fun k => federationref7_reader_fixed.l0 k (m : Int) acc (i : Int) (strOfNums l) b) (fo acc ((l.take m).drop i), strOfNums (l.drop m), b) := by
  intro d
  induction d with
  | zero =>
    intro i acc hi
    have e : i = m := by omega
    subst e
    refine Ev.step (f := fun _ => some (acc, strOfNums (l.drop i), b)) (fun k => ?_) (by simpa [fo] using Ev.now _)
    simp only [federationref7_reader_fixed.l0]
    rw [if_neg (by omega), if_pos (by omega), if_pos (by rw [str_size]; omega), Int.toNat_natCast, str_drop']
  | succ d ih =>
    intro i acc hi
    have hlt : i < m := by omega
    have hli : i < l.length := by omega
    refine Ev.step (f := fun k => federationref7_reader_fixed.l0 k (m : Int) (Go.bits .or .i64 (wrap64 (acc * 256)) (wrap64 l[i])) ((i + 1 : Nat) : Int) (strOfNums l) b) (fun k => ?_) ?_
    · simp only [federationref7_reader_fixed.l0]
      rw [if_pos (by omega), if_pos (by omega), if_pos (by rw [str_size]; omega), bt_str l hl i hli, wrap_succ i m hlt (by omega)]
    · have h := ih (i + 1) (Go.bits .or .i64 (wrap64 (acc * 256)) (wrap64 l[i])) (by omega)
      have e : (l.take m).drop i = l[i] :: (l.take m).drop (i + 1) := by
        rw [drop_at (l.take m) i (by rw [List.length_take]; omega), List.getElem_take]
      rw [e]
      exact h
theorem rfixed_at (l : List Int) (hl : Bytes l) (b : Bool) (m : Nat) (hm : m ≤ l.length) (h8 : m ≤ 8) : Ev (fun k => federationref7_reader_fixed.f k (strOfNums l) b (m : Int)) (fo 0 (l.take m), strOfNums (l.drop m), b) := by
  unfold federationref7_reader_fixed.f
  have e : ¬ (((strOfNums l).size : Int) < (m : Int)) := by rw [str_size]; omega
  simp only [if_neg e]
  simpa using rloop l hl b m hm h8 m 0 0 (by omega)
theorem rfixed_ok (m : Nat) (x : Nat) (r : List Int) (hr : Bytes r) (b : Bool) (hm : m ≤ 8) (hx : x < 256 ^ m) (h63 : x < 9223372036854775808) : Ev (fun k => federationref7_reader_fixed.f k (strOfNums (be m (x : Int) ++ r)) b (m : Int)) ((x : Int), strOfNums r, b) := by
  have h := rfixed_at (be m (x : Int) ++ r) ((be_bytes _ _).append hr) b m (by simp [be_length]) hm
  have e : fo 0 (be m (x : Int)) = (x : Int) := by
    have h2 := fo_be x m 0 (by rw [Nat.mod_eq_of_lt hx]; omega)
    rw [Nat.mod_eq_of_lt hx] at h2
    simpa using h2
  rw [List.take_left' (be_length _ _), List.drop_left' (be_length _ _), e] at h
  exact h
theorem rfixed_any (l : List Int) (b : Bool) (m : Nat) (hm : m ≤ 8) (hl : Bytes l) : ∃ x l' b', Ev (fun k => federationref7_reader_fixed.f k (strOfNums l) b (m : Int)) (x, strOfNums l', b') ∧ x < 9223372036854775808 ∧ Lft l b m l' b' := by
  by_cases h : m ≤ l.length
  · refine ⟨_, l.drop m, b, rfixed_at l hl b m h hm, fo_lt _ 0 (by decide), fun x hx => hl x (List.mem_of_mem_drop hx), by simp, .inr ⟨rfl, by simp; omega⟩⟩
  · refine ⟨0, [], true, ?_, by decide, Bytes.nil, Nat.zero_le _, .inl rfl⟩
    unfold federationref7_reader_fixed.f
    have e : ((strOfNums l).size : Int) < (m : Int) := by rw [str_size]; omega
    simp only [if_pos e]
    exact Ev.now _
theorem text_eq (s : ByteArray) (b : Bool) (n : Int) : federationref7_reader_text.f s b n = cmd_reader_bytes.f s b n := by
  unfold federationref7_reader_text.f cmd_reader_bytes.f
  rfl
theorem rflag_ok (x : Bool) (r : List Int) (hr : Bytes r) (b : Bool) : Ev (fun k => federationref7_reader_fixed.f k (strOfNums (fl x ++ r)) b 1) ((if x then 1 else 0), strOfNums r, b) := by
  have h := rfixed_ok 1 (if x then 1 else 0) r hr b (by decide) (by cases x <;> decide) (by cases x <;> decide)
  have e : be 1 (((if x then 1 else 0 : Nat)) : Int) = fl x := by cases x <;> rfl
  rw [e] at h
  cases x <;> exact h
theorem one_flag (x : Bool) : ((if x then (1 : Int) else 0) == 1) = x := by cases x <;> rfl
theorem pow7 (j : Nat) : (2 : Int) ^ (7 * (j + 1)) = 128 * 2 ^ (7 * j) := by
  rw [Nat.mul_add, Int.pow_add, Int.mul_comm]
  rfl
theorem u64j (j : Nat) (h : j ≤ 20) : IntKind.u64.wrap ((7 * j : Nat) : Int) = ((7 * j : Nat) : Int) := Yr.u64_w _ (by omega) (by omega)
theorem rfree_ok : ∀ (n j : Nat) (acc : Int) (r : List Int) (b : Bool), b = false → Bytes r → (j = 0 ∨ 1 ≤ n) → 0 ≤ acc → acc < 2 ^ (7 * j) → acc + (n : Int) * 2 ^ (7 * j) < 9223372036854775808 →
    Ev (fun k => federationref7_reader_free.l0 k acc ((7 * j : Nat) : Int) (strOfNums (var n ++ r)) b) (acc + (n : Int) * 2 ^ (7 * j), strOfNums r, b) := by
  intro n
  induction n using Nat.strongRecOn with
  | _ n ih =>
    intro j acc r b hbf hr hj h0 h1 ht
    have hj8 : j ≤ 8 := by
      rcases hj with rfl | hn
      · omega
      · by_cases h9 : j ≤ 8
        · exact h9
        · exfalso
          have hp : (2 : Int) ^ 63 ≤ 2 ^ (7 * j) := by
            have : (2 : Nat) ^ 63 ≤ 2 ^ (7 * j) := Nat.pow_le_pow_right (by decide) (by omega)
            exact_mod_cast this
          have hq : (2 : Int) ^ (7 * j) ≤ (n : Int) * 2 ^ (7 * j) := by
            have : 1 * 2 ^ (7 * j) ≤ n * 2 ^ (7 * j) := Nat.mul_le_mul_right _ hn
            have h3 : ((1 * 2 ^ (7 * j) : Nat) : Int) ≤ ((n * 2 ^ (7 * j) : Nat) : Int) := by exact_mod_cast this
            push_cast at h3
            omega
          have e : (2 : Int) ^ 63 = 9223372036854775808 := by decide
          omega
    have hdm : (n : Int) = (n % 128 : Nat) + (n / 128 : Nat) * 128 := by omega
    have hsplit : (n : Int) * 2 ^ (7 * j) = ((n % 128 : Nat) : Int) * 2 ^ (7 * j) + ((n / 128 : Nat) : Int) * 2 ^ (7 * (j + 1)) := by
      rw [pow7, ← Int.mul_assoc, ← Int.add_mul, ← hdm]
    have hpos : (0 : Int) ≤ 2 ^ (7 * j) := by exact_mod_cast Nat.zero_le _
    have hpos1 : (0 : Int) ≤ 2 ^ (7 * (j + 1)) := by exact_mod_cast Nat.zero_le _
    have hr0 : (0 : Int) ≤ ((n / 128 : Nat) : Int) * 2 ^ (7 * (j + 1)) := Int.mul_nonneg (by omega) hpos1
    have hr1 : (0 : Int) ≤ ((n % 128 : Nat) : Int) * 2 ^ (7 * j) := Int.mul_nonneg (by omega) hpos
    have hsum : wrap64 (acc + (shl .i64 ((n % 128 : Nat) : Int) ((7 * j : Nat) : Int))) = acc + ((n % 128 : Nat) : Int) * 2 ^ (7 * j) := by
      have e2 : shl .i64 ((n % 128 : Nat) : Int) ((7 * j : Nat) : Int) = ((n % 128 : Nat) : Int) * 2 ^ (7 * j) := by
        unfold shl
        rw [Int.toNat_natCast, Nat.min_eq_left (by show 7 * j ≤ 64; omega)]
        exact wraps_i64 _ hr1 (by have e : (2 : Int) ^ 63 = 9223372036854775808 := by decide
                                  omega)
      rw [e2]
      generalize ((n % 128 : Nat) : Int) * 2 ^ (7 * j) = p at *
      unfold wrap64
      omega
    have hx : wrap64 (((7 * j : Nat) : Int) + 7) = ((7 * (j + 1) : Nat) : Int) := by unfold wrap64; omega
    have hd : decide (((7 * j : Nat) : Int) > 56) = false := by
      rw [decide_eq_false_iff_not]; omega
    have key : ∀ (c : Nat) (rest : List Int) (R : Int × ByteArray × Bool), c < 256 → c % 128 = n % 128 → var n ++ r = (c : Int) :: rest → Bytes rest →
        Ev (fun k => if (c : Int) < 128 then some (acc + ((n % 128 : Nat) : Int) * 2 ^ (7 * j), strOfNums rest, b) else federationref7_reader_free.l0 k (acc + ((n % 128 : Nat) : Int) * 2 ^ (7 * j)) ((7 * (j + 1) : Nat) : Int) (strOfNums rest) b) R →
        Ev (fun k => federationref7_reader_free.l0 k acc ((7 * j : Nat) : Int) (strOfNums (var n ++ r)) b) R := by
      intro c rest R hc hcm he hrest h
      refine succ' ?_
      simp only [federationref7_reader_free.l0]
      have hf := rfixed_ok 1 c rest hrest b (by decide) (by omega) (by omega)
      have eb : be 1 (c : Int) = [(c : Int)] := by rw [← be1]; simp; omega
      rw [eb] at hf
      rw [he]
      refine Ev.bind hf ?_
      subst hbf
      simp only [Bool.false_eq_true, if_false, hd]
      refine succ' ?_
      have ec : Int.tmod (c : Int) 128 = ((n % 128 : Nat) : Int) := by rw [Int.tmod_eq_emod_of_nonneg (by omega)]; omega
      simp only [federationref7_reader_free.j1, Bool.false_eq_true, if_false, u64j j (by omega), if_pos (show (0 : Int) ≤ ((7 * j : Nat) : Int) by omega), ec, hsum, hx]
      exact h
    by_cases hc : n > 127
    · have hv : var n = ((n % 128 + 128 : Nat) : Int) :: var (n / 128) := by rw [var, if_pos hc]
      refine key (n % 128 + 128) (var (n / 128) ++ r) _ (by omega) (by omega) (by rw [hv]; rfl) ((var_bytes _).append hr) ?_
      have hI := ih (n / 128) (by omega) (j + 1) (acc + ((n % 128 : Nat) : Int) * 2 ^ (7 * j)) r b hbf hr (.inr (by omega)) (by omega) (by
        have h3 : ((n % 128 : Nat) : Int) * 2 ^ (7 * j) ≤ 127 * 2 ^ (7 * j) := Int.mul_le_mul_of_nonneg_right (by omega) hpos
        rw [pow7]
        omega) (by rw [Int.add_assoc, ← hsplit]; exact ht)
      rw [Int.add_assoc, ← hsplit] at hI
      simp only [if_neg (show ¬ (((n % 128 + 128 : Nat) : Int) < 128) by omega)]
      exact hI
    · have hv : var n = [(n : Int)] := by rw [var, if_neg hc]
      refine key n r _ (by omega) rfl (by rw [hv]; rfl) hr ?_
      have e : (n % 128 : Nat) = n := by omega
      simp only [if_pos (show (n : Int) < 128 by omega), e]
      exact Ev.now _
theorem wrap64_lt (x : Int) : wrap64 x < 9223372036854775808 := by unfold wrap64; omega
theorem rfree_any : ∀ (m : Nat) (l : List Int) (j : Nat) (acc : Int) (b : Bool), l.length ≤ m → Bytes l → acc < 9223372036854775808 → j ≤ 9 → ∃ x l' b', Ev (fun k => federationref7_reader_free.l0 k acc ((7 * j : Nat) : Int) (strOfNums l) b) (x, strOfNums l', b') ∧ x < 9223372036854775808 ∧ Lft l b 1 l' b' := by
  intro m
  induction m with
  | zero =>
    intro l j acc b hm hl ha hj
    obtain ⟨x, l1, b1, e1, hx, L1⟩ := rfixed_any l b 1 (by decide) hl
    have hb1 : b1 = true := by
      rcases L1.2.2 with h | ⟨_, h⟩
      · exact h
      · omega
    subst hb1
    refine ⟨0, l1, true, ?_, by decide, L1.1, L1.2.1, .inl rfl⟩
    refine succ' ?_
    simp only [federationref7_reader_free.l0]
    refine Ev.bind e1 ?_
    simp only [if_true]
    refine succ' ?_
    simp only [federationref7_reader_free.j1, if_true]
    exact Ev.now _
  | succ m ih =>
    intro l j acc b hm hl ha hj
    obtain ⟨c, l1, b1, e1, hx, L1⟩ := rfixed_any l b 1 (by decide) hl
    have hstop : ∀ x, Ev (fun k => federationref7_reader_free.j1 k acc ((7 * j : Nat) : Int) x true (strOfNums l1) b1) (0, strOfNums l1, true) := by
      intro x
      refine succ' ?_
      simp only [federationref7_reader_free.j1, if_true]
      exact Ev.now _
    by_cases hb : b1 = true
    · subst hb
      refine ⟨0, l1, true, ?_, by decide, L1.1, L1.2.1, .inl rfl⟩
      refine succ' ?_
      simp only [federationref7_reader_free.l0]
      refine Ev.bind e1 ?_
      simp only [if_true]
      exact hstop c
    · by_cases h56 : ((7 * j : Nat) : Int) > 56
      · refine ⟨0, l1, true, ?_, by decide, L1.1, L1.2.1, .inl rfl⟩
        refine succ' ?_
        simp only [federationref7_reader_free.l0]
        refine Ev.bind e1 ?_
        simp only [if_neg hb, decide_eq_true h56]
        exact hstop c
      · have hx7 : wrap64 (((7 * j : Nat) : Int) + 7) = ((7 * (j + 1) : Nat) : Int) := by unfold wrap64; omega
        have hlen : b1 = b ∧ l1.length + 1 ≤ l.length := L1.2.2.resolve_left hb
        have key : ∀ R, Ev (fun k => if c < 128 then some (wrap64 (acc + (shl .i64 (Int.tmod c 128) ((7 * j : Nat) : Int))), strOfNums l1, b1) else federationref7_reader_free.l0 k (wrap64 (acc + (shl .i64 (Int.tmod c 128) ((7 * j : Nat) : Int)))) ((7 * (j + 1) : Nat) : Int) (strOfNums l1) b1) R →
            Ev (fun k => federationref7_reader_free.l0 k acc ((7 * j : Nat) : Int) (strOfNums l) b) R := by
          intro R h
          refine succ' ?_
          simp only [federationref7_reader_free.l0]
          refine Ev.bind e1 ?_
          simp only [if_neg hb, decide_eq_false h56]
          refine succ' ?_
          simp only [federationref7_reader_free.j1, Bool.false_eq_true, if_false, u64j j (by omega), if_pos (show (0 : Int) ≤ ((7 * j : Nat) : Int) by omega), hx7]
          exact h
        by_cases hc : c < 128
        · refine ⟨wrap64 (acc + (shl .i64 (Int.tmod c 128) ((7 * j : Nat) : Int))), l1, b1, key _ ?_, wrap64_lt _, L1⟩
          simp only [if_pos hc]
          exact Ev.now _
        · obtain ⟨x, l2, b2, e2, hx2, L2⟩ := ih l1 (j + 1) (wrap64 (acc + (shl .i64 (Int.tmod c 128) ((7 * j : Nat) : Int)))) b1 (by omega) L1.1 (wrap64_lt _) (by omega)
          have L := L1.trans L2
          refine ⟨x, l2, b2, key _ ?_, hx2, L.1, L.2.1, L.2.2.imp id (fun q => ⟨q.1, by omega⟩)⟩
          simp only [if_neg hc]
          exact e2
theorem num_ok (n : Nat) (r : List Int) (hr : Bytes r) (h : n < 9223372036854775808) : Ev (fun k => federationref7_reader_free.f k (strOfNums (var n ++ r)) false) ((n : Int), strOfNums r, false) := by
  have h2 := rfree_ok n 0 0 r false rfl hr (.inl rfl) (by decide) (by decide) (by simp; omega)
  unfold federationref7_reader_free.f
  simpa using h2
theorem num_any (l : List Int) (b : Bool) (hl : Bytes l) : ∃ x l' b', Ev (fun k => federationref7_reader_free.f k (strOfNums l) b) (x, strOfNums l', b') ∧ x < 9223372036854775808 ∧ Lft l b 1 l' b' :=
  rfree_any l.length l 0 0 b (Nat.le_refl _) hl (by decide) (by decide)
theorem text_of (s : ByteArray) (r : List Int) (b : Bool) : federationref7_reader_text.f (strOfNums (bytesOf s ++ r)) b (s.size : Int) = some (s, strOfNums r, b) := by rw [text_eq, str_of]
theorem text_any (l : List Int) (b : Bool) (n : Int) (hl : Bytes l) : ∃ a l' b', federationref7_reader_text.f (strOfNums l) b n = some (strOfNums a, strOfNums l', b') ∧ Lft l b n.toNat l' b' := by
  obtain ⟨a, l', b', h, _, hL, _, _⟩ := bytes_any l b n hl
  exact ⟨a, l', b', by rw [text_eq, h], hL⟩
end Go.Proofs.Ytagjmphkfeiiiaa.Yy
