/-
  The readers of flags and of numbers by seven bits a byte: what each reads, and that each ends; conditions: the bytes are bytes, numbers are below 2^63.
-/
import Derived.Test.YtagjmphkfeiiiaaYe
namespace Go.Proofs.Ytagjmphkfeiiiaa.Yf
open Go.RowKit Go.Proofs.YtagjmphkfeiiiaaW.PrintWords Go.Proofs.YtagjmphkfeiiiaaW.PrintLast Go.Proofs.YtagjmphkfeiiiaaW.PrintMore Go.Proofs.Ytagjmphkfeiiiaa.Q Go.Proofs.Ytagjmphkfeiiiaa.Ya Go.Proofs.Ytagjmphkfeiiiaa.Yb Go.Proofs.Ytagjmphkfeiiiaa.Yc Go.Proofs.Ytagjmphkfeiiiaa.Yd Go.Proofs.Ytagjmphkfeiiiaa.Ye
theorem flag_ok (x : Bool) (r : List Int) (b : Bool) : cmd_reader_flag.f (strOfNums (fl x ++ r)) b = some (x, strOfNums r, b) := by
  unfold cmd_reader_flag.f
  rw [bytes_ok _ _ _ _ (by rw [fl_len]; rfl)]
  cases x
  · simp [fl, one_toList]
  · simp [fl, one_toList]
theorem flag_any (l : List Int) (b : Bool) (hl : Bytes l) : ∃ x l' b', cmd_reader_flag.f (strOfNums l) b = some (x, strOfNums l', b') ∧ Lft l b 1 l' b' := by
  obtain ⟨a, l', b', h, _, hL, _, _⟩ := bytes_any l b 1 hl
  refine ⟨((strOfNums a).toList == ([1] : List UInt8)), l', b', ?_, by simpa using hL⟩
  unfold cmd_reader_flag.f
  rw [h]
  rfl
theorem and127u (c : Int) (h0 : 0 ≤ c) (h1 : c < 256) : Go.bits .and .u8 c 127 = c % 128 := bits_mask .u8 8 (by decide) wraps_u8 7 (by decide) c h0 h1
theorem short_ok : ∀ (n j : Nat) (acc : Int) (r : List Int) (b : Bool), (j = 0 ∨ 1 ≤ n) → 0 ≤ acc → acc < 2 ^ (7 * j) → acc + (n : Int) * 2 ^ (7 * j) < 9223372036854775808 →
    Ev (fun k => cmd_reader_short.l0 k acc ((7 * j : Nat) : Int) (strOfNums (var n ++ r)) b) (acc + (n : Int) * 2 ^ (7 * j), strOfNums r, b) := by
  intro n
  induction n using Nat.strongRecOn with
  | _ n ih =>
    intro j acc r b hj h0 h1 ht
    have hj8 : j ≤ 8 := by
      rcases hj with rfl | hn
      · omega
      · by_cases h9 : j ≤ 8
        · exact h9
        · exfalso
          have hp : (2 : Int) ^ 63 ≤ 2 ^ (7 * j) := by
            have : (2 : Nat) ^ 63 ≤ 2 ^ (7 * j) := Nat.pow_le_pow_right (by decide) (by omega)
            exact_mod_cast this
          have hq : (2 : Int) ^ (7 * j) ≤ (n : Int) * 2 ^ (7 * j) := by
            have : 1 * 2 ^ (7 * j) ≤ n * 2 ^ (7 * j) := Nat.mul_le_mul_right _ hn
            have h3 : ((1 * 2 ^ (7 * j) : Nat) : Int) ≤ ((n * 2 ^ (7 * j) : Nat) : Int) := by exact_mod_cast this
            push_cast at h3
            omega
          have e : (2 : Int) ^ 63 = 9223372036854775808 := by decide
          omega
    have hdm : (n : Int) = (n % 128 : Nat) + (n / 128 : Nat) * 128 := by omega
    have hsplit : (n : Int) * 2 ^ (7 * j) = ((n % 128 : Nat) : Int) * 2 ^ (7 * j) + ((n / 128 : Nat) : Int) * 2 ^ (7 * (j + 1)) := by
      have e : (2 : Int) ^ (7 * (j + 1)) = 128 * 2 ^ (7 * j) := by
        rw [Nat.mul_add, Int.pow_add, Int.mul_comm]
        rfl
      rw [e, ← Int.mul_assoc, ← Int.add_mul, ← hdm]
    have hpos : (0 : Int) ≤ 2 ^ (7 * j) := by exact_mod_cast Nat.zero_le _
    have hpos1 : (0 : Int) ≤ 2 ^ (7 * (j + 1)) := by exact_mod_cast Nat.zero_le _
    have hr0 : (0 : Int) ≤ ((n / 128 : Nat) : Int) * 2 ^ (7 * (j + 1)) := Int.mul_nonneg (by omega) hpos1
    have hr1 : (0 : Int) ≤ ((n % 128 : Nat) : Int) * 2 ^ (7 * j) := Int.mul_nonneg (by omega) hpos
    have hor : Go.bits .or .i64 acc (shl .i64 (wrap64 ((n % 128 : Nat) : Int)) ((7 * j : Nat) : Int)) = acc + ((n % 128 : Nat) : Int) * 2 ^ (7 * j) := by
      have e1 : wrap64 ((n % 128 : Nat) : Int) = ((n % 128 : Nat) : Int) := by unfold wrap64; omega
      have e2 : shl .i64 ((n % 128 : Nat) : Int) ((7 * j : Nat) : Int) = ((n % 128 : Nat) : Int) * 2 ^ (7 * j) := by
        unfold shl
        rw [Int.toNat_natCast, Nat.min_eq_left (by show 7 * j ≤ 64; omega)]
        exact wraps_i64 _ hr1 (by have e : (2 : Int) ^ 63 = 9223372036854775808 := by decide
                                  omega)
      rw [e1, e2]
      exact or_join (7 * j) acc _ h0 h1 (by omega) (by omega) (by omega)
    have key : ∀ (c : Int) (rest : List Int), 0 ≤ c → c < 256 → c % 128 = ((n % 128 : Nat) : Int) → var n ++ r = c :: rest →
        ∀ k, cmd_reader_short.l0 (k + 1 + 1) acc ((7 * j : Nat) : Int) (strOfNums (var n ++ r)) b = if c > 127 then cmd_reader_short.l0 k (acc + ((n % 128 : Nat) : Int) * 2 ^ (7 * j)) ((7 * (j + 1) : Nat) : Int) (strOfNums rest) b else some (acc + ((n % 128 : Nat) : Int) * 2 ^ (7 * j), strOfNums rest, b) := by
      intro c rest hc0 hc1 hcm he k
      have hb : cmd_reader_bytes.f (strOfNums (var n ++ r)) b 1 = some (strOfNums [c], strOfNums rest, b) := by
        rw [he]
        exact bytes_ok [c] rest b 1 rfl
      have hx : wrap64 (((7 * j : Nat) : Int) + 7) = ((7 * (j + 1) : Nat) : Int) := by unfold wrap64; omega
      have hd : decide (((7 * j : Nat) : Int) > 56) = false := by
        rw [decide_eq_false_iff_not]; omega
      rw [cmd_reader_short.l0, hb]
      simp only [Option.bind_some]
      rw [if_neg (str_ne_nil c []), hd, cmd_reader_short.j1, if_neg (by decide), if_pos (by rw [str_size]; simp), if_pos (by omega), bt_str0 c [] hc0 hc1, and127u c hc0 hc1, hcm, hor, hx]
    by_cases hc : n > 127
    · have hv : var n = ((n % 128 + 128 : Nat) : Int) :: var (n / 128) := by rw [var, if_pos hc]
      have hk := key ((n % 128 + 128 : Nat) : Int) (var (n / 128) ++ r) (by omega) (by omega) (by omega) (by rw [hv]; rfl)
      have hI := ih (n / 128) (by omega) (j + 1) (acc + ((n % 128 : Nat) : Int) * 2 ^ (7 * j)) r b (.inr (by omega)) (by omega) (by
        have e : (2 : Int) ^ (7 * (j + 1)) = 128 * 2 ^ (7 * j) := by
          rw [Nat.mul_add, Int.pow_add, Int.mul_comm]
          rfl
        have h3 : ((n % 128 : Nat) : Int) * 2 ^ (7 * j) ≤ 127 * 2 ^ (7 * j) := Int.mul_le_mul_of_nonneg_right (by omega) hpos
        rw [e]
        omega) (by rw [Int.add_assoc, ← hsplit]; exact ht)
      rw [Int.add_assoc, ← hsplit] at hI
      obtain ⟨K, hK⟩ := hI
      refine ⟨K + 2, fun k hk2 => ?_⟩
      obtain ⟨q, rfl⟩ : ∃ q, k = q + 1 + 1 := ⟨k - 2, by omega⟩
      show cmd_reader_short.l0 (q + 1 + 1) acc _ _ b = _
      rw [hk q, if_pos (by omega)]
      exact hK q (by omega)
    · have hv : var n = [(n : Int)] := by rw [var, if_neg hc]
      have hk := key (n : Int) r (by omega) (by omega) (by omega) (by rw [hv]; rfl)
      refine ⟨2, fun k hk2 => ?_⟩
      obtain ⟨q, rfl⟩ : ∃ q, k = q + 1 + 1 := ⟨k - 2, by omega⟩
      show cmd_reader_short.l0 (q + 1 + 1) acc _ _ b = _
      rw [hk q, if_neg (by omega)]
      have e : (n % 128 : Nat) = n := by omega
      rw [e]
theorem short_any : ∀ (m : Nat) (l : List Int) (j : Nat) (acc : Int) (b : Bool), l.length ≤ m → Bytes l → acc < 9223372036854775808 → j ≤ 9 → ∃ x l' b', Ev (fun k => cmd_reader_short.l0 k acc ((7 * j : Nat) : Int) (strOfNums l) b) (x, strOfNums l', b') ∧ x < 9223372036854775808 ∧ Lft l b 1 l' b' := by
  intro m
  induction m with
  | zero =>
    intro l j acc b hm hl ha hj
    obtain rfl : l = [] := List.eq_nil_of_length_eq_zero (by omega)
    refine ⟨0, [], true, ⟨2, fun k hk => ?_⟩, by decide, ⟨Bytes.nil, Nat.le_refl _, .inl rfl⟩⟩
    obtain ⟨q, rfl⟩ : ∃ q, k = q + 1 + 1 := ⟨k - 2, by omega⟩
    show cmd_reader_short.l0 (q + 1 + 1) acc _ _ b = _
    rw [cmd_reader_short.l0, bytes_bad [] b 1 (.inr (by decide))]
    simp only [Option.bind_some]
    rw [if_pos (by rw [toList_eq]), cmd_reader_short.j1, if_pos rfl]
    rfl
  | succ m ih =>
    intro l j acc b hm hl ha hj
    cases l with
    | nil =>
      refine ⟨0, [], true, ⟨2, fun k hk => ?_⟩, by decide, ⟨Bytes.nil, Nat.le_refl _, .inl rfl⟩⟩
      obtain ⟨q, rfl⟩ : ∃ q, k = q + 1 + 1 := ⟨k - 2, by omega⟩
      show cmd_reader_short.l0 (q + 1 + 1) acc _ _ b = _
      rw [cmd_reader_short.l0, bytes_bad [] b 1 (.inr (by decide))]
      simp only [Option.bind_some]
      rw [if_pos (by rw [toList_eq]), cmd_reader_short.j1, if_pos rfl]
      rfl
    | cons c rest =>
      have hc := hl c (List.mem_cons_self ..)
      have hrest : Bytes rest := fun x hx => hl x (List.mem_cons_of_mem _ hx)
      have hb : cmd_reader_bytes.f (strOfNums (c :: rest)) b 1 = some (strOfNums [c], strOfNums rest, b) := bytes_ok [c] rest b 1 rfl
      by_cases h56 : ((7 * j : Nat) : Int) > 56
      · refine ⟨0, rest, true, ⟨2, fun k hk => ?_⟩, by decide, ⟨hrest, by simp, .inl rfl⟩⟩
        obtain ⟨q, rfl⟩ : ∃ q, k = q + 1 + 1 := ⟨k - 2, by omega⟩
        show cmd_reader_short.l0 (q + 1 + 1) acc _ _ b = _
        rw [cmd_reader_short.l0, hb]
        simp only [Option.bind_some]
        rw [if_neg (str_ne_nil c []), decide_eq_true h56, cmd_reader_short.j1, if_pos rfl]
      · have hx : wrap64 (((7 * j : Nat) : Int) + 7) = ((7 * (j + 1) : Nat) : Int) := by unfold wrap64; omega
        have key : ∀ k, cmd_reader_short.l0 (k + 1 + 1) acc ((7 * j : Nat) : Int) (strOfNums (c :: rest)) b = if c > 127 then cmd_reader_short.l0 k (Go.bits .or .i64 acc (shl .i64 (wrap64 (Go.bits .and .u8 c 127)) ((7 * j : Nat) : Int))) ((7 * (j + 1) : Nat) : Int) (strOfNums rest) b else some (Go.bits .or .i64 acc (shl .i64 (wrap64 (Go.bits .and .u8 c 127)) ((7 * j : Nat) : Int)), strOfNums rest, b) := by
          intro k
          rw [cmd_reader_short.l0, hb]
          simp only [Option.bind_some]
          rw [if_neg (str_ne_nil c []), decide_eq_false h56, cmd_reader_short.j1, if_neg (by decide), if_pos (by rw [str_size]; simp), if_pos (by omega), bt_str0 c [] hc.1 hc.2, hx]
        by_cases h127 : c > 127
        · obtain ⟨x, l', b', ⟨K, hK⟩, hxl, hL⟩ := ih rest (j + 1) (Go.bits .or .i64 acc (shl .i64 (wrap64 (Go.bits .and .u8 c 127)) ((7 * j : Nat) : Int))) b (by simp at hm; omega) hrest (or_lt _ _) (by omega)
          refine ⟨x, l', b', ⟨K + 2, fun k hk => ?_⟩, hxl, ?_⟩
          · obtain ⟨q, rfl⟩ : ∃ q, k = q + 1 + 1 := ⟨k - 2, by omega⟩
            show cmd_reader_short.l0 (q + 1 + 1) acc _ _ b = _
            rw [key q, if_pos h127]
            exact hK q (by omega)
          · refine ⟨hL.1, by rw [List.length_cons]; have := hL.2.1; omega, ?_⟩
            rcases hL.2.2 with h | ⟨h, h2⟩
            · exact .inl h
            · exact .inr ⟨h, by rw [List.length_cons]; omega⟩
        · refine ⟨_, rest, b, ⟨2, fun k hk => ?_⟩, or_lt acc (shl .i64 (wrap64 (Go.bits .and .u8 c 127)) ((7 * j : Nat) : Int)), ⟨hrest, by simp, .inr ⟨rfl, by simp⟩⟩⟩
          obtain ⟨q, rfl⟩ : ∃ q, k = q + 1 + 1 := ⟨k - 2, by omega⟩
          show cmd_reader_short.l0 (q + 1 + 1) acc _ _ b = _
          rw [key q, if_neg h127]
end Go.Proofs.Ytagjmphkfeiiiaa.Yf
