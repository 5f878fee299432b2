/-
  The readers: what each reads of what was written, and that each ends on any bytes; conditions: the bytes are bytes, numbers are below 2^63.
-/
import Derived.Test.YtagjmphkfeiiiaaQx7
import Derived.Test.YtagjmphkfeiiiaaYd
namespace Go.Proofs.Ytagjmphkfeiiiaa.Ye
open Go.RowKit Go.Proofs.YtagjmphkfeiiiaaW.PrintWords Go.Proofs.YtagjmphkfeiiiaaW.PrintLast Go.Proofs.YtagjmphkfeiiiaaW.PrintMore Go.Proofs.Ytagjmphkfeiiiaa.Q Go.Proofs.Ytagjmphkfeiiiaa.Ya Go.Proofs.Ytagjmphkfeiiiaa.Yb Go.Proofs.Ytagjmphkfeiiiaa.Yc Go.Proofs.Ytagjmphkfeiiiaa.Yd
theorem bytes_at (l : List Int) (b : Bool) (n : Nat) (h : n ≤ l.length) : cmd_reader_bytes.f (strOfNums l) b (n : Int) = some (strOfNums (l.take n), strOfNums (l.drop n), b) := by
  unfold cmd_reader_bytes.f
  rw [if_neg (by omega), if_neg (by rw [str_size]; omega), if_pos (by omega), if_pos (by rw [str_size]; omega)]
  have e : ((n : Int)).toNat = n := by omega
  rw [e, str_take', str_drop']
theorem bytes_ok (x r : List Int) (b : Bool) (n : Int) (h : n = (x.length : Int)) : cmd_reader_bytes.f (strOfNums (x ++ r)) b n = some (strOfNums x, strOfNums r, b) := by
  subst h
  rw [bytes_at _ _ _ (by simp)]
  simp
theorem bytes_bad (l : List Int) (b : Bool) (n : Int) (h : n < 0 ∨ (l.length : Int) < n) : cmd_reader_bytes.f (strOfNums l) b n = some ((⟨#[]⟩ : ByteArray), (⟨#[]⟩ : ByteArray), true) := by
  unfold cmd_reader_bytes.f
  by_cases h1 : n < 0
  · rw [if_pos h1]
  · rw [if_neg h1, if_pos (by rw [str_size]; omega)]
def Lft (l : List Int) (b : Bool) (n : Nat) (l' : List Int) (b' : Bool) : Prop := Bytes l' ∧ l'.length ≤ l.length ∧ (b' = true ∨ b' = b ∧ l'.length + n ≤ l.length)
theorem Lft.bytes {l l' : List Int} {b b' : Bool} {n : Nat} (h : Lft l b n l' b') : Bytes l' := h.1
theorem Lft.trans {l l' l'' : List Int} {b b' b'' : Bool} {n m : Nat} (h : Lft l b n l' b') (k : Lft l' b' m l'' b'') : Lft l b (n + m) l'' b'' := by
  refine ⟨k.1, Nat.le_trans k.2.1 h.2.1, ?_⟩
  rcases k.2.2 with k1 | ⟨k1, k2⟩
  · exact .inl k1
  · rcases h.2.2 with h1 | ⟨h1, h2⟩
    · exact .inl (k1.trans h1)
    · exact .inr ⟨k1.trans h1, by omega⟩
theorem bytes_any (l : List Int) (b : Bool) (n : Int) (hl : Bytes l) : ∃ a l' b', cmd_reader_bytes.f (strOfNums l) b n = some (strOfNums a, strOfNums l', b') ∧ Bytes a ∧ Lft l b n.toNat l' b' ∧ (b' = true → a = []  ∨ b = true) ∧ (a.length : Int) ≤ max n 0 := by
  by_cases h : n < 0 ∨ (l.length : Int) < n
  · exact ⟨[], [], true, by rw [bytes_bad _ _ _ h]; rfl, Bytes.nil, ⟨Bytes.nil, Nat.zero_le _, .inl rfl⟩, fun _ => .inl rfl, by simp; omega⟩
  · obtain ⟨m, rfl⟩ := Int.eq_ofNat_of_zero_le (show 0 ≤ n by omega)
    refine ⟨l.take m, l.drop m, b, bytes_at l b m (by omega), fun x hx => hl x (List.mem_of_mem_take hx), ⟨fun x hx => hl x (List.mem_of_mem_drop hx), by simp, .inr ⟨rfl, by simp; omega⟩⟩, fun h => .inr h, by simp; omega⟩
theorem wrap_lt (n : Int) : IntKind.i64.wrap n < 9223372036854775808 := by rw [IntKind.wrap_i64]; omega
theorem or_lt (a b : Int) : Go.bits .or .i64 a b < 9223372036854775808 := by
  unfold Go.bits
  exact wrap_lt _
theorem or_join (i : Nat) (a q : Int) (h0 : 0 ≤ a) (h1 : a < 2 ^ i) (hq : 0 ≤ q) (hi : i ≤ 63) (ht : a + q * 2 ^ i < 9223372036854775808) : Go.bits .or .i64 a (q * 2 ^ i) = a + q * 2 ^ i := by
  obtain ⟨x, rfl⟩ := Int.eq_ofNat_of_zero_le h0
  obtain ⟨y, rfl⟩ := Int.eq_ofNat_of_zero_le hq
  have hx : x < 2 ^ i := by exact_mod_cast h1
  have ht' : x + y * 2 ^ i < 2 ^ 63 := by
    have : ((x + y * 2 ^ i : Nat) : Int) < 9223372036854775808 := by push_cast; exact ht
    have e : (2 : Nat) ^ 63 = 9223372036854775808 := by decide
    omega
  have h := (bits_nat .i64 63 (by decide) wraps_i64 x (y * 2 ^ i) (by omega) (by omega)).2
  have e : x ||| y * 2 ^ i = x + y * 2 ^ i := by
    rw [Nat.or_comm, Nat.mul_comm y, ← Nat.two_pow_add_eq_or_of_lt hx y]
    omega
  rw [e] at h
  push_cast at h
  exact h
def fo (acc : Int) (l : List Int) : Int := l.foldl (fun n c => Go.bits .or .i64 (wrap64 (n * 256)) (wrap64 c)) acc
theorem fo_lt (l : List Int) : ∀ acc, acc < 9223372036854775808 → fo acc l < 9223372036854775808 := by
  induction l with
  | nil => exact fun _ h => h
  | cons c l ih => exact fun acc _ => ih _ (or_lt _ _)
theorem fixed_loop (a : List Int) (ha : Bytes a) (hl : a.length ≤ 140737488355328) (s : ByteArray) (b : Bool) : ∀ (d i : Nat) (acc : Int), i + d = a.length → Ev (fun k => cmd_reader_fixed.l0 k acc (strOfNums a) ((strOfNums a).size : Int) (i : Int) s b) (fo acc (a.drop i), s, b) := by
  intro d
  induction d with
  | zero =>
    intro i acc hi
    have e : i = a.length := by omega
    subst e
    refine Ev.step (f := fun _ => some (acc, s, b)) (fun k => ?_) (by simpa [fo] using Ev.now _)
    simp only [cmd_reader_fixed.l0]
    rw [if_neg (by rw [str_size]; omega)]
  | succ d ih =>
    intro i acc hi
    have hlt : i < a.length := by omega
    refine Ev.step (f := fun k => cmd_reader_fixed.l0 k (Go.bits .or .i64 (wrap64 (acc * 256)) (wrap64 a[i])) (strOfNums a) ((strOfNums a).size : Int) ((i + 1 : Nat) : Int) s b) (fun k => ?_) ?_
    · simp only [cmd_reader_fixed.l0]
      rw [if_pos (by rw [str_size]; omega), if_pos (by omega), if_pos (by rw [str_size]; omega), bt_str a ha i hlt, wrap_succ i _ hlt hl]
    · have h := ih (i + 1) (Go.bits .or .i64 (wrap64 (acc * 256)) (wrap64 a[i])) (by omega)
      rw [drop_at _ _ hlt]
      exact h
theorem fo_step (A d : Nat) (hd : d < 256) (hA : A * 256 + d < 9223372036854775808) : Go.bits .or .i64 (wrap64 ((A : Int) * 256)) (wrap64 (d : Int)) = ((A * 256 + d : Nat) : Int) := by
  have e1 : wrap64 ((A : Int) * 256) = (A : Int) * 256 := by unfold wrap64; omega
  have e2 : wrap64 (d : Int) = (d : Int) := by unfold wrap64; omega
  rw [e1, e2, bits_join .i64 63 (by decide) wraps_i64 8 ((A : Int) * 256) (d : Int) (by omega) (by omega) (by omega) (by omega) (by omega) (by omega)]
  omega
theorem split_mod (x A p : Nat) : (A * 256 + x / p % 256) * p + x % p = A * (p * 256) + x % (p * 256) := by
  rw [Nat.mod_mul, Nat.add_mul, Nat.mul_assoc A, Nat.mul_comm 256 p, Nat.mul_comm (x / p % 256) p]
  omega
theorem fo_be (x : Nat) : ∀ (m : Nat) (A : Nat), A * 256 ^ m + x % 256 ^ m < 9223372036854775808 → fo (A : Int) (be m (x : Int)) = ((A * 256 ^ m + x % 256 ^ m : Nat) : Int) := by
  intro m
  induction m with
  | zero =>
    intro A _
    simp [be, fo, Nat.mod_one]
  | succ m ih =>
    intro A ht
    have hd : ((x : Int) / 256 ^ m % 256) = ((x / 256 ^ m % 256 : Nat) : Int) := by
      rw [Int.natCast_emod, Int.natCast_ediv, Int.natCast_pow]
      rfl
    have hb : be (m + 1) (x : Int) = ((x / 256 ^ m % 256 : Nat) : Int) :: be m (x : Int) := by
      rw [← hd]
      rfl
    have hs := split_mod x A (256 ^ m)
    have hp : 1 ≤ 256 ^ m := Nat.pow_pos (by decide)
    rw [Nat.pow_succ] at ht ⊢
    rw [hb]
    have hlt : x / 256 ^ m % 256 < 256 := Nat.mod_lt _ (by decide)
    generalize hg : x / 256 ^ m % 256 = d at hs hlt
    have hle : A * 256 + d ≤ (A * 256 + d) * 256 ^ m := Nat.le_mul_of_pos_right _ hp
    rw [← hs] at ht ⊢
    have h1 := fo_step A d hlt (by omega)
    have h2 := ih (A * 256 + d) ht
    rw [← h2, ← h1]
    rfl
theorem fixed_ok (m : Nat) (x : Nat) (r : List Int) (b : Bool) (hm : m ≤ 8) (hx : x < 256 ^ m) (h63 : x < 9223372036854775808) : Ev (fun k => cmd_reader_fixed.f k (strOfNums (be m (x : Int) ++ r)) b (m : Int)) ((x : Int), strOfNums r, b) := by
  unfold cmd_reader_fixed.f
  rw [bytes_ok _ _ _ _ (by rw [be_length])]
  simp only [Option.bind_some]
  have h := fixed_loop (be m (x : Int)) (be_bytes _ _) (by rw [be_length]; omega) (strOfNums r) b m 0 0 (by rw [be_length]; omega)
  have e : fo 0 (be m (x : Int)) = (x : Int) := by
    have h2 := fo_be x m 0 (by rw [Nat.mod_eq_of_lt hx]; omega)
    rw [Nat.mod_eq_of_lt hx] at h2
    simpa using h2
  simpa [e] using h
theorem fixed_any (l : List Int) (b : Bool) (m : Nat) (hm : m ≤ 8) (hl : Bytes l) : ∃ x l' b', Ev (fun k => cmd_reader_fixed.f k (strOfNums l) b (m : Int)) (x, strOfNums l', b') ∧ x < 9223372036854775808 ∧ Lft l b m l' b' := by
  obtain ⟨a, l', b', h, ha, hL, _, hle⟩ := bytes_any l b (m : Int) hl
  refine ⟨fo 0 a, l', b', ?_, fo_lt a 0 (by decide), by simpa using hL⟩
  unfold cmd_reader_fixed.f
  rw [h]
  simp only [Option.bind_some]
  have h2 := fixed_loop a ha (by omega) (strOfNums l') b' a.length 0 0 (by omega)
  simpa using h2
end Go.Proofs.Ytagjmphkfeiiiaa.Ye
