/-
  The writers of commands, as lists of bytes: what each printed function comes to with rounds enough; conditions: numbers are not negative, lists are not too long.
-/
import Derived.Test.YtagjmphkfeiiiaaQx5
import Derived.Test.YtagjmphkfeiiiaaYa
namespace Go.Proofs.Ytagjmphkfeiiiaa.Yb
open Go.RowKit Go.Proofs.YtagjmphkfeiiiaaW.PrintWords Go.Proofs.YtagjmphkfeiiiaaW.PrintLast Go.Proofs.YtagjmphkfeiiiaaW.PrintMore Go.Proofs.Ytagjmphkfeiiiaa.Q Go.Proofs.Ytagjmphkfeiiiaa.Ya
theorem wraps_i64 (n : Int) (h₀ : 0 ≤ n) (h₁ : n < 2 ^ 63) : IntKind.i64.wrap n = n := by rw [IntKind.wrap_i64]; omega
theorem and127 (x : Int) (h₀ : 0 ≤ x) (h₁ : x < 9223372036854775808) : Go.bits .and .i64 x 127 = x % 128 := bits_mask .i64 63 (by decide) wraps_i64 7 (by decide) x h₀ h₁
theorem or128 (y : Int) (h₀ : 0 ≤ y) (h₁ : y < 128) : Go.bits .or .i64 y 128 = y + 128 := by
  obtain ⟨a, rfl⟩ := Int.eq_ofNat_of_zero_le h₀
  have ha : a < 128 := by omega
  have h := (bits_nat .i64 63 (by decide) wraps_i64 a 128 (by omega) (by decide)).2
  have e : a ||| 128 = a + 128 := by
    rw [Nat.or_comm]
    have h7 := Nat.two_pow_add_eq_or_of_lt (i := 7) (b := a) ha 1
    have h8 : (2 ^ 7 * 1 : Nat) = 128 := rfl
    rw [h8] at h7
    omega
  rw [e] at h
  simpa using h
def be : Nat → Int → List Int
  | 0, _ => []
  | m + 1, x => (x / 256 ^ m % 256) :: be m x
theorem be_length (m : Nat) (x : Int) : (be m x).length = m := by
  induction m with
  | zero => rfl
  | succ m ih => simp [be, ih]
theorem be_bytes (m : Nat) (x : Int) : Bytes (be m x) := by
  induction m with
  | zero => exact Bytes.nil
  | succ m ih => exact Bytes.cons (by omega) (by omega) ih
theorem fixed_ev (x : Int) : ∀ (m : Nat) (l : List Int), m ≤ 8 → l.length + m ≤ 140737488355328 → Ev (fun k => cmd_fixed.l0 k l x (8 * (m : Int) - 8)) (l ++ be m x) := by
  intro m
  induction m with
  | zero =>
    intro l _ _
    refine Ev.step (f := fun _ => some l) (fun k => ?_) (by simpa [be] using Ev.now l)
    simp only [cmd_fixed.l0]
    rw [if_neg (by omega)]
  | succ m ih =>
    intro l hm hl
    refine Ev.step (f := fun k => cmd_fixed.l0 k (l ++ [x / 256 ^ m % 256]) x (8 * (m : Int) - 8)) (fun k => ?_) ?_
    · simp only [cmd_fixed.l0]
      rw [if_pos (by omega), if_pos (by omega), if_pos (by omega)]
      have e1 : shr .i64 x (8 * ((m + 1 : Nat) : Int) - 8) = x / 256 ^ m := by
        unfold shr
        have e2 : (8 * ((m + 1 : Nat) : Int) - 8).toNat = 8 * m := by omega
        rw [e2, Nat.min_eq_left (by show 8 * m ≤ 64; omega)]
        congr 1
        rw [Int.pow_mul]
        rfl
      have e3 : wrap64 (8 * ((m + 1 : Nat) : Int) - 8 - 8) = 8 * (m : Int) - 8 := by unfold wrap64; omega
      rw [e1, e3]
    · have := ih (l ++ [x / 256 ^ m % 256]) (by omega) (by simp; omega)
      simpa [be] using this
theorem eight_ev (l : List Int) (x : Int) (hl : l.length + 8 ≤ 140737488355328) : Ev (fun k => cmd_eight.f k l x) (l ++ be 8 x) := by
  have h := fixed_ev x 8 l (by omega) hl
  have h2 : Ev (fun k => (cmd_fixed.l0 k l x (8 * ((8 : Nat) : Int) - 8)).bind fun t => some t) (l ++ be 8 x) := Ev.bind h (Ev.now _)
  refine Ev.congr (fun k => ?_) h2
  unfold cmd_eight.f cmd_fixed.f
  have e : wrap64 (8 * wrap64 (8 - 1)) = 8 * ((8 : Nat) : Int) - 8 := by unfold wrap64; omega
  rw [e]
theorem two_ev (l : List Int) (x : Int) (hl : l.length + 2 ≤ 140737488355328) : Ev (fun k => cmd_two.f k l x) (l ++ be 2 x) := by
  have h := fixed_ev x 2 l (by omega) hl
  have h2 : Ev (fun k => (cmd_fixed.l0 k l x (8 * ((2 : Nat) : Int) - 8)).bind fun t => some t) (l ++ be 2 x) := Ev.bind h (Ev.now _)
  refine Ev.congr (fun k => ?_) h2
  unfold cmd_two.f cmd_fixed.f
  have e : wrap64 (8 * wrap64 (2 - 1)) = 8 * ((2 : Nat) : Int) - 8 := by unfold wrap64; omega
  rw [e]
def var (n : Nat) : List Int := if n > 127 then ((n % 128 + 128 : Nat) : Int) :: var (n / 128) else [(n : Int)]
  termination_by n
  decreasing_by omega
theorem var_bytes (n : Nat) : Bytes (var n) := by
  induction n using Nat.strongRecOn with
  | _ n ih =>
    rw [var]
    split
    · exact Bytes.cons (by omega) (by omega) (ih _ (by omega))
    · exact Bytes.cons (by omega) (by omega) Bytes.nil
theorem var_pos (n : Nat) : 1 ≤ (var n).length := by
  rw [var]
  split <;> simp
theorem var_len : ∀ (j : Nat) (n : Nat), n < 128 ^ (j + 1) → (var n).length ≤ j + 1 := by
  intro j
  induction j with
  | zero =>
    intro n hn
    rw [var, if_neg (by simp at hn; omega)]
    simp
  | succ j ih =>
    intro n hn
    rw [var]
    split
    · have h2 : n / 128 < 128 ^ (j + 1) := by
        rw [Nat.pow_succ] at hn
        exact Nat.div_lt_of_lt_mul (by rw [Nat.mul_comm]; exact hn)
      have := ih _ h2
      simp
      omega
    · simp
theorem short_ev : ∀ (n : Nat) (l : List Int), n < 9223372036854775808 → l.length + (var n).length ≤ 140737488355328 → Ev (fun k => cmd_short.l0 k l (n : Int)) (l ++ var n) := by
  intro n
  induction n using Nat.strongRecOn with
  | _ n ih =>
    intro l hn hl
    have hp := var_pos n
    by_cases hc : n > 127
    · refine Ev.step (f := fun k => cmd_short.l0 k (l ++ [((n % 128 + 128 : Nat) : Int)]) ((n / 128 : Nat) : Int)) (fun k => ?_) ?_
      · simp only [cmd_short.l0]
        rw [if_pos (by omega), if_pos (by omega), and127 _ (by omega) (by omega), or128 _ (by omega) (by omega)]
        have e1 : ((n : Int) % 128 + 128) % 256 = ((n % 128 + 128 : Nat) : Int) := by omega
        rw [e1]
        rfl
      · have hv : var n = ((n % 128 + 128 : Nat) : Int) :: var (n / 128) := by rw [var, if_pos hc]
        have h2 := ih (n / 128) (by omega) (l ++ [((n % 128 + 128 : Nat) : Int)]) (by omega) (by rw [hv] at hl; simp at hl ⊢; omega)
        rw [hv]
        simpa using h2
    · have hv : var n = [(n : Int)] := by rw [var, if_neg hc]
      rw [hv] at hl ⊢
      refine Ev.step (f := fun _ => some (l ++ [(n : Int)])) (fun k => ?_) (Ev.now _)
      simp only [cmd_short.l0]
      rw [if_neg (by omega), if_pos (by simp at hl; omega)]
      have e1 : (n : Int) % 256 = (n : Int) := by omega
      rw [e1]
def fl (b : Bool) : List Int := if b then [1] else [0]
theorem fl_bytes (b : Bool) : Bytes (fl b) := by cases b <;> exact Bytes.cons (by decide) (by decide) Bytes.nil
theorem fl_len (b : Bool) : (fl b).length = 1 := by cases b <;> rfl
theorem flag_eq (l : List Int) (b : Bool) (hl : l.length < 140737488355328) : cmd_flag.f l b = some (l ++ fl b) := by
  unfold cmd_flag.f
  cases b <;> simp [hl, fl]
end Go.Proofs.Ytagjmphkfeiiiaa.Yb
