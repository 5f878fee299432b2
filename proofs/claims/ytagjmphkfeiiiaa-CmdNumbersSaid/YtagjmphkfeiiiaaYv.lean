/-
  The law CmdNumbers, without the program's text: each number comes back, and a longer form of one is no command; conditions: none.
-/
import Derived.Test.YtagjmphkfeiiiaaQx11
import Derived.Test.YtagjmphkfeiiiaaYw
namespace Go.Proofs.Ytagjmphkfeiiiaa.Yv
open Go.RowKit Go.Proofs.YtagjmphkfeiiiaaW.PrintWords Go.Proofs.YtagjmphkfeiiiaaW.PrintLast Go.Proofs.YtagjmphkfeiiiaaW.PrintMore Go.Proofs.Ytagjmphkfeiiiaa.Q Go.Proofs.Ytagjmphkfeiiiaa.Ya Go.Proofs.Ytagjmphkfeiiiaa.Yb Go.Proofs.Ytagjmphkfeiiiaa.Yc Go.Proofs.Ytagjmphkfeiiiaa.Yd Go.Proofs.Ytagjmphkfeiiiaa.Yh Go.Proofs.Ytagjmphkfeiiiaa.Yi Go.Proofs.Ytagjmphkfeiiiaa.Yw
theorem Ev.succ {α : Type} {g : Nat → Option α} {r : α} (h : Ev (fun k => g (k + 1)) r) : Ev g r := Ev.step (fun _ => rfl) h
theorem var_trail : ∀ (xs : List Int) (n : Nat) (r r' : List Int), xs ≠ [] → (∀ x ∈ xs, 128 ≤ x) → var n ++ r ≠ xs ++ 0 :: r' := by
  intro xs
  induction xs with
  | nil => intro _ _ _ h; exact absurd rfl h
  | cons x xs ih =>
    intro n r r' _ hx he
    have h128 : 128 ≤ x := hx x (List.mem_cons_self ..)
    rw [var] at he
    by_cases h : n > 127
    · rw [if_pos h] at he
      simp only [List.cons_append, List.cons.injEq] at he
      obtain ⟨_, e⟩ := he
      cases xs with
      | nil =>
        rw [List.nil_append, var] at e
        by_cases h2 : n / 128 > 127
        · rw [if_pos h2] at e
          simp only [List.cons_append, List.cons.injEq] at e
          omega
        · rw [if_neg h2] at e
          simp only [List.cons_append, List.nil_append, List.cons.injEq] at e
          omega
      | cons y ys => exact ih _ _ _ (by simp) (fun z hz => hx z (List.mem_cons_of_mem _ hz)) e
    · rw [if_neg h] at he
      simp only [List.cons_append, List.nil_append, List.cons.injEq] at he
      omega
def cK (x : Int) : C := ⟨1, x, 1, false, [], (⟨#[]⟩ : ByteArray)⟩
theorem cK_ok (x : Int) (h0 : 0 ≤ x) (h1 : x < 9223372036854775808) (n : Int) (hn : n = 1 ∨ n = 2) : Ok (cK x) n := by
  refine ⟨?_, h1, by show (1 : Int) < _; decide, hn⟩
  unfold may right head fin cK
  have hz : (⟨#[]⟩ : ByteArray).size ≤ 40 := by decide
  rcases hn with rfl | rfl <;> simp [h0, tl_nil, hz]
theorem rd_nat (l : List Int) (i : Nat) (h : i < l.length) : rd l (i : Int) = l[i] := by
  unfold rd
  simp [h]
theorem l1_ev (a0 a1 : Int) (l : List Int) (i : Nat) (hi : i < l.length) (hx : ∀ x ∈ l, 0 ≤ x ∧ x < 9223372036854775808) (R : Bool)
    (h : Ev (fun k => federationlaw7_CmdNumbers.l0 k a0 a1 l (wrap64 ((i : Int) + 1))) R) : Ev (fun k => federationlaw7_CmdNumbers.l1 k a0 a1 l (i : Int) 1) R := by
  have hr : rd l (i : Int) = l[i] := rd_nat _ _ hi
  have hb := hx _ (List.getElem_mem hi)
  have round : ∀ (n : Int) (hn : n = 1 ∨ n = 2) (R' : Bool), Ev (fun k => federationlaw7_CmdNumbers.l1 k a0 a1 l (i : Int) (wrap64 (n + 1))) R' → Ev (fun k => federationlaw7_CmdNumbers.l1 k a0 a1 l (i : Int) n) R' := by
    intro n hn R' h'
    have o := cK_ok l[i] hb.1 hb.2 n hn
    refine Ev.succ ?_
    simp only [federationlaw7_CmdNumbers.l1, if_pos (show n < 3 by omega), if_pos (show (0 : Int) ≤ (i : Int) by omega), if_pos (show (i : Int) < (l.length : Int) by omega), hr]
    refine Ev.bind (enc_ev (cK l[i]) n hb.2 (by show (1 : Int) < _; decide)) ?_
    rw [enc_snd o.may]
    refine Ev.bind (decode_ok (cK l[i]) n o) ?_
    simp only [res, cK, if_true]
    exact h'
  refine round 1 (.inl rfl) R ?_
  rw [show wrap64 (1 + 1) = 2 by unfold wrap64; omega]
  refine round 2 (.inr rfl) R ?_
  refine Ev.succ ?_
  simp only [federationlaw7_CmdNumbers.l1, if_neg (show ¬ wrap64 (2 + 1) < 3 by unfold wrap64; omega)]
  exact h
theorem lit0 : (⟨#[0]⟩ : ByteArray) = strOfNums [0] := rfl
theorem lit128 : (⟨#[128]⟩ : ByteArray) = strOfNums [128] := rfl
theorem lit1000 : (⟨#[1, 0, 0, 0]⟩ : ByteArray) = strOfNums [1, 0, 0, 0] := rfl
theorem long_dec (k : Int) (h0 : 0 ≤ k) (h1 : k < 128) (i : Nat) (hi : i < 4) : Ev (fun n => cmd_Decode.f n (strOfNums ((50 :: 1 :: (k + 128) :: List.replicate i 128) ++ [0] ++ [1, 0, 0, 0]))) zero8 := by
  have hb : Bytes ((50 :: 1 :: (k + 128) :: List.replicate i 128) ++ [0] ++ [1, 0, 0, 0]) := by
    intro x hx
    simp only [List.cons_append, List.nil_append, List.mem_cons, List.mem_append, List.mem_replicate, List.not_mem_nil, or_false, List.append_assoc] at hx
    omega
  rcases decode_any _ hb (by simp; omega) with e | ⟨c, n, o, e, _⟩
  · exact e.1
  · exfalso
    rw [wire_eq c n o.form] at e
    simp only [List.cons_append, List.append_assoc, List.cons.injEq] at e
    obtain ⟨e1, e2⟩ := e
    obtain rfl : n = 2 := by omega
    have : tail c 2 = tail2 c := rfl
    rw [this] at e2
    unfold tail2 at e2
    simp only [List.cons_append, List.nil_append, List.append_assoc, List.cons.injEq] at e2
    refine var_trail ((k + 128) :: List.replicate i 128) _ _ _ (by simp) (fun x hx => ?_) e2.2.symm
    rcases List.mem_cons.1 hx with rfl | h
    · omega
    · rw [List.mem_replicate] at h; omega
theorem short_dec (k : Int) (h0 : 0 ≤ k) (h1 : k < 128) : Ev (fun n => cmd_Decode.f n (strOfNums ([50] ++ [1, k] ++ [1, 0, 0, 0]))) (res (cK k) 2) := by
  have o := cK_ok k h0 (by omega) 2 (.inr rfl)
  have e : wire (cK k) 2 = [50] ++ [1, k] ++ [1, 0, 0, 0] := by
    have v0 : var 0 = [0] := by rw [var]; rfl
    have v1 : var 1 = [1] := by rw [var]; rfl
    have vk : var k.toNat = [k] := by rw [var, if_neg (by omega), show ((k.toNat : Nat) : Int) = k by omega]
    unfold wire tail2 cK
    rw [if_neg (by decide)]
    show 50 :: ([1 % 256] ++ var k.toNat ++ var 1 ++ fl false ++ var 0 ++ cat wr2 [] ++ (var 0 ++ bytesOf (⟨#[]⟩ : ByteArray))) = _
    rw [v0, v1, vk]
    rfl
  rw [← e]
  exact decode_ok _ _ o
theorem l2_ev (a1 k13 t : Int) (h0 : 0 ≤ k13) (h1 : k13 < 128) (ht : federationlaw7_within.f a1 4 = some t) (ht1 : t < 4) : ∀ (d i : Nat), (i : Int) + d = t →
    Ev (fun k => federationlaw7_CmdNumbers.l2 k a1 k13 (strOfNums (50 :: 1 :: (k13 + 128) :: List.replicate i 128)) (i : Int)) true := by
  intro d
  induction d with
  | zero =>
    intro i hi
    refine Ev.succ ?_
    simp only [federationlaw7_CmdNumbers.l2, ht, Option.bind_some, if_neg (show ¬ (i : Int) < t by omega), lit0, lit1000, lit50, str_append]
    rw [show k13 % 256 = k13 by omega]
    simp only [str_size, List.length_append, List.length_cons, List.length_replicate, List.length_nil]
    simp only [if_pos (show i + 1 + 1 + 1 + 1 ≤ 9223372036854775807 by omega), if_pos (show i + 1 + 1 + 1 + (0 + 1) + 4 ≤ 9223372036854775807 by omega), if_pos (show (1 + (0 + 1 + 1) : Nat) ≤ 9223372036854775807 by decide), if_pos (show (0 + 1 + (0 + 1 + 1) + 4 : Nat) ≤ 9223372036854775807 by decide)]
    refine Ev.bind (long_dec k13 h0 h1 i (by omega)) ?_
    refine Ev.bind (short_dec k13 h0 h1) ?_
    simp only [zero8, res, Bool.false_eq_true, if_false]
    exact Ev.now _
  | succ d ih =>
    intro i hi
    refine Ev.succ ?_
    have hsz : (strOfNums (50 :: 1 :: (k13 + 128) :: List.replicate i 128)).size + 1 ≤ 9223372036854775807 := by
      rw [str_size]; simp only [List.length_cons, List.length_replicate]; omega
    simp only [federationlaw7_CmdNumbers.l2, ht, Option.bind_some, if_pos (show (i : Int) < t by omega), lit128, str_append, if_pos hsz, wrap_succ i 4 (by omega) (by decide)]
    have e : (50 :: 1 :: (k13 + 128) :: List.replicate i 128) ++ [128] = 50 :: 1 :: (k13 + 128) :: List.replicate (i + 1) 128 := by
      simp only [List.cons_append]
      rw [List.replicate_succ']
    rw [e]
    exact ih (i + 1) (by omega)
theorem l0_ev (a0 a1 : Int) (l : List Int) (hl : l.length ≤ 1000) (hx : ∀ x ∈ l, 0 ≤ x ∧ x < 9223372036854775808) : ∀ (d i : Nat), i + d = l.length → Ev (fun k => federationlaw7_CmdNumbers.l0 k a0 a1 l (i : Int)) true := by
  intro d
  induction d with
  | zero =>
    intro i hi
    refine Ev.succ ?_
    obtain ⟨u, hu, hu0, hu1⟩ := within_some a0 128 (by decide) (by decide)
    obtain ⟨t, ht, ht0, ht1⟩ := within_some a1 4 (by decide) (by decide)
    simp only [federationlaw7_CmdNumbers.l0, if_neg (show ¬ (i : Int) < (l.length : Int) by omega), hu, Option.bind_some, lit50, str_append]
    have w : wrap64 (u + 128) % 256 = u + 128 := by unfold wrap64; omega
    rw [w]
    have hs : (1 : Nat) + (strOfNums [1, u + 128]).size ≤ 9223372036854775807 := by rw [str_size]; simp
    simp only [if_pos hs]
    exact l2_ev a1 u t hu0 hu1 ht ht1 t.toNat 0 (by omega)
  | succ d ih =>
    intro i hi
    refine Ev.succ ?_
    simp only [federationlaw7_CmdNumbers.l0, if_pos (show (i : Int) < (l.length : Int) by omega)]
    refine l1_ev a0 a1 l i (by omega) hx true ?_
    rw [wrap_succ i l.length (by omega) (by omega)]
    exact ih (i + 1) (by omega)
theorem numbers_ev (a0 a1 : Int) : Ev (fun k => federationlaw7_CmdNumbers.f k a0 a1) true := by
  unfold federationlaw7_CmdNumbers.f
  refine Ev.bind known_ev ?_
  obtain ⟨u, hu, hu0, hu1⟩ := within_some a0 4611686018427387904 (by decide) (by decide)
  obtain ⟨v, hv, hv0, hv1⟩ := within_some a0 70000 (by decide) (by decide)
  simp only [if_true, hu, hv, Option.bind_some]
  refine l0_ev a0 a1 [0, 127, 128, 16383, 16384, 9223372036854775807, u, v] (by simp) (fun x hx => ?_) 8 0 rfl
  simp only [List.mem_cons, List.not_mem_nil, or_false] at hx
  rcases hx with rfl | rfl | rfl | rfl | rfl | rfl | rfl | rfl <;> omega
end Go.Proofs.Ytagjmphkfeiiiaa.Yv
