/-
  The law CmdSizes, without the program's text: how long each form is; conditions: none.
-/
import Derived.Test.YtagjmphkfeiiiaaQx17
import Derived.Test.YtagjmphkfeiiiaaYm
namespace Go.Proofs.Ytagjmphkfeiiiaa.Ys
open Go.RowKit Go.Proofs.YtagjmphkfeiiiaaW.PrintWords Go.Proofs.YtagjmphkfeiiiaaW.PrintLast Go.Proofs.YtagjmphkfeiiiaaW.PrintMore Go.Proofs.Ytagjmphkfeiiiaa.Q Go.Proofs.Ytagjmphkfeiiiaa.Ya Go.Proofs.Ytagjmphkfeiiiaa.Yb Go.Proofs.Ytagjmphkfeiiiaa.Yc Go.Proofs.Ytagjmphkfeiiiaa.Yd Go.Proofs.Ytagjmphkfeiiiaa.Yh Go.Proofs.Ytagjmphkfeiiiaa.Yi Go.Proofs.Ytagjmphkfeiiiaa.Yw Go.Proofs.Ytagjmphkfeiiiaa.Ym
theorem wrap_of (x : Int) (h : 0 ≤ x) (h2 : x < 9223372036854775808) : wrap64 x = x := by unfold wrap64; omega
theorem wrap1 (m : Nat) (h : m < 9223372036854775807) : wrap64 ((m : Int) + 1) = ((m + 1 : Nat) : Int) := by rw [wrap_of _ (by omega) (by omega)]; rfl
theorem acc1 (A x y : Nat) (h : A + x + y < 1000000000) : wrap64 (wrap64 (wrap64 ((A : Int) + 5) + (x : Int)) + (y : Int)) = ((A + (5 + x + y) : Nat) : Int) := by
  rw [wrap_of ((A : Int) + 5) (by omega) (by omega), wrap_of ((A : Int) + 5 + _) (by omega) (by omega), wrap_of _ (by omega) (by omega)]
  omega
theorem acc2 (A x y : Nat) (h : A + x + y < 1000000000) : wrap64 (wrap64 (wrap64 ((A : Int) + 1) + (x : Int)) + (y : Int)) = ((A + (1 + x + y) : Nat) : Int) := by
  rw [wrap_of ((A : Int) + 1) (by omega) (by omega), wrap_of ((A : Int) + 1 + _) (by omega) (by omega), wrap_of _ (by omega) (by omega)]
  omega
theorem acc3 (A x y : Nat) (h : A + x + y < 1000000000) : wrap64 (wrap64 ((A : Int) + (x : Int)) + (y : Int)) = ((A + (x + y) : Nat) : Int) := by
  rw [wrap_of ((A : Int) + (x : Int)) (by omega) (by omega), wrap_of _ (by omega) (by omega)]
  omega
theorem acc4 (x y z u : Nat) (h : x + y + z + u < 1000000000) : wrap64 (wrap64 (wrap64 (wrap64 (4 + (x : Int)) + (y : Int)) + (z : Int)) + (u : Int)) = ((4 + x + y + z + u : Nat) : Int) := by
  rw [wrap_of (4 + (x : Int)) (by omega) (by omega), wrap_of (4 + (x : Int) + _) (by omega) (by omega), wrap_of (4 + (x : Int) + _ + _) (by omega) (by omega), wrap_of _ (by omega) (by omega)]
  omega
theorem div128 (n : Nat) : Int.tdiv (n : Int) 128 = ((n / 128 : Nat) : Int) := by
  rw [Int.tdiv_eq_ediv_of_nonneg (by omega)]; rfl
theorem free_ev : ∀ (n m : Nat), n < 9223372036854775808 → m + (var n).length ≤ 9223372036854775807 → Ev (fun k => federationlaw7_free.l0 k (n : Int) (m : Int)) ((m + (var n).length - 1 : Nat) : Int) := by
  intro n
  induction n using Nat.strongRecOn with
  | ind n ih =>
    intro m hn hm
    refine Ev.succ ?_
    simp only [federationlaw7_free.l0]
    have hp := var_pos (n / 128)
    by_cases h : n > 127
    · have hv : (var n).length = (var (n / 128)).length + 1 := by rw [var, if_pos h]; rfl
      simp only [if_pos (show (n : Int) ≥ 128 by omega), div128, wrap_of ((n / 128 : Nat) : Int) (by omega) (by omega)]
      simp only [wrap1 m (by omega)]
      have := ih (n / 128) (by omega) (m + 1) (by omega) (by omega)
      rw [show m + (var n).length - 1 = m + 1 + (var (n / 128)).length - 1 by omega]
      exact this
    · have hv : (var n).length = 1 := by rw [var, if_neg h]; rfl
      simp only [if_neg (show ¬ (n : Int) ≥ 128 by omega)]
      rw [show m + (var n).length - 1 = m by omega]
      exact Ev.now _
theorem free_n (n : Nat) (hn : n < 9223372036854775808) (hm : (var n).length ≤ 10) : Ev (fun k => federationlaw7_free.f k (n : Int)) ((var n).length : Int) := by
  unfold federationlaw7_free.f
  have := free_ev n 1 hn (by omega)
  rw [show 1 + (var n).length - 1 = (var n).length by omega] at this
  exact this
theorem bytesOf_len (s : ByteArray) : (bytesOf s).length = s.size := by rw [← str_size, str_bytesOf]
theorem wr1_size (w : S40) : (wr1 w).length = 5 + w.f0.size + w.f1.size := by
  unfold wr1
  simp only [List.length_append, be_length, bytesOf_len, fl_len]
  omega
theorem wr2_size (w : S40) : (wr2 w).length = 1 + (var w.f0.size).length + w.f0.size + (if w.f2 = true then 0 else (var w.f1.size).length + w.f1.size) := by
  unfold wr2
  simp only [List.length_append, bytesOf_len, fl_len]
  cases w.f2 <;> simp [bytesOf_len] <;> omega
theorem var10 (n : Nat) (h : n < 9223372036854775808) : (var n).length ≤ 10 := var_len 9 n (by omega)
theorem loop (c : C) (s1 s2 : ByteArray) (b1 : Bool) (hw : c.ws.all okw = true) (hl : c.ws.length ≤ 1000) : ∀ (d i A B : Nat), i + d = c.ws.length → A ≤ 21 + 4305 * i → B ≤ 1000 + 4330 * i →
    (∃ e1 e2 : Nat, e1 = A + (cat wr1 (c.ws.drop i)).length ∧ e2 = B + (cat wr2 (c.ws.drop i)).length ∧ s2.size = e2 ∧ (b1 = true → s1.size = e1)) →
    Ev (fun k => federationlaw7_CmdSizes.l0 k s1 b1 s2 true (A : Int) (B : Int) (i : Int) c.kind c.id c.txn c.com c.ws c.text) true := by
  intro d
  induction d with
  | zero =>
    intro i A B hi _ _ ⟨e1, e2, h1, h2, h3, h4⟩
    refine Ev.succ ?_
    simp only [federationlaw7_CmdSizes.l0]
    simp only [if_neg (show ¬ (i : Int) < (c.ws.length : Int) by omega), if_true]
    have hd : c.ws.drop i = [] := List.drop_eq_nil_of_le (by omega)
    rw [hd] at h1 h2
    have z1 : (cat wr1 ([] : List S40)).length = 0 := rfl
    have z2 : (cat wr2 ([] : List S40)).length = 0 := rfl
    simp only [if_pos (show (s2.size : Int) = (B : Int) by omega)]
    cases b1 with
    | false => exact Ev.now _
    | true =>
      have := h4 rfl
      simp only [if_true, show ((s1.size : Int) == (A : Int)) = true from beq_iff_eq.2 (by omega)]
      exact Ev.now _
  | succ d ih =>
    intro i A B hi hA hB ⟨e1, e2, h1, h2, h3, h4⟩
    have hlt : i < c.ws.length := by omega
    have ho : okw c.ws[i] = true := List.all_eq_true.1 hw _ (List.getElem_mem hlt)
    obtain ⟨k1, k2, k3, k4⟩ := okw_sizes ho
    have v1 := var_len 2 c.ws[i].f0.size (by omega)
    have v2 := var_len 2 c.ws[i].f1.size (by omega)
    rw [drop_at _ _ hlt, cat_cons, List.length_append, wr1_size] at h1
    rw [drop_at _ _ hlt, cat_cons, List.length_append, wr2_size] at h2
    refine Ev.succ ?_
    simp only [federationlaw7_CmdSizes.l0]
    simp only [if_pos (show (i : Int) < (c.ws.length : Int) by omega), if_pos (show (0 : Int) ≤ (i : Int) by omega), rd_at _ _ hlt, wrap_succ i _ hlt (by omega)]
    refine Ev.bind (free_n c.ws[i].f0.size (by omega) (by omega)) ?_
    by_cases hg : c.ws[i].f2 = true
    · simp only [if_pos hg, acc1 A c.ws[i].f0.size c.ws[i].f1.size (by omega), acc2 B (var c.ws[i].f0.size).length c.ws[i].f0.size (by omega)]
      rw [if_pos hg] at h2
      exact ih (i + 1) _ _ (by omega) (by omega) (by omega) ⟨e1, e2, by omega, by omega, h3, h4⟩
    · rw [if_neg hg] at h2
      simp only [if_neg hg]
      refine Ev.bind (free_n c.ws[i].f1.size (by omega) (by omega)) ?_
      simp only [acc1 A c.ws[i].f0.size c.ws[i].f1.size (by omega), acc2 B (var c.ws[i].f0.size).length c.ws[i].f0.size (by omega), acc3 (B + (1 + (var c.ws[i].f0.size).length + c.ws[i].f0.size)) (var c.ws[i].f1.size).length c.ws[i].f1.size (by omega)]
      exact ih (i + 1) _ _ (by omega) (by omega) (by omega) ⟨e1, e2, by omega, by omega, h3, h4⟩
theorem len1 (c : C) : (wire c 1).length = 21 + (cat wr1 c.ws).length := by
  unfold wire tail1
  rw [if_pos rfl]
  simp only [List.length_cons, List.length_append, be_length, fl_len, List.length_nil]
  omega
theorem len2 (c : C) (ht : c.text.size ≤ 40) : (wire c 2).length = 4 + (var c.id.toNat).length + (var c.txn.toNat).length + (var c.ws.length).length + c.text.size + (cat wr2 c.ws).length := by
  unfold wire tail2
  rw [if_neg (by decide)]
  have h1 : (var c.text.size).length = 1 := by rw [var, if_neg (by omega)]; rfl
  simp only [List.length_cons, List.length_append, bytesOf_len, fl_len, List.length_nil, h1]
  omega
theorem sizes_ev (a0 a1 a2 : Int) (l3 : List Int) (a4 : ByteArray) : Ev (fun k => federationlaw7_CmdSizes.f k a0 a1 a2 l3 a4) true := by
  unfold federationlaw7_CmdSizes.f
  refine Ev.bind known_ev ?_
  simp only [if_true]
  by_cases hs : (a4.size : Int) > 100
  · simp only [if_pos hs]
    exact Ev.now _
  · simp only [if_neg hs]
    obtain ⟨c, e, hr, hi, ht⟩ := make_ev a0 a1 a2 l3 a4 (by omega)
    obtain ⟨p0, p1, p2, p3, p4, p5, p6, p7⟩ := right_parts hr
    refine Ev.bind e ?_
    dsimp only
    refine Ev.bind (enc_ev c 1 hi ht) ?_
    refine Ev.bind (enc_ev c 2 hi ht) ?_
    have hid : c.id = ((c.id.toNat : Nat) : Int) := by omega
    have htx : c.txn = ((c.txn.toNat : Nat) : Int) := by omega
    have q1 := var10 c.id.toNat (by omega)
    have q2 := var10 c.txn.toNat (by omega)
    have q3 := var10 c.ws.length (by omega)
    have f1 := free_n c.id.toNat (by omega) q1
    have f2 := free_n c.txn.toNat (by omega) q2
    rw [← hid] at f1
    rw [← htx] at f2
    refine Ev.bind f1 ?_
    refine Ev.bind f2 ?_
    refine Ev.bind (free_n c.ws.length (by omega) q3) ?_
    rw [acc4 _ _ _ _ (by omega), enc_snd (ok2 hr hi ht).may]
    refine loop c _ _ _ p6 p4 c.ws.length 0 21 _ (by omega) (by omega) (by omega) ⟨_, _, rfl, rfl, ?_, fun h => ?_⟩
    · rw [str_size, len2 c p5]
      rfl
    · have h5 : ¬ c.kind = 5 := fun h5 => by rw [enc_none (may5 h5)] at h; exact Bool.noConfusion h
      rw [enc_snd (ok1 hr hi ht h5).may, str_size, len1]
      rfl
end Go.Proofs.Ytagjmphkfeiiiaa.Ys
