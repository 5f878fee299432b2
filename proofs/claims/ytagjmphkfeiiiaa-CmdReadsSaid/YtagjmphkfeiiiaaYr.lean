/-
  The reference's writers, as lists of bytes: they come to what the code's come to; conditions: as there.
-/
import Derived.Test.YtagjmphkfeiiiaaQx25
import Derived.Test.YtagjmphkfeiiiaaYi
namespace Go.Proofs.Ytagjmphkfeiiiaa.Yr
open Go.RowKit Go.Proofs.YtagjmphkfeiiiaaW.PrintWords Go.Proofs.YtagjmphkfeiiiaaW.PrintLast Go.Proofs.YtagjmphkfeiiiaaW.PrintMore Go.Proofs.Ytagjmphkfeiiiaa.Q Go.Proofs.Ytagjmphkfeiiiaa.Ya Go.Proofs.Ytagjmphkfeiiiaa.Yb Go.Proofs.Ytagjmphkfeiiiaa.Yc Go.Proofs.Ytagjmphkfeiiiaa.Yd Go.Proofs.Ytagjmphkfeiiiaa.Yh Go.Proofs.Ytagjmphkfeiiiaa.Yi
theorem Ev.succ' {α : Type} {g : Nat → Option α} {r : α} (h : Ev (fun k => g (k + 1)) r) : Ev g r := Ev.step (fun _ => rfl) h
theorem u64_w (x : Int) (h₀ : 0 ≤ x) (h₁ : x < 18446744073709551616) : IntKind.u64.wrap x = x := by rw [IntKind.wrap_u64]; omega
theorem fixed_l (x : Int) : ∀ (m : Nat) (l : List Int), m ≤ 8 → l.length + m ≤ 140737488355328 → Ev (fun k => federationref7_fixed.l0 k l x ((m : Int) - 1)) (l ++ be m x) := by
  intro m
  induction m with
  | zero =>
    intro l _ _
    refine Ev.step (f := fun _ => some l) (fun k => ?_) (by simpa [be] using Ev.now l)
    simp only [federationref7_fixed.l0]
    rw [if_neg (by omega)]
  | succ m ih =>
    intro l hm hl
    refine Ev.step (f := fun k => federationref7_fixed.l0 k (l ++ [x / 256 ^ m % 256]) x ((m : Int) - 1)) (fun k => ?_) ?_
    · have e0 : ((m + 1 : Nat) : Int) - 1 = (m : Int) := by omega
      have e4 : wrap64 (8 * (m : Int)) = 8 * (m : Int) := by unfold wrap64; omega
      have e5 : IntKind.u64.wrap (8 * (m : Int)) = 8 * (m : Int) := u64_w _ (by omega) (by omega)
      have e3 : wrap64 ((m : Int) - 1) = (m : Int) - 1 := by unfold wrap64; omega
      have e1 : shr .i64 x (8 * (m : Int)) = x / 256 ^ m := by
        unfold shr
        have e2 : (8 * (m : Int)).toNat = 8 * m := by omega
        rw [e2, Nat.min_eq_left (by show 8 * m ≤ 64; omega)]
        congr 1
        rw [Int.pow_mul]
        rfl
      simp only [federationref7_fixed.l0]
      rw [e0, if_pos (by omega), e4, e5, if_pos (by omega), if_pos (by omega), e1, e3]
    · have := ih (l ++ [x / 256 ^ m % 256]) (by omega) (by simp; omega)
      simpa [be] using this
theorem fixed_ev (l : List Int) (x : Int) (m : Nat) (hm : m ≤ 8) (hl : l.length + m ≤ 140737488355328) : Ev (fun k => federationref7_fixed.f k l x (m : Int)) (l ++ be m x) := by
  have e : wrap64 ((m : Int) - 1) = (m : Int) - 1 := by unfold wrap64; omega
  refine Ev.congr (fun k => ?_) (fixed_l x m l hm hl)
  unfold federationref7_fixed.f
  rw [e]
theorem bit_eq (b : Bool) : federationref7_bit.f b = some (if b then 1 else 0) := by
  unfold federationref7_bit.f
  cases b <;> rfl
theorem bit_fl (b : Bool) : ([if b then 1 else 0] : List Int) = fl b := by cases b <;> rfl
theorem free_l : ∀ (n : Nat) (l : List Int), n < 9223372036854775808 → l.length + (var n).length ≤ 140737488355328 → Ev (fun k => federationref7_free.l0 k l (n : Int)) (l ++ var n) := by
  intro n
  induction n using Nat.strongRecOn with
  | _ n ih =>
    intro l hn hl
    have hp := var_pos n
    by_cases hc : n > 127
    · refine Ev.step (f := fun k => federationref7_free.l0 k (l ++ [((n % 128 + 128 : Nat) : Int)]) ((n / 128 : Nat) : Int)) (fun k => ?_) ?_
      · simp only [federationref7_free.l0]
        have e2 : Int.tmod (n : Int) 128 = ((n % 128 : Nat) : Int) := by rw [Int.tmod_eq_emod_of_nonneg (by omega)]; omega
        have e3 : Int.tdiv (n : Int) 128 = ((n / 128 : Nat) : Int) := by rw [Int.tdiv_eq_ediv_of_nonneg (by omega)]; omega
        have e4 : wrap64 ((n / 128 : Nat) : Int) = ((n / 128 : Nat) : Int) := by unfold wrap64; omega
        have e5 : wrap64 (((n % 128 : Nat) : Int) + 128) % 256 = ((n % 128 + 128 : Nat) : Int) := by unfold wrap64; omega
        rw [if_pos (by omega), if_pos (by omega), e2, e3, e4, e5]
      · have hv : var n = ((n % 128 + 128 : Nat) : Int) :: var (n / 128) := by rw [var, if_pos hc]
        have h2 := ih (n / 128) (by omega) (l ++ [((n % 128 + 128 : Nat) : Int)]) (by omega) (by rw [hv] at hl; simp at hl ⊢; omega)
        rw [hv]
        simpa using h2
    · have hv : var n = [(n : Int)] := by rw [var, if_neg hc]
      rw [hv] at hl ⊢
      refine Ev.step (f := fun _ => some (l ++ [(n : Int)])) (fun k => ?_) (Ev.now _)
      simp only [federationref7_free.l0]
      rw [if_neg (by omega), if_pos (by simp at hl; omega)]
      have e1 : (n : Int) % 256 = (n : Int) := by omega
      rw [e1]
theorem free_ev (n : Nat) (l : List Int) (hn : n < 9223372036854775808) (hl : l.length + (var n).length ≤ 140737488355328) : Ev (fun k => federationref7_free.f k l (n : Int)) (l ++ var n) := free_l n l hn hl
theorem own_eq (s : ByteArray) : own_bytes.f s = some s := rfl
theorem first_l (c : C) (hw : c.ws.all okw = true) (hl : c.ws.length ≤ 1000) : ∀ (d i : Nat) (l : List Int), i + d = c.ws.length → l.length + 5000 * d + 5000 ≤ 140737488355328 →
    Ev (fun k => federationref7_first.l0 k l (i : Int) c.kind c.id c.txn c.com c.ws c.text) (l ++ cat wr1 (c.ws.drop i)) := by
  intro d
  induction d with
  | zero =>
    intro i l hi _
    have e : i = c.ws.length := by omega
    subst e
    refine Ev.step (f := fun _ => some l) (fun k => ?_) (by simpa [cat] using Ev.now _)
    simp only [federationref7_first.l0]
    rw [if_neg (by omega)]
  | succ d ih =>
    intro i l hi hb
    have hlt : i < c.ws.length := by omega
    have ho : okw c.ws[i] = true := List.all_eq_true.1 hw _ (List.getElem_mem hlt)
    obtain ⟨_, h2, h3, _⟩ := okw_sizes ho
    have hn := wr1_len ho
    have hs := wrap_succ i _ hlt (by omega)
    refine Ev.succ' ?_
    simp only [federationref7_first.l0, if_pos (show (i : Int) < (c.ws.length : Int) by omega), if_pos (show (0 : Int) ≤ (i : Int) by omega), rd_at _ _ hlt, hs]
    refine Ev.bind (fixed_ev l (c.ws[i].f0.size : Int) 2 (by omega) (by omega)) ?_
    simp only [own_eq, Option.bind_some, if_pos (show (l ++ be 2 (c.ws[i].f0.size : Int)).length + c.ws[i].f0.size < 140737488355328 by simp only [List.length_append, be_length]; omega)]
    refine Ev.bind (fixed_ev (l ++ be 2 (c.ws[i].f0.size : Int) ++ bytesOf c.ws[i].f0) (c.ws[i].f1.size : Int) 2 (by omega) (by simp only [List.length_append, be_length, bytesOf_length]; omega)) ?_
    simp only [if_pos (show (l ++ be 2 (c.ws[i].f0.size : Int) ++ bytesOf c.ws[i].f0 ++ be 2 (c.ws[i].f1.size : Int)).length + c.ws[i].f1.size < 140737488355328 by simp only [List.length_append, be_length, bytesOf_length]; omega), bit_eq, Option.bind_some, if_pos (show (l ++ be 2 (c.ws[i].f0.size : Int) ++ bytesOf c.ws[i].f0 ++ be 2 (c.ws[i].f1.size : Int) ++ bytesOf c.ws[i].f1).length < 140737488355328 by simp only [List.length_append, be_length, bytesOf_length]; omega), bit_fl]
    have := ih (i + 1) (l ++ wr1 c.ws[i]) (by omega) (by rw [List.length_append]; omega)
    rw [drop_at _ _ hlt, cat_cons, ← List.append_assoc]
    simpa [wr1] using this
theorem first_ev (c : C) (hr : right c = true) : Ev (fun k => federationref7_first.f k c.kind c.id c.txn c.com c.ws c.text) (49 :: tail1 c) := by
  obtain ⟨h1, h2, h3, h4, h5, h6, h7, h8⟩ := right_parts hr
  unfold federationref7_first.f
  refine Ev.bind (fixed_ev _ c.id 8 (by omega) (by simp)) ?_
  refine Ev.bind (fixed_ev _ c.txn 8 (by omega) (by simp [be_length])) ?_
  simp only [bit_eq, Option.bind_some, if_pos (show ([49, c.kind % 256] ++ be 8 c.id ++ be 8 c.txn).length < 140737488355328 by simp [be_length]), bit_fl]
  refine Ev.bind (fixed_ev _ (c.ws.length : Int) 2 (by omega) (by simp [be_length, fl_len])) ?_
  have h := first_l c h7 h5 c.ws.length 0 ([49, c.kind % 256] ++ be 8 c.id ++ be 8 c.txn ++ fl c.com ++ be 2 (c.ws.length : Int)) (by omega) (by simp [be_length, fl_len]; omega)
  simpa [tail1] using h
theorem second_l (c : C) (hw : c.ws.all okw = true) (hl : c.ws.length ≤ 1000) (ht : c.text.size ≤ 40) : ∀ (d i : Nat) (l : List Int), i + d = c.ws.length → l.length + 5000 * d + 5000 ≤ 140737488355328 →
    Ev (fun k => federationref7_second.l0 k l (i : Int) c.kind c.id c.txn c.com c.ws c.text) (l ++ cat wr2 (c.ws.drop i) ++ (var c.text.size ++ bytesOf c.text)) := by
  intro d
  induction d with
  | zero =>
    intro i l hi hb
    have e : i = c.ws.length := by omega
    subst e
    have vt := var_le c.text.size (by omega)
    refine Ev.succ' ?_
    simp only [federationref7_second.l0, if_neg (show ¬ ((c.ws.length : Int) < (c.ws.length : Int)) by omega)]
    refine Ev.bind (free_ev c.text.size l (by omega) (by omega)) ?_
    simp only [own_eq, Option.bind_some, if_pos (show (l ++ var c.text.size).length + c.text.size < 140737488355328 by simp only [List.length_append]; omega)]
    simpa [cat] using Ev.now _
  | succ d ih =>
    intro i l hi hb
    have hlt : i < c.ws.length := by omega
    have ho : okw c.ws[i] = true := List.all_eq_true.1 hw _ (List.getElem_mem hlt)
    obtain ⟨_, h2, h3, _⟩ := okw_sizes ho
    have hn := wr2_len ho
    have hs := wrap_succ i _ hlt (by omega)
    have v0 := var_le c.ws[i].f0.size (by omega)
    have v1 := var_le c.ws[i].f1.size (by omega)
    have hj : ∀ L, L = l ++ wr2 c.ws[i] → Ev (fun k => federationref7_second.j1 k L (i : Int) c.kind c.id c.txn c.com c.ws c.text) (l ++ cat wr2 (c.ws.drop i) ++ (var c.text.size ++ bytesOf c.text)) := by
      intro L hL
      subst hL
      refine Ev.succ' ?_
      simp only [federationref7_second.j1, hs]
      have := ih (i + 1) (l ++ wr2 c.ws[i]) (by omega) (by rw [List.length_append]; omega)
      rw [drop_at _ _ hlt, cat_cons]
      simpa only [List.append_assoc] using this
    refine Ev.succ' ?_
    simp only [federationref7_second.l0, if_pos (show (i : Int) < (c.ws.length : Int) by omega), if_pos (show (0 : Int) ≤ (i : Int) by omega), rd_at _ _ hlt, bit_eq, Option.bind_some, bit_fl, if_pos (show l.length + (fl c.ws[i].f2).length < 140737488355328 by simp only [fl_len]; omega)]
    refine Ev.bind (free_ev c.ws[i].f0.size (l ++ fl c.ws[i].f2) (by omega) (by simp only [List.length_append, fl_len]; omega)) ?_
    simp only [own_eq, Option.bind_some, if_pos (show (l ++ fl c.ws[i].f2 ++ var c.ws[i].f0.size).length + c.ws[i].f0.size < 140737488355328 by simp only [List.length_append, fl_len]; omega)]
    cases hg : c.ws[i].f2 with
    | true =>
      simp only [if_true]
      exact hj _ (by simp [wr2, hg])
    | false =>
      simp only [Bool.false_eq_true, if_false]
      refine Ev.bind (free_ev c.ws[i].f1.size (l ++ fl false ++ var c.ws[i].f0.size ++ bytesOf c.ws[i].f0) (by omega) (by simp only [List.length_append, fl_len, bytesOf_length]; omega)) ?_
      simp only [if_pos (show (l ++ fl false ++ var c.ws[i].f0.size ++ bytesOf c.ws[i].f0 ++ var c.ws[i].f1.size).length + c.ws[i].f1.size < 140737488355328 by simp only [List.length_append, fl_len, bytesOf_length]; omega)]
      exact hj _ (by simp [wr2, hg])
theorem second_ev (c : C) (hr : right c = true) (hi : c.id < 9223372036854775808) (ht : c.txn < 9223372036854775808) : Ev (fun k => federationref7_second.f k c.kind c.id c.txn c.com c.ws c.text) (50 :: tail2 c) := by
  obtain ⟨h1, h2, h3, h4, h5, h6, h7, h8⟩ := right_parts hr
  obtain ⟨a, ha⟩ := Int.eq_ofNat_of_zero_le h3
  obtain ⟨b, hb⟩ := Int.eq_ofNat_of_zero_le h4
  have ea : c.id.toNat = a := by omega
  have eb : c.txn.toNat = b := by omega
  have va : (var a).length ≤ 9 := var_len 8 a (by omega)
  have vb : (var b).length ≤ 9 := var_len 8 b (by omega)
  have vn : (var c.ws.length).length ≤ 2 := var_le _ (by omega)
  unfold federationref7_second.f
  refine Ev.bind (g := fun k => federationref7_free.f k ([50, c.kind % 256] : List Int) c.id) (a := [50, c.kind % 256] ++ var a) ?_ ?_
  · rw [ha]
    exact free_ev a _ (by omega) (by simp; omega)
  refine Ev.bind (g := fun k => federationref7_free.f k ([50, c.kind % 256] ++ var a) c.txn) (a := [50, c.kind % 256] ++ var a ++ var b) ?_ ?_
  · rw [hb]
    exact free_ev b _ (by omega) (by simp; omega)
  simp only [bit_eq, Option.bind_some, bit_fl, if_pos (show ([50, c.kind % 256] ++ var a ++ var b).length + (fl c.com).length < 140737488355328 by simp [fl_len]; omega)]
  refine Ev.bind (free_ev c.ws.length ([50, c.kind % 256] ++ var a ++ var b ++ fl c.com) (by omega) (by simp [fl_len]; omega)) ?_
  have h := second_l c h7 h5 h6 c.ws.length 0 ([50, c.kind % 256] ++ var a ++ var b ++ fl c.com ++ var c.ws.length) (by omega) (by simp [fl_len]; omega)
  simpa [tail2, ea, eb] using h
theorem okw_cases (w : S40) : okw w = (decide (1 ≤ w.f0.size) && decide (w.f0.size ≤ 300) && decide (w.f1.size ≤ 4000) && (!w.f2 || (w.f1.toList == ([] : List UInt8)))) := rfl
theorem rloop (c : C) (hl : c.ws.length ≤ 140737488355328) : ∀ (d i : Nat), i + d = c.ws.length → Ev (fun k => federationref7_Right.l0 k (i : Int) c.kind c.id c.txn c.com c.ws c.text) ((c.ws.drop i).all okw) := by
  intro d
  induction d with
  | zero =>
    intro i hi
    have e : i = c.ws.length := by omega
    subst e
    refine Ev.step (f := fun _ => some true) (fun k => ?_) (by simpa using Ev.now true)
    simp only [federationref7_Right.l0]
    rw [if_neg (by omega)]
  | succ d ih =>
    intro i hi
    have hlt : i < c.ws.length := by omega
    have hw : wrap64 ((i : Int) + 1) = ((i + 1 : Nat) : Int) := wrap_succ i _ hlt hl
    have e : (c.ws.drop i).all okw = (okw c.ws[i] && (c.ws.drop (i + 1)).all okw) := by
      rw [drop_at _ _ hlt]
      rfl
    rw [e]
    have key : ∀ k, federationref7_Right.l0 (k + 1) (i : Int) c.kind c.id c.txn c.com c.ws c.text = if okw c.ws[i] = true then federationref7_Right.l0 k ((i + 1 : Nat) : Int) c.kind c.id c.txn c.com c.ws c.text else some false := by
      intro k
      simp only [federationref7_Right.l0, if_pos (show (i : Int) < (c.ws.length : Int) by omega), if_pos (show (0 : Int) ≤ (i : Int) by omega), rd_at _ _ hlt, hw, okw_cases]
      by_cases h1 : 1 ≤ c.ws[i].f0.size
      · rw [if_neg (by omega)]
        by_cases h2 : c.ws[i].f0.size ≤ 300
        · rw [if_neg (by omega)]
          by_cases h3 : c.ws[i].f1.size ≤ 4000
          · rw [if_neg (by omega)]
            by_cases hf : c.ws[i].f2 = true
            · simp [h1, h2, h3, hf]
            · simp [h1, h2, h3, hf]
          · rw [if_pos (by omega)]
            simp [h3]
        · rw [if_pos (by omega)]
          simp [h2]
      · rw [if_pos (by omega)]
        simp [h1]
    cases ho : okw c.ws[i] with
    | false =>
      refine Ev.step (f := fun _ => some false) (fun k => ?_) (Ev.now _)
      rw [key, ho]
      rfl
    | true =>
      refine Ev.step (f := fun k => federationref7_Right.l0 k ((i + 1 : Nat) : Int) c.kind c.id c.txn c.com c.ws c.text) (fun k => ?_) ?_
      · rw [key, ho]
        rfl
      · rw [Bool.true_and]
        exact ih (i + 1) (by omega)
theorem rj2 (c : C) (b : Bool) (hl : c.ws.length ≤ 140737488355328) : Ev (fun k => federationref7_Right.j2 k b c.kind c.id c.txn c.com c.ws c.text) (!b && c.ws.all okw) := by
  refine Ev.succ' ?_
  cases b with
  | true =>
    simp only [federationref7_Right.j2, if_true]
    exact Ev.now _
  | false =>
    simp only [federationref7_Right.j2, Bool.false_eq_true, if_false]
    simpa using rloop c hl c.ws.length 0 (by omega)
theorem rj1 (c : C) (b : Bool) (hb : b = (decide (c.kind = 2) || decide (c.kind = 3))) (hl : c.ws.length ≤ 140737488355328) : Ev (fun k => federationref7_Right.j1 k b c.kind c.id c.txn c.com c.ws c.text) (c.ws.all okw && fin c) := by
  refine Ev.succ' ?_
  have h5 : ∀ g, g = fin c → (if c.kind = 5 then true else (c.text.toList == ([] : List UInt8))) = g → Ev (fun k => if c.kind = 5 then federationref7_Right.j2 k false c.kind c.id c.txn c.com c.ws c.text else federationref7_Right.j2 k (c.text.toList != ([] : List UInt8)) c.kind c.id c.txn c.com c.ws c.text) (c.ws.all okw && fin c) := by
    intro g hg h
    rw [← hg, ← h]
    by_cases hk : c.kind = 5
    · simp only [if_pos hk]
      have := rj2 c false hl
      simpa using this
    · simp only [if_neg hk]
      have := rj2 c (c.text.toList != ([] : List UInt8)) hl
      have e : (!(c.text.toList != ([] : List UInt8))) = (c.text.toList == ([] : List UInt8)) := by simp [bne]
      rw [e, Bool.and_comm] at this
      exact this
  have h6 : fin c = ((decide (c.kind = 2) || decide (c.kind = 3) || (!c.com && c.ws.isEmpty)) && (if c.kind = 5 then true else (c.text.toList == ([] : List UInt8)))) := by
    unfold fin
    by_cases hk : c.kind = 5 <;> simp [hk]
  cases b with
  | true =>
    simp only [federationref7_Right.j1, if_true]
    exact h5 _ rfl (by rw [h6, ← hb]; simp)
  | false =>
    simp only [federationref7_Right.j1, Bool.false_eq_true, if_false]
    by_cases hc : c.com = true
    · simp only [if_pos hc]
      have := rj2 c true hl
      rw [h6, ← hb]
      simpa [hc] using this
    · simp only [if_neg hc]
      have hc2 : c.com = false := by simpa using hc
      by_cases hw : c.ws = []
      · have e0 : ¬ ((c.ws.length : Int) > 0) := by rw [hw]; simp
        simp only [if_neg e0]
        exact h5 _ rfl (by rw [h6, ← hb, hc2, hw]; simp)
      · have e0 : (c.ws.length : Int) > 0 := by
          have := List.length_pos_iff.2 hw
          omega
        simp only [if_pos e0]
        have := rj2 c true hl
        rw [h6, ← hb]
        have ew : c.ws.isEmpty = false := by simpa using hw
        simpa [hc2, ew] using this
theorem rj0 (c : C) (b : Bool) (hl : b = false → c.ws.length ≤ 140737488355328) : Ev (fun k => federationref7_Right.j0 k b c.kind c.id c.txn c.com c.ws c.text) (!b && (c.ws.all okw && fin c)) := by
  refine Ev.succ' ?_
  cases b with
  | true =>
    simp only [federationref7_Right.j0, if_true]
    exact Ev.now _
  | false =>
    simp only [federationref7_Right.j0, Bool.false_eq_true, if_false, Bool.not_false, Bool.true_and]
    by_cases h2 : c.kind = 2
    · simp only [if_pos h2]
      have := rj1 c true (by simp [h2]) (hl rfl)
      simpa using this
    · simp only [if_neg h2]
      have := rj1 c (c.kind == 3) (by rw [decide_eq_false h2, Bool.false_or]; rfl) (hl rfl)
      simpa using this
theorem Right_ev (c : C) : Ev (fun k => federationref7_Right.f k c.kind c.id c.txn c.com c.ws c.text) (right c) := by
  unfold right head
  by_cases h1 : c.kind < 0
  · have h := rj0 c true (by simp)
    refine Ev.congr (fun k => ?_) (by simpa [show ¬ (0 ≤ c.kind) by omega] using h)
    simp only [federationref7_Right.f]; rw [if_pos h1]
  by_cases h2 : c.kind > 5
  · have h := rj0 c true (by simp)
    refine Ev.congr (fun k => ?_) (by simpa [show ¬ (c.kind ≤ 5) by omega] using h)
    simp only [federationref7_Right.f]; rw [if_neg h1, if_pos h2]
  by_cases h3 : c.id < 0
  · have h := rj0 c true (by simp)
    refine Ev.congr (fun k => ?_) (by simpa [show ¬ (0 ≤ c.id) by omega] using h)
    simp only [federationref7_Right.f]; rw [if_neg h1, if_neg h2, if_pos h3]
  by_cases h4 : c.txn < 0
  · have h := rj0 c true (by simp)
    refine Ev.congr (fun k => ?_) (by simpa [show ¬ (0 ≤ c.txn) by omega] using h)
    simp only [federationref7_Right.f]; rw [if_neg h1, if_neg h2, if_neg h3, if_pos h4]
  by_cases h5 : (c.ws.length : Int) > 1000
  · have h := rj0 c true (by simp)
    refine Ev.congr (fun k => ?_) (by simpa [show ¬ (c.ws.length ≤ 1000) by omega] using h)
    simp only [federationref7_Right.f]; rw [if_neg h1, if_neg h2, if_neg h3, if_neg h4, if_pos h5]
  have h := rj0 c (decide ((c.text.size : Int) > 40)) (fun _ => by omega)
  refine Ev.congr (fun k => ?_) (r := _) (f := fun k => federationref7_Right.j0 k (decide ((c.text.size : Int) > 40)) c.kind c.id c.txn c.com c.ws c.text) ?_
  · simp only [federationref7_Right.f]; rw [if_neg h1, if_neg h2, if_neg h3, if_neg h4, if_neg h5]
  · have e : (decide (0 ≤ c.kind) && decide (c.kind ≤ 5) && decide (0 ≤ c.id) && decide (0 ≤ c.txn) && decide (c.ws.length ≤ 1000) && decide (c.text.size ≤ 40) && c.ws.all okw && fin c) = (!decide ((c.text.size : Int) > 40) && (c.ws.all okw && fin c)) := by
      by_cases h6 : c.text.size ≤ 40
      · simp [show 0 ≤ c.kind by omega, show c.kind ≤ 5 by omega, show 0 ≤ c.id by omega, show 0 ≤ c.txn by omega, show c.ws.length ≤ 1000 by omega, h6, show (c.text.size : Int) ≤ 40 by omega]
      · simp [h6, show (c.text.size : Int) > 40 by omega]
    rw [e]
    exact h
theorem ej0 (c : C) (n : Int) (b : Bool) (hn : b = false → n = 1 ∨ n = 2) (hi : c.id < 9223372036854775808) (ht : c.txn < 9223372036854775808) (hr : b = false → right c = true) : Ev (fun k => federationref7_Encode.j0 k n b c.kind c.id c.txn c.com c.ws c.text) (if b then ((⟨#[]⟩ : ByteArray), false) else (strOfNums (wire c n), true)) := by
  refine Ev.succ' ?_
  cases b with
  | true =>
    simp only [federationref7_Encode.j0, if_true]
    exact Ev.now _
  | false =>
    simp only [federationref7_Encode.j0, Bool.false_eq_true, if_false]
    rcases hn rfl with rfl | rfl
    · simp only [if_true]
      refine Ev.bind (first_ev c (hr rfl)) ?_
      simpa [wire] using Ev.now _
    · simp only [show ¬ ((2 : Int) = 1) by decide, if_false]
      refine Ev.bind (second_ev c (hr rfl) hi ht) ?_
      simpa [wire] using Ev.now _
theorem Encode_ev (c : C) (n : Int) (hi : c.id < 9223372036854775808) (ht : c.txn < 9223372036854775808) : Ev (fun k => federationref7_Encode.f k c.kind c.id c.txn c.com c.ws c.text n) (enc c n) := by
  unfold federationref7_Encode.f enc may
  refine Ev.bind (Right_ev c) ?_
  cases hr : right c with
  | false =>
    simp only [Bool.false_eq_true, if_false, Bool.false_and]
    simpa using ej0 c n true (by simp) hi ht (by simp)
  | true =>
    simp only [if_true, Bool.true_and]
    by_cases h1 : n < 1
    · simp only [if_pos h1]
      have := ej0 c n true (by simp) hi ht (by simp)
      simpa [show ¬ n = 1 by omega, show ¬ n = 2 by omega] using this
    · simp only [if_neg h1]
      by_cases h2 : n > 2
      · simp only [if_pos h2]
        have := ej0 c n true (by simp) hi ht (by simp)
        simpa [show ¬ n = 1 by omega, show ¬ n = 2 by omega] using this
      · simp only [if_neg h2]
        by_cases h3 : n = 1
        · simp only [if_pos h3]
          have := ej0 c n (c.kind == 5) (fun _ => .inl h3) hi ht (fun _ => hr)
          by_cases h5 : c.kind = 5
          · simpa [h3, h5] using this
          · have e5 : (c.kind == 5) = false := by simpa using h5
            rw [e5] at this ⊢
            simpa [h3, h5] using this
        · simp only [if_neg h3]
          have h4 : n = 2 := by omega
          have := ej0 c n false (fun _ => .inr h4) hi ht (fun _ => hr)
          simpa [h4] using this
end Go.Proofs.Ytagjmphkfeiiiaa.Yr
