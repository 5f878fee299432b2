/-
  Encode, as a list of bytes: what it comes to with rounds enough; conditions: the two numbers are below 2^63.
-/
import Derived.Test.YtagjmphkfeiiiaaYb
namespace Go.Proofs.Ytagjmphkfeiiiaa.Yc
open Go.RowKit Go.Proofs.YtagjmphkfeiiiaaW.PrintWords Go.Proofs.YtagjmphkfeiiiaaW.PrintLast Go.Proofs.YtagjmphkfeiiiaaW.PrintMore Go.Proofs.Ytagjmphkfeiiiaa.Q Go.Proofs.Ytagjmphkfeiiiaa.Ya Go.Proofs.Ytagjmphkfeiiiaa.Yb
structure C where
  kind : Int
  id : Int
  txn : Int
  com : Bool
  ws : List S40
  text : ByteArray
def okw (w : S40) : Bool := decide (1 ≤ w.f0.size) && decide (w.f0.size ≤ 300) && decide (w.f1.size ≤ 4000) && (!w.f2 || (w.f1.toList == ([] : List UInt8)))
def fin (c : C) : Bool := (decide (c.kind = 2) || decide (c.kind = 3) || (!c.com && c.ws.isEmpty)) && (decide (c.kind = 5) || (c.text.toList == ([] : List UInt8)))
def head (c : C) : Bool := decide (0 ≤ c.kind) && decide (c.kind ≤ 5) && decide (0 ≤ c.id) && decide (0 ≤ c.txn) && decide (c.ws.length ≤ 1000) && decide (c.text.size ≤ 40)
def right (c : C) : Bool := head c && c.ws.all okw && fin c
theorem rightWrite_eq (w : S40) : cmd_rightWrite.f w.f0 w.f1 w.f2 = some (okw w) := by
  unfold cmd_rightWrite.f okw
  by_cases h1 : 1 ≤ w.f0.size
  · rw [if_pos (by omega)]
    by_cases h2 : w.f0.size ≤ 300
    · rw [if_pos (by omega)]
      by_cases h3 : w.f1.size ≤ 4000
      · rw [if_pos (by omega)]
        cases w.f2 <;> simp [h1, h2, h3]
      · rw [if_neg (by omega)]
        simp [h3]
    · rw [if_neg (by omega)]
      simp [h2]
  · rw [if_neg (by omega)]
    simp [h1]
theorem rd_at (l : List S40) (i : Nat) (h : i < l.length) : rd_T40 l (i : Int) = l[i] := by
  unfold rd_T40
  simp [List.getD, h]
theorem drop_at {α : Type} (l : List α) (i : Nat) (h : i < l.length) : l.drop i = l[i] :: l.drop (i + 1) := List.drop_eq_getElem_cons h
theorem wrap_succ (i n : Nat) (h : i < n) (hn : n ≤ 140737488355328) : wrap64 ((i : Int) + 1) = ((i + 1 : Nat) : Int) := by unfold wrap64; omega
theorem right_loop (c : C) (hl : c.ws.length ≤ 140737488355328) : ∀ (d i : Nat), i + d = c.ws.length → Ev (fun k => cmd_right.l0 k c.ws (c.ws.length : Int) (i : Int) c.kind c.id c.txn c.com c.ws c.text) ((c.ws.drop i).all okw && fin c) := by
  intro d
  induction d with
  | zero =>
    intro i hi
    have e : i = c.ws.length := by omega
    subst e
    refine Ev.step (f := fun _ => some (fin c)) (fun k => ?_) (by simpa using Ev.now (fin c))
    simp only [cmd_right.l0]
    rw [if_neg (by omega)]
    unfold fin
    by_cases h2 : c.kind = 2
    · by_cases h5 : c.kind = 5
      · omega
      · simp [h2]
    · by_cases h3 : c.kind = 3
      · simp [h3]
      · rw [if_neg h2, if_neg h3]
        cases hc : c.com
        · by_cases hw : c.ws = []
          · simp [hw]
            by_cases h5 : c.kind = 5 <;> simp [h5]
          · have hw2 : ¬ ((c.ws.length : Int) = 0) := by
              intro h
              exact hw (List.eq_nil_of_length_eq_zero (by omega))
            simp [hw, h2, h3]
        · simp [h2, h3]
  | succ d ih =>
    intro i hi
    have hlt : i < c.ws.length := by omega
    have hw : wrap64 ((i : Int) + 1) = ((i + 1 : Nat) : Int) := wrap_succ i _ hlt hl
    have e : (c.ws.drop i).all okw = (okw c.ws[i] && (c.ws.drop (i + 1)).all okw) := by
      rw [drop_at _ _ hlt]
      rfl
    rw [e]
    cases ho : okw c.ws[i] with
    | false =>
      refine Ev.step (f := fun _ => some false) (fun k => ?_) (Ev.now _)
      simp only [cmd_right.l0]
      rw [if_pos (by omega), if_pos (by omega), if_pos (by omega), rd_at _ _ hlt, rightWrite_eq, ho]
      rfl
    | true =>
      refine Ev.step (f := fun k => cmd_right.l0 k c.ws (c.ws.length : Int) ((i + 1 : Nat) : Int) c.kind c.id c.txn c.com c.ws c.text) (fun k => ?_) ?_
      · simp only [cmd_right.l0]
        rw [if_pos (by omega), if_pos (by omega), if_pos (by omega), rd_at _ _ hlt, rightWrite_eq, ho, hw]
        rfl
      · rw [Bool.true_and]
        exact ih (i + 1) (by omega)
theorem right_j (c : C) (b : Bool) (hl : b = false → c.ws.length ≤ 140737488355328) : Ev (fun k => cmd_right.j0 k b c.kind c.id c.txn c.com c.ws c.text) (!b && (c.ws.all okw && fin c)) := by
  cases b with
  | true =>
    refine Ev.step (f := fun _ => some false) (fun k => ?_) (Ev.now _)
    simp [cmd_right.j0]
  | false =>
    refine Ev.step (f := fun k => cmd_right.l0 k c.ws (c.ws.length : Int) ((0 : Nat) : Int) c.kind c.id c.txn c.com c.ws c.text) (fun k => ?_) ?_
    · simp [cmd_right.j0]
    · have := right_loop c (hl rfl) c.ws.length 0 (by omega)
      simpa using this
theorem right_ev (c : C) : Ev (fun k => cmd_right.f k c.kind c.id c.txn c.com c.ws c.text) (right c) := by
  unfold right head
  by_cases h1 : c.kind < 0
  · have h := right_j c true (by simp)
    refine Ev.congr (fun k => ?_) (by simpa [show ¬ (0 ≤ c.kind) by omega] using h)
    simp only [cmd_right.f]; rw [if_pos h1]
  by_cases h2 : c.kind > 5
  · have h := right_j c true (by simp)
    refine Ev.congr (fun k => ?_) (by simpa [show ¬ (c.kind ≤ 5) by omega] using h)
    simp only [cmd_right.f]; rw [if_neg h1, if_pos h2]
  by_cases h3 : c.id < 0
  · have h := right_j c true (by simp)
    refine Ev.congr (fun k => ?_) (by simpa [show ¬ (0 ≤ c.id) by omega] using h)
    simp only [cmd_right.f]; rw [if_neg h1, if_neg h2, if_pos h3]
  by_cases h4 : c.txn < 0
  · have h := right_j c true (by simp)
    refine Ev.congr (fun k => ?_) (by simpa [show ¬ (0 ≤ c.txn) by omega] using h)
    simp only [cmd_right.f]; rw [if_neg h1, if_neg h2, if_neg h3, if_pos h4]
  by_cases h5 : (c.ws.length : Int) > 1000
  · have h := right_j c true (by simp)
    refine Ev.congr (fun k => ?_) (by simpa [show ¬ (c.ws.length ≤ 1000) by omega] using h)
    simp only [cmd_right.f]; rw [if_neg h1, if_neg h2, if_neg h3, if_neg h4, if_pos h5]
  have h := right_j c (decide ((c.text.size : Int) > 40)) (fun _ => by omega)
  refine Ev.congr (fun k => ?_) (r := _) (f := fun k => cmd_right.j0 k (decide ((c.text.size : Int) > 40)) c.kind c.id c.txn c.com c.ws c.text) ?_
  · simp only [cmd_right.f]; rw [if_neg h1, if_neg h2, if_neg h3, if_neg h4, if_neg h5]
  · have e : (decide (0 ≤ c.kind) && decide (c.kind ≤ 5) && decide (0 ≤ c.id) && decide (0 ≤ c.txn) && decide (c.ws.length ≤ 1000) && decide (c.text.size ≤ 40) && c.ws.all okw && fin c) = (!decide ((c.text.size : Int) > 40) && (c.ws.all okw && fin c)) := by
      by_cases h6 : c.text.size ≤ 40
      · simp [show 0 ≤ c.kind by omega, show c.kind ≤ 5 by omega, show 0 ≤ c.id by omega, show 0 ≤ c.txn by omega, show c.ws.length ≤ 1000 by omega, h6, show (c.text.size : Int) ≤ 40 by omega]
      · simp [h6, show (c.text.size : Int) > 40 by omega]
    rw [e]
    exact h
def wr1 (w : S40) : List Int := be 2 (w.f0.size : Int) ++ bytesOf w.f0 ++ be 2 (w.f1.size : Int) ++ bytesOf w.f1 ++ fl w.f2
def wr2 (w : S40) : List Int := fl w.f2 ++ var w.f0.size ++ bytesOf w.f0 ++ (if w.f2 then [] else var w.f1.size ++ bytesOf w.f1)
theorem okw_sizes {w : S40} (h : okw w = true) : 1 ≤ w.f0.size ∧ w.f0.size ≤ 300 ∧ w.f1.size ≤ 4000 ∧ (w.f2 = true → w.f1 = (⟨#[]⟩ : ByteArray)) := by
  unfold okw at h
  simp only [Bool.and_eq_true, decide_eq_true_eq, Bool.or_eq_true, Bool.not_eq_true', beq_iff_eq] at h
  refine ⟨h.1.1.1, h.1.1.2, h.1.2, fun hg => ?_⟩
  rcases h.2 with h2 | h2
  · rw [hg] at h2; cases h2
  · exact toList_inj (h2.trans (by rw [toList_eq]))
theorem wr1_len {w : S40} (h : okw w = true) : (wr1 w).length ≤ 4305 := by
  obtain ⟨_, h2, h3, _⟩ := okw_sizes h
  simp only [wr1, List.length_append, be_length, bytesOf_length, fl_len]
  omega
theorem var_le (n : Nat) (h : n < 16384) : (var n).length ≤ 2 := var_len 1 n (by omega)
theorem wr2_len {w : S40} (h : okw w = true) : (wr2 w).length ≤ 4305 := by
  obtain ⟨_, h2, h3, _⟩ := okw_sizes h
  have v0 := var_le w.f0.size (by omega)
  have v1 := var_le w.f1.size (by omega)
  simp only [wr2, List.length_append, bytesOf_length, fl_len]
  cases w.f2
  · simp only [Bool.false_eq_true, if_false, List.length_append, bytesOf_length]; omega
  · simp; omega
theorem older_ev (l : List Int) (w : S40) (h : okw w = true) (hl : l.length + 5000 ≤ 140737488355328) : Ev (fun k => cmd_older.f k l w.f0 w.f1 w.f2) (l ++ wr1 w) := by
  obtain ⟨_, h2, h3, _⟩ := okw_sizes h
  refine Ev.bind (two_ev l (w.f0.size : Int) (by omega)) ?_
  simp only [List.length_append, be_length]
  refine Ev.congr (f := fun k => (cmd_two.f k (l ++ be 2 (w.f0.size : Int) ++ bytesOf w.f0) (w.f1.size : Int)).bind fun t128 => if t128.length + w.f1.size < 140737488355328 then (cmd_flag.f (t128 ++ bytesOf w.f1) w.f2).bind fun t134 => some t134 else none) (fun k => by rw [if_pos (by omega)]) ?_
  refine Ev.bind (two_ev _ (w.f1.size : Int) (by simp only [List.length_append, be_length, bytesOf_length]; omega)) ?_
  simp only [List.length_append, be_length, bytesOf_length]
  refine Ev.congr (f := fun _ => some (l ++ wr1 w)) (fun k => ?_) (Ev.now _)
  rw [if_pos (by omega), flag_eq _ _ (by simp only [List.length_append, be_length, bytesOf_length]; omega)]
  simp [wr1]
theorem newer_ev (l : List Int) (w : S40) (h : okw w = true) (hl : l.length + 5000 ≤ 140737488355328) : Ev (fun k => cmd_newer.f k l w.f0 w.f1 w.f2) (l ++ wr2 w) := by
  obtain ⟨_, h2, h3, _⟩ := okw_sizes h
  have v0 := var_le w.f0.size (by omega)
  have v1 := var_le w.f1.size (by omega)
  unfold cmd_newer.f
  rw [flag_eq _ _ (by omega)]
  simp only [Option.bind_some]
  refine Ev.bind (g := fun k => cmd_short.f k (l ++ fl w.f2) (w.f0.size : Int)) (short_ev w.f0.size (l ++ fl w.f2) (by omega) (by simp only [List.length_append, fl_len]; omega)) ?_
  simp only [List.length_append, fl_len]
  cases hg : w.f2 with
  | true =>
    refine Ev.congr (f := fun _ => some (l ++ wr2 w)) (fun k => ?_) (Ev.now _)
    rw [if_pos (by omega), if_pos rfl]
    simp [wr2, hg]
  | false =>
    refine Ev.congr (f := fun k => (cmd_short.f k (l ++ fl false ++ var w.f0.size ++ bytesOf w.f0) (w.f1.size : Int)).bind fun t153 => if t153.length + w.f1.size < 140737488355328 then some (t153 ++ bytesOf w.f1) else none) (fun k => by rw [if_pos (by omega), if_neg (by decide)]) ?_
    refine Ev.bind (g := fun k => cmd_short.f k (l ++ fl false ++ var w.f0.size ++ bytesOf w.f0) (w.f1.size : Int)) (short_ev w.f1.size _ (by omega) (by simp only [List.length_append, fl_len, bytesOf_length]; omega)) ?_
    simp only [List.length_append, fl_len, bytesOf_length]
    refine Ev.congr (f := fun _ => some (l ++ wr2 w)) (fun k => ?_) (Ev.now _)
    rw [if_pos (by omega)]
    simp [wr2, hg]
theorem said_ev (l : List Int) (s : ByteArray) (hs : s.size ≤ 40) (hl : l.length + 5000 ≤ 140737488355328) : Ev (fun k => cmd_said.f k l s) (l ++ (var s.size ++ bytesOf s)) := by
  have v0 := var_le s.size (by omega)
  refine Ev.bind (g := fun k => cmd_short.f k l (s.size : Int)) (short_ev s.size l (by omega) (by omega)) ?_
  refine Ev.congr (f := fun _ => some (l ++ (var s.size ++ bytesOf s))) (fun k => ?_) (Ev.now _)
  simp only [List.length_append]
  rw [if_pos (by omega)]
  simp
end Go.Proofs.Ytagjmphkfeiiiaa.Yc
