/-
  Encode, whole: what it comes to with rounds enough; conditions: the two numbers are below 2^63.
-/
import Derived.Test.YtagjmphkfeiiiaaYc
namespace Go.Proofs.Ytagjmphkfeiiiaa.Yd
open Go.RowKit Go.Proofs.YtagjmphkfeiiiaaW.PrintWords Go.Proofs.YtagjmphkfeiiiaaW.PrintLast Go.Proofs.YtagjmphkfeiiiaaW.PrintMore Go.Proofs.Ytagjmphkfeiiiaa.Q Go.Proofs.Ytagjmphkfeiiiaa.Ya Go.Proofs.Ytagjmphkfeiiiaa.Yb Go.Proofs.Ytagjmphkfeiiiaa.Yc
def cat (f : S40 → List Int) (l : List S40) : List Int := (l.map f).flatten
theorem cat_cons (f : S40 → List Int) (w : S40) (l : List S40) : cat f (w :: l) = f w ++ cat f l := by simp [cat]
theorem cat_len (f : S40 → List Int) (l : List S40) (h : ∀ w ∈ l, (f w).length ≤ 4305) : (cat f l).length ≤ 4305 * l.length := by
  induction l with
  | nil => simp [cat]
  | cons w l ih =>
    rw [cat_cons, List.length_append, List.length_cons]
    have h1 := h w (List.mem_cons_self ..)
    have h2 := ih (fun x hx => h x (List.mem_cons_of_mem _ hx))
    omega
theorem loop1 (c : C) (hw : c.ws.all okw = true) (hl : c.ws.length ≤ 1000) : ∀ (d i : Nat) (l : List Int), i + d = c.ws.length → l.length + 5000 * d + 5000 ≤ 140737488355328 →
    Ev (fun k => cmd_Encode1.l0 k l c.ws (c.ws.length : Int) (i : Int) c.kind c.id c.txn c.com c.ws c.text) (strOfNums (l ++ cat wr1 (c.ws.drop i)), true) := by
  intro d
  induction d with
  | zero =>
    intro i l hi _
    have e : i = c.ws.length := by omega
    subst e
    refine Ev.step (f := fun _ => some (strOfNums l, true)) (fun k => ?_) (by simpa [cat] using Ev.now _)
    simp only [cmd_Encode1.l0]
    rw [if_neg (by omega)]
    rfl
  | succ d ih =>
    intro i l hi hb
    have hlt : i < c.ws.length := by omega
    have ho : okw c.ws[i] = true := List.all_eq_true.1 hw _ (List.getElem_mem hlt)
    have hn := wr1_len ho
    refine Ev.step (f := fun k => (cmd_older.f k l c.ws[i].f0 c.ws[i].f1 c.ws[i].f2).bind fun t => cmd_Encode1.l0 k t c.ws (c.ws.length : Int) ((i + 1 : Nat) : Int) c.kind c.id c.txn c.com c.ws c.text) (fun k => ?_) ?_
    · simp only [cmd_Encode1.l0]
      rw [if_pos (by omega), if_pos (by omega), if_pos (by omega), rd_at _ _ hlt, wrap_succ i _ hlt (by omega)]
    · refine Ev.bind (older_ev l _ ho (by omega)) ?_
      have := ih (i + 1) (l ++ wr1 c.ws[i]) (by omega) (by rw [List.length_append]; omega)
      rw [drop_at _ _ hlt, cat_cons, ← List.append_assoc]
      exact this
theorem loop2 (c : C) (hw : c.ws.all okw = true) (hl : c.ws.length ≤ 1000) (ht : c.text.size ≤ 40) : ∀ (d i : Nat) (l : List Int), i + d = c.ws.length → l.length + 5000 * d + 5000 ≤ 140737488355328 →
    Ev (fun k => cmd_Encode2.l0 k l c.ws (c.ws.length : Int) (i : Int) c.kind c.id c.txn c.com c.ws c.text) (strOfNums (l ++ cat wr2 (c.ws.drop i) ++ (var c.text.size ++ bytesOf c.text)), true) := by
  intro d
  induction d with
  | zero =>
    intro i l hi hb
    have e : i = c.ws.length := by omega
    subst e
    refine Ev.step (f := fun k => (cmd_said.f k l c.text).bind fun t => some (strOfNums t, true)) (fun k => ?_) ?_
    · simp only [cmd_Encode2.l0]
      rw [if_neg (by omega)]
    · refine Ev.bind (said_ev l c.text ht (by omega)) ?_
      simpa [cat] using Ev.now _
  | succ d ih =>
    intro i l hi hb
    have hlt : i < c.ws.length := by omega
    have ho : okw c.ws[i] = true := List.all_eq_true.1 hw _ (List.getElem_mem hlt)
    have hn := wr2_len ho
    refine Ev.step (f := fun k => (cmd_newer.f k l c.ws[i].f0 c.ws[i].f1 c.ws[i].f2).bind fun t => cmd_Encode2.l0 k t c.ws (c.ws.length : Int) ((i + 1 : Nat) : Int) c.kind c.id c.txn c.com c.ws c.text) (fun k => ?_) ?_
    · simp only [cmd_Encode2.l0]
      rw [if_pos (by omega), if_pos (by omega), if_pos (by omega), rd_at _ _ hlt, wrap_succ i _ hlt (by omega)]
    · refine Ev.bind (newer_ev l _ ho (by omega)) ?_
      have := ih (i + 1) (l ++ wr2 c.ws[i]) (by omega) (by rw [List.length_append]; omega)
      rw [drop_at _ _ hlt, cat_cons]
      simpa only [List.append_assoc] using this
def tail1 (c : C) : List Int := [c.kind % 256] ++ be 8 c.id ++ be 8 c.txn ++ fl c.com ++ be 2 (c.ws.length : Int) ++ cat wr1 c.ws
def tail2 (c : C) : List Int := [c.kind % 256] ++ var c.id.toNat ++ var c.txn.toNat ++ fl c.com ++ var c.ws.length ++ cat wr2 c.ws ++ (var c.text.size ++ bytesOf c.text)
def may (c : C) (n : Int) : Bool := right c && (decide (n = 1) && !decide (c.kind = 5) || decide (n = 2))
def wire (c : C) (n : Int) : List Int := if n = 1 then 49 :: tail1 c else 50 :: tail2 c
def enc (c : C) (n : Int) : ByteArray × Bool := if may c n then (strOfNums (wire c n), true) else ((⟨#[]⟩ : ByteArray), false)
theorem right_parts {c : C} (h : right c = true) : 0 ≤ c.kind ∧ c.kind ≤ 5 ∧ 0 ≤ c.id ∧ 0 ≤ c.txn ∧ c.ws.length ≤ 1000 ∧ c.text.size ≤ 40 ∧ c.ws.all okw = true ∧ fin c = true := by
  unfold right head at h
  simp only [Bool.and_eq_true, decide_eq_true_eq] at h
  obtain ⟨⟨⟨⟨⟨⟨⟨h1, h2⟩, h3⟩, h4⟩, h5⟩, h6⟩, h7⟩, h8⟩ := h
  exact ⟨h1, h2, h3, h4, h5, h6, h7, h8⟩
theorem enc1_ev (c : C) : Ev (fun k => cmd_Encode1.f k c.kind c.id c.txn c.com c.ws c.text 1) (enc c 1) := by
  have hj : ∀ b, Ev (fun k => cmd_Encode1.j0 k b c.kind c.id c.txn c.com c.ws c.text) (if b then ((⟨#[]⟩ : ByteArray), false) else (if right c then (strOfNums (49 :: tail1 c), true) else ((⟨#[]⟩ : ByteArray), false))) ∨ (b = false ∧ right c = false) := by
    intro b
    cases b with
    | true =>
      refine .inl (Ev.step (f := fun _ => some ((⟨#[]⟩ : ByteArray), false)) (fun k => ?_) (Ev.now _))
      simp [cmd_Encode1.j0]
    | false =>
      cases hr : right c with
      | false => exact .inr ⟨rfl, rfl⟩
      | true =>
        obtain ⟨h1, h2, h3, h4, h5, h6, h7, h8⟩ := right_parts hr
        refine .inl (Ev.step (f := fun k => (cmd_eight.f k ([49, c.kind % 256] : List Int) c.id).bind fun t172 => (cmd_eight.f k t172 c.txn).bind fun t175 => (cmd_flag.f t175 c.com).bind fun t178 => (cmd_two.f k t178 (c.ws.length : Int)).bind fun t181 => cmd_Encode1.l0 k t181 c.ws (c.ws.length : Int) 0 c.kind c.id c.txn c.com c.ws c.text) (fun k => ?_) ?_)
        · simp [cmd_Encode1.j0]
        · refine Ev.bind (eight_ev _ c.id (by simp)) ?_
          refine Ev.bind (eight_ev _ c.txn (by simp [be_length])) ?_
          rw [flag_eq _ _ (by simp [be_length])]
          simp only [Option.bind_some]
          refine Ev.bind (two_ev _ (c.ws.length : Int) (by simp [be_length, fl_len])) ?_
          have h := loop1 c h7 h5 c.ws.length 0 ([49, c.kind % 256] ++ be 8 c.id ++ be 8 c.txn ++ fl c.com ++ be 2 (c.ws.length : Int)) (by omega) (by simp [be_length, fl_len]; omega)
          simpa [tail1, hr] using h
  unfold cmd_Encode1.f enc may wire
  cases hr : right c with
  | false =>
    refine Ev.bind (right_ev c) ?_
    rw [hr]
    have := hj true
    simp only [Bool.true_eq_false, false_and, or_false, if_true] at this
    simpa using this
  | true =>
    refine Ev.bind (right_ev c) ?_
    rw [hr]
    have := hj (c.kind == 5)
    simp only [hr, Bool.true_eq_false, and_false, or_false] at this
    by_cases h5 : c.kind = 5
    · simpa [h5] using this
    · have e : (c.kind == 5) = false := by simpa using h5
      rw [e] at this ⊢
      simpa [h5] using this
theorem enc2_ev (c : C) (hi : c.id < 9223372036854775808) (ht : c.txn < 9223372036854775808) : Ev (fun k => cmd_Encode2.f k c.kind c.id c.txn c.com c.ws c.text 2) (enc c 2) := by
  unfold cmd_Encode2.f enc may wire
  refine Ev.bind (right_ev c) ?_
  cases hr : right c with
  | false => simpa using Ev.now _
  | true =>
    obtain ⟨h1, h2, h3, h4, h5, h6, h7, h8⟩ := right_parts hr
    obtain ⟨a, ha⟩ := Int.eq_ofNat_of_zero_le h3
    obtain ⟨b, hb⟩ := Int.eq_ofNat_of_zero_le h4
    have ea : c.id.toNat = a := by omega
    have eb : c.txn.toNat = b := by omega
    have va : (var a).length ≤ 9 := var_len 8 a (by omega)
    have vb : (var b).length ≤ 9 := var_len 8 b (by omega)
    have vn : (var c.ws.length).length ≤ 2 := var_le _ (by omega)
    simp only [if_true]
    refine Ev.bind (g := fun k => cmd_short.f k ([50, c.kind % 256] : List Int) c.id) (a := [50, c.kind % 256] ++ var a) ?_ ?_
    · rw [ha]
      exact short_ev a _ (by omega) (by simp; omega)
    refine Ev.bind (g := fun k => cmd_short.f k ([50, c.kind % 256] ++ var a) c.txn) (a := [50, c.kind % 256] ++ var a ++ var b) ?_ ?_
    · rw [hb]
      exact short_ev b _ (by omega) (by simp; omega)
    rw [flag_eq _ _ (by simp; omega)]
    simp only [Option.bind_some]
    refine Ev.bind (g := fun k => cmd_short.f k ([50, c.kind % 256] ++ var a ++ var b ++ fl c.com) (c.ws.length : Int)) (short_ev c.ws.length _ (by omega) (by simp [fl_len]; omega)) ?_
    have h := loop2 c h7 h5 h6 c.ws.length 0 ([50, c.kind % 256] ++ var a ++ var b ++ fl c.com ++ var c.ws.length) (by omega) (by simp [fl_len]; omega)
    simpa [tail2, ea, eb] using h
theorem enc_ev (c : C) (n : Int) (hi : c.id < 9223372036854775808) (ht : c.txn < 9223372036854775808) : Ev (fun k => cmd_Encode.f k c.kind c.id c.txn c.com c.ws c.text n) (enc c n) := by
  by_cases h1 : n = 1
  · subst h1
    exact Ev.congr (fun k => by simp only [cmd_Encode.f]; rw [if_pos trivial]) (enc1_ev c)
  by_cases h2 : n = 2
  · subst h2
    exact Ev.congr (fun k => by simp only [cmd_Encode.f]; rw [if_neg h1, if_pos trivial]) (enc2_ev c hi ht)
  refine Ev.congr (f := fun k => (cmd_right.f k c.kind c.id c.txn c.com c.ws c.text).bind fun _ => some ((⟨#[]⟩ : ByteArray), false)) (fun k => by simp only [cmd_Encode.f, cmd_Encode3.f]; rw [if_neg h1, if_neg h2]) ?_
  refine Ev.bind (right_ev c) ?_
  unfold enc may
  simpa [h1, h2] using Ev.now _
end Go.Proofs.Ytagjmphkfeiiiaa.Yd
