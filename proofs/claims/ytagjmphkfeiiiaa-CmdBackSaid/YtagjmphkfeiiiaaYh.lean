/-
  Commands read whole, and Decode: a command that was written is read as it was; whatever is read was written so; conditions: numbers below 2^63, not too many bytes.
-/
import Derived.Test.YtagjmphkfeiiiaaQx8
import Derived.Test.YtagjmphkfeiiiaaYg
namespace Go.Proofs.Ytagjmphkfeiiiaa.Yh
open Go.RowKit Go.Proofs.YtagjmphkfeiiiaaW.PrintWords Go.Proofs.YtagjmphkfeiiiaaW.PrintLast Go.Proofs.YtagjmphkfeiiiaaW.PrintMore Go.Proofs.Ytagjmphkfeiiiaa.Q Go.Proofs.Ytagjmphkfeiiiaa.Ya Go.Proofs.Ytagjmphkfeiiiaa.Yb Go.Proofs.Ytagjmphkfeiiiaa.Yc Go.Proofs.Ytagjmphkfeiiiaa.Yd Go.Proofs.Ytagjmphkfeiiiaa.Ye Go.Proofs.Ytagjmphkfeiiiaa.Yf Go.Proofs.Ytagjmphkfeiiiaa.Yg
theorem Ev.unique {α : Type} {g : Nat → Option α} {a b : α} (h : Ev g a) (k : Ev g b) : a = b := by
  obtain ⟨K, hK⟩ := h
  obtain ⟨M, hM⟩ := k
  have h1 := hK (max K M) (Nat.le_max_left _ _)
  have h2 := hM (max K M) (Nat.le_max_right _ _)
  rw [h1] at h2
  exact Option.some.inj h2
structure Ok (c : C) (n : Int) : Prop where
  may : may c n = true
  id : c.id < 9223372036854775808
  txn : c.txn < 9223372036854775808
  form : n = 1 ∨ n = 2
theorem Ok.right {c : C} {n : Int} (h : Ok c n) : right c = true := by
  have := h.may
  unfold Yd.may at this
  exact (Bool.and_eq_true _ _ ▸ this).1
theorem Ok.text {c : C} (h : Ok c 1) : c.text = (⟨#[]⟩ : ByteArray) := by
  obtain ⟨_, _, _, _, _, _, _, h8⟩ := right_parts h.right
  have h5 : ¬ c.kind = 5 := by
    intro h5
    have := h.may
    unfold Yd.may at this
    simp [h5] at this
  unfold fin at h8
  simp only [Bool.and_eq_true, Bool.or_eq_true, decide_eq_true_eq, beq_iff_eq] at h8
  rcases h8.2 with h | h
  · exact absurd h h5
  · exact toList_inj (h.trans (by rw [toList_eq]))
theorem be1 (k : Nat) : ([(k : Int) % 256] : List Int) = be 1 (k : Int) := by simp [be]
theorem command1_ok (c : C) (r : List Int) (h : Ok c 1) : Ev (fun k => cmd_reader_command1.f k (strOfNums (tail1 c ++ r)) false 1) (c.kind, c.id, c.txn, c.com, c.ws, c.text, strOfNums r, false) := by
  obtain ⟨h1, h2, h3, h4, h5, h6, h7, h8⟩ := right_parts h.right
  have htx := h.text
  have hid := h.id
  have htn := h.txn
  obtain ⟨kind, id, txn, com, ws, text⟩ := c
  dsimp only at *
  obtain ⟨K, rfl⟩ := Int.eq_ofNat_of_zero_le h1
  obtain ⟨I, rfl⟩ := Int.eq_ofNat_of_zero_le h3
  obtain ⟨T, rfl⟩ := Int.eq_ofNat_of_zero_le h4
  unfold cmd_reader_command1.f tail1
  dsimp only
  rw [be1]
  simp only [List.append_assoc]
  refine Ev.bind (fixed_ok 1 K _ false (by decide) (by omega) (by omega)) ?_
  dsimp only
  refine Ev.bind (fixed_ok 8 I _ false (by decide) (by omega) (by omega)) ?_
  dsimp only
  refine Ev.bind (fixed_ok 8 T _ false (by decide) (by omega) (by omega)) ?_
  dsimp only
  rw [flag_ok]
  simp only [Option.bind_some]
  refine Ev.bind (fixed_ok 2 ws.length _ false (by decide) (lt2 _ (by omega)) (by omega)) ?_
  dsimp only
  have hw := ws1_ok (K : Int) (I : Int) (T : Int) com (⟨#[]⟩ : ByteArray) ws h7 h5 r ws.length 0 (by omega)
  rw [htx]
  simpa using hw
theorem command2_ok (c : C) (r : List Int) (h : Ok c 2) : Ev (fun k => cmd_reader_command2.f k (strOfNums (tail2 c ++ r)) false 2) (c.kind, c.id, c.txn, c.com, c.ws, c.text, strOfNums r, false) := by
  obtain ⟨h1, h2, h3, h4, h5, h6, h7, h8⟩ := right_parts h.right
  have hid := h.id
  have htn := h.txn
  obtain ⟨kind, id, txn, com, ws, text⟩ := c
  dsimp only at *
  obtain ⟨K, rfl⟩ := Int.eq_ofNat_of_zero_le h1
  obtain ⟨I, rfl⟩ := Int.eq_ofNat_of_zero_le h3
  obtain ⟨T, rfl⟩ := Int.eq_ofNat_of_zero_le h4
  unfold cmd_reader_command2.f tail2
  dsimp only
  rw [be1]
  simp only [List.append_assoc, Int.toNat_natCast]
  refine Ev.bind (fixed_ok 1 K _ false (by decide) (by omega) (by omega)) ?_
  dsimp only
  refine Ev.bind (num_ok I _ false (by omega)) ?_
  dsimp only
  refine Ev.bind (num_ok T _ false (by omega)) ?_
  dsimp only
  rw [flag_ok]
  simp only [Option.bind_some]
  refine Ev.bind (num_ok ws.length _ false (by omega)) ?_
  dsimp only
  have hw := ws2_ok (K : Int) (I : Int) (T : Int) com text (⟨#[]⟩ : ByteArray) ws h7 h5 h6 r ws.length 0 (by omega)
  simpa using hw
def tail (c : C) (n : Int) : List Int := if n = 1 then tail1 c else tail2 c
theorem wire_eq (c : C) (n : Int) (h : n = 1 ∨ n = 2) : wire c n = (48 + n) :: tail c n := by
  unfold wire tail
  rcases h with rfl | rfl
  · rfl
  · rfl
theorem command_ok (c : C) (n : Int) (r : List Int) (h : Ok c n) : Ev (fun k => cmd_reader_command.f k (strOfNums (tail c n ++ r)) false n) (c.kind, c.id, c.txn, c.com, c.ws, c.text, strOfNums r, false) := by
  rcases h.form with rfl | rfl
  · exact Ev.congr (fun k => by simp only [cmd_reader_command.f, tail]; rw [if_pos trivial, if_pos trivial]) (command1_ok c r h)
  · exact Ev.congr (fun k => by simp only [cmd_reader_command.f, tail]; rw [if_neg (by decide), if_pos trivial, if_neg (by decide)]) (command2_ok c r h)
end Go.Proofs.Ytagjmphkfeiiiaa.Yh
