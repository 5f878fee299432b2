/-
  Reading a command: what was written is read as it was; any bytes are read to an end; conditions: bytes are bytes, not too many.
-/
import Derived.Test.YtagjmphkfeiiiaaYf
namespace Go.Proofs.Ytagjmphkfeiiiaa.Yg
open Go.RowKit Go.Proofs.YtagjmphkfeiiiaaW.PrintWords Go.Proofs.YtagjmphkfeiiiaaW.PrintLast Go.Proofs.YtagjmphkfeiiiaaW.PrintMore Go.Proofs.Ytagjmphkfeiiiaa.Q Go.Proofs.Ytagjmphkfeiiiaa.Ya Go.Proofs.Ytagjmphkfeiiiaa.Yb Go.Proofs.Ytagjmphkfeiiiaa.Yc Go.Proofs.Ytagjmphkfeiiiaa.Yd Go.Proofs.Ytagjmphkfeiiiaa.Ye Go.Proofs.Ytagjmphkfeiiiaa.Yf
theorem num_ok (n : Nat) (r : List Int) (b : Bool) (h : n < 9223372036854775808) : Ev (fun k => cmd_reader_short.f k (strOfNums (var n ++ r)) b) ((n : Int), strOfNums r, b) := by
  have h2 := short_ok n 0 0 r b (.inl rfl) (by decide) (by decide) (by simp; omega)
  unfold cmd_reader_short.f
  simpa using h2
theorem num_any (l : List Int) (b : Bool) (hl : Bytes l) : ∃ x l' b', Ev (fun k => cmd_reader_short.f k (strOfNums l) b) (x, strOfNums l', b') ∧ x < 9223372036854775808 ∧ Lft l b 1 l' b' :=
  short_any l.length l 0 0 b (Nat.le_refl _) hl (by decide) (by decide)
theorem str_of (s : ByteArray) (r : List Int) (b : Bool) : cmd_reader_bytes.f (strOfNums (bytesOf s ++ r)) b (s.size : Int) = some (s, strOfNums r, b) := by
  rw [bytes_ok _ _ _ _ (by rw [bytesOf_length]), str_bytesOf]
theorem lt2 (n : Nat) (h : n ≤ 4000) : n < 256 ^ 2 := by omega
theorem older_ok (w : S40) (r : List Int) (b : Bool) (h : okw w = true) : Ev (fun k => cmd_reader_older.f k (strOfNums (wr1 w ++ r)) b) (w.f0, w.f1, w.f2, strOfNums r, b) := by
  obtain ⟨_, h2, h3, _⟩ := okw_sizes h
  unfold cmd_reader_older.f wr1
  simp only [List.append_assoc]
  refine Ev.bind (fixed_ok 2 w.f0.size _ b (by decide) (lt2 _ (by omega)) (by omega)) ?_
  dsimp only
  rw [str_of]
  simp only [Option.bind_some]
  refine Ev.bind (fixed_ok 2 w.f1.size _ b (by decide) (lt2 _ (by omega)) (by omega)) ?_
  dsimp only
  rw [str_of]
  simp only [Option.bind_some]
  rw [flag_ok]
  exact Ev.now _
theorem newer_ok (w : S40) (r : List Int) (b : Bool) (h : okw w = true) : Ev (fun k => cmd_reader_newer.f k (strOfNums (wr2 w ++ r)) b) (w.f0, w.f1, w.f2, strOfNums r, b) := by
  obtain ⟨_, h2, h3, h4⟩ := okw_sizes h
  unfold cmd_reader_newer.f wr2
  simp only [List.append_assoc]
  rw [flag_ok]
  simp only [Option.bind_some]
  refine Ev.bind (num_ok w.f0.size _ b (by omega)) ?_
  dsimp only
  rw [str_of]
  simp only [Option.bind_some]
  cases hg : w.f2 with
  | true =>
    simp only [if_true, List.nil_append]
    rw [h4 hg]
    exact Ev.now _
  | false =>
    simp only [Bool.false_eq_true, if_false, List.append_assoc]
    refine Ev.bind (num_ok w.f1.size _ b (by omega)) ?_
    dsimp only
    rw [str_of]
    exact Ev.now _
theorem older_any (l : List Int) (b : Bool) (hl : Bytes l) : ∃ x y z l' b', Ev (fun k => cmd_reader_older.f k (strOfNums l) b) (x, y, z, strOfNums l', b') ∧ Lft l b 1 l' b' := by
  obtain ⟨n, l1, b1, e1, _, L1⟩ := fixed_any l b 2 (by decide) hl
  obtain ⟨a, l2, b2, e2, _, L2, _, _⟩ := bytes_any l1 b1 n L1.1
  obtain ⟨m, l3, b3, e3, _, L3⟩ := fixed_any l2 b2 2 (by decide) L2.1
  obtain ⟨c, l4, b4, e4, _, L4, _, _⟩ := bytes_any l3 b3 m L3.1
  obtain ⟨x, l5, b5, e5, L5⟩ := flag_any l4 b4 L4.1
  refine ⟨strOfNums a, strOfNums c, x, l5, b5, ?_, ?_⟩
  · unfold cmd_reader_older.f
    refine Ev.bind e1 ?_
    dsimp only
    rw [e2]
    simp only [Option.bind_some]
    refine Ev.bind e3 ?_
    dsimp only
    rw [e4]
    simp only [Option.bind_some]
    rw [e5]
    exact Ev.now _
  · have h := (((L1.trans L2).trans L3).trans L4).trans L5
    exact ⟨h.1, h.2.1, h.2.2.imp id (fun q => ⟨q.1, by omega⟩)⟩
theorem newer_any (l : List Int) (b : Bool) (hl : Bytes l) : ∃ x y z l' b', Ev (fun k => cmd_reader_newer.f k (strOfNums l) b) (x, y, z, strOfNums l', b') ∧ Lft l b 1 l' b' := by
  obtain ⟨x, l1, b1, e1, L1⟩ := flag_any l b hl
  obtain ⟨n, l2, b2, e2, _, L2⟩ := num_any l1 b1 L1.1
  obtain ⟨a, l3, b3, e3, _, L3, _, _⟩ := bytes_any l2 b2 n L2.1
  have h3 := (L1.trans L2).trans L3
  cases x with
  | true =>
    refine ⟨strOfNums a, (⟨#[]⟩ : ByteArray), true, l3, b3, ?_, h3.1, h3.2.1, h3.2.2.imp id (fun q => ⟨q.1, by omega⟩)⟩
    unfold cmd_reader_newer.f
    rw [e1]
    simp only [Option.bind_some]
    refine Ev.bind e2 ?_
    dsimp only
    rw [e3]
    exact Ev.now _
  | false =>
    obtain ⟨m, l4, b4, e4, _, L4⟩ := num_any l3 b3 L3.1
    obtain ⟨c, l5, b5, e5, _, L5, _, _⟩ := bytes_any l4 b4 m L4.1
    have h5 := (h3.trans L4).trans L5
    refine ⟨strOfNums a, strOfNums c, false, l5, b5, ?_, h5.1, h5.2.1, h5.2.2.imp id (fun q => ⟨q.1, by omega⟩)⟩
    unfold cmd_reader_newer.f
    rw [e1]
    simp only [Option.bind_some]
    refine Ev.bind e2 ?_
    dsimp only
    rw [e3]
    simp only [Option.bind_some, Bool.false_eq_true, if_false]
    refine Ev.bind e4 ?_
    dsimp only
    rw [e5]
    exact Ev.now _
theorem ws1_ok (K I T : Int) (B : Bool) (tx : ByteArray) (ws : List S40) (hw : ws.all okw = true) (hl : ws.length ≤ 1000) (r : List Int) : ∀ (d i : Nat), i + d = ws.length →
    Ev (fun k => cmd_reader_command1.l0 k (d : Int) (strOfNums (cat wr1 (ws.drop i) ++ r)) false K I T B (ws.take i) tx) (K, I, T, B, ws, tx, strOfNums r, false) := by
  intro d
  induction d with
  | zero =>
    intro i hi
    have e : i = ws.length := by omega
    subst e
    refine Ev.step (f := fun k => cmd_reader_command1.j1 k (strOfNums r) false K I T B ws tx) (fun k => ?_) (Ev.step (f := fun _ => some _) (fun k => rfl) (Ev.now _))
    simp only [cmd_reader_command1.l0]
    rw [if_neg (by omega)]
    simp [cat]
  | succ d ih =>
    intro i hi
    have hlt : i < ws.length := by omega
    have ho : okw ws[i] = true := List.all_eq_true.1 hw _ (List.getElem_mem hlt)
    have hs : ((d + 1 : Nat) : Int) - 1 = (d : Int) := by omega
    have hw1 : wrap64 (((d + 1 : Nat) : Int) - 1) = (d : Int) := by unfold wrap64; omega
    rw [drop_at _ _ hlt, cat_cons, List.append_assoc]
    refine Ev.step (f := fun k => (cmd_reader_older.f k (strOfNums (wr1 ws[i] ++ (cat wr1 (ws.drop (i + 1)) ++ r))) false).bind fun bt => if (ws.take i).length < 3518437208883 then cmd_reader_command1.l0 k (d : Int) bt.2.2.2.1 bt.2.2.2.2 K I T B (ws.take i ++ [(⟨bt.1, bt.2.1, bt.2.2.1⟩ : S40)]) tx else none) (fun k => ?_) ?_
    · simp only [cmd_reader_command1.l0]
      rw [if_pos (by omega), if_neg (by decide), hw1]
    · refine Ev.bind (older_ok ws[i] _ false ho) ?_
      dsimp only
      refine Ev.congr (f := fun k => cmd_reader_command1.l0 k (d : Int) (strOfNums (cat wr1 (ws.drop (i + 1)) ++ r)) false K I T B (ws.take (i + 1)) tx) (fun k => ?_) (ih (i + 1) (by omega))
      rw [if_pos (by rw [List.length_take]; omega), List.take_succ_eq_append_getElem hlt]
theorem ws2_ok (K I T : Int) (B : Bool) (tx tx0 : ByteArray) (ws : List S40) (hw : ws.all okw = true) (hl : ws.length ≤ 1000) (ht : tx.size ≤ 40) (r : List Int) : ∀ (d i : Nat), i + d = ws.length →
    Ev (fun k => cmd_reader_command2.l0 k (d : Int) (strOfNums (cat wr2 (ws.drop i) ++ (var tx.size ++ (bytesOf tx ++ r)))) false K I T B (ws.take i) tx0) (K, I, T, B, ws, tx, strOfNums r, false) := by
  intro d
  induction d with
  | zero =>
    intro i hi
    have e : i = ws.length := by omega
    subst e
    refine Ev.step (f := fun k => cmd_reader_command2.j1 k (strOfNums (var tx.size ++ (bytesOf tx ++ r))) false K I T B ws tx0) (fun k => ?_) ?_
    · simp only [cmd_reader_command2.l0]
      rw [if_neg (by omega)]
      simp [cat]
    · refine Ev.step (f := fun k => (cmd_reader_short.f k (strOfNums (var tx.size ++ (bytesOf tx ++ r))) false).bind fun bt316 => (cmd_reader_bytes.f bt316.2.1 bt316.2.2 bt316.1).bind fun bt319 => some (K, I, T, B, ws, bt319.1, bt319.2.1, bt319.2.2)) (fun k => rfl) ?_
      refine Ev.bind (num_ok tx.size _ false (by omega)) ?_
      dsimp only
      rw [str_of]
      exact Ev.now _
  | succ d ih =>
    intro i hi
    have hlt : i < ws.length := by omega
    have ho : okw ws[i] = true := List.all_eq_true.1 hw _ (List.getElem_mem hlt)
    have hw1 : wrap64 (((d + 1 : Nat) : Int) - 1) = (d : Int) := by unfold wrap64; omega
    rw [drop_at _ _ hlt, cat_cons, List.append_assoc]
    refine Ev.step (f := fun k => (cmd_reader_newer.f k (strOfNums (wr2 ws[i] ++ (cat wr2 (ws.drop (i + 1)) ++ (var tx.size ++ (bytesOf tx ++ r))))) false).bind fun bt => if (ws.take i).length < 3518437208883 then cmd_reader_command2.l0 k (d : Int) bt.2.2.2.1 bt.2.2.2.2 K I T B (ws.take i ++ [(⟨bt.1, bt.2.1, bt.2.2.1⟩ : S40)]) tx0 else none) (fun k => ?_) ?_
    · simp only [cmd_reader_command2.l0]
      rw [if_pos (by omega), if_neg (by decide), hw1]
    · refine Ev.bind (newer_ok ws[i] _ false ho) ?_
      dsimp only
      refine Ev.congr (f := fun k => cmd_reader_command2.l0 k (d : Int) (strOfNums (cat wr2 (ws.drop (i + 1)) ++ (var tx.size ++ (bytesOf tx ++ r)))) false K I T B (ws.take (i + 1)) tx0) (fun k => ?_) (ih (i + 1) (by omega))
      rw [if_pos (by rw [List.length_take]; omega), List.take_succ_eq_append_getElem hlt]
end Go.Proofs.Ytagjmphkfeiiiaa.Yg
