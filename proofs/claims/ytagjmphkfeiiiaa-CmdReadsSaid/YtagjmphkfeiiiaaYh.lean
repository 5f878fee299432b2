/-
  Commands read whole, and Decode: a command that was written is read as it was; whatever is read was written so; conditions: numbers below 2^63, not too many bytes.
-/
import Derived.Test.YtagjmphkfeiiiaaQx8
import Derived.Test.YtagjmphkfeiiiaaYg
namespace Go.Proofs.Ytagjmphkfeiiiaa.Yh
open Go.RowKit Go.Proofs.YtagjmphkfeiiiaaW.PrintWords Go.Proofs.YtagjmphkfeiiiaaW.PrintLast Go.Proofs.YtagjmphkfeiiiaaW.PrintMore Go.Proofs.Ytagjmphkfeiiiaa.Q Go.Proofs.Ytagjmphkfeiiiaa.Ya Go.Proofs.Ytagjmphkfeiiiaa.Yb Go.Proofs.Ytagjmphkfeiiiaa.Yc Go.Proofs.Ytagjmphkfeiiiaa.Yd Go.Proofs.Ytagjmphkfeiiiaa.Ye Go.Proofs.Ytagjmphkfeiiiaa.Yf Go.Proofs.Ytagjmphkfeiiiaa.Yg
theorem Ev.unique {α : Type} {g : Nat → Option α} {a b : α} (h : Ev g a) (k : Ev g b) : a = b := by
  obtain ⟨K, hK⟩ := h
  obtain ⟨M, hM⟩ := k
  have h1 := hK (max K M) (Nat.le_max_left _ _)
  have h2 := hM (max K M) (Nat.le_max_right _ _)
  rw [h1] at h2
  exact Option.some.inj h2
structure Ok (c : C) (n : Int) : Prop where
  may : may c n = true
  id : c.id < 9223372036854775808
  txn : c.txn < 9223372036854775808
  form : n = 1 ∨ n = 2
theorem Ok.right {c : C} {n : Int} (h : Ok c n) : right c = true := by
  have := h.may
  unfold Yd.may at this
  exact (Bool.and_eq_true _ _ ▸ this).1
theorem Ok.text {c : C} (h : Ok c 1) : c.text = (⟨#[]⟩ : ByteArray) := by
  obtain ⟨_, _, _, _, _, _, _, h8⟩ := right_parts h.right
  have h5 : ¬ c.kind = 5 := by
    intro h5
    have := h.may
    unfold Yd.may at this
    simp [h5] at this
  unfold fin at h8
  simp only [Bool.and_eq_true, Bool.or_eq_true, decide_eq_true_eq, beq_iff_eq] at h8
  rcases h8.2 with h | h
  · exact absurd h h5
  · exact toList_inj (h.trans (by rw [toList_eq]))
theorem be1 (k : Nat) : ([(k : Int) % 256] : List Int) = be 1 (k : Int) := by simp [be]
theorem command1_ok (c : C) (r : List Int) (h : Ok c 1) : Ev (fun k => cmd_reader_command1.f k (strOfNums (tail1 c ++ r)) false 1) (c.kind, c.id, c.txn, c.com, c.ws, c.text, strOfNums r, false) := by
  obtain ⟨h1, h2, h3, h4, h5, h6, h7, h8⟩ := right_parts h.right
  have htx := h.text
  have hid := h.id
  have htn := h.txn
  obtain ⟨kind, id, txn, com, ws, text⟩ := c
  dsimp only at *
  obtain ⟨K, rfl⟩ := Int.eq_ofNat_of_zero_le h1
  obtain ⟨I, rfl⟩ := Int.eq_ofNat_of_zero_le h3
  obtain ⟨T, rfl⟩ := Int.eq_ofNat_of_zero_le h4
  unfold cmd_reader_command1.f tail1
  dsimp only
  rw [be1]
  simp only [List.append_assoc]
  refine Ev.bind (fixed_ok 1 K _ false (by decide) (by omega) (by omega)) ?_
  dsimp only
  refine Ev.bind (fixed_ok 8 I _ false (by decide) (by omega) (by omega)) ?_
  dsimp only
  refine Ev.bind (fixed_ok 8 T _ false (by decide) (by omega) (by omega)) ?_
  dsimp only
  rw [flag_ok]
  simp only [Option.bind_some]
  refine Ev.bind (fixed_ok 2 ws.length _ false (by decide) (lt2 _ (by omega)) (by omega)) ?_
  dsimp only
  have hw := ws1_ok (K : Int) (I : Int) (T : Int) com (⟨#[]⟩ : ByteArray) ws h7 h5 r ws.length 0 (by omega)
  rw [htx]
  simpa using hw
theorem command2_ok (c : C) (r : List Int) (h : Ok c 2) : Ev (fun k => cmd_reader_command2.f k (strOfNums (tail2 c ++ r)) false 2) (c.kind, c.id, c.txn, c.com, c.ws, c.text, strOfNums r, false) := by
  obtain ⟨h1, h2, h3, h4, h5, h6, h7, h8⟩ := right_parts h.right
  have hid := h.id
  have htn := h.txn
  obtain ⟨kind, id, txn, com, ws, text⟩ := c
  dsimp only at *
  obtain ⟨K, rfl⟩ := Int.eq_ofNat_of_zero_le h1
  obtain ⟨I, rfl⟩ := Int.eq_ofNat_of_zero_le h3
  obtain ⟨T, rfl⟩ := Int.eq_ofNat_of_zero_le h4
  unfold cmd_reader_command2.f tail2
  dsimp only
  rw [be1]
  simp only [List.append_assoc, Int.toNat_natCast]
  refine Ev.bind (fixed_ok 1 K _ false (by decide) (by omega) (by omega)) ?_
  dsimp only
  refine Ev.bind (num_ok I _ false (by omega)) ?_
  dsimp only
  refine Ev.bind (num_ok T _ false (by omega)) ?_
  dsimp only
  rw [flag_ok]
  simp only [Option.bind_some]
  refine Ev.bind (num_ok ws.length _ false (by omega)) ?_
  dsimp only
  have hw := ws2_ok (K : Int) (I : Int) (T : Int) com text (⟨#[]⟩ : ByteArray) ws h7 h5 h6 r ws.length 0 (by omega)
  simpa using hw
def tail (c : C) (n : Int) : List Int := if n = 1 then tail1 c else tail2 c
theorem wire_eq (c : C) (n : Int) (h : n = 1 ∨ n = 2) : wire c n = (48 + n) :: tail c n := by
  unfold wire tail
  rcases h with rfl | rfl
  · rfl
  · rfl
theorem command_ok (c : C) (n : Int) (r : List Int) (h : Ok c n) : Ev (fun k => cmd_reader_command.f k (strOfNums (tail c n ++ r)) false n) (c.kind, c.id, c.txn, c.com, c.ws, c.text, strOfNums r, false) := by
  rcases h.form with rfl | rfl
  · exact Ev.congr (fun k => by simp only [cmd_reader_command.f, tail]; rw [if_pos trivial, if_pos trivial]) (command1_ok c r h)
  · exact Ev.congr (fun k => by simp only [cmd_reader_command.f, tail]; rw [if_neg (by decide), if_pos trivial, if_neg (by decide)]) (command2_ok c r h)
theorem end1 (s : ByteArray) (K I T : Int) (B b : Bool) (ws : List S40) (tx : ByteArray) (n : Int) (h : b = true ∨ n ≤ 0) : Ev (fun k => cmd_reader_command1.l0 k n s b K I T B ws tx) (K, I, T, B, ws, tx, s, b) := by
  refine Ev.step (f := fun k => cmd_reader_command1.j1 k s b K I T B ws tx) (fun k => ?_) (Ev.step (f := fun _ => some _) (fun k => rfl) (Ev.now _))
  simp only [cmd_reader_command1.l0]
  by_cases hn : n > 0
  · rw [if_pos hn, if_pos (h.resolve_right (by omega))]
  · rw [if_neg hn]
theorem ws1_any (K I T : Int) (B : Bool) (tx : ByteArray) : ∀ (m : Nat) (l : List Int) (n : Int) (ws : List S40) (b : Bool), l.length ≤ m → Bytes l → ws.length + m + 1 < 3518437208883 →
    ∃ ws' l' b', Ev (fun k => cmd_reader_command1.l0 k n (strOfNums l) b K I T B ws tx) (K, I, T, B, ws', tx, strOfNums l', b') ∧ ws'.length ≤ ws.length + m + 1 := by
  intro m
  induction m with
  | zero =>
    intro l n ws b hm hl hb
    by_cases he : b = true ∨ n ≤ 0
    · exact ⟨ws, l, b, end1 _ K I T B b ws tx n he, by omega⟩
    · obtain ⟨x, y, z, l1, b1, e1, _, _, L⟩ := older_any l b hl
      have hb1 : b1 = true := by
        rcases L with h | ⟨_, h⟩
        · exact h
        · omega
      subst hb1
      refine ⟨ws ++ [⟨x, y, z⟩], l1, true, Ev.step (f := fun k => (cmd_reader_older.f k (strOfNums l) b).bind fun bt => if ws.length < 3518437208883 then cmd_reader_command1.l0 k (wrap64 (n - 1)) bt.2.2.2.1 bt.2.2.2.2 K I T B (ws ++ [(⟨bt.1, bt.2.1, bt.2.2.1⟩ : S40)]) tx else none) (fun k => ?_) ?_, by simp⟩
      · simp only [cmd_reader_command1.l0]
        rw [if_pos (by omega), if_neg (fun h => he (.inl h))]
      · refine Ev.bind e1 ?_
        dsimp only
        exact Ev.congr (fun k => by rw [if_pos (by omega)]) (end1 _ K I T B true _ tx _ (.inl rfl))
  | succ m ih =>
    intro l n ws b hm hl hb
    by_cases he : b = true ∨ n ≤ 0
    · exact ⟨ws, l, b, end1 _ K I T B b ws tx n he, by omega⟩
    · obtain ⟨x, y, z, l1, b1, e1, hl1, _, L⟩ := older_any l b hl
      have hgo : ∀ {ws' l' b'}, Ev (fun k => cmd_reader_command1.l0 k (wrap64 (n - 1)) (strOfNums l1) b1 K I T B (ws ++ [⟨x, y, z⟩]) tx) (K, I, T, B, ws', tx, strOfNums l', b') → Ev (fun k => cmd_reader_command1.l0 k n (strOfNums l) b K I T B ws tx) (K, I, T, B, ws', tx, strOfNums l', b') := by
        intro ws' l' b' h
        refine Ev.step (f := fun k => (cmd_reader_older.f k (strOfNums l) b).bind fun bt => if ws.length < 3518437208883 then cmd_reader_command1.l0 k (wrap64 (n - 1)) bt.2.2.2.1 bt.2.2.2.2 K I T B (ws ++ [(⟨bt.1, bt.2.1, bt.2.2.1⟩ : S40)]) tx else none) (fun k => ?_) ?_
        · simp only [cmd_reader_command1.l0]
          rw [if_pos (by omega), if_neg (fun h => he (.inl h))]
        · refine Ev.bind e1 ?_
          dsimp only
          exact Ev.congr (fun k => by rw [if_pos (by omega)]) h
      rcases L with hb1 | ⟨_, h⟩
      · subst hb1
        exact ⟨_, l1, true, hgo (end1 _ K I T B true _ tx _ (.inl rfl)), by simp⟩
      · obtain ⟨ws', l', b', e2, hle⟩ := ih l1 (wrap64 (n - 1)) (ws ++ [⟨x, y, z⟩]) b1 (by omega) hl1 (by simp; omega)
        exact ⟨ws', l', b', hgo e2, by simp at hle; omega⟩
theorem j2_any (l : List Int) (hl : Bytes l) (K I T : Int) (B b : Bool) (ws : List S40) (tx : ByteArray) : ∃ tx' l' b', Ev (fun k => cmd_reader_command2.j1 k (strOfNums l) b K I T B ws tx) (K, I, T, B, ws, tx', strOfNums l', b') := by
  obtain ⟨n, l1, b1, e1, _, L1⟩ := num_any l b hl
  obtain ⟨a, l2, b2, e2, _, _, _, _⟩ := bytes_any l1 b1 n L1.1
  refine ⟨strOfNums a, l2, b2, Ev.step (f := fun k => (cmd_reader_short.f k (strOfNums l) b).bind fun bt316 => (cmd_reader_bytes.f bt316.2.1 bt316.2.2 bt316.1).bind fun bt319 => some (K, I, T, B, ws, bt319.1, bt319.2.1, bt319.2.2)) (fun k => rfl) ?_⟩
  refine Ev.bind e1 ?_
  dsimp only
  rw [e2]
  exact Ev.now _
theorem end2 (l : List Int) (hl : Bytes l) (K I T : Int) (B b : Bool) (ws : List S40) (tx : ByteArray) (n : Int) (h : b = true ∨ n ≤ 0) : ∃ tx' l' b', Ev (fun k => cmd_reader_command2.l0 k n (strOfNums l) b K I T B ws tx) (K, I, T, B, ws, tx', strOfNums l', b') := by
  obtain ⟨tx', l', b', e⟩ := j2_any l hl K I T B b ws tx
  refine ⟨tx', l', b', Ev.step (f := fun k => cmd_reader_command2.j1 k (strOfNums l) b K I T B ws tx) (fun k => ?_) e⟩
  simp only [cmd_reader_command2.l0]
  by_cases hn : n > 0
  · rw [if_pos hn, if_pos (h.resolve_right (by omega))]
  · rw [if_neg hn]
theorem ws2_any (K I T : Int) (B : Bool) (tx : ByteArray) : ∀ (m : Nat) (l : List Int) (n : Int) (ws : List S40) (b : Bool), l.length ≤ m → Bytes l → ws.length + m + 1 < 3518437208883 →
    ∃ ws' tx' l' b', Ev (fun k => cmd_reader_command2.l0 k n (strOfNums l) b K I T B ws tx) (K, I, T, B, ws', tx', strOfNums l', b') ∧ ws'.length ≤ ws.length + m + 1 := by
  intro m
  induction m with
  | zero =>
    intro l n ws b hm hl hb
    by_cases he : b = true ∨ n ≤ 0
    · obtain ⟨tx', l', b', e⟩ := end2 l hl K I T B b ws tx n he
      exact ⟨ws, tx', l', b', e, by omega⟩
    · obtain ⟨x, y, z, l1, b1, e1, hl1, _, L⟩ := newer_any l b hl
      have hb1 : b1 = true := by
        rcases L with h | ⟨_, h⟩
        · exact h
        · omega
      subst hb1
      obtain ⟨tx', l', b', e⟩ := end2 l1 hl1 K I T B true (ws ++ [⟨x, y, z⟩]) tx (wrap64 (n - 1)) (.inl rfl)
      refine ⟨ws ++ [⟨x, y, z⟩], tx', l', b', Ev.step (f := fun k => (cmd_reader_newer.f k (strOfNums l) b).bind fun bt => if ws.length < 3518437208883 then cmd_reader_command2.l0 k (wrap64 (n - 1)) bt.2.2.2.1 bt.2.2.2.2 K I T B (ws ++ [(⟨bt.1, bt.2.1, bt.2.2.1⟩ : S40)]) tx else none) (fun k => ?_) ?_, by simp⟩
      · simp only [cmd_reader_command2.l0]
        rw [if_pos (by omega), if_neg (fun h => he (.inl h))]
      · refine Ev.bind e1 ?_
        dsimp only
        exact Ev.congr (fun k => by rw [if_pos (by omega)]) e
  | succ m ih =>
    intro l n ws b hm hl hb
    by_cases he : b = true ∨ n ≤ 0
    · obtain ⟨tx', l', b', e⟩ := end2 l hl K I T B b ws tx n he
      exact ⟨ws, tx', l', b', e, by omega⟩
    · obtain ⟨x, y, z, l1, b1, e1, hl1, _, L⟩ := newer_any l b hl
      have hgo : ∀ {ws' tx' l' b'}, Ev (fun k => cmd_reader_command2.l0 k (wrap64 (n - 1)) (strOfNums l1) b1 K I T B (ws ++ [⟨x, y, z⟩]) tx) (K, I, T, B, ws', tx', strOfNums l', b') → Ev (fun k => cmd_reader_command2.l0 k n (strOfNums l) b K I T B ws tx) (K, I, T, B, ws', tx', strOfNums l', b') := by
        intro ws' tx' l' b' h
        refine Ev.step (f := fun k => (cmd_reader_newer.f k (strOfNums l) b).bind fun bt => if ws.length < 3518437208883 then cmd_reader_command2.l0 k (wrap64 (n - 1)) bt.2.2.2.1 bt.2.2.2.2 K I T B (ws ++ [(⟨bt.1, bt.2.1, bt.2.2.1⟩ : S40)]) tx else none) (fun k => ?_) ?_
        · simp only [cmd_reader_command2.l0]
          rw [if_pos (by omega), if_neg (fun h => he (.inl h))]
        · refine Ev.bind e1 ?_
          dsimp only
          exact Ev.congr (fun k => by rw [if_pos (by omega)]) h
      rcases L with hb1 | ⟨_, h⟩
      · subst hb1
        obtain ⟨tx', l', b', e⟩ := end2 l1 hl1 K I T B true (ws ++ [⟨x, y, z⟩]) tx (wrap64 (n - 1)) (.inl rfl)
        exact ⟨_, tx', l', b', hgo e, by simp⟩
      · obtain ⟨ws', tx', l', b', e2, hle⟩ := ih l1 (wrap64 (n - 1)) (ws ++ [⟨x, y, z⟩]) b1 (by omega) hl1 (by simp; omega)
        exact ⟨ws', tx', l', b', hgo e2, by simp at hle; omega⟩
theorem command_any (l : List Int) (n : Int) (hn : n = 1 ∨ n = 2) (hl : Bytes l) (hs : l.length ≤ 1099511627776) : ∃ c : C, ∃ l' b', Ev (fun k => cmd_reader_command.f k (strOfNums l) false n) (c.kind, c.id, c.txn, c.com, c.ws, c.text, strOfNums l', b') ∧ c.id < 9223372036854775808 ∧ c.txn < 9223372036854775808 ∧ c.ws.length ≤ l.length + 1 := by
  rcases hn with rfl | rfl
  · obtain ⟨K, l1, b1, e1, _, L1⟩ := fixed_any l false 1 (by decide) hl
    obtain ⟨I, l2, b2, e2, hI, L2⟩ := fixed_any l1 b1 8 (by decide) L1.1
    obtain ⟨T, l3, b3, e3, hT, L3⟩ := fixed_any l2 b2 8 (by decide) L2.1
    obtain ⟨B, l4, b4, e4, L4⟩ := flag_any l3 b3 L3.1
    obtain ⟨N, l5, b5, e5, _, L5⟩ := fixed_any l4 b4 2 (by decide) L4.1
    have hle : l5.length ≤ l.length := ((((L1.trans L2).trans L3).trans L4).trans L5).2.1
    obtain ⟨ws, l6, b6, e6, hw⟩ := ws1_any K I T B (⟨#[]⟩ : ByteArray) l5.length l5 N [] b5 (Nat.le_refl _) L5.1 (by simp; omega)
    refine ⟨⟨K, I, T, B, ws, (⟨#[]⟩ : ByteArray)⟩, l6, b6, ?_, hI, hT, by simp at hw; dsimp only; omega⟩
    refine Ev.congr (fun k => by simp only [cmd_reader_command.f]; rw [if_pos trivial]) (f := fun k => cmd_reader_command1.f k (strOfNums l) false 1) ?_
    unfold cmd_reader_command1.f
    refine Ev.bind e1 ?_
    dsimp only
    refine Ev.bind e2 ?_
    dsimp only
    refine Ev.bind e3 ?_
    dsimp only
    rw [e4]
    simp only [Option.bind_some]
    refine Ev.bind e5 ?_
    exact e6
  · obtain ⟨K, l1, b1, e1, _, L1⟩ := fixed_any l false 1 (by decide) hl
    obtain ⟨I, l2, b2, e2, hI, L2⟩ := num_any l1 b1 L1.1
    obtain ⟨T, l3, b3, e3, hT, L3⟩ := num_any l2 b2 L2.1
    obtain ⟨B, l4, b4, e4, L4⟩ := flag_any l3 b3 L3.1
    obtain ⟨N, l5, b5, e5, _, L5⟩ := num_any l4 b4 L4.1
    have hle : l5.length ≤ l.length := ((((L1.trans L2).trans L3).trans L4).trans L5).2.1
    obtain ⟨ws, tx, l6, b6, e6, hw⟩ := ws2_any K I T B (⟨#[]⟩ : ByteArray) l5.length l5 N [] b5 (Nat.le_refl _) L5.1 (by simp; omega)
    refine ⟨⟨K, I, T, B, ws, tx⟩, l6, b6, ?_, hI, hT, by simp at hw; dsimp only; omega⟩
    refine Ev.congr (fun k => by simp only [cmd_reader_command.f]; rw [if_neg (by decide), if_pos trivial]) (f := fun k => cmd_reader_command2.f k (strOfNums l) false 2) ?_
    unfold cmd_reader_command2.f
    refine Ev.bind e1 ?_
    dsimp only
    refine Ev.bind e2 ?_
    dsimp only
    refine Ev.bind e3 ?_
    dsimp only
    rw [e4]
    simp only [Option.bind_some]
    refine Ev.bind e5 ?_
    exact e6
end Go.Proofs.Ytagjmphkfeiiiaa.Yh
