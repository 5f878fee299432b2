/-
  Decode, Up, Same: what each comes to with rounds enough; conditions: numbers below 2^63, not too many bytes.
-/
import Derived.Test.YtagjmphkfeiiiaaYh
namespace Go.Proofs.Ytagjmphkfeiiiaa.Yi
open Go.RowKit Go.Proofs.YtagjmphkfeiiiaaW.PrintWords Go.Proofs.YtagjmphkfeiiiaaW.PrintLast Go.Proofs.YtagjmphkfeiiiaaW.PrintMore Go.Proofs.Ytagjmphkfeiiiaa.Q Go.Proofs.Ytagjmphkfeiiiaa.Ya Go.Proofs.Ytagjmphkfeiiiaa.Yb Go.Proofs.Ytagjmphkfeiiiaa.Yc Go.Proofs.Ytagjmphkfeiiiaa.Yd Go.Proofs.Ytagjmphkfeiiiaa.Ye Go.Proofs.Ytagjmphkfeiiiaa.Yf Go.Proofs.Ytagjmphkfeiiiaa.Yg Go.Proofs.Ytagjmphkfeiiiaa.Yh
abbrev R8 : Type := Int × Int × Int × Bool × List S40 × ByteArray × Int × Bool
def zero8 : R8 := (0, 0, 0, false, ([] : List S40), (⟨#[]⟩ : ByteArray), 0, false)
def res (c : C) (n : Int) : R8 := (c.kind, c.id, c.txn, c.com, c.ws, c.text, n, true)
theorem prefix_nil (c : Int) : strings_HasPrefix.f (strOfNums []) (strOfNums [c]) = some false := by
  unfold strings_HasPrefix.f stringslite_HasPrefix.f
  rw [if_neg (by rw [str_size, str_size]; simp)]
  rfl
theorem prefix_cons (x c : Int) (r : List Int) (hx : 0 ≤ x ∧ x < 256) (hc : 0 ≤ c ∧ c < 256) : strings_HasPrefix.f (strOfNums (x :: r)) (strOfNums [c]) = some (decide (x = c)) := by
  unfold strings_HasPrefix.f stringslite_HasPrefix.f
  rw [if_pos (by rw [str_size, str_size]; simp; omega), if_pos (by omega), if_pos (by rw [str_size, str_size]; simp; omega), str_size]
  have e : (strOfNums (x :: r)).extract 0 (([c].length : Int)).toNat = strOfNums [x] := str_take [x] r
  rw [e, one_toList, one_toList]
  simp only [Option.bind_some, Option.some.injEq]
  rw [Bool.eq_iff_iff]
  simp only [beq_iff_eq, List.cons.injEq, and_true, decide_eq_true_eq]
  constructor
  · intro h
    have h2 := congrArg UInt8.toNat h
    simp only [UInt8.toNat_ofNat'] at h2
    omega
  · rintro rfl
    rfl
theorem lit49 : (⟨#[49]⟩ : ByteArray) = strOfNums [49] := rfl
theorem lit50 : (⟨#[50]⟩ : ByteArray) = strOfNums [50] := rfl
theorem drop1 (x : Int) (r : List Int) : (strOfNums (x :: r)).extract 1 (strOfNums (x :: r)).size = strOfNums r := str_drop [x] r
theorem enc_snd {c : C} {n : Int} (h : may c n = true) : enc c n = (strOfNums (wire c n), true) := by unfold enc; rw [h]; rfl
theorem enc_none {c : C} {n : Int} (h : may c n = false) : enc c n = ((⟨#[]⟩ : ByteArray), false) := by unfold enc; rw [h]; rfl
theorem j0_of (l : List Int) (n : Int) (x : Int) (c : C) (s : ByteArray) (b : Bool) (e : Ev (fun k => cmd_reader_command.f k (strOfNums l) false n) (c.kind, c.id, c.txn, c.com, c.ws, c.text, s, b)) (hi : c.id < 9223372036854775808) (ht : c.txn < 9223372036854775808) (hw : c.ws.length < 3518437208883) :
    Ev (fun k => cmd_Decode.j0 k (strOfNums (x :: l)) n) (if b = true then zero8 else (if may c n = true then (if (strOfNums (wire c n)).toList = (strOfNums (x :: l)).toList then res c n else zero8) else zero8)) := by
  refine Ev.step (f := fun k => (cmd_reader_command.f k (strOfNums l) false n).bind fun bt328 => (cmd_Encode.f k bt328.1 bt328.2.1 bt328.2.2.1 bt328.2.2.2.1 bt328.2.2.2.2.1 bt328.2.2.2.2.2.1 n).bind fun bt338 => (if bt328.2.2.2.2.2.2.2 = true then (some (0, 0, 0, false, ([] : List (S40)), (⟨#[]⟩ : ByteArray), 0, false)) else (if bt338.2 = true then (if bt338.1.toList = (strOfNums (x :: l)).toList then (if ([] : List (S40)).length + bt328.2.2.2.2.1.length < 3518437208883 then (some (bt328.1, bt328.2.1, bt328.2.2.1, bt328.2.2.2.1, (([] : List (S40)) ++ bt328.2.2.2.2.1), bt328.2.2.2.2.2.1, n, true)) else (none)) else (some (0, 0, 0, false, ([] : List (S40)), (⟨#[]⟩ : ByteArray), 0, false))) else (some (0, 0, 0, false, ([] : List (S40)), (⟨#[]⟩ : ByteArray), 0, false))))) (fun k => ?_) ?_
  · simp only [cmd_Decode.j0]
    rw [if_pos (by rw [str_size]; simp; omega), drop1]
    rfl
  · refine Ev.bind e ?_
    dsimp only
    refine Ev.bind (enc_ev c n hi ht) ?_
    refine Ev.congr (fun k => ?_) (Ev.now _)
    cases b with
    | true => rfl
    | false =>
      cases hm : may c n with
      | false => rw [enc_none hm]; rfl
      | true =>
        rw [enc_snd hm]
        simp only [Bool.false_eq_true, if_false, if_true]
        by_cases ht2 : (strOfNums (wire c n)).toList = (strOfNums (x :: l)).toList
        · rw [if_pos ht2, if_pos ht2, if_pos (by simp; omega)]
          rfl
        · rw [if_neg ht2, if_neg ht2]
          rfl
theorem wire_bytes {c : C} {n : Int} (h : Ok c n) : Bytes (wire c n) := by
  have hcat : ∀ (f : S40 → List Int) (l : List S40), (∀ w, Bytes (f w)) → Bytes (cat f l) := by
    intro f l hf
    induction l with
    | nil => exact Bytes.nil
    | cons w l ih => rw [cat_cons]; exact (hf w).append ih
  have h1 : ∀ w, Bytes (wr1 w) := fun w => ((((be_bytes _ _).append (bytes_bytesOf _)).append (be_bytes _ _)).append (bytes_bytesOf _)).append (fl_bytes _)
  have h2 : ∀ w, Bytes (wr2 w) := fun w => by
    refine (((fl_bytes _).append (var_bytes _)).append (bytes_bytesOf _)).append ?_
    split
    · exact Bytes.nil
    · exact (var_bytes _).append (bytes_bytesOf _)
  have hk : Bytes [c.kind % 256] := Bytes.cons (by omega) (by omega) Bytes.nil
  rw [wire_eq c n h.form]
  rcases h.form with rfl | rfl
  · exact Bytes.cons (by decide) (by decide) (((((hk.append (be_bytes _ _)).append (be_bytes _ _)).append (fl_bytes _)).append (be_bytes _ _)).append (hcat _ _ h1))
  · exact Bytes.cons (by decide) (by decide) ((((((hk.append (var_bytes _)).append (var_bytes _)).append (fl_bytes _)).append (var_bytes _)).append (hcat _ _ h2)).append ((var_bytes _).append (bytes_bytesOf _)))
theorem decode_nil : Ev (fun k => cmd_Decode.f k (strOfNums [])) zero8 := by
  refine Ev.congr (fun k => ?_) (Ev.now zero8)
  unfold cmd_Decode.f
  rw [lit49, lit50, prefix_nil, prefix_nil]
  rfl
theorem decode_cons (x : Int) (l : List Int) (hx : 0 ≤ x ∧ x < 256) (R : R8) (h : ∀ n, (n = 1 ∨ n = 2) → x = 48 + n → Ev (fun k => cmd_Decode.j0 k (strOfNums (x :: l)) n) R) (h0 : x ≠ 49 → x ≠ 50 → R = zero8) : Ev (fun k => cmd_Decode.f k (strOfNums (x :: l))) R := by
  unfold cmd_Decode.f
  rw [lit49, lit50, prefix_cons x 49 l hx (by decide), prefix_cons x 50 l hx (by decide)]
  simp only [Option.bind_some]
  by_cases h1 : x = 49
  · exact Ev.congr (fun k => by rw [if_pos (by simpa using h1)]) (h 1 (.inl rfl) h1)
  · by_cases h2 : x = 50
    · exact Ev.congr (fun k => by rw [if_neg (by simpa using h1), if_pos (by simpa using h2)]) (h 2 (.inr rfl) h2)
    · rw [h0 h1 h2]
      exact Ev.congr (fun k => by rw [if_neg (by simpa using h1), if_neg (by simpa using h2)]; rfl) (Ev.now zero8)
theorem decode_ok (c : C) (n : Int) (h : Ok c n) : Ev (fun k => cmd_Decode.f k (strOfNums (wire c n))) (res c n) := by
  obtain ⟨_, _, _, _, h5, _, _, _⟩ := right_parts h.right
  have hb := wire_bytes h
  rw [wire_eq c n h.form] at hb ⊢
  refine decode_cons (48 + n) (tail c n) (hb _ (List.mem_cons_self ..)) _ (fun m hm he => ?_) (fun a b => by rcases h.form with rfl | rfl <;> simp at a b)
  obtain rfl : m = n := by omega
  have e := command_ok c m [] h
  rw [List.append_nil] at e
  have := j0_of (tail c m) m (48 + m) c _ _ e h.id h.txn (by omega)
  rw [wire_eq c m h.form] at this
  simpa [h.may] using this
theorem decode_any (l : List Int) (hl : Bytes l) (hs : l.length ≤ 1099511627776) : Ev (fun k => cmd_Decode.f k (strOfNums l)) zero8 ∧ (∀ c n, Ok c n → l ≠ wire c n) ∨ ∃ c n, Ok c n ∧ l = wire c n ∧ Ev (fun k => cmd_Decode.f k (strOfNums l)) (res c n) := by
  by_cases hw : ∃ c n, Ok c n ∧ l = wire c n
  · obtain ⟨c, n, h, rfl⟩ := hw
    exact .inr ⟨c, n, h, rfl, decode_ok c n h⟩
  · refine .inl ⟨?_, fun c n h he => hw ⟨c, n, h, he⟩⟩
    cases l with
    | nil => exact decode_nil
    | cons x r =>
      have hr : Bytes r := fun y hy => hl y (List.mem_cons_of_mem _ hy)
      refine decode_cons x r (hl x (List.mem_cons_self ..)) zero8 (fun n hn he => ?_) (fun _ _ => rfl)
      obtain ⟨c, l', b', e, hi, ht, hlen⟩ := command_any r n hn hr (by simp at hs; omega)
      have h := j0_of r n x c _ _ e hi ht (by simp at hs; omega)
      have e2 : (if b' = true then zero8 else (if may c n = true then (if (strOfNums (wire c n)).toList = (strOfNums (x :: r)).toList then res c n else zero8) else zero8)) = zero8 := by
        cases b' with
        | true => rfl
        | false =>
          simp only [Bool.false_eq_true, if_false]
          by_cases hm : may c n = true
          · rw [if_pos hm]
            by_cases hq : (strOfNums (wire c n)).toList = (strOfNums (x :: r)).toList
            · have ho : Ok c n := ⟨hm, hi, ht, hn⟩
              exact absurd ⟨c, n, ho, (str_inj (wire_bytes ho) hl (toList_inj hq)).symm⟩ hw
            · rw [if_neg hq]
          · rw [if_neg hm]
      rw [e2] at h
      exact h
theorem up_ok (c : C) (n : Int) (h : Ok c n) : Ev (fun k => cmd_Up.f k (strOfNums (wire c n))) (enc c 2) := by
  unfold cmd_Up.f
  refine Ev.bind (decode_ok c n h) ?_
  simp only [res, if_true]
  refine Ev.bind (enc_ev c 2 h.id h.txn) ?_
  exact Ev.now _
theorem up_none (s : ByteArray) (h : Ev (fun k => cmd_Decode.f k s) zero8) : Ev (fun k => cmd_Up.f k s) ((⟨#[]⟩ : ByteArray), false) := by
  unfold cmd_Up.f
  refine Ev.bind h ?_
  exact Ev.now _
theorem same_s40 (x y : S40) : (!((x.f0.toList) == (y.f0.toList)) || (!((x.f1.toList) == (y.f1.toList)) || (!(x.f2 == y.f2)))) = true ↔ x ≠ y := by
  obtain ⟨a, b, c⟩ := x
  obtain ⟨d, e, f⟩ := y
  simp only [Bool.or_eq_true, Bool.not_eq_true', beq_eq_false_iff_ne, ne_eq, S40.mk.injEq]
  constructor
  · rintro h ⟨rfl, rfl, rfl⟩
    simp at h
  · intro h
    by_cases h1 : a.toList = d.toList
    · by_cases h2 : b.toList = e.toList
      · refine .inr (.inr fun h3 => h ⟨toList_inj h1, toList_inj h2, ?_⟩)
        exact h3
      · exact .inr (.inl h2)
    · exact .inl h1
theorem writes_ev (a b : List S40) (hl : a.length = b.length) (hm : a.length ≤ 140737488355328) : ∀ (d i : Nat), i + d = a.length → ∃ r, Ev (fun k => federationref7_Writes.l0 k a b (i : Int)) r ∧ (r = true ↔ a.drop i = b.drop i) := by
  intro d
  induction d with
  | zero =>
    intro i hi
    refine ⟨true, Ev.step (f := fun _ => some true) (fun k => ?_) (Ev.now _), ?_⟩
    · simp only [federationref7_Writes.l0]
      rw [if_neg (by omega)]
    · rw [List.drop_eq_nil_of_le (by omega), List.drop_eq_nil_of_le (by omega)]
      simp
  | succ d ih =>
    intro i hi
    have ha : i < a.length := by omega
    have hb : i < b.length := by omega
    obtain ⟨r, er, hr⟩ := ih (i + 1) (by omega)
    by_cases he : a[i] = b[i]
    · refine ⟨r, Ev.step (f := fun k => federationref7_Writes.l0 k a b ((i + 1 : Nat) : Int)) (fun k => ?_) er, ?_⟩
      · simp only [federationref7_Writes.l0]
        rw [if_pos (by omega), if_pos (by omega), if_pos (by omega), rd_at _ _ ha, rd_at _ _ hb, if_neg (fun h => (same_s40 _ _).1 h he), wrap_succ i _ ha hm]
      · rw [hr, drop_at a i ha, drop_at b i hb, he, List.cons.injEq]
        simp
    · refine ⟨false, Ev.step (f := fun _ => some false) (fun k => ?_) (Ev.now _), ?_⟩
      · simp only [federationref7_Writes.l0]
        rw [if_pos (by omega), if_pos (by omega), if_pos (by omega), rd_at _ _ ha, rd_at _ _ hb, if_pos ((same_s40 _ _).2 he)]
      · rw [drop_at a i ha, drop_at b i hb, List.cons.injEq]
        simp [he]
theorem same_ev (c d : C) (hm : c.ws.length ≤ 140737488355328) : ∃ r, Ev (fun k => federationref7_Same.f k c.kind c.id c.txn c.com c.ws c.text d.kind d.id d.txn d.com d.ws d.text) r ∧ (r = true ↔ c = d) := by
  obtain ⟨k1, i1, t1, b1, w1, x1⟩ := c
  obtain ⟨k2, i2, t2, b2, w2, x2⟩ := d
  simp only [C.mk.injEq]
  unfold federationref7_Same.f
  dsimp only at *
  by_cases h1 : k1 = k2
  · by_cases h2 : i1 = i2
    · by_cases h3 : t1 = t2
      · by_cases h4 : b1 = b2
        · by_cases h5 : x1.toList = x2.toList
          · by_cases h6 : w1.length = w2.length
            · obtain ⟨r, er, hr⟩ := writes_ev w1 w2 h6 hm w1.length 0 (by omega)
              refine ⟨r, Ev.congr (f := fun k => (federationref7_Writes.l0 k w1 w2 ((0 : Nat) : Int)).bind fun t => some t) (fun k => ?_) (Ev.bind er (Ev.now _)), ?_⟩
              · rw [if_pos h1, if_pos h2, if_pos h3, if_pos (by simpa using h4), if_pos h5]
                unfold federationref7_Writes.f
                rw [if_pos (by omega)]
                rfl
              · rw [hr]
                simp [h1, h2, h3, h4, toList_inj h5]
            · refine ⟨false, Ev.congr (fun k => ?_) (Ev.now _), ?_⟩
              · rw [if_pos h1, if_pos h2, if_pos h3, if_pos (by simpa using h4), if_pos h5]
                unfold federationref7_Writes.f
                rw [if_neg (by omega)]
                rfl
              · constructor
                · intro h; cases h
                · rintro ⟨_, _, _, _, h, _⟩
                  exact absurd (congrArg List.length h) h6
          · refine ⟨false, Ev.congr (fun k => by rw [if_pos h1, if_pos h2, if_pos h3, if_pos (by simpa using h4), if_neg h5]) (Ev.now _), ?_⟩
            constructor
            · intro h; cases h
            · rintro ⟨_, _, _, _, _, rfl⟩
              exact absurd rfl h5
        · exact ⟨false, Ev.congr (fun k => by rw [if_pos h1, if_pos h2, if_pos h3, if_neg (by simpa using h4)]) (Ev.now _), by simp [h4]⟩
      · exact ⟨false, Ev.congr (fun k => by rw [if_pos h1, if_pos h2, if_neg h3]) (Ev.now _), by simp [h3]⟩
    · exact ⟨false, Ev.congr (fun k => by rw [if_pos h1, if_neg h2]) (Ev.now _), by simp [h2]⟩
  · exact ⟨false, Ev.congr (fun k => by rw [if_neg h1]) (Ev.now _), by simp [h1]⟩
theorem same_true (c : C) (hm : c.ws.length ≤ 140737488355328) : Ev (fun k => federationref7_Same.f k c.kind c.id c.txn c.com c.ws c.text c.kind c.id c.txn c.com c.ws c.text) true := by
  obtain ⟨r, er, hr⟩ := same_ev c c hm
  rw [hr.2 rfl] at er
  exact er
def c0 : C := ⟨1, 300, 3, false, [], (⟨#[]⟩ : ByteArray)⟩
def cN : C := ⟨5, 0, 0, false, [], (⟨#[]⟩ : ByteArray)⟩
theorem tl_nil : (⟨#[]⟩ : ByteArray).toList = ([] : List UInt8) := by rw [toList_eq]
theorem right_c0 : right c0 = true := by
  have h : (c0.text.toList == ([] : List UInt8)) = true := by rw [beq_iff_eq]; exact tl_nil
  unfold right head fin
  rw [h]
  decide
theorem c0_ok1 : Ok c0 1 := ⟨by unfold may; rw [right_c0]; decide, by decide, by decide, .inl rfl⟩
theorem c0_ok2 : Ok c0 2 := ⟨by unfold may; rw [right_c0]; decide, by decide, by decide, .inr rfl⟩
theorem wire_c0 : (wire c0 1).length = 21 := by
  show (49 :: tail1 c0).length = 21
  simp [tail1, be_length, fl_len, cat, c0]
theorem may_cN : may cN 1 = false := by
  unfold may
  have : (decide ((1 : Int) = 1) && !decide (cN.kind = 5) || decide ((1 : Int) = 2)) = false := by decide
  rw [this, Bool.and_false]
theorem LeO.det {α : Type} {g : Nat → Option α} (hg : ∀ k, LeO (g k) (g (k + 1))) {k : Nat} {a b : α} (h : g k = some a) (e : Ev g b) : a = b := Ev.unique (Ev.of hg h) e
theorem known_vals (k : Nat) (a0 a1 a2 : Int) (a3 : Bool) (a4 : List S40) (a5 : ByteArray) (a6 : Int) (a7 : Bool) (b0 : ByteArray) (b1 : Bool) (c1 : ByteArray) (c2 : Bool) (d0 d1 d2 : Int) (d3 : Bool) (d4 : List S40) (d5 : ByteArray) (d6 : Int) (d7 : Bool)
    (A1 : cmd_Decode.f k (⟨#[]⟩ : ByteArray) = some (a0, a1, a2, a3, a4, a5, a6, a7)) (A2 : cmd_Encode.f k 1 300 3 false ([] : List S40) (⟨#[]⟩ : ByteArray) 1 = some (b0, b1)) (A3 : cmd_Up.f k b0 = some (c1, c2)) (A4 : cmd_Decode.f k c1 = some (d0, d1, d2, d3, d4, d5, d6, d7)) :
    a7 = false ∧ b1 = true ∧ (b0.size : Int) = 21 ∧ c2 = true ∧ d7 = true ∧ d6 = 2 := by
  have h1 := LeO.det (cmd_Decode.mono (⟨#[]⟩ : ByteArray)) A1 decode_nil
  have h2 := LeO.det (cmd_Encode.mono 1 300 3 false ([] : List S40) (⟨#[]⟩ : ByteArray) 1) A2 (enc_ev c0 1 (by decide) (by decide))
  rw [enc_snd c0_ok1.may] at h2
  injection h2 with e1 e2
  subst e1 e2
  have h3 := LeO.det (cmd_Up.mono _) A3 (up_ok c0 1 c0_ok1)
  rw [enc_snd c0_ok2.may] at h3
  injection h3 with e3 e4
  subst e3 e4
  have h4 := LeO.det (cmd_Decode.mono _) A4 (decode_ok c0 2 c0_ok2)
  simp only [zero8, res, Prod.mk.injEq] at h1 h4
  exact ⟨h1.2.2.2.2.2.2.2, rfl, by rw [str_size, wire_c0]; rfl, rfl, h4.2.2.2.2.2.2.2, h4.2.2.2.2.2.2.1⟩
theorem known_same (k : Nat) (a0 a1 a2 : Int) (a3 : Bool) (a4 : List S40) (a5 : ByteArray) (a6 : Int) (a7 : Bool) (b0 : ByteArray) (b1 : Bool) (c1 : ByteArray) (c2 : Bool) (d0 d1 d2 : Int) (d3 : Bool) (d4 : List S40) (d5 : ByteArray) (d6 : Int) (d7 : Bool) (r : Bool)
    (_A1 : cmd_Decode.f k (⟨#[]⟩ : ByteArray) = some (a0, a1, a2, a3, a4, a5, a6, a7)) (A2 : cmd_Encode.f k 1 300 3 false ([] : List S40) (⟨#[]⟩ : ByteArray) 1 = some (b0, b1)) (A3 : cmd_Up.f k b0 = some (c1, c2)) (A4 : cmd_Decode.f k c1 = some (d0, d1, d2, d3, d4, d5, d6, d7))
    (A5 : federationref7_Same.f k 1 300 3 false ([] : List S40) (⟨#[]⟩ : ByteArray) d0 d1 d2 d3 d4 d5 = some r) : r = true := by
  have h2 := LeO.det (cmd_Encode.mono 1 300 3 false ([] : List S40) (⟨#[]⟩ : ByteArray) 1) A2 (enc_ev c0 1 (by decide) (by decide))
  rw [enc_snd c0_ok1.may] at h2
  injection h2 with e1 e2
  subst e1 e2
  have h3 := LeO.det (cmd_Up.mono _) A3 (up_ok c0 1 c0_ok1)
  rw [enc_snd c0_ok2.may] at h3
  injection h3 with e3 e4
  subst e3 e4
  have h4 := LeO.det (cmd_Decode.mono _) A4 (decode_ok c0 2 c0_ok2)
  simp only [res, Prod.mk.injEq] at h4
  obtain ⟨rfl, rfl, rfl, rfl, rfl, rfl, _, _⟩ := h4
  exact LeO.det (federationref7_Same.mono _ _ _ _ _ _ _ _ _ _ _ _) A5 (same_true c0 (by decide))
end Go.Proofs.Ytagjmphkfeiiiaa.Yi
