/-
  The law CmdReads, without the program's text: any bytes are read and raised as the reference does; conditions: none.
-/
import Derived.Test.YtagjmphkfeiiiaaQx29
import Derived.Test.YtagjmphkfeiiiaaYm
import Derived.Test.YtagjmphkfeiiiaaYz
namespace Go.Proofs.Ytagjmphkfeiiiaa.Yl
open Go.RowKit Go.Proofs.YtagjmphkfeiiiaaW.PrintWords Go.Proofs.YtagjmphkfeiiiaaW.PrintLast Go.Proofs.YtagjmphkfeiiiaaW.PrintMore Go.Proofs.Ytagjmphkfeiiiaa.Q Go.Proofs.Ytagjmphkfeiiiaa.Ya Go.Proofs.Ytagjmphkfeiiiaa.Yb Go.Proofs.Ytagjmphkfeiiiaa.Yc Go.Proofs.Ytagjmphkfeiiiaa.Yd Go.Proofs.Ytagjmphkfeiiiaa.Yh Go.Proofs.Ytagjmphkfeiiiaa.Yi Go.Proofs.Ytagjmphkfeiiiaa.Yw Go.Proofs.Ytagjmphkfeiiiaa.Ym
theorem l1_ev (rows : List ByteArray) (hl : rows.length ≤ 100) (hr : ∀ s ∈ rows, s.size ≤ 1099511627776) : ∀ (d i : Nat), i + d = rows.length → Ev (fun k => federationlaw7_CmdReads.l1 k rows (i : Int)) true := by
  intro d
  induction d with
  | zero =>
    intro i hi
    refine Ev.succ ?_
    simp only [federationlaw7_CmdReads.l1, if_neg (show ¬ ((i : Int) < (rows.length : Int)) by omega)]
    exact Ev.now _
  | succ d ih =>
    intro i hi
    have hlt : i < rows.length := by omega
    have hx : rdOf ByteArray.empty rows (i : Int) = rows[i] := by simp [rdOf, List.getD_eq_getElem?_getD, hlt]
    obtain ⟨R, u, h1, h2, h3, h4, h5⟩ := Yz.both rows[i] (hr _ (List.getElem_mem hlt))
    refine Ev.succ ?_
    simp only [federationlaw7_CmdReads.l1, if_pos (show (i : Int) < (rows.length : Int) by omega), if_pos (show (0 : Int) ≤ (i : Int) by omega), hx, wrap_succ i rows.length hlt (by omega)]
    refine Ev.bind h1 ?_
    refine Ev.bind h2 ?_
    refine Ev.bind h3 ?_
    refine Ev.bind h4 ?_
    simp only [bne_self_eq_false, Bool.false_eq_true, if_false, if_true]
    refine Ev.bind h5 ?_
    simp only [if_true]
    exact ih (i + 1) (by omega)
theorem sz_app (a b : ByteArray) : (a ++ b).size = a.size + b.size := ByteArray.size_append
theorem j3_ev (a8 : Int) (a9 a10 x : ByteArray) (h9 : a9.size ≤ 60) (h10 : a10.size ≤ 100) (hx : x.size ≤ 10000000) (l : List Int) (hl : l.length = x.size) : Ev (fun k => federationlaw7_CmdReads.j3 k a8 a9 a10 x l) true := by
  refine Ev.succ ?_
  have hw : wrap64 ((x.size : Int) + 1) = (x.size : Int) + 1 := by unfold wrap64; omega
  obtain ⟨v, hv, hv0, hv1⟩ := within_some a8 ((x.size : Int) + 1) (by omega) (by omega)
  have e1 : (x.extract 0 v.toNat).size ≤ x.size := by rw [ba_extract]; omega
  have e2 : (x.extract v.toNat x.size).size ≤ x.size := by rw [ba_extract]; omega
  have e49 : (⟨#[49]⟩ : ByteArray).size = 1 := rfl
  have e50 : (⟨#[50]⟩ : ByteArray).size = 1 := rfl
  have e0 : (⟨#[0]⟩ : ByteArray).size = 1 := rfl
  have es : (strOfNums l).size = x.size := by rw [str_size, hl]
  simp only [federationlaw7_CmdReads.j3, hw, hv, Option.bind_some, if_pos hv0, if_pos (show v ≤ (x.size : Int) by omega), if_pos (show (x.extract 0 v.toNat).size + a9.size ≤ 9223372036854775807 by omega), if_pos (show ((x.extract 0 v.toNat) ++ a9).size + (x.extract v.toNat x.size).size ≤ 9223372036854775807 by rw [sz_app]; omega), if_pos (show 1 + a10.size ≤ 9223372036854775807 by omega), if_pos (show x.size + 1 ≤ 9223372036854775807 by omega)]
  refine l1_ev _ (by simp) (fun s hs => ?_) 7 0 (by simp)
  simp only [List.mem_cons, List.not_mem_nil, or_false] at hs
  rcases hs with rfl | rfl | rfl | rfl | rfl | rfl | rfl
  · omega
  · omega
  · rw [sz_app, sz_app]; omega
  · omega
  · rw [sz_app]; omega
  · rw [sz_app]; omega
  · rw [sz_app]; omega
theorem l0_ev (l6 l7 : List Int) (a8 : Int) (a9 a10 x : ByteArray) (h9 : a9.size ≤ 60) (h10 : a10.size ≤ 100) (hx : x.size ≤ 10000000) (hx0 : 1 ≤ x.size) : ∀ (d i : Nat) (l : List Int), i + d = 3 → l.length = x.size → Ev (fun k => federationlaw7_CmdReads.l0 k l6 l7 a8 a9 a10 x l (i : Int)) true := by
  intro d
  induction d with
  | zero =>
    intro i l hi hl
    have hj := j3_ev a8 a9 a10 x h9 h10 hx l hl
    refine Ev.succ ?_
    simp only [federationlaw7_CmdReads.l0, if_neg (show ¬ ((i : Int) < 3) by omega)]
    by_cases c1 : (i : Int) < (l6.length : Int)
    · simp only [if_pos c1]
      by_cases c2 : (i : Int) < (l7.length : Int)
      · simp only [if_pos c2]
        exact hj
      · simp only [if_neg c2]
        exact hj
    · simp only [if_neg c1]
      exact hj
  | succ d ih =>
    intro i l hi hl
    have hj := j3_ev a8 a9 a10 x h9 h10 hx l hl
    refine Ev.succ ?_
    simp only [federationlaw7_CmdReads.l0]
    by_cases c1 : (i : Int) < (l6.length : Int)
    · simp only [if_pos c1]
      by_cases c2 : (i : Int) < (l7.length : Int)
      · simp only [if_pos c2, if_pos (show (i : Int) < 3 by omega), if_pos (show (0 : Int) ≤ (i : Int) by omega)]
        obtain ⟨v, hv, hv0, hv1⟩ := within_some (rd l6 (i : Int)) (l.length : Int) (by omega) (by omega)
        simp only [hv, Option.bind_some, if_pos hv0, if_pos hv1, wrap_succ i 3 (show i < 3 by omega) (by decide)]
        exact ih (i + 1) _ (by omega) (by rw [List.length_set]; exact hl)
      · simp only [if_neg c2]
        exact hj
    · simp only [if_neg c1]
      exact hj
theorem wire_len {c : C} {n : Int} (h : Ok c n) : 1 ≤ (wire c n).length ∧ (wire c n).length ≤ 10000000 := by
  obtain ⟨h1, h2, h3, h4, h5, h6, h7, h8⟩ := right_parts h.right
  have hid := h.id
  have htn := h.txn
  have hc1 := cat_len wr1 c.ws (fun w hw => wr1_len (List.all_eq_true.1 h7 w hw))
  have hc2 := cat_len wr2 c.ws (fun w hw => wr2_len (List.all_eq_true.1 h7 w hw))
  have va : (var c.id.toNat).length ≤ 9 := var_len 8 _ (by omega)
  have vb : (var c.txn.toNat).length ≤ 9 := var_len 8 _ (by omega)
  have vn : (var c.ws.length).length ≤ 2 := var_le _ (by omega)
  have vt : (var c.text.size).length ≤ 2 := var_le _ (by omega)
  rcases h.form with rfl | rfl
  · simp only [wire, if_true, tail1, List.length_cons, List.length_append, be_length, fl_len, List.length_nil]
    omega
  · simp only [wire, show ¬ ((2 : Int) = 1) by decide, if_false, tail2, List.length_cons, List.length_append, fl_len, bytesOf_length, List.length_nil]
    omega
theorem j1_ev (l6 l7 : List Int) (a8 : Int) (a9 a10 : ByteArray) (h9 : a9.size ≤ 60) (h10 : a10.size ≤ 100) (c : C) (n : Int) (h : Ok c n) : Ev (fun k => federationlaw7_CmdReads.j1 k l6 l7 a8 a9 a10 (strOfNums (wire c n))) true := by
  obtain ⟨w0, w1⟩ := wire_len h
  have hs : (strOfNums (wire c n)).size = (wire c n).length := str_size _
  have hm : own_made.f (strOfNums (wire c n)) = some (wire c n) := by
    unfold own_made.f
    rw [if_pos (by omega), bytesOf_str (wire_bytes h)]
  refine Ev.succ ?_
  simp only [federationlaw7_CmdReads.j1, hm, Option.bind_some]
  exact l0_ev l6 l7 a8 a9 a10 _ h9 h10 (by omega) (by omega) 3 0 _ (by omega) hs.symm
theorem j0_ev (a0 a1 a2 : Int) (l3 : List Int) (a4 : ByteArray) (a5 : Int) (l6 l7 : List Int) (a8 : Int) (a9 a10 : ByteArray) (h4 : a4.size ≤ 60) (h9 : a9.size ≤ 60) (h10 : a10.size ≤ 100) : Ev (fun k => federationlaw7_CmdReads.j0 k a0 a1 a2 l3 a4 a5 l6 l7 a8 a9 a10 false) true := by
  obtain ⟨c, e, hr, hi, ht⟩ := make_ev a0 a1 a2 l3 a4 (by omega)
  obtain ⟨v, hv, hv0, hv1⟩ := within_some a5 2 (by decide) (by decide)
  have hw : wrap64 (1 + v) = 1 + v := by unfold wrap64; omega
  refine Ev.succ ?_
  simp only [federationlaw7_CmdReads.j0, Bool.false_eq_true, if_false]
  refine Ev.bind e ?_
  simp only [hv, Option.bind_some, hw]
  obtain ⟨n, hn⟩ : ∃ n : Int, n = 1 + v := ⟨_, rfl⟩
  have hn2 : n = 1 ∨ n = 2 := by omega
  rw [← hn]
  clear hn hw hv hv0 hv1
  refine Ev.bind (Yr.Encode_ev c n hi ht) ?_
  cases hm : may c n with
  | true =>
    rw [enc_snd hm]
    simp only [if_true]
    exact j1_ev l6 l7 a8 a9 a10 h9 h10 c n ⟨hm, hi, ht, hn2⟩
  | false =>
    rw [enc_none hm]
    simp only [Bool.false_eq_true, if_false]
    refine Ev.bind e ?_
    dsimp only
    refine Ev.bind (Yr.Encode_ev c 2 hi ht) ?_
    rw [enc_snd (ok2 hr hi ht).may]
    exact j1_ev l6 l7 a8 a9 a10 h9 h10 c 2 (ok2 hr hi ht)
theorem stop_ev (a0 a1 a2 : Int) (l3 : List Int) (a4 : ByteArray) (a5 : Int) (l6 l7 : List Int) (a8 : Int) (a9 a10 : ByteArray) : Ev (fun k => federationlaw7_CmdReads.j0 k a0 a1 a2 l3 a4 a5 l6 l7 a8 a9 a10 true) true := by
  refine Ev.succ ?_
  simp only [federationlaw7_CmdReads.j0, if_true]
  exact Ev.now _
theorem reads_ev (a0 a1 a2 : Int) (l3 : List Int) (a4 : ByteArray) (a5 : Int) (l6 l7 : List Int) (a8 : Int) (a9 a10 : ByteArray) : Ev (fun k => federationlaw7_CmdReads.f k a0 a1 a2 l3 a4 a5 l6 l7 a8 a9 a10) true := by
  unfold federationlaw7_CmdReads.f
  refine Ev.bind known_ev ?_
  simp only [if_true]
  by_cases h4 : (a4.size : Int) > 60
  · simp only [if_pos h4]
    exact stop_ev ..
  · simp only [if_neg h4]
    by_cases h9 : (a9.size : Int) > 60
    · simp only [if_pos h9]
      exact stop_ev ..
    · simp only [if_neg h9]
      by_cases h10 : (a10.size : Int) > 100
      · rw [decide_eq_true h10]
        exact stop_ev ..
      · rw [decide_eq_false h10]
        exact j0_ev a0 a1 a2 l3 a4 a5 l6 l7 a8 a9 a10 (by omega) (by omega) (by omega)
end Go.Proofs.Ytagjmphkfeiiiaa.Yl
