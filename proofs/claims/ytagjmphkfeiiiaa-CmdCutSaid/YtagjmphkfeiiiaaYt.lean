/-
  The law CmdCut, without the program's text: a form cut short or with more behind it is no form; conditions: none.
-/
import Derived.Test.YtagjmphkfeiiiaaQx18
import Derived.Test.YtagjmphkfeiiiaaYm
namespace Go.Proofs.Ytagjmphkfeiiiaa.Yt
open Go.RowKit Go.Proofs.YtagjmphkfeiiiaaW.PrintWords Go.Proofs.YtagjmphkfeiiiaaW.PrintLast Go.Proofs.YtagjmphkfeiiiaaW.PrintMore Go.Proofs.Ytagjmphkfeiiiaa.Q Go.Proofs.Ytagjmphkfeiiiaa.Ya Go.Proofs.Ytagjmphkfeiiiaa.Yb Go.Proofs.Ytagjmphkfeiiiaa.Yc Go.Proofs.Ytagjmphkfeiiiaa.Yd Go.Proofs.Ytagjmphkfeiiiaa.Yh Go.Proofs.Ytagjmphkfeiiiaa.Yi Go.Proofs.Ytagjmphkfeiiiaa.Yw Go.Proofs.Ytagjmphkfeiiiaa.Ym
theorem wire_len {c : C} {n : Int} (h : Ok c n) : (wire c n).length ≤ 5000000 := by
  obtain ⟨p0, p1, p2, p3, p4, p5, p6, p7⟩ := right_parts h.right
  have i := h.id
  have t := h.txn
  have hw := List.all_eq_true.1 p6
  rcases h.form with rfl | rfl
  · unfold wire tail1
    rw [if_pos rfl]
    have := cat_len wr1 c.ws (fun w hx => by have := wr1_len (hw w hx); omega)
    simp only [List.length_cons, List.length_append, be_length, fl_len, List.length_nil]
    omega
  · unfold wire tail2
    rw [if_neg (by decide)]
    have := cat_len wr2 c.ws (fun w hx => by have := wr2_len (hw w hx); omega)
    have h1 := var_len 9 c.id.toNat (by omega)
    have h2 := var_len 9 c.txn.toNat (by omega)
    have h3 := var_len 9 c.ws.length (by omega)
    have h4 := var_len 9 c.text.size (by omega)
    have h5 : (bytesOf c.text).length = c.text.size := by rw [← str_size, str_bytesOf]
    simp only [List.length_cons, List.length_append, fl_len, List.length_nil]
    omega
theorem cut_dec (c : C) (n : Int) (h : Ok c n) (m : Nat) (hm : m < (wire c n).length) : Ev (fun k => cmd_Decode.f k (strOfNums ((wire c n).take m))) zero8 := by
  have hb : Bytes ((wire c n).take m) := fun x hx => wire_bytes h x (List.mem_of_mem_take hx)
  have hl := wire_len h
  rcases decode_any ((wire c n).take m) hb (by rw [List.length_take]; omega) with e | ⟨d, m', k, e, _⟩
  · exact e.1
  · have := (wire_inj (r := (wire c n).drop m) h k (by rw [← e, List.take_append_drop])).1
    have := congrArg List.length this
    rw [List.length_drop, List.length_nil] at this
    omega
theorem more_dec (c : C) (n : Int) (h : Ok c n) (s : ByteArray) (hs : s.size ≤ 60) : ∃ R, Ev (fun k => cmd_Decode.f k (strOfNums (wire c n) ++ s)) R ∧ (R.2.2.2.2.2.2.2 == (s.toList == ([] : List UInt8))) = true := by
  have e : strOfNums (wire c n) ++ s = strOfNums (wire c n ++ bytesOf s) := by rw [← str_append, str_bytesOf]
  have hl := wire_len h
  have h5 : (bytesOf s).length = s.size := by rw [← str_size, str_bytesOf]
  by_cases h0 : s = (⟨#[]⟩ : ByteArray)
  · refine ⟨res c n, ?_, by rw [h0, tl_nil]; rfl⟩
    subst h0
    rw [e, show bytesOf (⟨#[]⟩ : ByteArray) = [] from List.eq_nil_of_length_eq_zero h5, List.append_nil]
    exact decode_ok c n h
  · have hne : (s.toList == ([] : List UInt8)) = false := beq_eq_false_iff_ne.2 (fun e' => h0 (toList_inj (by rw [e', tl_nil])))
    refine ⟨zero8, ?_, by rw [hne]; rfl⟩
    rw [e]
    rcases decode_any (wire c n ++ bytesOf s) (Bytes.append (wire_bytes h) (bytes_bytesOf s)) (by rw [List.length_append]; omega) with e | ⟨d, m', k, e', _⟩
    · exact e.1
    · have := (wire_inj k h e'.symm).1
      rw [← str_bytesOf s, this] at h0
      exact absurd rfl h0
theorem same0 : Ev (fun k => federationref7_Same.f k 0 0 0 false ([] : List S40) (⟨#[]⟩ : ByteArray) 0 0 0 false ([] : List S40) (⟨#[]⟩ : ByteArray)) true := same_true ⟨0, 0, 0, false, [], (⟨#[]⟩ : ByteArray)⟩ (by decide)
theorem w1 (t : Int) (h0 : 0 ≤ t) (h1 : t < 2) : wrap64 (1 + t) = 1 ∨ wrap64 (1 + t) = 2 := by unfold wrap64; omega
theorem j0_ev (a0 a1 a2 : Int) (l3 : List Int) (a4 : ByteArray) (a5 a6 : Int) (a7 : ByteArray) (h4 : a4.size ≤ 60) (h7 : a7.size ≤ 60) : Ev (fun k => federationlaw7_CmdCut.j0 k a0 a1 a2 l3 a4 a5 a6 a7 false) true := by
  refine Ev.succ ?_
  simp only [federationlaw7_CmdCut.j0, Bool.false_eq_true, if_false]
  obtain ⟨c, e, hr, hi, ht⟩ := make_ev a0 a1 a2 l3 a4 (by omega)
  refine Ev.bind e ?_
  obtain ⟨t, hte, ht0, ht1⟩ := within_some a5 2 (by decide) (by decide)
  rw [hte]
  simp only [Option.bind_some]
  generalize hn : wrap64 (1 + t) = n
  have hf := w1 t ht0 ht1
  rw [hn] at hf
  clear hn
  refine Ev.bind (enc_ev c n hi ht) ?_
  by_cases hm : may c n = true
  · have o : Ok c n := ⟨hm, hi, ht, hf⟩
    rw [enc_snd hm]
    have hl := wire_len o
    have hz : ¬ (((strOfNums (wire c n)).size : Nat) : Int) = 0 := by rw [str_size, wire_eq c n hf, List.length_cons]; omega
    simp only [if_true, if_neg hz]
    obtain ⟨q, hq, hq0, hq1⟩ := within_some a6 (((strOfNums (wire c n)).size : Nat) : Int) (by omega) (by rw [str_size]; omega)
    rw [hq]
    simp only [Option.bind_some, if_pos hq0, if_pos (Int.le_of_lt hq1), str_take']
    rw [str_size] at hq1
    have hd := cut_dec c n o q.toNat (by omega)
    refine Ev.bind hd ?_
    simp only [if_pos (show (strOfNums (wire c n)).size + a7.size ≤ 9223372036854775807 by rw [str_size]; omega)]
    obtain ⟨R, eR, hR⟩ := more_dec c n o a7 h7
    refine Ev.bind eR ?_
    refine Ev.bind (up_none _ hd) ?_
    simp only [zero8, Bool.false_eq_true, if_false, if_true]
    refine Ev.bind same0 ?_
    simp only [if_true, hR, tl_nil]
    exact Ev.now _
  · have hm' : may c n = false := by cases h : may c n with | false => rfl | true => exact absurd h hm
    rw [enc_none hm']
    simp only [Bool.false_eq_true, if_false]
    exact Ev.now _
theorem cut_ev (a0 a1 a2 : Int) (l3 : List Int) (a4 : ByteArray) (a5 a6 : Int) (a7 : ByteArray) : Ev (fun k => federationlaw7_CmdCut.f k a0 a1 a2 l3 a4 a5 a6 a7) true := by
  unfold federationlaw7_CmdCut.f
  refine Ev.bind known_ev ?_
  simp only [if_true]
  have ht : Ev (fun k => federationlaw7_CmdCut.j0 k a0 a1 a2 l3 a4 a5 a6 a7 true) true := by
    refine Ev.succ ?_
    simp only [federationlaw7_CmdCut.j0, if_true]
    exact Ev.now _
  by_cases hs : (a4.size : Int) > 60
  · simp only [if_pos hs]
    exact ht
  · simp only [if_neg hs]
    by_cases h7 : (a7.size : Int) > 60
    · rw [decide_eq_true h7]
      exact ht
    · rw [decide_eq_false h7]
      exact j0_ev a0 a1 a2 l3 a4 a5 a6 a7 (by omega) (by omega)
end Go.Proofs.Ytagjmphkfeiiiaa.Yt
