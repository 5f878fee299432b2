/-
  The law CmdApart, without the program's text: two commands are written alike if and only if they are the same; conditions: none.
-/
import Derived.Test.YtagjmphkfeiiiaaQx15
import Derived.Test.YtagjmphkfeiiiaaYm
namespace Go.Proofs.Ytagjmphkfeiiiaa.Yu
open Go.RowKit Go.Proofs.YtagjmphkfeiiiaaW.PrintWords Go.Proofs.YtagjmphkfeiiiaaW.PrintLast Go.Proofs.YtagjmphkfeiiiaaW.PrintMore Go.Proofs.Ytagjmphkfeiiiaa.Q Go.Proofs.Ytagjmphkfeiiiaa.Ya Go.Proofs.Ytagjmphkfeiiiaa.Yb Go.Proofs.Ytagjmphkfeiiiaa.Yc Go.Proofs.Ytagjmphkfeiiiaa.Yd Go.Proofs.Ytagjmphkfeiiiaa.Yh Go.Proofs.Ytagjmphkfeiiiaa.Yi Go.Proofs.Ytagjmphkfeiiiaa.Yw Go.Proofs.Ytagjmphkfeiiiaa.Ym
theorem wire_ne {c d : C} {n m : Int} (h : Ok c n) (k : Ok d m) (hn : n ≠ m) : ((strOfNums (wire c n)).toList = (strOfNums (wire d m)).toList) = False := by
  refine eq_false (fun e => hn ?_)
  have := str_inj (wire_bytes h) (wire_bytes k) (toList_inj e)
  exact (wire_inj (r := []) h k (by rw [List.append_nil]; exact this)).2.1
theorem wire_same {c d : C} {n : Int} (h : Ok c n) (k : Ok d n) {r : Bool} (hr : r = true ↔ c = d) : (((strOfNums (wire c n)).toList == (strOfNums (wire d n)).toList) == r) = true := by
  rw [beq_iff_eq]
  by_cases e : c = d
  · subst e
    rw [hr.2 rfl, beq_self_eq_true]
  · have : r = false := by cases r with | false => rfl | true => exact absurd (hr.1 rfl) e
    rw [this]
    refine beq_eq_false_iff_ne.2 (fun h' => e ?_)
    have := str_inj (wire_bytes h) (wire_bytes k) (toList_inj h')
    exact (wire_inj (r := []) h k (by rw [List.append_nil]; exact this)).2.2
theorem apart_ev (a0 a1 a2 : Int) (l3 : List Int) (a4 a5 a6 : Int) (a7 : ByteArray) : Ev (fun k => federationlaw7_CmdApart.f k a0 a1 a2 l3 a4 a5 a6 a7) true := by
  unfold federationlaw7_CmdApart.f
  refine Ev.bind known_ev ?_
  simp only [if_true]
  by_cases hs : (a7.size : Int) > 100
  · simp only [if_pos hs]
    exact Ev.now _
  · simp only [if_neg hs]
    obtain ⟨c, e, hr, hi, ht⟩ := make_ev a0 a1 a2 l3 a7 (by omega)
    obtain ⟨d, e', hr', hi', ht'⟩ := make_ev a4 a5 a6 l3 a7 (by omega)
    refine Ev.bind e ?_
    refine Ev.bind e' ?_
    dsimp only
    refine Ev.bind (enc_ev c 2 hi ht) ?_
    refine Ev.bind (enc_ev d 2 hi' ht') ?_
    refine Ev.bind (enc_ev c 1 hi ht) ?_
    refine Ev.bind (enc_ev d 1 hi' ht') ?_
    obtain ⟨r, es, hsame⟩ := same_ev c d (wslen hr)
    refine Ev.bind es ?_
    have oc := ok2 hr hi ht
    have od := ok2 hr' hi' ht'
    rw [enc_snd oc.may, enc_snd od.may]
    simp only [wire_same oc od hsame, if_true]
    by_cases h5 : c.kind = 5
    · rw [enc_none (may5 h5)]
      simp only [Bool.false_eq_true, if_false]
      exact Ev.now _
    · have oc1 := ok1 hr hi ht h5
      have n1 : ((strOfNums (wire c 1)).toList = (strOfNums (wire c 2)).toList) = False := wire_ne oc1 oc (by decide)
      have n2 : ((strOfNums (wire c 1)).toList != (strOfNums (wire d 2)).toList) = true := bne_iff_ne.2 (of_eq_false (wire_ne oc1 od (by decide)))
      rw [enc_snd oc1.may]
      by_cases h5' : d.kind = 5
      · rw [enc_none (may5 h5')]
        simp only [Bool.false_eq_true, if_false, if_true, n1, n2]
        exact Ev.now _
      · have od1 := ok1 hr' hi' ht' h5'
        rw [enc_snd od1.may]
        simp only [if_true]
        refine Ev.bind es ?_
        simp only [wire_same oc1 od1 hsame, if_true, n1, n2, if_false]
        exact Ev.now _
end Go.Proofs.Ytagjmphkfeiiiaa.Yu
