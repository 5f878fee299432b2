/-
  The law CmdUp, without the program's text: what Up makes of either form is the second form; conditions: none.
-/
import Derived.Test.YtagjmphkfeiiiaaQx14
import Derived.Test.YtagjmphkfeiiiaaYm
namespace Go.Proofs.Ytagjmphkfeiiiaa.Yp
open Go.RowKit Go.Proofs.YtagjmphkfeiiiaaW.PrintWords Go.Proofs.YtagjmphkfeiiiaaW.PrintLast Go.Proofs.YtagjmphkfeiiiaaW.PrintMore Go.Proofs.Ytagjmphkfeiiiaa.Q Go.Proofs.Ytagjmphkfeiiiaa.Ya Go.Proofs.Ytagjmphkfeiiiaa.Yb Go.Proofs.Ytagjmphkfeiiiaa.Yc Go.Proofs.Ytagjmphkfeiiiaa.Yd Go.Proofs.Ytagjmphkfeiiiaa.Yh Go.Proofs.Ytagjmphkfeiiiaa.Yi Go.Proofs.Ytagjmphkfeiiiaa.Yw Go.Proofs.Ytagjmphkfeiiiaa.Ym
theorem j0_ev (c : C) (hr : right c = true) (hi : c.id < 9223372036854775808) (ht : c.txn < 9223372036854775808) :
    Ev (fun k => federationlaw7_CmdUp.j0 k (enc c 1).1 (strOfNums (wire c 2)) false c.kind c.id c.txn c.com c.ws c.text) true := by
  refine Ev.succ ?_
  simp only [federationlaw7_CmdUp.j0, Bool.false_eq_true, if_false]
  by_cases h5 : c.kind = 5
  · rw [enc_none (may5 h5)]
    refine Ev.bind (up_none _ decode_nil) ?_
    simp only [h5, if_true, Bool.false_eq_true, if_false, tl_nil]
    exact Ev.now _
  · have o1 := ok1 hr hi ht h5
    rw [enc_snd o1.may]
    refine Ev.bind (up_ok c 1 o1) ?_
    rw [enc_snd (ok2 hr hi ht).may]
    simp only [h5, if_true, if_false]
    refine Ev.bind (decode_ok c 2 (ok2 hr hi ht)) ?_
    simp only [res, if_true]
    refine Ev.bind (same_true c (wslen hr)) ?_
    exact Ev.now _
theorem up_ev (a0 a1 a2 : Int) (l3 : List Int) (a4 : ByteArray) : Ev (fun k => federationlaw7_CmdUp.f k a0 a1 a2 l3 a4) true := by
  unfold federationlaw7_CmdUp.f
  refine Ev.bind known_ev ?_
  simp only [if_true]
  by_cases hs : (a4.size : Int) > 100
  · simp only [if_pos hs]
    exact Ev.now _
  · simp only [if_neg hs]
    obtain ⟨c, e, hr, hi, ht⟩ := make_ev a0 a1 a2 l3 a4 (by omega)
    refine Ev.bind e ?_
    dsimp only
    refine Ev.bind (enc_ev c 1 hi ht) ?_
    refine Ev.bind (enc_ev c 2 hi ht) ?_
    rw [enc_snd (ok2 hr hi ht).may]
    refine Ev.bind (up_ok c 2 (ok2 hr hi ht)) ?_
    rw [enc_snd (ok2 hr hi ht).may]
    simp only [if_true, bne_self_eq_false]
    exact j0_ev c hr hi ht
end Go.Proofs.Ytagjmphkfeiiiaa.Yp
