/-
  The law CmdOwn, without the program's text: what a command says does not hang on what is done to it later; conditions: none.
-/
import Derived.Test.YtagjmphkfeiiiaaQx19
import Derived.Test.YtagjmphkfeiiiaaYm
namespace Go.Proofs.Ytagjmphkfeiiiaa.Yo
open Go.RowKit Go.Proofs.YtagjmphkfeiiiaaW.PrintWords Go.Proofs.YtagjmphkfeiiiaaW.PrintLast Go.Proofs.YtagjmphkfeiiiaaW.PrintMore Go.Proofs.Ytagjmphkfeiiiaa.Q Go.Proofs.Ytagjmphkfeiiiaa.Ya Go.Proofs.Ytagjmphkfeiiiaa.Yb Go.Proofs.Ytagjmphkfeiiiaa.Yc Go.Proofs.Ytagjmphkfeiiiaa.Yd Go.Proofs.Ytagjmphkfeiiiaa.Yh Go.Proofs.Ytagjmphkfeiiiaa.Yi Go.Proofs.Ytagjmphkfeiiiaa.Yw Go.Proofs.Ytagjmphkfeiiiaa.Ym
theorem loop (c : C) (o2 : Ok c 2) (hw : c.ws.length ≤ 140737488355328) (K I T : Int) (B : Bool) (tx : ByteArray) : ∀ (d i : Nat) (ws : List S40), i + d = ws.length → ws.length ≤ 140737488355328 →
    Ev (fun k => federationlaw7_CmdOwn.l0 k (strOfNums (wire c 2)) (i : Int) c.kind c.id c.txn c.com c.ws c.text c.kind c.id c.txn c.com c.ws c.text K I T B ws tx) true := by
  intro d
  induction d with
  | zero =>
    intro i ws hi _
    refine Ev.succ ?_
    simp only [federationlaw7_CmdOwn.l0]
    simp only [if_neg (show ¬ (i : Int) < (ws.length : Int) by omega)]
    refine Ev.bind (decode_ok c 2 o2) ?_
    simp only [res, if_true]
    refine Ev.bind (same_true c hw) ?_
    simp only [if_true]
    refine Ev.bind (same_true c hw) ?_
    exact Ev.now _
  | succ d ih =>
    intro i ws hi hl
    refine Ev.succ ?_
    simp only [federationlaw7_CmdOwn.l0]
    simp only [if_pos (show (i : Int) < (ws.length : Int) by omega), if_pos (show (0 : Int) ≤ (i : Int) by omega), wrap_succ i ws.length (by omega) hl]
    exact ih (i + 1) _ (by rw [List.length_set]; omega) (by rw [List.length_set]; exact hl)
theorem own_ev (a0 a1 a2 : Int) (l3 : List Int) (a4 : ByteArray) : Ev (fun k => federationlaw7_CmdOwn.f k a0 a1 a2 l3 a4) true := by
  unfold federationlaw7_CmdOwn.f
  refine Ev.bind known_ev ?_
  simp only [if_true]
  by_cases hs : (a4.size : Int) > 60
  · simp only [if_pos hs]
    exact Ev.now _
  · simp only [if_neg hs]
    obtain ⟨c, e, hr, hi, ht⟩ := make_ev a0 a1 a2 l3 a4 (by omega)
    refine Ev.bind e ?_
    refine Ev.bind e ?_
    dsimp only
    refine Ev.bind (enc_ev c 2 hi ht) ?_
    rw [enc_snd (ok2 hr hi ht).may]
    dsimp only
    refine Ev.bind (decode_ok c 2 (ok2 hr hi ht)) ?_
    simp only [res]
    exact loop c (ok2 hr hi ht) (wslen hr) _ _ _ _ _ c.ws.length 0 c.ws (by omega) (wslen hr)
end Go.Proofs.Ytagjmphkfeiiiaa.Yo
