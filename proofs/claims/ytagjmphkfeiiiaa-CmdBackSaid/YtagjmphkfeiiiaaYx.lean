/-
  The law CmdBack, without the program's text: what Encode makes is what the reference makes, and is read as it was; conditions: none.
-/
import Derived.Test.YtagjmphkfeiiiaaQx26
import Derived.Test.YtagjmphkfeiiiaaYm
import Derived.Test.YtagjmphkfeiiiaaYr
namespace Go.Proofs.Ytagjmphkfeiiiaa.Yx
open Go.RowKit Go.Proofs.YtagjmphkfeiiiaaW.PrintWords Go.Proofs.YtagjmphkfeiiiaaW.PrintLast Go.Proofs.YtagjmphkfeiiiaaW.PrintMore Go.Proofs.Ytagjmphkfeiiiaa.Q Go.Proofs.Ytagjmphkfeiiiaa.Ya Go.Proofs.Ytagjmphkfeiiiaa.Yb Go.Proofs.Ytagjmphkfeiiiaa.Yc Go.Proofs.Ytagjmphkfeiiiaa.Yd Go.Proofs.Ytagjmphkfeiiiaa.Yh Go.Proofs.Ytagjmphkfeiiiaa.Yi Go.Proofs.Ytagjmphkfeiiiaa.Yw Go.Proofs.Ytagjmphkfeiiiaa.Ym
theorem j0_ev (c : C) (n : Int) (hn : n = 1 ∨ n = 2) (hr : right c = true) (hi : c.id < 9223372036854775808) (ht : c.txn < 9223372036854775808) :
    Ev (fun k => federationlaw7_CmdBack.j0 k n (enc c n).1 (enc c n).2 false c.kind c.id c.txn c.com c.ws c.text) true := by
  refine Ev.succ ?_
  simp only [federationlaw7_CmdBack.j0, Bool.false_eq_true, if_false]
  cases hm : may c n with
  | false =>
    rw [enc_none hm]
    simp only [Bool.false_eq_true, if_false, tl_nil]
    exact Ev.now _
  | true =>
    have o : Ok c n := ⟨hm, hi, ht, hn⟩
    rw [enc_snd hm]
    simp only [if_true]
    refine Ev.bind (decode_ok c n o) ?_
    simp only [res, if_true]
    refine Ev.bind (same_true c (wslen hr)) ?_
    exact Ev.now _
theorem back_ev (a0 a1 a2 : Int) (l3 : List Int) (a4 : ByteArray) (a5 : Int) : Ev (fun k => federationlaw7_CmdBack.f k a0 a1 a2 l3 a4 a5) true := by
  unfold federationlaw7_CmdBack.f
  refine Ev.bind known_ev ?_
  simp only [if_true]
  by_cases hs : (a4.size : Int) > 200
  · simp only [if_pos hs]
    exact Ev.now _
  · simp only [if_neg hs]
    obtain ⟨c, e, hr, hi, ht⟩ := make_ev a0 a1 a2 l3 a4 (by omega)
    refine Ev.bind e ?_
    dsimp only
    obtain ⟨v, hv, hv0, hv1⟩ := within_some a5 2 (by decide) (by decide)
    rw [hv]
    simp only [Option.bind_some]
    have hw : wrap64 (1 + v) = 1 + v := by unfold wrap64; omega
    rw [hw]
    obtain ⟨n, hn⟩ : ∃ n : Int, n = 1 + v := ⟨_, rfl⟩
    have hn2 : n = 1 ∨ n = 2 := by omega
    rw [← hn]
    clear hn hw hv hv0 hv1
    refine Ev.bind (enc_ev c n hi ht) ?_
    refine Ev.bind (Yr.Encode_ev c n hi ht) ?_
    simp only [bne_self_eq_false, Bool.false_eq_true, if_false, if_true]
    have hj := j0_ev c n hn2 hr hi ht
    by_cases h1 : n = 1
    · simp only [if_pos h1]
      have e1 : ((enc c n).2 == (c.kind == 5)) = false := by
        rw [enc_2]
        unfold may
        rw [hr]
        by_cases h5 : c.kind = 5 <;> simp [h1, h5]
      rw [e1]
      exact hj
    · simp only [if_neg h1]
      have h2 : n = 2 := by omega
      have e1 : ((enc c n).2 == false) = false := by
        rw [enc_2]
        unfold may
        rw [hr]
        simp [h2]
      rw [e1]
      exact hj
end Go.Proofs.Ytagjmphkfeiiiaa.Yx
