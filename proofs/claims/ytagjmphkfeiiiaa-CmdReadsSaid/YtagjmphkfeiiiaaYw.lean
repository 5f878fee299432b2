/-
  The laws' own 'known' and 'within'; conditions: n is not 0, and not too great.
-/
import Derived.Test.YtagjmphkfeiiiaaQx9
import Derived.Test.YtagjmphkfeiiiaaQx10
import Derived.Test.YtagjmphkfeiiiaaYi
namespace Go.Proofs.Ytagjmphkfeiiiaa.Yw
open Go.RowKit Go.Proofs.YtagjmphkfeiiiaaW.PrintWords Go.Proofs.YtagjmphkfeiiiaaW.PrintLast Go.Proofs.YtagjmphkfeiiiaaW.PrintMore Go.Proofs.Ytagjmphkfeiiiaa.Q Go.Proofs.Ytagjmphkfeiiiaa.Ya Go.Proofs.Ytagjmphkfeiiiaa.Yb Go.Proofs.Ytagjmphkfeiiiaa.Yc Go.Proofs.Ytagjmphkfeiiiaa.Yd Go.Proofs.Ytagjmphkfeiiiaa.Yi
theorem known_ev : Ev (fun k => federationlaw7_known.f k) true := by
  unfold federationlaw7_known.f
  refine Ev.bind (g := fun k => cmd_Decode.f k (⟨#[]⟩ : ByteArray)) decode_nil ?_
  refine Ev.bind (g := fun k => cmd_Encode.f k 1 300 3 false ([] : List S40) (⟨#[]⟩ : ByteArray) 1) (enc_ev c0 1 (by decide) (by decide)) ?_
  rw [enc_snd c0_ok1.may]
  dsimp only
  refine Ev.bind (up_ok c0 1 c0_ok1) ?_
  rw [enc_snd c0_ok2.may]
  dsimp only
  refine Ev.bind (decode_ok c0 2 c0_ok2) ?_
  refine Ev.bind (g := fun k => cmd_Encode.f k 5 0 0 false ([] : List S40) (⟨#[]⟩ : ByteArray) 1) (enc_ev cN 1 (by decide) (by decide)) ?_
  rw [enc_none may_cN]
  refine Ev.congr (f := fun k => (federationref7_Same.f k c0.kind c0.id c0.txn c0.com c0.ws c0.text c0.kind c0.id c0.txn c0.com c0.ws c0.text).bind fun t390 => if t390 = true then some true else some false) (fun k => ?_) (Ev.bind (same_true c0 (by decide)) (Ev.now _))
  rw [if_neg (by decide), if_pos rfl, if_pos (by rw [str_size, wire_c0]; rfl), if_pos rfl, if_pos (show (res c0 2).2.2.2.2.2.2.2 = true from rfl), if_pos (show (res c0 2).2.2.2.2.2.2.1 = 2 from rfl)]
  rfl
theorem tmod_bounds (a b : Int) (hb : 0 < b) : -b < Int.tmod a b ∧ Int.tmod a b < b := by
  have h1 := Int.tmod_lt_of_pos a hb
  have h2 := Int.lt_tmod_of_pos a hb
  exact ⟨h2, h1⟩
theorem within_some (a b : Int) (hb : 0 < b) (hb2 : b < 9223372036854775808) : ∃ v, federationlaw7_within.f a b = some v ∧ 0 ≤ v ∧ v < b := by
  obtain ⟨h1, h2⟩ := tmod_bounds a b hb
  unfold federationlaw7_within.f
  rw [if_neg (by omega)]
  by_cases h : Int.tmod a b < 0
  · rw [if_pos h]
    have e : wrap64 (Int.tmod a b + b) = Int.tmod a b + b := by unfold wrap64; omega
    exact ⟨_, by rw [e], by omega, by omega⟩
  · rw [if_neg h]
    exact ⟨_, rfl, by omega, h2⟩
end Go.Proofs.Ytagjmphkfeiiiaa.Yw
