/-
  The law CmdKinds, without the program's text: what a command may have beside its numbers hangs on its kind; conditions: none.
-/
import Derived.Test.YtagjmphkfeiiiaaQx12
import Derived.Test.YtagjmphkfeiiiaaYw
namespace Go.Proofs.Ytagjmphkfeiiiaa.Yk
open Go.RowKit Go.Proofs.YtagjmphkfeiiiaaW.PrintWords Go.Proofs.YtagjmphkfeiiiaaW.PrintLast Go.Proofs.YtagjmphkfeiiiaaW.PrintMore Go.Proofs.Ytagjmphkfeiiiaa.Q Go.Proofs.Ytagjmphkfeiiiaa.Ya Go.Proofs.Ytagjmphkfeiiiaa.Yb Go.Proofs.Ytagjmphkfeiiiaa.Yc Go.Proofs.Ytagjmphkfeiiiaa.Yd Go.Proofs.Ytagjmphkfeiiiaa.Yi Go.Proofs.Ytagjmphkfeiiiaa.Yw
theorem tl_t : ((⟨#[116]⟩ : ByteArray).toList == ([] : List UInt8)) = false := by
  rw [toList_eq]
  rfl
theorem may_of (m : Int) (com : Bool) (ws : List S40) (t : ByteArray) (e : Bool) (h0 : 0 ≤ m) (h1 : m ≤ 5) (hw : ws.all okw = true) (hl : ws.length ≤ 1000) (ht : t.size ≤ 40) (he : (t.toList == ([] : List UInt8)) = e) (n : Int) :
    may ⟨m, 1, 1, com, ws, t⟩ n = ((decide (m = 2) || decide (m = 3) || (!com && ws.isEmpty)) && (decide (m = 5) || e) && (decide (n = 1) && !decide (m = 5) || decide (n = 2))) := by
  unfold may right head fin
  simp [h0, h1, hw, hl, ht, he]
def does (m : Int) : Bool := decide (m = 2) || decide (m = 3)
theorem j0_ev (a1 m : Int) (h0 : 0 ≤ m) (h1 : m < 6) : Ev (fun k => federationlaw7_CmdKinds.j0 k a1 (does m) m 1 1 false (⟨#[]⟩ : ByteArray)) true := by
  obtain ⟨j, hj, hj0, hj1⟩ := within_some a1 4 (by decide) (by decide)
  have hE : ((⟨#[]⟩ : ByteArray).toList == ([] : List UInt8)) = true := by rw [tl_nil]; rfl
  have hk : okw (⟨(⟨#[107]⟩ : ByteArray), (⟨#[]⟩ : ByteArray), false⟩ : S40) = true := by decide
  have M0 := fun n => may_of m true [] (⟨#[]⟩ : ByteArray) true h0 (by omega) rfl (by decide) (by decide) hE n
  have M1 := fun n => may_of m false [(⟨(⟨#[107]⟩ : ByteArray), (⟨#[]⟩ : ByteArray), false⟩ : S40)] (⟨#[]⟩ : ByteArray) true h0 (by omega) (by simp [hk]) (by decide) (by decide) hE n
  have M2 := fun n => may_of m false [] (⟨#[116]⟩ : ByteArray) false h0 (by omega) rfl (by decide) (by decide) tl_t n
  have M3 := fun n => may_of m false [] (⟨#[]⟩ : ByteArray) true h0 (by omega) rfl (by decide) (by decide) hE n
  have hm : m = 0 ∨ m = 1 ∨ m = 2 ∨ m = 3 ∨ m = 4 ∨ m = 5 := by omega
  by_cases h0 : j = 0
  · refine Ev.step (f := fun k => (cmd_Encode.f k m 1 1 true ([] : List S40) (⟨#[]⟩ : ByteArray) 2).bind fun bt446 => (cmd_Encode.f k m 1 1 true ([] : List S40) (⟨#[]⟩ : ByteArray) 1).bind fun bt448 => (if (bt446.2 == does m) = true then (if does m = true then (some (bt448.2 == (m != 5))) else (some (bt448.2 == false))) else (some false))) (fun k => ?_) ?_
    · simp only [federationlaw7_CmdKinds.j0, hj, Option.bind_some]
      rw [if_pos h0]
    · refine Ev.bind (enc_ev ⟨m, 1, 1, true, [], (⟨#[]⟩ : ByteArray)⟩ 2 (by dsimp only; decide) (by dsimp only; decide)) ?_
      refine Ev.bind (enc_ev ⟨m, 1, 1, true, [], (⟨#[]⟩ : ByteArray)⟩ 1 (by dsimp only; decide) (by dsimp only; decide)) ?_
      rw [enc_2, enc_2, M0, M0]
      refine Ev.congr (fun k => ?_) (Ev.now true)
      unfold does
      rcases hm with rfl | rfl | rfl | rfl | rfl | rfl <;> rfl
  · by_cases h1 : j = 1
    · refine Ev.step (f := fun k => (cmd_Encode.f k m 1 1 false [(⟨(⟨#[107]⟩ : ByteArray), (⟨#[]⟩ : ByteArray), false⟩ : S40)] (⟨#[]⟩ : ByteArray) 2).bind fun bt446 => (cmd_Encode.f k m 1 1 false [(⟨(⟨#[107]⟩ : ByteArray), (⟨#[]⟩ : ByteArray), false⟩ : S40)] (⟨#[]⟩ : ByteArray) 1).bind fun bt448 => (if (bt446.2 == does m) = true then (if does m = true then (some (bt448.2 == (m != 5))) else (some (bt448.2 == false))) else (some false))) (fun k => ?_) ?_
      · simp only [federationlaw7_CmdKinds.j0, hj, Option.bind_some]
        rw [if_neg h0, if_pos h1]
      · refine Ev.bind (enc_ev ⟨m, 1, 1, false, [(⟨(⟨#[107]⟩ : ByteArray), (⟨#[]⟩ : ByteArray), false⟩ : S40)], (⟨#[]⟩ : ByteArray)⟩ 2 (by dsimp only; decide) (by dsimp only; decide)) ?_
        refine Ev.bind (enc_ev ⟨m, 1, 1, false, [(⟨(⟨#[107]⟩ : ByteArray), (⟨#[]⟩ : ByteArray), false⟩ : S40)], (⟨#[]⟩ : ByteArray)⟩ 1 (by dsimp only; decide) (by dsimp only; decide)) ?_
        rw [enc_2, enc_2, M1, M1]
        refine Ev.congr (fun k => ?_) (Ev.now true)
        unfold does
        rcases hm with rfl | rfl | rfl | rfl | rfl | rfl <;> rfl
    · by_cases h2 : j = 2
      · refine Ev.step (f := fun k => (cmd_Encode.f k m 1 1 false ([] : List S40) (⟨#[116]⟩ : ByteArray) 2).bind fun bt457 => (cmd_Encode.f k m 1 1 false ([] : List S40) (⟨#[116]⟩ : ByteArray) 1).bind fun bt459 => (if (bt457.2 == (m == 5)) = true then (if m = 5 then (some (bt459.2 == (m != 5))) else (some (bt459.2 == false))) else (some false))) (fun k => ?_) ?_
        · simp only [federationlaw7_CmdKinds.j0, hj, Option.bind_some]
          rw [if_neg h0, if_neg h1, if_pos h2]
        · refine Ev.bind (enc_ev ⟨m, 1, 1, false, [], (⟨#[116]⟩ : ByteArray)⟩ 2 (by dsimp only; decide) (by dsimp only; decide)) ?_
          refine Ev.bind (enc_ev ⟨m, 1, 1, false, [], (⟨#[116]⟩ : ByteArray)⟩ 1 (by dsimp only; decide) (by dsimp only; decide)) ?_
          rw [enc_2, enc_2, M2, M2]
          refine Ev.congr (fun k => ?_) (Ev.now true)
          rcases hm with rfl | rfl | rfl | rfl | rfl | rfl <;> rfl
      · refine Ev.step (f := fun k => (cmd_Encode.f k m 1 1 false ([] : List S40) (⟨#[]⟩ : ByteArray) 2).bind fun bt461 => (cmd_Encode.f k m 1 1 false ([] : List S40) (⟨#[]⟩ : ByteArray) 1).bind fun bt463 => (if (bt461.2 == true) = true then (some (bt463.2 == (m != 5))) else (some false))) (fun k => ?_) ?_
        · simp only [federationlaw7_CmdKinds.j0, hj, Option.bind_some]
          rw [if_neg h0, if_neg h1, if_neg h2]
        · refine Ev.bind (enc_ev ⟨m, 1, 1, false, [], (⟨#[]⟩ : ByteArray)⟩ 2 (by dsimp only; decide) (by dsimp only; decide)) ?_
          refine Ev.bind (enc_ev ⟨m, 1, 1, false, [], (⟨#[]⟩ : ByteArray)⟩ 1 (by dsimp only; decide) (by dsimp only; decide)) ?_
          rw [enc_2, enc_2, M3, M3]
          refine Ev.congr (fun k => ?_) (Ev.now true)
          rcases hm with rfl | rfl | rfl | rfl | rfl | rfl <;> rfl
theorem kinds_ev (a0 a1 : Int) : Ev (fun k => federationlaw7_CmdKinds.f k a0 a1) true := by
  obtain ⟨m, hm, hm0, hm1⟩ := within_some a0 6 (by decide) (by decide)
  unfold federationlaw7_CmdKinds.f
  refine Ev.bind known_ev ?_
  rw [hm]
  simp only [Option.bind_some, if_true]
  refine Ev.congr (fun k => ?_) (j0_ev a1 m hm0 hm1)
  unfold does
  by_cases h2 : m = 2
  · rw [if_pos h2]
    simp [h2]
  · rw [if_neg h2]
    simp [h2]
    rfl
end Go.Proofs.Ytagjmphkfeiiiaa.Yk
