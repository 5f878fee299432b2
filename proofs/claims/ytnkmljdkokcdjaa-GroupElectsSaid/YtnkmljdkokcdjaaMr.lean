/-
  Closed runs of groups, evaluated (second half); what the settled groups of the law GroupElects come to.
-/
import Derived.KernelRfl
import Derived.Test.YtnkmljdkokcdjaaMq
set_option linter.unusedVariables false
set_option linter.unusedSimpArgs false
namespace Go.Proofs.Ytnkmljdkokcdjaa
open Go Go.RowKit Fed
set_option linter.unusedVariables false
theorem eOk_ttttt : ((List.range 11).all fun m => eOk [true, true, true, true, true] m) = true := by kernel_rfl
theorem eOk_ttttf : ((List.range 11).all fun m => eOk [true, true, true, true, false] m) = true := by kernel_rfl
theorem eOk_tttft : ((List.range 11).all fun m => eOk [true, true, true, false, true] m) = true := by kernel_rfl
theorem eOk_tttff : ((List.range 11).all fun m => eOk [true, true, true, false, false] m) = true := by kernel_rfl
theorem eOk_ttftt : ((List.range 11).all fun m => eOk [true, true, false, true, true] m) = true := by kernel_rfl
theorem eOk_ttftf : ((List.range 11).all fun m => eOk [true, true, false, true, false] m) = true := by kernel_rfl
theorem eOk_ttfft : ((List.range 11).all fun m => eOk [true, true, false, false, true] m) = true := by kernel_rfl
theorem eOk_tfttt : ((List.range 11).all fun m => eOk [true, false, true, true, true] m) = true := by kernel_rfl
end Go.Proofs.Ytnkmljdkokcdjaa
namespace Go.Proofs.Ytnkmljdkokcdjaa
open Go Go.RowKit Fed
set_option linter.unusedVariables false
theorem eOk_tfttf : ((List.range 11).all fun m => eOk [true, false, true, true, false] m) = true := by kernel_rfl
theorem eOk_tftft : ((List.range 11).all fun m => eOk [true, false, true, false, true] m) = true := by kernel_rfl
theorem eOk_tfftt : ((List.range 11).all fun m => eOk [true, false, false, true, true] m) = true := by kernel_rfl
theorem eOk_ftttt : ((List.range 11).all fun m => eOk [false, true, true, true, true] m) = true := by kernel_rfl
theorem eOk_ftttf : ((List.range 11).all fun m => eOk [false, true, true, true, false] m) = true := by kernel_rfl
theorem eOk_fttft : ((List.range 11).all fun m => eOk [false, true, true, false, true] m) = true := by kernel_rfl
theorem eOk_ftftt : ((List.range 11).all fun m => eOk [false, true, false, true, true] m) = true := by kernel_rfl
theorem eOk_ffttt : ((List.range 11).all fun m => eOk [false, false, true, true, true] m) = true := by kernel_rfl
end Go.Proofs.Ytnkmljdkokcdjaa
namespace Go.Proofs.Ytnkmljdkokcdjaa
open Go Go.RowKit Fed
set_option linter.unusedVariables false
theorem eOk_all (us : List Bool) (h1 : 1 ≤ us.length) (h5 : us.length ≤ 5) (hm : us.length < 2 * countT us) : ((List.range 11).all fun m => eOk us m) = true := by
  match us, h1, h5, hm with
  | [true], _, _, h => exact eOk_t
  | [false], _, _, h => exact absurd h (by decide)
  | [true, true], _, _, h => exact eOk_tt
  | [true, false], _, _, h => exact absurd h (by decide)
  | [false, true], _, _, h => exact absurd h (by decide)
  | [false, false], _, _, h => exact absurd h (by decide)
  | [true, true, true], _, _, h => exact eOk_ttt
  | [true, true, false], _, _, h => exact eOk_ttf
  | [true, false, true], _, _, h => exact eOk_tft
  | [true, false, false], _, _, h => exact absurd h (by decide)
  | [false, true, true], _, _, h => exact eOk_ftt
  | [false, true, false], _, _, h => exact absurd h (by decide)
  | [false, false, true], _, _, h => exact absurd h (by decide)
  | [false, false, false], _, _, h => exact absurd h (by decide)
  | [true, true, true, true], _, _, h => exact eOk_tttt
  | [true, true, true, false], _, _, h => exact eOk_tttf
  | [true, true, false, true], _, _, h => exact eOk_ttft
  | [true, true, false, false], _, _, h => exact absurd h (by decide)
  | [true, false, true, true], _, _, h => exact eOk_tftt
  | [true, false, true, false], _, _, h => exact absurd h (by decide)
  | [true, false, false, true], _, _, h => exact absurd h (by decide)
  | [true, false, false, false], _, _, h => exact absurd h (by decide)
  | [false, true, true, true], _, _, h => exact eOk_fttt
  | [false, true, true, false], _, _, h => exact absurd h (by decide)
  | [false, true, false, true], _, _, h => exact absurd h (by decide)
  | [false, true, false, false], _, _, h => exact absurd h (by decide)
  | [false, false, true, true], _, _, h => exact absurd h (by decide)
  | [false, false, true, false], _, _, h => exact absurd h (by decide)
  | [false, false, false, true], _, _, h => exact absurd h (by decide)
  | [false, false, false, false], _, _, h => exact absurd h (by decide)
  | [true, true, true, true, true], _, _, h => exact eOk_ttttt
  | [true, true, true, true, false], _, _, h => exact eOk_ttttf
  | [true, true, true, false, true], _, _, h => exact eOk_tttft
  | [true, true, true, false, false], _, _, h => exact eOk_tttff
  | [true, true, false, true, true], _, _, h => exact eOk_ttftt
  | [true, true, false, true, false], _, _, h => exact eOk_ttftf
  | [true, true, false, false, true], _, _, h => exact eOk_ttfft
  | [true, true, false, false, false], _, _, h => exact absurd h (by decide)
  | [true, false, true, true, true], _, _, h => exact eOk_tfttt
  | [true, false, true, true, false], _, _, h => exact eOk_tfttf
  | [true, false, true, false, true], _, _, h => exact eOk_tftft
  | [true, false, true, false, false], _, _, h => exact absurd h (by decide)
  | [true, false, false, true, true], _, _, h => exact eOk_tfftt
  | [true, false, false, true, false], _, _, h => exact absurd h (by decide)
  | [true, false, false, false, true], _, _, h => exact absurd h (by decide)
  | [true, false, false, false, false], _, _, h => exact absurd h (by decide)
  | [false, true, true, true, true], _, _, h => exact eOk_ftttt
  | [false, true, true, true, false], _, _, h => exact eOk_ftttf
  | [false, true, true, false, true], _, _, h => exact eOk_fttft
  | [false, true, true, false, false], _, _, h => exact absurd h (by decide)
  | [false, true, false, true, true], _, _, h => exact eOk_ftftt
  | [false, true, false, true, false], _, _, h => exact absurd h (by decide)
  | [false, true, false, false, true], _, _, h => exact absurd h (by decide)
  | [false, true, false, false, false], _, _, h => exact absurd h (by decide)
  | [false, false, true, true, true], _, _, h => exact eOk_ffttt
  | [false, false, true, true, false], _, _, h => exact absurd h (by decide)
  | [false, false, true, false, true], _, _, h => exact absurd h (by decide)
  | [false, false, true, false, false], _, _, h => exact absurd h (by decide)
  | [false, false, false, true, true], _, _, h => exact absurd h (by decide)
  | [false, false, false, true, false], _, _, h => exact absurd h (by decide)
  | [false, false, false, false, true], _, _, h => exact absurd h (by decide)
  | [false, false, false, false, false], _, _, h => exact absurd h (by decide)
  | _ :: _ :: _ :: _ :: _ :: _ :: _, _, h, _ => simp at h
theorem eOk_of {us : List Bool} (h1 : 1 ≤ us.length) (h5 : us.length ≤ 5) (hm : us.length < 2 * countT us) {m : Nat} (h10 : m ≤ 10) : 0 ≤ (e1 us).leader ∧ (e1 us).isUp (e1 us).leader = true ∧ (e2 us tok m).propOk (e1 us).leader = true ∧ (e3 us tok m).leader = (e1 us).leader ∧
    ∀ i, i < us.length → (e3 us tok m).isUp (i : Int) = us.getD i false ∧ (us.getD i false = true → (e3 us tok m).applied (i : Int) = toks m) := by
  have h := eOk_all us h1 h5 hm
  rw [List.all_eq_true] at h
  have h2 := h m (List.mem_range.2 (by omega))
  unfold eOk at h2
  simp only [Bool.and_eq_true, decide_eq_true_eq] at h2
  refine ⟨h2.1.1.1.1, h2.1.1.1.2, h2.1.1.2, h2.1.2, fun i hi => ?_⟩
  have h3 := h2.2
  rw [List.all_eq_true] at h3
  have h4 := h3 i (List.mem_range.2 hi)
  simp only [Bool.and_eq_true, Bool.or_eq_true, beq_iff_eq, Bool.not_eq_true', decide_eq_true_eq] at h4
  refine ⟨h4.1, fun hu => ?_⟩
  rcases h4.2 with h | h
  · rw [hu] at h; cases h
  · exact h
/-- A token becomes what is handed. -/
def fmap (F : Nat → ByteArray) (d : ByteArray) : ByteArray := if d = tok 0 then F 0 else if d = tok 1 then F 1 else if d = tok 2 then F 2 else if d = tok 3 then F 3 else if d = tok 4 then F 4 else if d = tok 5 then F 5 else if d = tok 6 then F 6 else if d = tok 7 then F 7 else if d = tok 8 then F 8 else if d = tok 9 then F 9 else d
theorem tok_ne : ∀ i, i < 10 → ∀ j, j < 10 → i ≠ j → tok i ≠ tok j := by
  intro i hi j hj hne h
  have h1 : (tok i).data.toList = (tok j).data.toList := by rw [h]
  simp only [tok, List.cons.injEq, and_true] at h1
  have h2 := congrArg UInt8.toNat h1
  simp only [UInt8.toNat_ofNat'] at h2
  omega
theorem fmap_tok (F : Nat → ByteArray) : ∀ i, i < 10 → fmap F (tok i) = F i := by
  intro i hi
  have h : i = 0 ∨ i = 1 ∨ i = 2 ∨ i = 3 ∨ i = 4 ∨ i = 5 ∨ i = 6 ∨ i = 7 ∨ i = 8 ∨ i = 9 := by omega
  rcases h with rfl | rfl | rfl | rfl | rfl | rfl | rfl | rfl | rfl | rfl <;> unfold fmap <;> simp [tok_ne]
theorem tok_empty (i : Nat) : (⟨#[]⟩ : ByteArray) ≠ tok i := by
  intro h
  have h1 : (⟨#[]⟩ : ByteArray).data.toList = (tok i).data.toList := by rw [h]
  simp [tok] at h1
theorem fmap_empty (F : Nat → ByteArray) : fmap F ⟨#[]⟩ = ⟨#[]⟩ := by unfold fmap; simp [tok_empty]
theorem tok_notEmpty : ∀ i, i < 10 → (tok i).toList.isEmpty = false := by
  intro i hi
  have h : i = 0 ∨ i = 1 ∨ i = 2 ∨ i = 3 ∨ i = 4 ∨ i = 5 ∨ i = 6 ∨ i = 7 ∨ i = 8 ∨ i = 9 := by omega
  rcases h with rfl | rfl | rfl | rfl | rfl | rfl | rfl | rfl | rfl | rfl <;> decide +kernel
theorem letter_notEmpty : ∀ i, i < 6 → (letter i).toList.isEmpty = false := by
  intro i hi
  have h : i = 0 ∨ i = 1 ∨ i = 2 ∨ i = 3 ∨ i = 4 ∨ i = 5 := by omega
  rcases h with rfl | rfl | rfl | rfl | rfl | rfl <;> decide +kernel
theorem fmap_isEmpty (F : Nat → ByteArray) (hF : ∀ j, (F j).toList.isEmpty = false) (d : ByteArray) : (fmap F d).toList.isEmpty = d.toList.isEmpty := by
  unfold fmap
  repeat' split
  all_goals first
    | rfl
    | (rename_i h; rw [h, hF]; exact (tok_notEmpty _ (by decide)).symm)
theorem mapG_new (f : ByteArray → ByteArray) (us : List Bool) : mapG f ⟨(GS.new us.length).ns, us, []⟩ = ⟨(GS.new us.length).ns, us, []⟩ := by
  unfold mapG GS.new
  simp only [List.map_map, List.map_nil]
  congr 1
  exact List.map_congr_left fun j _ => by show mapN f (newN (j : Int) us.length 1) = newN (j : Int) us.length 1; unfold newN; rfl
theorem e1_map (F : Nat → ByteArray) (us : List Bool) : mapG (fmap F) (e1 us) = e1 us := by
  unfold e1
  rw [← settle_map (fmap_empty F), mapG_new]
theorem e2_map (F : Nat → ByteArray) (us : List Bool) : ∀ m, m ≤ 10 → e2 us F m = mapG (fmap F) (e2 us tok m)
  | 0, _ => (e1_map F us).symm
  | m + 1, h => by
    show (e2 us F m).prop (e1 us).leader (F m) = _
    rw [e2_map F us m (by omega), ← fmap_tok F m (by omega), prop_map]
    rfl
theorem e3_map (F : Nat → ByteArray) (us : List Bool) (m : Nat) (h : m ≤ 10) : e3 us F m = mapG (fmap F) (e3 us tok m) := by
  unfold e3
  rw [e2_map F us m h, settle_map (fmap_empty F)]
theorem elects_facts {us : List Bool} (h1 : 1 ≤ us.length) (h5 : us.length ≤ 5) (hm : us.length < 2 * countT us) (F : Nat → ByteArray) (hF : ∀ j, (F j).toList.isEmpty = false) {m : Nat} (h10 : m ≤ 10) :
    0 ≤ (e1 us).leader ∧ (e1 us).isUp (e1 us).leader = true ∧ (e2 us F m).propOk (e1 us).leader = true ∧ (e3 us F m).leader = (e1 us).leader ∧
    ∀ i, i < us.length → (e3 us F m).isUp (i : Int) = us.getD i false ∧ (us.getD i false = true → (e3 us F m).applied (i : Int) = (List.range m).map F) := by
  obtain ⟨a1, a2, a3, a4, a5⟩ := eOk_of h1 h5 hm h10
  refine ⟨a1, a2, by rw [e2_map F us m h10, propOk_map]; exact a3, by rw [e3_map F us m h10, leader_map]; exact a4, fun i hi => ⟨by rw [e3_map F us m h10, isUp_map]; exact (a5 i hi).1, fun hu => ?_⟩⟩
  rw [e3_map F us m h10, applied_map (fmap_isEmpty F hF), (a5 i hi).2 hu]
  unfold toks
  rw [List.map_map]
  refine List.map_congr_left fun j hj => ?_
  exact fmap_tok F j (by have := List.mem_range.1 hj; omega)
theorem e1_sys {us : List Bool} (h5 : us.length ≤ 5) : GSys us.length 36301 (e1 us) := by
  have h := (GSys.new us.length).sub (f := []) (fun _ q => q) (by simp) us rfl
  exact (gsys_settle h5 30 1 _ h).mono (by omega)
theorem e2_sys {us : List Bool} (h5 : us.length ≤ 5) (F : Nat → ByteArray) : ∀ m, GSys us.length (36301 + 2 * m) (e2 us F m)
  | 0 => e1_sys h5
  | m + 1 => ((e2_sys h5 F m).prop h5 _ _).mono (by omega)
theorem e3_sys {us : List Bool} (h5 : us.length ≤ 5) (F : Nat → ByteArray) (m : Nat) : GSys us.length (36301 + 2 * m + 14520) (e3 us F m) := (gsys_settle h5 12 _ _ (e2_sys h5 F m)).mono (by omega)
end Go.Proofs.Ytnkmljdkokcdjaa
