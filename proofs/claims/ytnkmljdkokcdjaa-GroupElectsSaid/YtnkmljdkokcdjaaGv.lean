/-
  The law GroupMinor returns true, and writes nothing that was there, for any ints.
-/
import Derived.WalkKit
import Derived.KernelRfl
import Derived.WalkSpells
import Derived.Lib.Hide
import Derived.Outline
import Derived.Test.YtnkmljdkokcdjaaChecked
import Derived.Test.YtnkmljdkokcdjaaMn
import Derived.Test.YtnkmljdkokcdjaaMem
import Derived.Test.YtnkmljdkokcdjaaFed
import Derived.Test.YtnkmljdkokcdjaaGu
import Derived.Deep.DeepCutAuto
import Derived.Deep.CutBlock
import Derived.Deep.OwnRows
import Derived.IntWalk
set_option linter.unusedVariables false
set_option linter.unusedSimpArgs false
namespace Go.Proofs.Ytnkmljdkokcdjaa
open Go.RowKit Fed
set_option linter.unusedVariables false
attribute [local go_sem high] Fed.max2_int Fed.min2_int

theorem settleI (w0 w : World) (g : Nat) (s : GS) (Z : Nat → Prop) (h : GrpAt w0 w g s Z) (k b : Nat) (hk : k ≤ 5) (S : GSys k b s) (R : Int) (rounds : Nat) (hR : R = (rounds : Int)) (hb : b + 1210 * rounds ≤ 100000) :
    Calls Try.prog 38 #[.pointer (some ⟨g, 0, none⟩), .int .i64 R] w fun e w' => e = .returned (.tuple #[]) ∧ GrpAt w0 w' g (settleS rounds s) Z ∧ Stays w w' Z := by
  subst hR
  exact settleG w0 w g s Z h k b hk S rounds hb
/-- The law's states: behind the first settle, the falls, the proposals, the last settle. -/
def m1 (k : Nat) : GS := settleS 30 (GS.new k)
def falls (k e i : Nat) : Bool := (i != 0 && i != 1 + e) || (decide (k < 4) && i != 0)
def m2 (k e : Nat) : Nat → GS
  | 0 => m1 k
  | i + 1 => if falls k e i = true then (m2 k e i).crash (i : Int) else m2 k e i
def m3 (k e : Nat) : Nat → GS
  | 0 => m2 k e k
  | j + 1 => (m3 k e j).prop 0 kx
def m4 (k e j : Nat) : GS := settleS 40 (m3 k e j)
def mOk (k e j : Nat) : Bool := decide ((m1 k).leader = 0) && (m3 k e j).propOk 0 && decide ((m4 k e j).leader = 0) && decide (((m4 k e j).applied 0).length = ((m2 k e k).applied 0).length)
theorem mOk_all : ([2, 3, 4, 5].all fun k => (List.range (k - 1)).all fun e => (List.range 5).all fun j => mOk k e j) = true := by kernel_rfl
theorem mOk_of {k e j : Nat} (h2 : 2 ≤ k) (h5 : k ≤ 5) (he : e < k - 1) (hj : j < 5) : (m1 k).leader = 0 ∧ (m3 k e j).propOk 0 = true ∧ (m4 k e j).leader = 0 ∧ ((m4 k e j).applied 0).length = ((m2 k e k).applied 0).length := by
  have h := mOk_all
  rw [List.all_eq_true] at h
  have h1 := h k (by have : k = 2 ∨ k = 3 ∨ k = 4 ∨ k = 5 := by omega
                     rcases this with rfl | rfl | rfl | rfl <;> simp)
  rw [List.all_eq_true] at h1
  have h3 := h1 e (List.mem_range.2 he)
  rw [List.all_eq_true] at h3
  have h4 := h3 j (List.mem_range.2 hj)
  unfold mOk at h4
  simp only [Bool.and_eq_true, decide_eq_true_eq] at h4
  exact ⟨h4.1.1.1, h4.1.1.2, h4.1.2, h4.2⟩
theorem m2_sys {k e : Nat} (hk : k ≤ 5) : ∀ i, GSys k (36300 + i) (m2 k e i)
  | 0 => (gsys_settle hk 30 0 _ (GSys.new k)).mono (by omega)
  | i + 1 => by
    unfold m2
    split
    · exact (m2_sys hk i).crash (i : Int)
    · exact (m2_sys hk i).mono (by omega)
theorem m3_sys {k e : Nat} (hk : k ≤ 5) : ∀ j, GSys k (36305 + 2 * j) (m3 k e j)
  | 0 => (m2_sys hk k).mono (by omega)
  | j + 1 => ((m3_sys hk j).prop hk 0 kx).mono (by omega)
set_option maxRecDepth 100000 in
set_option maxHeartbeats 40000000 in
theorem minor_law (a0 a1 a2 : Int) (x0 : (Lit.int .i64 a0).wf = true) (x1 : (Lit.int .i64 a1).wf = true) (x2 : (Lit.int .i64 a2).wf = true) (w : World) :
    Calls Try.prog 13 #[.int .i64 a0, .int .i64 a1, .int .i64 a2] w fun e w' => e = .returned (.bool true) ∧ Below w.heap.size w w' := by
  go_enter Try.func13, Try.ntmps13
  go_wp2_with fail
  refine (gknown_any _).mono ?_
  rintro e w1 ⟨rfl, hb1⟩
  have HB1 := Lib.hid hb1
  clear hb1
  go_wp2_with fail
  refine (within9_fn _ a0 4 x0 (by omega) (by omega)).mono ?_
  rintro e w' ⟨rfl, rfl⟩
  have hv := wi_range a0 4 (by omega)
  generalize wi a0 4 = q at hv ⊢
  obtain ⟨q, rfl⟩ : ∃ q' : Nat, q = q' := ⟨q.toNat, by omega⟩
  have hk5 : q < 4 := by omega
  clear hv
  have hws : IntKind.i64.wrap (2 + (q : Int)) = ((q + 2 : Nat) : Int) := by rw [IntWalk.i64_in _ (by omega)]; omega
  go_wp2_with fail
  obtain ⟨K, hK⟩ : ∃ K : Nat, (q : Int) + 2 = K := ⟨q + 2, by omega⟩
  rw [hK]
  have hK1 : 2 ≤ K := by omega
  have hK5 : K ≤ 5 := by omega
  clear hws hk5 hK
  refine (newG w w1 (K : Int) K rfl (by omega) (by omega) HB1.out).mono ?_
  rintro e w2 ⟨g, rfl, h2⟩
  have H2 := Lib.hid h2
  clear h2
  go_wp2_with fail
  refine (settleI w w2 g _ _ H2.out K 0 hK5 (GSys.new K) 30 30 rfl (by omega)).mono ?_
  rintro e w3 ⟨rfl, h3, _⟩
  have H3 := Lib.hid (show GrpAt w w3 g (m2 K 0 0) _ from h3)
  clear h3 H2
  go_wp2_with fail
  refine (leaderG w w3 g _ _ H3.out K ((m2_sys hK5 0).good (by omega)) (by omega) (by omega)).mono ?_
  rintro e w4 ⟨rfl, h4, _⟩
  rw [show (m2 K 0 0).leader = 0 from (mOk_of (e := 0) (j := 0) hK1 hK5 (by omega) (by omega)).1]
  have hwr := wi_range a2 ((K : Int) - 1) (by omega)
  obtain ⟨e, he⟩ : ∃ e : Nat, wi a2 ((K : Int) - 1) = e := ⟨(wi a2 ((K : Int) - 1)).toNat, by omega⟩
  have he1 : e < K - 1 := by omega
  have H4 := Lib.hid (show GrpAt w w4 g (m2 K e 0) _ from h4)
  have HE := Lib.hid he
  clear h4 H3 hwr he
  have hwm : IntKind.i64.wrap ((K : Int) - 1) = (K : Int) - 1 := IntWalk.i64_in _ (by omega)
  have hwe : IntKind.i64.wrap (1 + (e : Int)) = 1 + (e : Int) := IntWalk.i64_in _ (by omega)
  have htm : (1 + (e : Int)).tmod (K : Int) = 1 + (e : Int) := Int.tmod_eq_of_lt (by omega) (by omega)
  have hK0 : ¬ K = 0 := by omega
  have hKi : ¬ (K : Int) = 0 := by omega
  go_wp2_with fail
  go_loopw [10] (fun t10 wr => ∃ i : Nat, i ≤ K ∧ t10 = .int .i64 i ∧ Hid (GrpAt w wr g (m2 K e i) (fun x => x < w1.heap.size))) (fun t10 _ => K - (intOf t10).toNat)
  case atStart => exact ⟨0, by omega, rfl, H4⟩
  case round =>
    clear H4
    obtain ⟨i, hi, rfl, H⟩ := hrel
    by_cases hlt : i < K
    · have hlb : decide ((i : Int) < (K : Int)) = true := decide_eq_true (by omega)
      by_cases hi0 : i = 0
      · have HF := Lib.hid (show m2 K e (i + 1) = m2 K e i from by show (if falls K e i = true then _ else _) = _; rw [if_neg (by rw [hi0]; unfold falls; simp)])
        have hib : ((i : Int) != 0) = false := by rw [hi0]; rfl
        clear hi0
        by_cases hK4 : K < 4
        · have hK4b : decide (K < 4) = true := decide_eq_true hK4
          go_wp2_with fail
          go_roundw
          case rel => exact ⟨i + 1, by omega, by go_num, Lib.hid (by rw [HF.out]; exact H.out)⟩
          case measure => simp [intOf]; omega
        · have hK4b : decide (K < 4) = false := decide_eq_false hK4
          go_wp2_with fail
          go_roundw
          case rel => exact ⟨i + 1, by omega, by go_num, Lib.hid (by rw [HF.out]; exact H.out)⟩
          case measure => simp [intOf]; omega
      · have hib : ((i : Int) != 0) = true := by simp; omega
        by_cases hie : i = 1 + e
        · have hieb : ((i : Int) != 1 + (e : Int)) = false := by rw [hie]; simp
          by_cases hK4 : K < 4
          · have hK4b : decide (K < 4) = true := decide_eq_true hK4
            have HF := Lib.hid (show m2 K e (i + 1) = (m2 K e i).crash (i : Int) from by show (if falls K e i = true then _ else _) = _; rw [if_pos (by unfold falls; simp [hK4]; omega)])
            clear hi0 hie
            go_wp2_with fail
            refine (within9_fn _ a2 ((K : Int) - 1) x2 (by omega) (by omega)).mono ?_
            rintro e' w' ⟨rfl, rfl⟩
            rw [HE.out]
            go_wp2_with fail
            refine (crashG w wr g _ _ H.out K ((m2_sys hK5 i).good (by omega)) (by omega) (i : Int)).mono ?_
            rintro e' w5 ⟨rfl, h5, _⟩
            rw [← HF.out] at h5
            have H5 := Lib.hid h5
            clear h5
            generalize (m2 K e i).isUp (i : Int) = uu
            go_wp2_with fail
            go_roundw
            case rel => exact ⟨i + 1, by omega, by go_num, H5⟩
            case measure => simp [intOf]; omega
          · have hK4b : decide (K < 4) = false := decide_eq_false hK4
            have HF := Lib.hid (show m2 K e (i + 1) = m2 K e i from by show (if falls K e i = true then _ else _) = _; rw [if_neg (by unfold falls; simp [hK4]; omega)])
            clear hi0 hie
            go_wp2_with fail
            refine (within9_fn _ a2 ((K : Int) - 1) x2 (by omega) (by omega)).mono ?_
            rintro e' w' ⟨rfl, rfl⟩
            rw [HE.out]
            go_wp2_with fail
            go_roundw
            case rel => exact ⟨i + 1, by omega, by go_num, Lib.hid (by rw [HF.out]; exact H.out)⟩
            case measure => simp [intOf]; omega
        · have hieb : ((i : Int) != 1 + (e : Int)) = true := by simp; omega
          have HF := Lib.hid (show m2 K e (i + 1) = (m2 K e i).crash (i : Int) from by show (if falls K e i = true then _ else _) = _; rw [if_pos (by unfold falls; simp; omega)])
          clear hi0 hie
          go_wp2_with fail
          refine (within9_fn _ a2 ((K : Int) - 1) x2 (by omega) (by omega)).mono ?_
          rintro e' w' ⟨rfl, rfl⟩
          rw [HE.out]
          go_wp2_with fail
          refine (crashG w wr g _ _ H.out K ((m2_sys hK5 i).good (by omega)) (by omega) (i : Int)).mono ?_
          rintro e' w5 ⟨rfl, h5, _⟩
          rw [← HF.out] at h5
          have H5 := Lib.hid h5
          clear h5
          generalize (m2 K e i).isUp (i : Int) = uu
          go_wp2_with fail
          go_roundw
          case rel => exact ⟨i + 1, by omega, by go_num, H5⟩
          case measure => simp [intOf]; omega
    · have hlb : decide ((i : Int) < (K : Int)) = false := decide_eq_false (by omega)
      obtain rfl : i = K := by omega
      have SS := Lib.hid (m2_sys (e := e) hK5 i)
      have GO := Lib.hid (SS.out.good (by omega))
      go_wp2_with fail
      go_loopw [11, 12] (fun t11 t12 wr => ∃ j u : Nat, j ≤ i ∧ u ≤ j ∧ t11 = .int .i64 u ∧ t12 = .int .i64 j ∧ Hid (GrpAt w wr g (m2 i e i) (fun x => x < w1.heap.size))) (fun _ t12 _ => i - (intOf t12).toNat)
      case atStart => exact ⟨0, 0, by omega, by omega, rfl, rfl, H⟩
      case round =>
        clear H
        obtain ⟨j, u, hj, hu, rfl, rfl, H⟩ := hrel
        by_cases hlt2 : j < i
        · have hlb2 : decide ((j : Int) < (i : Int)) = true := decide_eq_true (by omega)
          go_wp2_with fail
          refine (upG w wr g _ _ H.out i GO.out (by omega) (j : Int)).mono ?_
          rintro e' w' ⟨rfl, rfl⟩
          cases hup : (m2 i e i).isUp (j : Int)
          · clear hup
            go_wp2_with fail
            go_roundw
            case rel => exact ⟨j + 1, u, by omega, by omega, rfl, by go_num, H⟩
            case measure => simp [intOf]; omega
          · clear hup
            go_wp2_with fail
            go_roundw
            case rel => exact ⟨j + 1, u + 1, by omega, by omega, by go_num, by go_num, H⟩
            case measure => simp [intOf]; omega
        · have hlb2 : decide ((j : Int) < (i : Int)) = false := decide_eq_false (by omega)
          by_cases hup : (i : Int) < 2 * (u : Int)
          · have hupb : decide ((i : Int) < 2 * (u : Int)) = true := decide_eq_true hup
            go_wp2_with fail
            go_ret
            exact ⟨rfl, H.out.bel⟩
          · have hupb : decide ((i : Int) < 2 * (u : Int)) = false := decide_eq_false hup
            go_wp2_with fail
            refine (appliedG w wr g _ _ H.out i GO.out (by omega) 0).mono ?_
            rintro e' w5 ⟨⟨A, c, rfl, hr⟩, h5, _⟩
            have H5 := Lib.hid (show GrpAt w w5 g (m3 i e 0) (fun x => x < w1.heap.size) from h5)
            clear hr h5 H hup hupb hlb2 hj hu
            obtain ⟨L, hL⟩ : ∃ L : Nat, L = ((m2 i e i).applied 0).length := ⟨_, rfl⟩
            rw [← hL]
            have HL := Lib.hid hL
            clear hL
            have hjr := wi_range a1 5 (by omega)
            obtain ⟨jj, hjj⟩ : ∃ jj : Nat, wi a1 5 = jj := ⟨(wi a1 5).toNat, by omega⟩
            have hj5 : jj < 5 := by omega
            have HJ := Lib.hid hjj
            clear hjr hjj
            go_wp2_with fail
            go_loopw [14] (fun t14 wr => ∃ m : Nat, m ≤ jj ∧ t14 = .int .i64 m ∧ Hid (GrpAt w wr g (m3 i e m) (fun x => x < w1.heap.size))) (fun t14 _ => jj - (intOf t14).toNat)
            case atStart => exact ⟨0, by omega, rfl, H5⟩
            case round =>
              clear H5
              obtain ⟨m, hm, rfl, H⟩ := hrel
              have HFX := Lib.hid (mOk_of (k := i) (e := e) (j := m) hK1 hK5 he1 (by omega))
              have S3 := Lib.hid (m3_sys (e := e) hK5 m)
              go_wp2_with fail
              refine (within9_fn _ a1 5 x1 (by omega) (by omega)).mono ?_
              rintro e' w' ⟨rfl, rfl⟩
              rw [HJ.out]
              by_cases hlt3 : m < jj
              · have hlb3 : decide ((m : Int) < (jj : Int)) = true := decide_eq_true (by omega)
                go_wp2_with fail
                refine (propG w wr g _ _ H.out i (S3.out.good (by omega)) (by omega) 0 kx).mono ?_
                rintro e' w6 ⟨rfl, h6, _⟩
                rw [HFX.out.2.1]
                have H6 := Lib.hid (show GrpAt w w6 g (m3 i e (m + 1)) (fun x => x < w1.heap.size) from h6)
                clear h6
                go_wp2_with fail
                go_roundw
                case rel => first | exact ⟨m + 1, by omega, by go_num, H6⟩ | ((repeat apply Exists.intro); refine ⟨?_, rfl⟩; exact ⟨m + 1, by omega, by go_num, H6⟩)
                case measure => simp [intOf]; omega
              · have hlb3 : decide ((m : Int) < (jj : Int)) = false := decide_eq_false (by omega)
                go_wp2_with fail
                refine (settleI w wr g _ _ H.out i (36305 + 2 * m) hK5 S3.out 40 40 rfl (by omega)).mono ?_
                rintro e' w6 ⟨rfl, h6, _⟩
                have H6 := Lib.hid (show GrpAt w w6 g (m4 i e m) (fun x => x < w1.heap.size) from h6)
                have S4 := Lib.hid (show GSys i (36305 + 2 * m + 1210 * 40) (m4 i e m) from gsys_settle hK5 40 _ _ S3.out)
                clear h6 H
                go_wp2_with fail
                refine (appliedG w w6 g _ _ H6.out i (S4.out.good (by omega)) (by omega) 0).mono ?_
                rintro e' w7 ⟨⟨A', c', rfl, hr⟩, h7, _⟩
                have H7 := Lib.hid h7
                rw [HFX.out.2.2.2, ← HL.out]
                clear hr h7
                go_wp2_with fail
                refine (leaderG w w7 g _ _ H7.out i (S4.out.good (by omega)) (by omega) (by omega)).mono ?_
                rintro e' w8 ⟨rfl, h8, _⟩
                rw [HFX.out.2.2.1]
                have H8 := Lib.hid h8
                clear h8
                go_wp2_with fail
                go_ret
                exact ⟨rfl, H8.out.bel⟩

end Go.Proofs.Ytnkmljdkokcdjaa
