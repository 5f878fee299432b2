/-
  The law's Play returns true, and the nodes of the plain states. Condition: each of these states may be walked.
-/
import Derived.WalkKit
import Derived.WalkSpells
import Derived.Lib.Hide
import Derived.Outline
import Derived.Test.YtnkmljdkokcdjaaChecked
import Derived.Test.YtnkmljdkokcdjaaMn
import Derived.Test.YtnkmljdkokcdjaaMem
import Derived.Test.YtnkmljdkokcdjaaFed
import Derived.Test.YtnkmljdkokcdjaaMg
import Derived.Test.YtnkmljdkokcdjaaRp10
import Derived.Test.YtnkmljdkokcdjaaRp11
import Derived.Test.YtnkmljdkokcdjaaMh
import Derived.Test.YtnkmljdkokcdjaaRp5
import Derived.Test.YtnkmljdkokcdjaaRl1
import Derived.Test.YtnkmljdkokcdjaaRn6
import Derived.Test.YtnkmljdkokcdjaaRn11
import Derived.Test.YtnkmljdkokcdjaaMm
import Derived.Test.YtnkmljdkokcdjaaMj
import Derived.Test.YtnkmljdkokcdjaaRn12
import Derived.Deep.DeepCutAuto
import Derived.Deep.CutBlock
import Derived.Deep.OwnRows
import Derived.IntWalk
set_option linter.unusedVariables false
set_option linter.unusedSimpArgs false
namespace Go.Proofs.Ytnkmljdkokcdjaa
open Go.RowKit Fed
set_option linter.unusedVariables false
attribute [local go_sem high] Fed.max2_int Fed.min2_int

theorem NodesOut.toAt {w : World} {B b : Nat} {v : Value} {ns : List Fed.Node} {ok : Nat → Prop} (h : NodesOut w B v ns (some b) ok) (hno : ∀ k, ok k → k ≠ b) : NodesAt w ok b ns ∧ B ≤ b ∧ ∃ c, v = .slice (some ⟨b, 0, none⟩) ns.length c ∧ ns.length ≤ c ∧ c ≤ maxLen := by
  obtain ⟨cs, h1, h2⟩ := h
  have h1' := h1
  obtain ⟨hl, cap, cur, rfl, k1, k2, k3, k4, k5, k6⟩ := h1'
  refine ⟨⟨⟨cur, k2, by rw [k5]; exact Nat.mul_le_mul_right _ k3⟩, hno, fun i n hi => ?_⟩, k1, cap, rfl, k3, k4⟩
  obtain ⟨σ, q, hc⟩ := h2 i n hi
  exact ⟨σ, q, fun j u hj => h1.cell (hc j u hj)⟩
theorem NodesOut.some_of {w : World} {B : Nat} {v : Value} {ns : List Fed.Node} {ob : Option Nat} {ok : Nat → Prop} (h : NodesOut w B v ns ob ok) (hp : 0 < ns.length) : ∃ b, ob = some b := by
  obtain ⟨cs, h1, _⟩ := h
  exact h1.some_of hp
set_option maxRecDepth 100000 in
set_option maxHeartbeats 40000000 in
theorem play_one (w : World) (size : Nat) (l : List Int) (An : Option Addr) (cn most : Nat) (h0 : 1 ≤ size) (h5 : size ≤ 5) (hr : MM.Rd w (fun k => k < w.heap.size) 1 (.slice An l.length cn) l.length (intsC l)) (hw : ∀ x, x ∈ l → (Lit.int .i64 x).wf = true) (hmost : most ≤ 1000) (hgood : ∀ i, i ≤ l.length → i ≤ most → Fed.Good size (pstates size l i)) :
    Calls Try.prog 31 #[.int .i64 size, .slice An l.length cn, .int .i64 most] w fun e w' => ∃ (b c : Nat) (ok : Nat → Prop), e = .returned (.tuple #[.slice (some ⟨b, 0, none⟩) size c, .bool true]) ∧ NodesAt w' ok b (pstates size l (min l.length most)).ns ∧ w.heap.size ≤ b ∧ Below w.heap.size w w' := by
  have HR := Lib.hid hr
  have HW := Lib.hid hw
  have HG := Lib.hid hgood
  clear hr hw hgood
  go_enter Try.func31, Try.ntmps31
  go_wp2_with fail
  go_loopw [8, 9, 11] (fun t8 t9 t11 wr => ∃ (i : Nat) (A B : Option Addr) (c d : Nat) (oa ob : Option Nat), i ≤ size ∧ t8 = .slice A (initN size i).length c ∧ t9 = .slice B (initN size i).length d ∧ t11 = .int .i64 i ∧ Hid (NodesOut wr w.heap.size (.slice A (initN size i).length c) (initN size i) oa (fun k => oa ≠ some k ∧ ob ≠ some k)) ∧ Hid (NodesOut wr w.heap.size (.slice B (initN size i).length d) (initN size i) ob (fun k => oa ≠ some k ∧ ob ≠ some k)) ∧ Hid (∀ k, oa = some k → ob ≠ some k) ∧ Hid (Below w.heap.size w wr)) (fun _ _ t11 _ => size - (intOf t11).toNat)
  case atStart => exact ⟨0, none, none, 0, 0, none, none, by omega, rfl, rfl, rfl, Lib.hid (NodesOut.nil _ _ _ _), Lib.hid (NodesOut.nil _ _ _ _), Lib.hid (fun k h => by cases h), Lib.hid (Below.refl _ _)⟩
  case round =>
    obtain ⟨i, A, B, c, d, oa, ob, hi, rfl, rfl, rfl, P, R, D, HB⟩ := hrel
    have hil := initN_len size i
    have HIL := Lib.hid hil
    clear hil
    by_cases hlt : i < size
    · have hltb : decide ((i : Int) < (size : Int)) = true := decide_eq_true (by omega)
      go_wp2_with fail
      refine (new_c _ (i : Int) (1 + (i : Int) % 2) (size : Int) size rfl (by omega) (by omega) (by omega)).mono ?_
      rintro e w3 ⟨σ, rfl, hb3, hn3⟩
      have P3 := Lib.hid (P.out.below hb3)
      have R3 := Lib.hid (R.out.below hb3)
      have HB3 := Lib.hid (HB.out.trans (hb3.mono HB.out.size))
      have N3 := Lib.hid (hn3.mono (ok' := (fun k => oa ≠ some k ∧ ob ≠ some k)) (fun k hk hl => ⟨fun e => by have := (P.out.lt k e).2; have hk9 : wr.heap.size ≤ k := hk; omega, fun e => by have := (R.out.lt k e).2; have hk9 : wr.heap.size ≤ k := hk; omega⟩))
      have W3S := Lib.hid (show wr.heap.size ≤ w3.heap.size from hb3.size)
      clear hb3 hn3
      go_wp2_with (at_builtin; refine append_node _ rfl (.tmp 28) (.tmp 35) rfl rfl w.heap.size _ _ oa (fun k => oa ≠ some k ∧ ob ≠ some k) rfl (P3.out.below ((Below.refl _ _).alloc (Nat.le_refl _) _)) (fun k hk => hk.1) w3.heap.size (newN (i : Int) size (1 + (i : Int) % 2)) σ rfl (MM.alloc_new _ _) (N3.out.step (fun k _ hk => Below.heap_alloc _ _ k hk)) (by rw [HIL.out]; omega) (by have := HB3.out.size; simp; omega) ?_)
      intro A' c' w5 oa' hp5 kp5 hob5 hbl5
      have al : ∀ k, k < w3.heap.size → (w3.alloc (.cells #[.int .i64 (newN (i : Int) size (1 + (i : Int) % 2)).id, .int .i64 (newN (i : Int) size (1 + (i : Int) % 2)).term, .int .i64 (newN (i : Int) size (1 + (i : Int) % 2)).vote, .slice σ.A3 (newN (i : Int) size (1 + (i : Int) % 2)).log.length σ.k3, .int .i64 (newN (i : Int) size (1 + (i : Int) % 2)).form, .int .i64 (newN (i : Int) size (1 + (i : Int) % 2)).role, .int .i64 (newN (i : Int) size (1 + (i : Int) % 2)).commit, .slice σ.A7 (newN (i : Int) size (1 + (i : Int) % 2)).votes.length σ.k7, .slice σ.A8 (newN (i : Int) size (1 + (i : Int) % 2)).nxt.length σ.k8, .slice σ.A9 (newN (i : Int) size (1 + (i : Int) % 2)).mtch.length σ.k9, .slice σ.A10 (newN (i : Int) size (1 + (i : Int) % 2)).forms.length σ.k10, .int .i64 (newN (i : Int) size (1 + (i : Int) % 2)).clock, .int .i64 (newN (i : Int) size (1 + (i : Int) % 2)).due] 28 (0, 0))).heap[k]? = w3.heap[k]? := fun k hk => Below.heap_alloc _ _ k hk
      have NA := Lib.hid (show ∀ k, oa ≠ some k → k < w3.heap.size + 1 → oa' ≠ some k from fun k h1 h2 e => by
        rcases hob5 with h | ⟨b9, h, h9⟩
        · exact h1 (by rw [← h, e])
        · rw [h] at e; injection e with e; (try simp at h9); omega)
      have R5 := Lib.hid (((R3.out.mono (ok' := fun k => (oa ≠ some k ∧ ob ≠ some k) ∧ k < w3.heap.size) (fun k hk hl => ⟨hk, hl⟩)).below (w1 := w3.alloc (.cells #[.int .i64 (newN (i : Int) size (1 + (i : Int) % 2)).id, .int .i64 (newN (i : Int) size (1 + (i : Int) % 2)).term, .int .i64 (newN (i : Int) size (1 + (i : Int) % 2)).vote, .slice σ.A3 (newN (i : Int) size (1 + (i : Int) % 2)).log.length σ.k3, .int .i64 (newN (i : Int) size (1 + (i : Int) % 2)).form, .int .i64 (newN (i : Int) size (1 + (i : Int) % 2)).role, .int .i64 (newN (i : Int) size (1 + (i : Int) % 2)).commit, .slice σ.A7 (newN (i : Int) size (1 + (i : Int) % 2)).votes.length σ.k7, .slice σ.A8 (newN (i : Int) size (1 + (i : Int) % 2)).nxt.length σ.k8, .slice σ.A9 (newN (i : Int) size (1 + (i : Int) % 2)).mtch.length σ.k9, .slice σ.A10 (newN (i : Int) size (1 + (i : Int) % 2)).forms.length σ.k10, .int .i64 (newN (i : Int) size (1 + (i : Int) % 2)).clock, .int .i64 (newN (i : Int) size (1 + (i : Int) % 2)).due] 28 (0, 0))) ((Below.refl _ _).alloc (Nat.le_refl _) _)).step (w1 := w5) (fun k hk => kp5 k (by have := (R3.out.lt k hk).2; simp; omega) (fun e => D.out k e hk)) (fun k hk hl => kp5 k (by simpa using hl) hk.1.1) |>.mono (ok' := fun k => oa ≠ some k ∧ ob ≠ some k ∧ oa' ≠ some k) (fun k hk hl => ⟨hk.1.1, hk.1.2, NA.out k hk.1.1 (by have h8 := hk.2; omega)⟩))
      have P5 := Lib.hid hp5
      have HB5 := Lib.hid ((HB3.out.alloc HB3.out.size _).trans hbl5)
      have S5 := Lib.hid (show w3.heap.size < w5.heap.size from by have := hbl5.size; simp at this; omega)
      have OB5 := Lib.hid hob5
      clear hp5 kp5 hob5 hbl5 al P3 N3
      go_wp2_with fail
      refine (rnew_c _ (i : Int) (1 + (i : Int) % 2) (size : Int) size rfl (by omega) (by omega) (by omega)).mono ?_
      rintro e w6 ⟨τ, rfl, hb6, hn6⟩
      have P6 := Lib.hid (P5.out.below hb6)
      have R6 := Lib.hid (R5.out.below hb6)
      have HB6 := Lib.hid (HB5.out.trans (hb6.mono HB5.out.size))
      have LA := Lib.hid (show ∀ k, oa' = some k → k < w5.heap.size from fun k e => (P5.out.lt k e).2)
      have LB := Lib.hid (show ∀ k, ob = some k → k < w5.heap.size from fun k e => (R5.out.lt k e).2)
      have N6 := Lib.hid (hn6.mono (ok' := fun k => oa ≠ some k ∧ ob ≠ some k ∧ oa' ≠ some k) (fun k hk hl => ⟨fun e => by have := (P.out.lt k e).2; have h8 := S5.out; have hk9 : w5.heap.size ≤ k := hk; have := HB3.out.size; have h7 : wr.heap.size ≤ w3.heap.size := W3S.out; omega, fun e => by have := LB.out k e; have hk9 : w5.heap.size ≤ k := hk; omega, fun e => by have := LA.out k e; have hk9 : w5.heap.size ≤ k := hk; omega⟩))
      have DA := Lib.hid (show ∀ k, oa' = some k → ob ≠ some k from fun k e e2 => by
        rcases OB5.out with h | ⟨b9, h, h9⟩
        · rw [h] at e; exact D.out k e e2
        · rw [h] at e; injection e with e; have := (R3.out.lt k e2).2; (try simp at h9); omega)
      have SZ6 := Lib.hid (show w5.heap.size ≤ w6.heap.size from hb6.size)
      have N6A := Lib.hid (show NodeVs w6 (fun k => w5.heap.size ≤ k) (newN (i : Int) size (1 + (i : Int) % 2)) τ from hn6)
      clear hb6 hn6
      go_wp2_with (at_builtin; refine append_node _ rfl (.tmp 37) (.tmp 44) rfl rfl w.heap.size _ _ ob (fun k => oa ≠ some k ∧ ob ≠ some k ∧ oa' ≠ some k) rfl (R6.out.below ((Below.refl _ _).alloc (Nat.le_refl _) _)) (fun k hk => hk.2.1) w6.heap.size (newN (i : Int) size (1 + (i : Int) % 2)) τ rfl (MM.alloc_new _ _) (N6.out.step (fun k _ hk => Below.heap_alloc _ _ k hk)) (by rw [HIL.out]; omega) (by have := HB6.out.size; simp; omega) ?_)
      intro B' d' w8 ob' hr8 kp8 hob8 hbl8
      have P8 := Lib.hid ((P6.out.below (w1 := w6.alloc (.cells #[.int .i64 (newN (i : Int) size (1 + (i : Int) % 2)).id, .int .i64 (newN (i : Int) size (1 + (i : Int) % 2)).term, .int .i64 (newN (i : Int) size (1 + (i : Int) % 2)).vote, .slice τ.A3 (newN (i : Int) size (1 + (i : Int) % 2)).log.length τ.k3, .int .i64 (newN (i : Int) size (1 + (i : Int) % 2)).form, .int .i64 (newN (i : Int) size (1 + (i : Int) % 2)).role, .int .i64 (newN (i : Int) size (1 + (i : Int) % 2)).commit, .slice τ.A7 (newN (i : Int) size (1 + (i : Int) % 2)).votes.length τ.k7, .slice τ.A8 (newN (i : Int) size (1 + (i : Int) % 2)).nxt.length τ.k8, .slice τ.A9 (newN (i : Int) size (1 + (i : Int) % 2)).mtch.length τ.k9, .slice τ.A10 (newN (i : Int) size (1 + (i : Int) % 2)).forms.length τ.k10, .int .i64 (newN (i : Int) size (1 + (i : Int) % 2)).clock, .int .i64 (newN (i : Int) size (1 + (i : Int) % 2)).due] 28 (0, 0))) ((Below.refl _ _).alloc (Nat.le_refl _) _)).step (w1 := w8) (fun k hk => kp8 k (by have := (P6.out.lt k hk).2; simp; omega) (fun e => DA.out k hk e)) (fun k hk hl => kp8 k (by simpa using hl) hk.1.2))
      have NB' := Lib.hid (show ∀ k, ob ≠ some k → k < w6.heap.size + 1 → ob' ≠ some k from fun k h1 h2 e => by
        rcases hob8 with h | ⟨b9, h, h9⟩
        · exact h1 (by rw [← h, e])
        · rw [h] at e; injection e with e; (try simp at h9); omega)
      have SA := Lib.hid (show w3.heap.size + 1 ≤ w6.heap.size from by have h7 := SZ6.out; have h8 := S5.out; omega)
      go_wp2_with fail
      go_roundw
      case rel => exact ⟨i + 1, A', B', c', d', oa', ob', by omega, by rw [initN_succ, List.length_append]; rfl, by rw [initN_succ, List.length_append]; rfl, by go_num, Lib.hid (by rw [initN_succ, List.length_append]; exact P8.out.mono (fun k hk hl => ⟨NA.out k hk.1.1 (by simpa using hk.2), NB'.out k hk.1.2 (Nat.lt_of_lt_of_le (show k < w3.heap.size + 1 by simpa using hk.2) (Nat.le_succ_of_le SA.out))⟩)), Lib.hid (by rw [initN_succ, List.length_append]; exact hr8.mono (fun k hk hl => ⟨hk.1.2.2, NB'.out k hk.1.2.1 (by simpa using hk.2)⟩)), Lib.hid (fun k e e2 => by
        rcases hob8 with h | ⟨b9, h, h9⟩
        · rw [h] at e2; exact DA.out k e e2
        · rw [h] at e2; injection e2 with e2; have := LA.out k e; have h7 := SZ6.out; (try simp at h9); omega), Lib.hid ((HB6.out.alloc HB6.out.size _).trans hbl8)⟩
      case measure => simp [intOf]; omega
    · obtain rfl : size = i := by omega
      have hltb : decide ((size : Int) < (size : Int)) = false := by simp
      obtain ⟨ba, eba⟩ := P.out.some_of (by rw [HIL.out]; omega)
      obtain ⟨bb, ebb⟩ := R.out.some_of (by rw [HIL.out]; omega)
      have hP := P.out.mono (ok' := fun k => k ≠ ba ∧ k ≠ bb) (fun k hk _ => ⟨fun e => hk.1 (by rw [eba, e]), fun e => hk.2 (by rw [ebb, e])⟩)
      have hR := R.out.mono (ok' := fun k => k ≠ ba ∧ k ≠ bb) (fun k hk _ => ⟨fun e => hk.1 (by rw [eba, e]), fun e => hk.2 (by rw [ebb, e])⟩)
      have hab : ba ≠ bb := fun e => D.out ba eba (by rw [ebb, e])
      rw [eba] at hP
      rw [ebb] at hR
      obtain ⟨p1, p2, ca, p3, p4, p5⟩ := hP.toAt (fun k hk => hk.1)
      obtain ⟨r1, r2, cb, r3, r4, r5⟩ := hR.toAt (fun k hk => hk.2)
      rw [HIL.out] at p3 p4 r3 r4 ⊢
      rw [p3, r3]
      have PA := Lib.hid (show NodesAt wr (fun k => k ≠ ba ∧ k ≠ bb) ba (pstates size l 0).ns from p1)
      have PB := Lib.hid (show NodesAt wr (fun k => k ≠ ba ∧ k ≠ bb) bb (pstates size l 0).ns from r1)
      have HAB := Lib.hid hab
      have HBA := Lib.hid (And.intro p2 r2)
      clear hP hR hab eba ebb p1 p2 p3 r1 r2 r3 P R D HIL hlt hi
      go_upto_region 7 with (fail)
      clear hltb
      go_wp2_with fail
      go_loopw [10, 12] (fun t10 t12 wr => ∃ (i : Nat) (Af : Option Addr) (cf : Nat), i ≤ l.length ∧ i ≤ most ∧ t10 = .slice Af (pstates size l i).f.length cf ∧ t12 = .int .i64 i ∧ Hid (NodesAt wr (fun k => k ≠ ba ∧ k ≠ bb) ba (pstates size l i).ns) ∧ Hid (NodesAt wr (fun k => k ≠ ba ∧ k ≠ bb) bb (pstates size l i).ns) ∧ Hid (MsgsV wr (fun k => k ≠ ba ∧ k ≠ bb) (.slice Af (pstates size l i).f.length cf) (pstates size l i).f) ∧ Hid (Below w.heap.size w wr)) (fun _ t12 _ => l.length - (intOf t12).toNat)
      case atStart => exact ⟨0, none, 0, by omega, by omega, rfl, rfl, PA, PB, Lib.hid ⟨[], MM.Rd.nil _ _ _ _ _ (by simp [maxLen]), rfl⟩, HB⟩
      case round =>
        obtain ⟨i, Af, cf, hi1, hi2, rfl, rfl, PA, PB, F, HB⟩ := hrel
        by_cases hl1 : i < l.length
        · by_cases hl2 : i < most
          · have h1b : decide ((i : Int) < (l.length : Int)) = true := decide_eq_true (by omega)
            have h2b : decide ((i : Int) < (most : Int)) = true := decide_eq_true (by omega)
            have hrd := HR.out.step (w1 := wr) (fun x hx _ => HB.out.block x hx)
            obtain ⟨-, A', c', ea, -, -, hrest⟩ := hrd
            injection ea with ea1 el ea2; clear el
            subst ea2
            obtain ⟨be, oe, eA, -, -, hcell⟩ := hrest (by omega)
            have x0 : wr.cell? ⟨be, oe + i, none⟩ = some (.int .i64 (l.getD i 0)) := hcell _ _ (intsC_get hl1)
            have HXW := Lib.hid (HW.out (l.getD i 0) (by rw [List.getD_eq_getElem?_getD, List.getElem?_eq_getElem hl1]; exact List.getElem_mem hl1))
            have EAN := Lib.hid (ea1.trans eA)
            clear hcell hrest ea1 eA
            have e9 := EAN.out
            rw [e9]
            clear e9
            have HQ := Lib.hid (show pstates size l (i + 1) = pstep tickS handleS proposeS size (wi (l.getD i 0) 1073741824).toNat (pstates size l i) from rfl)
            have HGI := Lib.hid (HG.out i (by omega) (by omega))
            have HGJ := Lib.hid (HG.out (i + 1) (by omega) (by omega))
            generalize hs1 : pstates size l (i + 1) = s1 at HQ HGJ
            have HSI := Lib.hid hs1
            clear hs1
            generalize pstates size l i = s0 at PA PB F HQ HGI ⊢
            generalize l.getD i 0 = x at x0 HXW HQ
            go_wp2_with fail
            refine (within_big _ x 1073741824 HXW.out (by omega) (by omega)).mono ?_
            rintro e w' ⟨rfl, rfl⟩
            have hv := wi_range x 1073741824 (by omega)
            generalize wi x 1073741824 = v at hv HQ ⊢
            obtain ⟨q, rfl⟩ : ∃ q : Nat, v = q := ⟨v.toNat, by omega⟩
            obtain ⟨hq0, hq1⟩ := hv
            rw [Int.toNat_natCast] at HQ
            clear x0 HXW h1b h2b
            go_upto_region 12 with (fail)
            have hidl : q / 12 % size < size := Nat.mod_lt _ (by omega)
            rw [show (q : Int) / 12 % (size : Int) = ((q / 12 % size : Nat) : Int) from by rw [Int.natCast_emod, Int.natCast_ediv]; rfl]
            obtain ⟨id, hid⟩ : ∃ id, id = q / 12 % size := ⟨_, rfl⟩
            rw [← hid] at hidl ⊢
            have HID := Lib.hid hid
            clear hid
            go_upto_block 4 with (fail)
            go_cut [10, 14, 15, 16] (fun t10 t14 t15 t16 wc => ∃ (f' : List Fed.Msg) (id' : Nat) (r : NS) (A3 : Option Addr) (c3 : Nat) (A4 : Option Addr) (c4 : Nat) (A5 : Option Addr) (c5 : Nat), t10 = .slice A3 f'.length c3 ∧ t14 = .int .i64 id' ∧ t15 = .slice A4 r.out.length c4 ∧ t16 = .slice A5 r.out.length c5 ∧ id' < size ∧ r.out.length ≤ 1000000 ∧ Hid (f'.length ≤ 1000) ∧ Hid (s1 = pfin ⟨s0.ns, f'⟩ id' r) ∧ Hid (NodesAt wc (fun k => k ≠ ba ∧ k ≠ bb) ba (s0.ns.set id' r.n)) ∧ Hid (NodesAt wc (fun k => k ≠ ba ∧ k ≠ bb) bb (s0.ns.set id' r.n)) ∧ Hid (MsgsV wc (fun k => k ≠ ba ∧ k ≠ bb) (.slice A3 f'.length c3) f') ∧ Hid (MsgsV wc (fun k => k ≠ ba ∧ k ≠ bb) (.slice A4 r.out.length c4) r.out) ∧ Hid (MsgsV wc (fun k => k ≠ ba ∧ k ≠ bb) (.slice A5 r.out.length c5) r.out) ∧ Hid (Below w.heap.size w wc))
            case first =>
              refine sw_all w wr size q id ba bb ca cb cf Af s0 s1 _ _ _ _ _ _ _ _ _ _ _ _ _ _ _ _ _ _ _ _ _ _ _ _ _ _ _ _ _ _ _ _ _ _ _ _ _ _ _ _ _ _ _ _ _ _ _ _ _ _ _ _ _ _ _ _ _ _ _ _ _ _ _ _ _ _ _ _ _ _ _ _ _ _ _ _ _ _ _ _ _ _ _ _ _ _ _ _ _ _ _ _ _ _ _ _ _ _ _ _ _ _ _ _ _ _ _ _ _ _ _ _ _ _ _ _ _ _ _ _ _ _ _ _ _ _ _ _ _ _ _ _ _ _ _ _ _ _ _ _ _ _ _ _ _ _ _ _ _ _ _ _ _ _ _ _ _ _ _ _ _ _ _ _ _ _ _ _ _ _ _ _ _ _ _ _ _ _ _ _ _ _ _ _ _ _ _ _ _ _ _ _ _ _ _ _ _ _ _ _ _ _ _ _ _ _ _ _ _ _ _ _ _ _ _ _ _ _ _ _ _ _ _ _ _ _ _ _ _ _ _ _ _ _ _ _ _ _ _ _ _ _ _ _ _ _ _ _ _ _ _ _ _ _ _ _ _ _ _ h0 h5 p4 p5 r4 r5 hq0 hq1 hidl HID HAB HBA HGI HQ PA PB F HB  (Lib.hid (fun _ _ _ _ _ _ _ _ _ _ _ _ _ _ _ _ _ _ _ _ _ _ _ _ _ _ _ _ _ _ _ _ _ _ _ _ _ _ _ _ _ _ _ _ _ _ _ _ _ _ _ _ _ _ _ _ _ _ _ _ _ _ _ _ _ _ _ _ _ _ _ _ _ _ _ _ _ _ _ _ _ _ _ _ _ _ _ _ _ _ _ _ _ _ _ _ _ _ _ _ _ _ _ _ _ _ _ _ _ _ _ _ _ _ _ _ _ _ _ _ _ _ _ _ _ _ _ _ _ _ _ _ _ _ _ _ _ _ _ _ _ _ _ _ _ _ _ _ _ _ _ _ _ _ _ _ _ _ _ _ _ _ _ _ _ _ _ _ _ _ _ _ _ _ _ _ _ _ _ _ wc hr => ?_)) (Lib.hid (fun _ _ _ _ _ _ _ _ _ _ _ _ _ _ _ _ _ _ _ _ _ _ _ _ _ _ _ _ _ _ _ _ _ _ _ _ _ _ _ _ _ _ _ _ _ _ _ _ _ _ _ _ _ _ _ _ _ _ _ _ _ _ _ _ _ _ _ _ _ _ _ _ _ _ _ _ _ _ _ _ _ _ _ _ _ _ _ _ _ _ _ _ _ _ _ _ _ _ _ _ _ _ _ _ _ _ _ _ _ _ _ _ _ _ _ _ _ _ _ _ _ _ _ _ _ _ _ _ _ _ _ _ _ _ _ _ _ _ _ _ _ _ _ _ _ _ _ _ _ _ _ _ _ _ _ _ _ _ _ _ _ _ _ _ _ _ _ _ _ _ _ _ _ _ _ _ _ _ _ _ wc hr => ?_))
              · (first | go_wp2_with fail | skip)
                go_meet
                case rel => exact hr
              · obtain ⟨A9, c9, rfl, PA9, PB9, F9, HB9⟩ := hr
                have HIL := Lib.hid hl1
                have HIM := Lib.hid hl2
                clear hl1 hl2
                go_wp2_with fail
                (try rw [← EAN.out])
                go_roundw
                case rel =>
                  have EP : pstates size l (i + 1) = s1 := HSI.out
                  exact ⟨i + 1, A9, c9, by have := HIL.out; omega, by have := HIM.out; omega, by rw [EP], by go_num, Lib.hid (by rw [EP]; exact PA9.out), Lib.hid (by rw [EP]; exact PB9.out), Lib.hid (by rw [EP]; exact F9.out), HB9⟩
                case measure => have := HIL.out; simp [intOf]; omega
            case rest =>
              obtain ⟨f', id', r, A3, c3, A4, c4, A5, c5, rfl, rfl, rfl, rfl, hid', hro, HFL, HS1, PA', PB', F', M1, M2, HB'⟩ := hcut
              clear PA PB F HB HQ
              go_step
              refine sw_rest w wc size id' ba bb ca cb c3 c4 c5 A3 A4 A5 s0 s1 f' r _ _ _ _ _ _ _ _ _ _ _ _ _ _ _ _ _ _ _ _ _ _ _ _ _ _ _ _ _ _ _ _ _ _ _ _ _ _ _ _ _ _ _ _ _ _ _ _ _ _ _ _ _ _ _ _ _ _ _ _ _ _ _ _ _ _ _ _ _ _ _ _ _ _ _ _ _ _ _ _ _ _ _ _ _ _ _ _ _ _ _ _ _ _ _ _ _ _ _ _ _ _ _ _ _ _ _ _ _ _ _ _ _ _ _ _ _ _ _ _ _ _ _ _ _ _ _ _ _ _ _ _ _ _ _ _ _ _ _ _ _ _ _ _ _ _ _ _ _ _ _ _ _ _ _ _ _ _ _ _ _ _ _ _ _ _ _ _ _ _ _ _ _ _ _ _ _ _ _ _ _ _ _ _ _ _ _ _ _ _ _ _ _ _ _ _ _ _ _ _ _ _ _ _ _ _ _ _ _ _ _ _ _ _ _ _ _ _ _ _ _ _ _ _ _ _ _ _ _ _ _ _ _ _ _ _ _ _ _ _ _ _ _ _ _ _ _ _ _ _ _ _ _ _ _ _ _ _ _ _ _ h0 h5 p4 p5 r4 r5 hid' hro HFL HS1 HAB HGI HGJ PA' PB' F' M1 M2 HB' (Lib.hid (fun _ _ _ _ _ _ _ _ _ _ _ _ _ _ _ _ _ _ _ _ _ _ _ _ _ _ _ _ _ _ _ _ wc hr => ?_))
              obtain ⟨A9, c9, rfl, PA9, PB9, F9, HB9⟩ := hr
              have HIL := Lib.hid hl1
              have HIM := Lib.hid hl2
              clear hl1 hl2
              go_wp2_with fail
              (try rw [← EAN.out])
              go_roundw
              case rel =>
                have EP : pstates size l (i + 1) = s1 := HSI.out
                exact ⟨i + 1, A9, c9, by have := HIL.out; omega, by have := HIM.out; omega, by rw [EP], by go_num, Lib.hid (by rw [EP]; exact PA9.out), Lib.hid (by rw [EP]; exact PB9.out), Lib.hid (by rw [EP]; exact F9.out), HB9⟩
              case measure => have := HIL.out; simp [intOf]; omega
          · have h1b : decide ((i : Int) < (l.length : Int)) = true := decide_eq_true (by omega)
            have h2b : decide ((i : Int) < (most : Int)) = false := decide_eq_false (by omega)
            have HE := Lib.hid (show i = min l.length most by omega)
            go_wp2_with fail
            go_ret2
            exact ⟨ba, ca, _, rfl, by rw [← HE.out]; exact PA.out, HBA.out.1, HB.out⟩
        · have h1b : decide ((i : Int) < (l.length : Int)) = false := decide_eq_false (by omega)
          have HE := Lib.hid (show i = min l.length most by omega)
          go_wp2_with fail
          go_ret2
          exact ⟨ba, ca, _, rfl, by rw [← HE.out]; exact PA.out, HBA.out.1, HB.out⟩

end Go.Proofs.Ytnkmljdkokcdjaa
