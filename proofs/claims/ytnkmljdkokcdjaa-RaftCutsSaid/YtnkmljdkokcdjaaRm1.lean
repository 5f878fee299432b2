/-
  The law RaftCuts returns true, and writes nothing that was there, for any ints and any rows of ints.
-/
import Derived.WalkKit
import Derived.WalkSpells
import Derived.Lib.Hide
import Derived.Outline
import Derived.Test.YtnkmljdkokcdjaaChecked
import Derived.Test.YtnkmljdkokcdjaaRg
import Derived.Test.YtnkmljdkokcdjaaMem
import Derived.Test.YtnkmljdkokcdjaaFed
import Derived.Test.YtnkmljdkokcdjaaRm0
import Derived.Deep.DeepCutAuto
import Derived.Deep.CutBlock
import Derived.IntWalk
namespace Go.Proofs.Ytnkmljdkokcdjaa
open Go.RowKit Fed
set_option linter.unusedVariables false
attribute [local go_sem high] Fed.max2_int Fed.min2_int

structure RV (w : World) (b : Nat) (A7 : Option Addr) (k7 : Nat) (A8 : Option Addr) (k8 : Nat) (A9 : Option Addr) (k9 : Nat) (A10 : Option Addr) (k10 : Nat) : Prop where
  v : MM.Rd w (fun x => x < b) 1 (.slice A7 3 k7) 3 (boolsC [false, false, false])
  n : MM.Rd w (fun x => x < b) 1 (.slice A8 3 k8) 3 (intsC [1, 1, 1])
  m : MM.Rd w (fun x => x < b) 1 (.slice A9 3 k9) 3 (intsC [0, 0, 0])
  f : MM.Rd w (fun x => x < b) 1 (.slice A10 3 k10) 3 (intsC [1, 1, 1])
theorem RV.below {w w1 : World} {b : Nat} {A7 : Option Addr} {k7 : Nat} {A8 : Option Addr} {k8 : Nat} {A9 : Option Addr} {k9 : Nat} {A10 : Option Addr} {k10 : Nat} (h : RV w b A7 k7 A8 k8 A9 k9 A10 k10) (hb : Below b w w1) : RV w1 b A7 k7 A8 k8 A9 k9 A10 k10 :=
  ⟨h.v.step fun x hx _ => hb.block x hx, h.n.step fun x hx _ => hb.block x hx, h.m.step fun x hx _ => hb.block x hx, h.f.step fun x hx _ => hb.block x hx⟩

set_option maxRecDepth 1000000 in
set_option maxHeartbeats 8000000 in
theorem cuts_law (v0 : Value) (l0 : List Int) (a1 a2 : Int) (v3 : Value) (l3 : List Int) (x1 : (Lit.int .i64 a1).wf = true) (x2 : (Lit.int .i64 a2).wf = true) (w : World) (hr0 : MM.Rd w (fun j => j < w.heap.size) 1 v0 l0.length (intsC l0)) (hw0 : ∀ x, x ∈ l0 → (Lit.int .i64 x).wf = true) (hr3 : MM.Rd w (fun j => j < w.heap.size) 1 v3 l3.length (intsC l3)) (hw3 : ∀ x, x ∈ l3 → (Lit.int .i64 x).wf = true) :
    Calls Try.prog 5 #[v0, .int .i64 a1, .int .i64 a2, v3] w fun e w' => e = .returned (.bool true) ∧ Below w.heap.size w w' := by
  obtain ⟨i0, hi, hz0, hz1, hz2⟩ := info_parts info40
  obtain ⟨A0, c0, rfl, _, _⟩ := hr0.slice
  obtain ⟨Ao3, co3, rfl, _, _⟩ := hr3.slice
  have HR0 := Lib.hid hr0
  have HW0 := Lib.hid hw0
  have HR3 := Lib.hid hr3
  have HW3 := Lib.hid hw3
  have X1 := Lib.hid x1
  have X2 := Lib.hid x2
  clear hr0 hw0 hr3 hw3 x1 x2
  go_enter Try.func5, Try.ntmps5
  go_wp2_with fail
  refine (known_any _).mono ?_
  rintro e w1 ⟨rfl, hb1⟩
  have HB1 := Lib.hid hb1
  clear hb1
  go_wp2_with fail
  refine (rnew_raw _ 1 1 3 (by omega) (by omega) (by omega)).mono ?_
  rintro e w3 ⟨A7, k7, A8, k8, A9, k9, A10, k10, rfl, hb3, hn3⟩
  have HB3 := Lib.hid (HB1.out.trans (hb3.mono HB1.out.size))
  unfold newN at hn3
  have HN3 := Lib.hid hn3
  clear hb3 hn3 HB1
  go_upto_region 4 with (fail)
  obtain ⟨b, hb⟩ : ∃ b, b = w3.heap.size := ⟨_, rfl⟩
  have hwb : w.heap.size ≤ b := by rw [hb]; exact HB3.out.size
  rw [← hb]
  obtain ⟨w4, hw4⟩ : ∃ W, W = w3.alloc (.cells #[.int .i64 1, .int .i64 0, .int .i64 (-1), .slice none 0 0, .int .i64 1, .int .i64 0, .int .i64 0, .slice A7 3 k7, .slice A8 3 k8, .slice A9 3 k9, .slice A10 3 k10, .int .i64 0, .int .i64 7] 28) := ⟨_, rfl⟩
  have qX4 : ((w3.alloc (.cells #[.int .i64 1, .int .i64 0, .int .i64 (-1), .slice none 0 0, .int .i64 1, .int .i64 0, .int .i64 0, .slice A7 3 k7, .slice A8 3 k8, .slice A9 3 k9, .slice A10 3 k10, .int .i64 0, .int .i64 7] 28))).heap[b]? = some (.cells #[.int .i64 1, .int .i64 0, .int .i64 (-1), .slice none 0 0, .int .i64 1, .int .i64 0, .int .i64 0, .slice A7 3 k7, .slice A8 3 k8, .slice A9 3 k9, .slice A10 3 k10, .int .i64 0, .int .i64 7] 28 (0, 0)) := by rw [hb]; exact MM.alloc_new w3 _
  have qV4 : RV (w3.alloc (.cells #[.int .i64 1, .int .i64 0, .int .i64 (-1), .slice none 0 0, .int .i64 1, .int .i64 0, .int .i64 0, .slice A7 3 k7, .slice A8 3 k8, .slice A9 3 k9, .slice A10 3 k10, .int .i64 0, .int .i64 7] 28)) b A7 k7 A8 k8 A9 k9 A10 k10 := by rw [hb]; exact ⟨(HN3.out.hv.mono (fun _ _ hk => hk)).alloc _, (HN3.out.hn.mono (fun _ _ hk => hk)).alloc _, (HN3.out.hm.mono (fun _ _ hk => hk)).alloc _, (HN3.out.hf.mono (fun _ _ hk => hk)).alloc _⟩
  have qB4 : Below w.heap.size w (w3.alloc (.cells #[.int .i64 1, .int .i64 0, .int .i64 (-1), .slice none 0 0, .int .i64 1, .int .i64 0, .int .i64 0, .slice A7 3 k7, .slice A8 3 k8, .slice A9 3 k9, .slice A10 3 k10, .int .i64 0, .int .i64 7] 28)) := HB3.out.alloc HB3.out.size _
  rw [← hw4] at qX4 qV4 qB4 ⊢
  have HX4 := Lib.hid qX4
  have HV4 := Lib.hid qV4
  have HB4 := Lib.hid qB4
  clear qX4 qV4 qB4 hw4 HN3 HB3
  have hbs4 : b < w4.heap.size := MM.blk_lt HX4.out
  clear hb
  go_upto_block 0 with (fail)
  go_cut [10, 11] (fun t10 t11 wc => ∃ (L : List Fed.Entry) (A3 : Option Addr) (k3 : Nat) (ob : Option Nat) (T : Int), t10 = .int .i64 T ∧ Hid (L.length ≤ 8) ∧ 1 ≤ T ∧ T ≤ 9 ∧ Hid (∀ e ∈ L, 1 ≤ e.term ∧ e.term ≤ T) ∧ Hid (wc.heap[b]? = some (.cells #[.int .i64 1, .int .i64 0, .int .i64 (-1), .slice A3 L.length k3, .int .i64 1, .int .i64 0, .int .i64 0, .slice A7 3 k7, .slice A8 3 k8, .slice A9 3 k9, .slice A10 3 k10, .int .i64 0, .int .i64 7] 28 (0, 0))) ∧ Hid (MM.Row wc (b + 1) 40 2 (.slice A3 L.length k3) L.length (entsC L) ob) ∧ Hid (Below b w4 wc))
  case first => as_aux_lemma =>
    go_wp2_with fail
    go_loopw [10, 11] (fun t10 t11 wr => ∃ (i : Nat) (L : List Fed.Entry) (A3 : Option Addr) (k3 : Nat) (ob : Option Nat) (T : Int), t10 = .int .i64 T ∧ t11 = .int .i64 i ∧ i ≤ l0.length ∧ i ≤ 8 ∧ L.length = i ∧ 1 ≤ T ∧ T ≤ 1 + i ∧ Hid (∀ e ∈ L, 1 ≤ e.term ∧ e.term ≤ T) ∧ Hid (wr.heap[b]? = some (.cells #[.int .i64 1, .int .i64 0, .int .i64 (-1), .slice A3 L.length k3, .int .i64 1, .int .i64 0, .int .i64 0, .slice A7 3 k7, .slice A8 3 k8, .slice A9 3 k9, .slice A10 3 k10, .int .i64 0, .int .i64 7] 28 (0, 0))) ∧ Hid (MM.Row wr (b + 1) 40 2 (.slice A3 L.length k3) L.length (entsC L) ob) ∧ Hid (Below b w4 wr)) (fun _ t11 _ => l0.length - (intOf t11).toNat)
    case atStart => exact ⟨0, [], none, 0, none, 1, rfl, rfl, by omega, by omega, rfl, by omega, by omega, Lib.hid (by simp), HX4, Lib.hid (MM.Row.nil _ _ _ _ _), Lib.hid (Below.refl _ _)⟩
    case round => as_aux_lemma =>
      obtain ⟨i, L, A3, k3, ob, T, rfl, rfl, hi1, hi2, hLi, hT1, hT2, HLT, HX, HL, HBr⟩ := hrel
      have HB := Lib.hid (HB4.out.trans (HBr.out.mono hwb))
      have HLI := Lib.hid hLi
      clear hLi HX4
      by_cases hlt : i < l0.length ∧ i < 8
      case pos =>
        obtain ⟨hl1, hl2⟩ := hlt
        have h1b : decide ((i : Int) < (l0.length : Int)) = true := decide_eq_true (by omega)
        have h2b : decide ((i : Int) < 8) = true := decide_eq_true (by omega)
        obtain ⟨x, hx⟩ : ∃ x, x = l0.getD i 0 := ⟨_, rfl⟩
        have HXW := Lib.hid (show (Lit.int .i64 x).wf = true from HW0.out x (by rw [hx, List.getD_eq_getElem?_getD, List.getElem?_eq_getElem hl1]; exact List.getElem_mem hl1))
        have hrd := HR0.out.step (w1 := wr) (fun y hy _ => HB.out.block y hy)
        obtain ⟨_, A', c', ea, hc1, hc2, hrest⟩ := hrd
        injection ea with ea1 _ ea2
        subst ea1 ea2
        obtain ⟨be, oe, rfl, _, _, hcell⟩ := hrest (by omega)
        have x0 : wr.cell? ⟨be, oe + i, none⟩ = some (.int .i64 x) := by rw [hx]; exact hcell _ _ (intsC_get hl1)
        clear hcell hrest hx
        go_wp2_with fail
        refine (within_fn _ x 2 HXW.out (by omega) (by omega)).mono ?_
        rintro e w' ⟨rfl, rfl⟩
        have hv := wi_range x 2 (by omega)
        generalize wi x 2 = y at hv ⊢
        go_upto_region 9 with (fail)
        obtain ⟨T2, hT2e⟩ : ∃ T2, T2 = T + y := ⟨_, rfl⟩
        rw [← hT2e]
        have hT3 : 1 ≤ T2 ∧ T2 ≤ 2 + i ∧ T ≤ T2 := by omega
        clear hT2e hv x0
        have c3 : wr.cell? ⟨b, 3, none⟩ = some (.slice A3 L.length k3) := MM.cell_blk HX.out rfl
        have hbl := MM.blk_lt HX.out
        have hsz : b + 1 ≤ wr.heap.size := hbl
        have hLl : L.length ≤ 8 := by have := HLI.out; omega
        go_wp2_with (at_builtin; refine MM.wpList_append_row _ rfl (.tmp 43) (.tmp 46) 24 rfl (b + 1) 40 i0 _ 2 24 Try.underlying24 hi hz0 hz1 hz2 rfl (by decide) _ L.length (entsC L) ob rfl ?own (fun _ => True) _ 1 [.int .i64 T2, .string ⟨#[97]⟩] rfl ?src ?one ?h63 ?hby ?hbs ?h)
        case own => exact HL.out.below (by repeat (first | exact Below.refl _ _ | refine Below.setCell ?_ (by simp) _ | refine Below.alloc ?_ (by simp) _ | refine Below.drew ?_))
        case src => exact MM.Rd.lit (MM.alloc_new wr _) trivial rfl (Nat.le_refl _) (by simp [maxLen]) rfl
        case one => intro u hu; simp at hu; rcases hu with rfl | rfl <;> rfl
        case h63 => simp only [maxLen]; omega
        case hby => omega
        case hbs => simp; omega
        case h =>
          intro v' w5 ob' hr' hg hob
          obtain ⟨A3n, k3n, rfl, _, _⟩ := hr'.slice
          have hne : ∀ x, ob = some x → b + 1 ≤ x := fun x hx => (HL.out.lt x hx).1
          have hX5 : w5.heap[b]? = _ := (hg.block b (by simp; omega) (fun e => by have := hne b e.symm; omega)).trans ((Below.heap_alloc wr _ b hbl).trans HX.out)
          have hB5 : Below b w4 w5 := ((HBr.out.alloc (by omega) _).grown hg (by simp; omega) (fun x hx => by have := hne x hx; omega))
          have c3 : w5.cell? ⟨b, 3, none⟩ = some (.slice A3 L.length k3) := MM.cell_blk hX5 rfl
          have f3 : w5.frozen? ⟨b, 3, none⟩ = false := MM.free_blk hX5
          have HX6 := Lib.hid (show (w5.setCell ⟨b, 3, none⟩ (.slice A3n (L.length + 1) k3n)).heap[b]? = some (.cells #[.int .i64 1, .int .i64 0, .int .i64 (-1), .slice A3n (L.length + 1) k3n, .int .i64 1, .int .i64 0, .int .i64 0, .slice A7 3 k7, .slice A8 3 k8, .slice A9 3 k9, .slice A10 3 k10, .int .i64 0, .int .i64 7] 28 (0, 0)) from (setCell_blk _ hX5).trans rfl)
          have HR6 := Lib.hid (show MM.Row (w5.setCell ⟨b, 3, none⟩ (.slice A3n (L.length + 1) k3n)) (b + 1) 40 2 (.slice A3n (L ++ [(Fed.Entry.mk T2 ⟨#[97]⟩)]).length k3n) (L ++ [(Fed.Entry.mk T2 ⟨#[97]⟩)]).length (entsC (L ++ [(Fed.Entry.mk T2 ⟨#[97]⟩)])) ob' from by
            rw [entsC_append, show (L ++ [(Fed.Entry.mk T2 ⟨#[97]⟩)]).length = L.length + 1 from by simp]
            exact hr'.far (p := ⟨b, 3, none⟩) (fun x hx => by have := (hr'.lt x hx).1; show x ≠ b; omega) _)
          have HB6 := Lib.hid (hB5.setCell (p := ⟨b, 3, none⟩) (Nat.le_refl _) (.slice A3n (L.length + 1) k3n))
          clear hr' hg hob hX5 hB5 hne
          go_wp2_with fail
          go_roundw
          case rel => exact ⟨i + 1, L ++ [⟨T2, ⟨#[97]⟩⟩], A3n, k3n, ob', T2, rfl, by go_num, by omega, by omega, by have := HLI.out; simp; omega, by omega, by omega, Lib.hid (fun e he => by
            rcases List.mem_append.1 he with he | he
            · have := HLT.out e he; omega
            · simp at he; subst he; exact ⟨hT3.1, Int.le_refl _⟩), by rw [show (L ++ [(Fed.Entry.mk T2 ⟨#[97]⟩)]).length = L.length + 1 from by simp]; exact HX6, HR6, HB6⟩
          case measure => simp [intOf]; omega
      have REL : ∃ (L' : List Fed.Entry) (A3' : Option Addr) (k3' : Nat) (ob' : Option Nat) (T' : Int), Value.int .i64 T = .int .i64 T' ∧ Hid (L'.length ≤ 8) ∧ 1 ≤ T' ∧ T' ≤ 9 ∧ Hid (∀ e ∈ L', 1 ≤ e.term ∧ e.term ≤ T') ∧ Hid (wr.heap[b]? = some (.cells #[.int .i64 1, .int .i64 0, .int .i64 (-1), .slice A3' L'.length k3', .int .i64 1, .int .i64 0, .int .i64 0, .slice A7 3 k7, .slice A8 3 k8, .slice A9 3 k9, .slice A10 3 k10, .int .i64 0, .int .i64 7] 28 (0, 0))) ∧ Hid (MM.Row wr (b + 1) 40 2 (.slice A3' L'.length k3') L'.length (entsC L') ob') ∧ Hid (Below b w4 wr) := ⟨L, A3, k3, ob, T, rfl, Lib.hid (by have := HLI.out; omega), hT1, by omega, HLT, HX, HL, HBr⟩
      have HREL := Lib.hid REL
      clear REL
      by_cases h1 : i < l0.length
      · have h1b : decide ((i : Int) < (l0.length : Int)) = true := decide_eq_true (by omega)
        have h1c : decide (i < l0.length) = true := decide_eq_true h1
        have h2b : decide ((i : Int) < 8) = false := decide_eq_false (by omega)
        go_wp2_with fail
        go_meet
        case rel => exact HREL.out
      · have h1b : decide ((i : Int) < (l0.length : Int)) = false := decide_eq_false (by omega)
        have h1c : decide (i < l0.length) = false := decide_eq_false h1
        go_wp2_with fail
        go_meet
        case rel => exact HREL.out
  case rest =>
    obtain ⟨L, A3, k3, ob, T, rfl, HLL, hT1, hT2, HLT, HX, HL, HBr⟩ := hcut
    clear HX4
    have c1 : wc.cell? ⟨b, 1, none⟩ = some (.int .i64 0) := MM.cell_blk HX.out rfl
    have f1 : wc.frozen? ⟨b, 1, none⟩ = false := MM.free_blk HX.out
    go_upto_region 11 with (fail)
    obtain ⟨wA, hwA⟩ : ∃ W, W = wc.setCell ⟨b, 1, none⟩ (.int .i64 T) := ⟨_, rfl⟩
    have qXA : ((wc.setCell ⟨b, 1, none⟩ (.int .i64 T))).heap[b]? = some (.cells #[.int .i64 1, .int .i64 T, .int .i64 (-1), .slice A3 L.length k3, .int .i64 1, .int .i64 0, .int .i64 0, .slice A7 3 k7, .slice A8 3 k8, .slice A9 3 k9, .slice A10 3 k10, .int .i64 0, .int .i64 7] 28 (0, 0)) := (setCell_blk _ HX.out).trans rfl
    have qLA : MM.Row (wc.setCell ⟨b, 1, none⟩ (.int .i64 T)) (b + 1) 40 2 (.slice A3 L.length k3) L.length (entsC L) ob := HL.out.far (p := ⟨b, 1, none⟩) (fun x hx => by have := (HL.out.lt x hx).1; show x ≠ b; omega) _
    have qBA : Below b w4 (wc.setCell ⟨b, 1, none⟩ (.int .i64 T)) := HBr.out.setCell (p := ⟨b, 1, none⟩) (Nat.le_refl _) _
    rw [← hwA] at qXA qLA qBA ⊢
    have HXA := Lib.hid qXA
    have HLA := Lib.hid qLA
    have HBA := Lib.hid qBA
    clear qXA qLA qBA hwA HX HL HBr c1 f1
    have c3 : wA.cell? ⟨b, 3, none⟩ = some (.slice A3 L.length k3) := MM.cell_blk HXA.out rfl
    have hbA : b < wA.heap.size := MM.blk_lt HXA.out
    have hll := HLL.out
    go_wp2_with fail
    refine (within_fn _ a1 (L.length + 1) X1.out (by omega) (by omega)).mono ?_
    rintro e w' ⟨rfl, rfl⟩
    have hk := wi_range a1 (L.length + 1) (by omega)
    obtain ⟨k, hk'⟩ : ∃ k : Nat, wi a1 (L.length + 1) = k := ⟨(wi a1 (L.length + 1)).toNat, by omega⟩
    rw [hk'] at hk ⊢
    have hkl : k ≤ L.length := by omega
    clear hk' hk
    go_upto_region 13 with (fail)
    obtain ⟨cm, hcm⟩ : ∃ cm, cm = wA.heap.size := ⟨_, rfl⟩
    have hbc : b < cm := by omega
    rw [← hcm]
    have HOB := Lib.hid (show ∀ x, ob = some x → x < cm from fun x hx => by rw [hcm]; exact (HLA.out.lt x hx).2)
    obtain ⟨wC, hwC⟩ : ∃ W, W = wA.alloc (.cells #[.int .i64 3, .int .i64 0, .int .i64 1, .int .i64 (T + 1), .int .i64 k, .int .i64 0, .bool false, .slice none 0 0, .int .i64 0, .int .i64 0] 34) := ⟨_, rfl⟩
    have qXC : ((wA.alloc (.cells #[.int .i64 3, .int .i64 0, .int .i64 1, .int .i64 (T + 1), .int .i64 k, .int .i64 0, .bool false, .slice none 0 0, .int .i64 0, .int .i64 0] 34))).heap[b]? = some (.cells #[.int .i64 1, .int .i64 T, .int .i64 (-1), .slice A3 L.length k3, .int .i64 1, .int .i64 0, .int .i64 0, .slice A7 3 k7, .slice A8 3 k8, .slice A9 3 k9, .slice A10 3 k10, .int .i64 0, .int .i64 7] 28 (0, 0)) := (Below.heap_alloc _ _ _ hbA).trans HXA.out
    have qMC : ((wA.alloc (.cells #[.int .i64 3, .int .i64 0, .int .i64 1, .int .i64 (T + 1), .int .i64 k, .int .i64 0, .bool false, .slice none 0 0, .int .i64 0, .int .i64 0] 34))).heap[cm]? = some (.cells #[.int .i64 3, .int .i64 0, .int .i64 1, .int .i64 (T + 1), .int .i64 k, .int .i64 0, .bool false, .slice none 0 0, .int .i64 0, .int .i64 0] 34 (0, 0)) := by rw [hcm]; exact MM.alloc_new wA _
    have qLC : MM.Row (wA.alloc (.cells #[.int .i64 3, .int .i64 0, .int .i64 1, .int .i64 (T + 1), .int .i64 k, .int .i64 0, .bool false, .slice none 0 0, .int .i64 0, .int .i64 0] 34)) (b + 1) 40 2 (.slice A3 L.length k3) L.length (entsC L) ob := HLA.out.alloc _
    have qBC : Below b w4 (wA.alloc (.cells #[.int .i64 3, .int .i64 0, .int .i64 1, .int .i64 (T + 1), .int .i64 k, .int .i64 0, .bool false, .slice none 0 0, .int .i64 0, .int .i64 0] 34)) := HBA.out.alloc (by omega) _
    rw [← hwC] at qXC qMC qLC qBC ⊢
    have HXC := Lib.hid qXC
    have HMC := Lib.hid qMC
    have HLC := Lib.hid qLC
    have HBC := Lib.hid qBC
    clear qXC qMC qLC qBC hwC HXA HLA HBA
    clear hcm c3
    go_upto_if 62 with (fail)
    go_cut [] (fun wd => ∃ lt : Int, Hid (wd.heap[b]? = some (.cells #[.int .i64 1, .int .i64 T, .int .i64 (-1), .slice A3 L.length k3, .int .i64 1, .int .i64 0, .int .i64 0, .slice A7 3 k7, .slice A8 3 k8, .slice A9 3 k9, .slice A10 3 k10, .int .i64 0, .int .i64 7] 28 (0, 0))) ∧ Hid (wd.heap[cm]? = some (.cells #[.int .i64 3, .int .i64 0, .int .i64 1, .int .i64 (T + 1), .int .i64 k, .int .i64 lt, .bool false, .slice none 0 0, .int .i64 0, .int .i64 0] 34 (0, 0))) ∧ Hid (MM.Row wd (b + 1) 40 2 (.slice A3 L.length k3) L.length (entsC L) ob) ∧ Hid (Below b w4 wd) ∧ Hid (0 < k → termAt L k = lt) ∧ 0 ≤ lt ∧ lt ≤ T)
    case first => as_aux_lemma =>
      by_cases hp : 0 < k
      · rw [decide_eq_true hp]
        obtain ⟨g, hg⟩ := HLC.out.some_of (by omega)
        have hrow := HLC.out
        rw [hg] at hrow
        obtain ⟨cap, ef, _, _⟩ := hrow.form
        injection ef with ef1 _ ef2
        subst ef1 ef2
        have hkk : k - 1 < L.length := by omega
        obtain ⟨x, hx⟩ : ∃ x, L[k - 1]? = some x := ⟨_, List.getElem?_eq_getElem hkk⟩
        have q0 : wC.cell? ⟨g, (k - 1) * 2, none⟩ = some (.int .i64 x.term) := hrow.cell (entsC_get hx).1
        have c3 : wC.cell? ⟨b, 3, none⟩ = some (.slice (some ⟨g, 0, none⟩) L.length k3) := MM.cell_blk HXC.out rfl
        have m5 : wC.cell? ⟨cm, 5, none⟩ = some (.int .i64 0) := MM.cell_blk HMC.out rfl
        have mf5 : wC.frozen? ⟨cm, 5, none⟩ = false := MM.free_blk HMC.out
        have htx : termAt L (k : Int) = x.term := by
          have := termAt_get hx
          rwa [show k - 1 + 1 = k from by omega] at this
        have HTX := Lib.hid htx
        have HMX := Lib.hid (HLT.out x (List.mem_of_getElem? hx))
        have hgcm : g ≠ cm := by have := HOB.out g hg; omega
        have hk1 : (k : Int) - 1 < (L.length : Int) := by omega
        have hk0 : 0 ≤ (k : Int) - 1 := by omega
        have hkn : ((k : Int) - 1).toNat = k - 1 := by omega
        have HGG := Lib.hid hg
        clear hrow hg htx hx
        go_wp2_with fail
        go_meet
        case rel => exact ⟨x.term, Lib.hid (ret_far HXC.out (p := ⟨cm, 5, none⟩) (by show b ≠ cm; omega) _), Lib.hid ((setCell_blk _ HMC.out).trans rfl), Lib.hid (HLC.out.far (p := ⟨cm, 5, none⟩) (fun y hy => by have := HOB.out y hy; show y ≠ cm; omega) _), Lib.hid (HBC.out.setCell (p := ⟨cm, 5, none⟩) (by show b ≤ cm; omega) _), Lib.hid (fun _ => HTX.out), by have := HMX.out; omega, HMX.out.2⟩
      · rw [decide_eq_false hp]
        go_wp2_with fail
        go_meet
        case rel => exact ⟨0, HXC, HMC, HLC, HBC, Lib.hid (fun h => absurd h hp), by omega, by omega⟩
    case rest =>
      obtain ⟨lt, HXD, HMD, HLD, HBD, HLTK, hlt0, hlt1⟩ := hcut
      clear HXC HMC HLC HBC
      have m5 : wc.cell? ⟨cm, 5, none⟩ = some (.int .i64 lt) := MM.cell_blk HMD.out rfl
      have hcs : cm < wc.heap.size := MM.blk_lt HMD.out
      go_upto_block 2 with (fail)
      go_cut [14, 15] (fun t14 t15 we => ∃ (E : List Fed.Entry) (Ae : Option Addr) (ke : Nat) (oq : Option Nat), Hid (E.length ≤ 5) ∧ Hid (we.heap[b]? = some (.cells #[.int .i64 1, .int .i64 T, .int .i64 (-1), .slice A3 L.length k3, .int .i64 1, .int .i64 0, .int .i64 0, .slice A7 3 k7, .slice A8 3 k8, .slice A9 3 k9, .slice A10 3 k10, .int .i64 0, .int .i64 7] 28 (0, 0))) ∧ Hid (we.heap[cm]? = some (.cells #[.int .i64 3, .int .i64 0, .int .i64 1, .int .i64 (T + 1), .int .i64 k, .int .i64 lt, .bool false, .slice Ae E.length ke, .int .i64 0, .int .i64 0] 34 (0, 0))) ∧ Hid (MM.Row we (b + 1) 40 2 (.slice A3 L.length k3) L.length (entsC L) ob) ∧ Hid (MM.Row we (cm + 1) 40 2 (.slice Ae E.length ke) E.length (entsC E) oq) ∧ Hid (Below b w4 we))
      case first => as_aux_lemma =>
        go_wp2_with fail
        go_loopw [14, 15] (fun t14 t15 wr => ∃ (i : Nat) (E : List Fed.Entry) (Ae : Option Addr) (ke : Nat) (oq : Option Nat) (u : Int), t14 = .int .i64 u ∧ t15 = .int .i64 i ∧ i ≤ l3.length ∧ i ≤ 5 ∧ 0 ≤ u ∧ u ≤ T + 1 ∧ Hid (E.length = i) ∧ Hid (wr.heap[b]? = some (.cells #[.int .i64 1, .int .i64 T, .int .i64 (-1), .slice A3 L.length k3, .int .i64 1, .int .i64 0, .int .i64 0, .slice A7 3 k7, .slice A8 3 k8, .slice A9 3 k9, .slice A10 3 k10, .int .i64 0, .int .i64 7] 28 (0, 0))) ∧ Hid (wr.heap[cm]? = some (.cells #[.int .i64 3, .int .i64 0, .int .i64 1, .int .i64 (T + 1), .int .i64 k, .int .i64 lt, .bool false, .slice Ae E.length ke, .int .i64 0, .int .i64 0] 34 (0, 0))) ∧ Hid (MM.Row wr (b + 1) 40 2 (.slice A3 L.length k3) L.length (entsC L) ob) ∧ Hid (MM.Row wr (cm + 1) 40 2 (.slice Ae E.length ke) E.length (entsC E) oq) ∧ Hid (Below b w4 wr)) (fun _ t15 _ => l3.length - (intOf t15).toNat)
        case atStart => exact ⟨0, [], none, 0, none, lt, rfl, rfl, by omega, by omega, hlt0, by omega, Lib.hid rfl, HXD, HMD, HLD, Lib.hid (MM.Row.nil _ _ _ _ _), HBD⟩
        case round => as_aux_lemma =>
          obtain ⟨i, E, Ae, ke, oq, u, rfl, rfl, hi1, hi2, hu0, hu1, HEI, HXF, HMF, HLF, HEF, HBF⟩ := hrel
          have HB := Lib.hid (HB4.out.trans (HBF.out.mono hwb))
          clear HXD HMD HLD HBD m5 hcs
          have REL : ∃ (E' : List Fed.Entry) (Ae' : Option Addr) (ke' : Nat) (oq' : Option Nat), Hid (E'.length ≤ 5) ∧ Hid (wr.heap[b]? = some (.cells #[.int .i64 1, .int .i64 T, .int .i64 (-1), .slice A3 L.length k3, .int .i64 1, .int .i64 0, .int .i64 0, .slice A7 3 k7, .slice A8 3 k8, .slice A9 3 k9, .slice A10 3 k10, .int .i64 0, .int .i64 7] 28 (0, 0))) ∧ Hid (wr.heap[cm]? = some (.cells #[.int .i64 3, .int .i64 0, .int .i64 1, .int .i64 (T + 1), .int .i64 k, .int .i64 lt, .bool false, .slice Ae' E'.length ke', .int .i64 0, .int .i64 0] 34 (0, 0))) ∧ Hid (MM.Row wr (b + 1) 40 2 (.slice A3 L.length k3) L.length (entsC L) ob) ∧ Hid (MM.Row wr (cm + 1) 40 2 (.slice Ae' E'.length ke') E'.length (entsC E') oq') ∧ Hid (Below b w4 wr) := ⟨E, Ae, ke, oq, Lib.hid (by have := HEI.out; omega), HXF, HMF, HLF, HEF, HBF⟩
          have HREL := Lib.hid REL
          clear REL
          by_cases hl1 : i < l3.length
          case neg =>
            have h1b : decide ((i : Int) < (l3.length : Int)) = false := decide_eq_false (by omega)
            have h1c : decide (i < l3.length) = false := decide_eq_false hl1
            go_wp2_with fail
            go_meet
            case rel => exact HREL.out
          have h1b : decide ((i : Int) < (l3.length : Int)) = true := decide_eq_true (by omega)
          have h1c : decide (i < l3.length) = true := decide_eq_true hl1
          go_wp2_with fail
          refine (within_fn _ a2 5 X2.out (by omega) (by omega)).mono ?_
          rintro e w' ⟨rfl, rfl⟩
          have hz := wi_range a2 5 (by omega)
          obtain ⟨z, hz'⟩ : ∃ z : Int, wi a2 5 = z := ⟨_, rfl⟩
          rw [hz'] at hz ⊢
          clear hz'
          by_cases hl2 : (i : Int) < 1 + z
          case neg =>
            have h2b : decide ((i : Int) < 1 + z) = false := decide_eq_false hl2
            go_wp2_with fail
            go_meet
            case rel => exact HREL.out
          have h2b : decide ((i : Int) < 1 + z) = true := decide_eq_true hl2
          obtain ⟨x, hx⟩ : ∃ x, x = l3.getD i 0 := ⟨_, rfl⟩
          have HXW := Lib.hid (show (Lit.int .i64 x).wf = true from HW3.out x (by rw [hx, List.getD_eq_getElem?_getD, List.getElem?_eq_getElem hl1]; exact List.getElem_mem hl1))
          have hrd := HR3.out.step (w1 := wr) (fun y hy _ => HB.out.block y hy)
          obtain ⟨_, A', c', ea, hc1, hc2, hrest⟩ := hrd
          injection ea with ea1 _ ea2
          subst ea1 ea2
          obtain ⟨be, oe, rfl, _, _, hcell⟩ := hrest (by omega)
          have x0 : wr.cell? ⟨be, oe + i, none⟩ = some (.int .i64 x) := by rw [hx]; exact hcell _ _ (intsC_get hl1)
          clear hcell hrest hx
          clear HREL
          go_wp2_with fail
          refine (within_fn _ x 2 HXW.out (by omega) (by omega)).mono ?_
          rintro e w' ⟨rfl, rfl⟩
          have hv := wi_range x 2 (by omega)
          generalize wi x 2 = y at hv ⊢
          have hmx : 1 ≤ mx 1 u ∧ mx 1 u ≤ 10 := by unfold mx; omega
          go_upto_region 20 with (fail)
          obtain ⟨u2, hu2⟩ : ∃ u2, u2 = mn (T + 1) (mx 1 u + y) := ⟨_, rfl⟩
          rw [← hu2]
          have hu3 : 0 ≤ u2 ∧ u2 ≤ T + 1 := by rw [hu2]; unfold mn; omega
          clear hu2 hv x0 hmx h2b
          have m7 : wr.cell? ⟨cm, 7, none⟩ = some (.slice Ae E.length ke) := MM.cell_blk HMF.out rfl
          have hbl := MM.blk_lt HXF.out
          have hcl := MM.blk_lt HMF.out
          have hEl : E.length ≤ 5 := by have := HEI.out; omega
          go_wp2_with (at_builtin; refine MM.wpList_append_row _ rfl (.tmp 98) (.tmp 101) 24 rfl (cm + 1) 40 i0 _ 2 24 Try.underlying24 hi hz0 hz1 hz2 rfl (by decide) _ E.length (entsC E) oq rfl ?own (fun _ => True) _ 1 [.int .i64 u2, .string ⟨#[98]⟩] rfl ?src ?one ?h63 ?hby ?hbs ?h)
          case own => exact HEF.out.below (by repeat (first | exact Below.refl _ _ | refine Below.setCell ?_ (by simp) _ | refine Below.alloc ?_ (by simp) _ | refine Below.drew ?_))
          case src => exact MM.Rd.lit (MM.alloc_new wr _) trivial rfl (Nat.le_refl _) (by simp [maxLen]) rfl
          case one => intro q hq; simp at hq; rcases hq with rfl | rfl <;> rfl
          case h63 => simp only [maxLen]; omega
          case hby => omega
          case hbs => simp; omega
          case h =>
            intro v' w5 ob' hr' hg hob
            obtain ⟨Aen, ken, rfl, _, _⟩ := hr'.slice
            have hne : ∀ q, oq = some q → cm + 1 ≤ q := fun q hq => (HEF.out.lt q hq).1
            have hX5 : w5.heap[b]? = _ := (hg.block b (by simp; omega) (fun e => by have := hne b e.symm; omega)).trans ((Below.heap_alloc wr _ b hbl).trans HXF.out)
            have hM5 : w5.heap[cm]? = _ := (hg.block cm (by simp; omega) (fun e => by have := hne cm e.symm; omega)).trans ((Below.heap_alloc wr _ cm hcl).trans HMF.out)
            have hL5 := (HLF.out.alloc (.cells #[.int .i64 u2, .string ⟨#[98]⟩] 40)).grown hg (fun q hq e => by have h1 := HOB.out q hq; have h2 := hne q e.symm; omega)
            have hB5 : Below b w4 w5 := ((HBF.out.alloc (by omega) _).grown hg (by simp; omega) (fun q hq => by have := hne q hq; omega))
            have m7 : w5.cell? ⟨cm, 7, none⟩ = some (.slice Ae E.length ke) := MM.cell_blk hM5 rfl
            have f7 : w5.frozen? ⟨cm, 7, none⟩ = false := MM.free_blk hM5
            have HX6 := Lib.hid (show (w5.setCell ⟨cm, 7, none⟩ (.slice Aen (E.length + 1) ken)).heap[b]? = some (.cells #[.int .i64 1, .int .i64 T, .int .i64 (-1), .slice A3 L.length k3, .int .i64 1, .int .i64 0, .int .i64 0, .slice A7 3 k7, .slice A8 3 k8, .slice A9 3 k9, .slice A10 3 k10, .int .i64 0, .int .i64 7] 28 (0, 0)) from ret_far hX5 (p := ⟨cm, 7, none⟩) (by show b ≠ cm; omega) _)
            have HM6 := Lib.hid (show (w5.setCell ⟨cm, 7, none⟩ (.slice Aen (E.length + 1) ken)).heap[cm]? = some (.cells #[.int .i64 3, .int .i64 0, .int .i64 1, .int .i64 (T + 1), .int .i64 k, .int .i64 lt, .bool false, .slice Aen (E.length + 1) ken, .int .i64 0, .int .i64 0] 34 (0, 0)) from (setCell_blk _ hM5).trans rfl)
            have HL6 := Lib.hid (hL5.far (p := ⟨cm, 7, none⟩) (fun q hq => by have := HOB.out q hq; show q ≠ cm; omega) (.slice Aen (E.length + 1) ken))
            have HE6 := Lib.hid (show MM.Row (w5.setCell ⟨cm, 7, none⟩ (.slice Aen (E.length + 1) ken)) (cm + 1) 40 2 (.slice Aen (E ++ [(Fed.Entry.mk u2 ⟨#[98]⟩)]).length ken) (E ++ [(Fed.Entry.mk u2 ⟨#[98]⟩)]).length (entsC (E ++ [(Fed.Entry.mk u2 ⟨#[98]⟩)])) ob' from by
              rw [entsC_append, show (E ++ [(Fed.Entry.mk u2 ⟨#[98]⟩)]).length = E.length + 1 from by simp]
              exact hr'.far (p := ⟨cm, 7, none⟩) (fun q hq => by have := (hr'.lt q hq).1; show q ≠ cm; omega) _)
            have HB6 := Lib.hid (hB5.setCell (p := ⟨cm, 7, none⟩) (by show b ≤ cm; omega) (.slice Aen (E.length + 1) ken))
            clear hr' hg hob hX5 hB5 hM5 hL5 hne
            go_wp2_with fail
            go_roundw
            case rel => exact ⟨i + 1, E ++ [⟨u2, ⟨#[98]⟩⟩], Aen, ken, ob', u2, rfl, by go_num, by omega, by omega, hu3.1, hu3.2, Lib.hid (by have := HEI.out; simp; omega), HX6, by rw [show (E ++ [(Fed.Entry.mk u2 ⟨#[98]⟩)]).length = E.length + 1 from by simp]; exact HM6, HL6, HE6, HB6⟩
            case measure => simp [intOf]; omega
      case rest =>
        obtain ⟨E, Ae, ke, oq, HEL, HXE, HME, HLE, HEE, HBE⟩ := hcut
        clear HXD HMD HLD HBD m5 hcs
        go_upto_region 21 with (fail)
        go_cut [16, 17] (fun t16 t17 wd => ∃ (d bo oo ko : Nat) (sn : Fed.Node) (τ : Sl5), t16 = .pointer (some ⟨d, 0, none⟩) ∧ t17 = .slice (some ⟨bo, oo, none⟩) 1 ko ∧ Hid (sn.log = takeL L k E) ∧ Hid (wd.heap[b]? = some (.cells #[.int .i64 1, .int .i64 T, .int .i64 (-1), .slice A3 L.length k3, .int .i64 1, .int .i64 0, .int .i64 0, .slice A7 3 k7, .slice A8 3 k8, .slice A9 3 k9, .slice A10 3 k10, .int .i64 0, .int .i64 7] 28 (0, 0))) ∧ Hid (wd.heap[cm]? = some (.cells #[.int .i64 3, .int .i64 0, .int .i64 1, .int .i64 (T + 1), .int .i64 k, .int .i64 lt, .bool false, .slice Ae E.length ke, .int .i64 0, .int .i64 0] 34 (0, 0))) ∧ Hid (MM.Row wd (b + 1) 40 2 (.slice A3 L.length k3) L.length (entsC L) ob) ∧ Hid (MM.Row wd (cm + 1) 40 2 (.slice Ae E.length ke) E.length (entsC E) oq) ∧ Hid (wd.heap[d]? = some (.cells #[.int .i64 sn.id, .int .i64 sn.term, .int .i64 sn.vote, .slice τ.A3 sn.log.length τ.k3, .int .i64 sn.form, .int .i64 sn.role, .int .i64 sn.commit, .slice τ.A7 sn.votes.length τ.k7, .slice τ.A8 sn.nxt.length τ.k8, .slice τ.A9 sn.mtch.length τ.k9, .slice τ.A10 sn.forms.length τ.k10, .int .i64 sn.clock, .int .i64 sn.due] 28 (0, 0))) ∧ Hid (MM.Rd wd (fun _ => True) 2 (.slice τ.A3 sn.log.length τ.k3) sn.log.length (entsC sn.log)) ∧ Hid (World.cell? wd ⟨bo, oo + 4, none⟩ = some (.int .i64 ((k : Int) + E.length)) ∧ World.cell? wd ⟨bo, oo + 6, none⟩ = some (.bool true)) ∧ Hid (Below w.heap.size w wd))
        case first => as_aux_lemma =>
          have c0 : wc.cell? ⟨b, 0, none⟩ = some (.int .i64 1) := MM.cell_blk HXE.out rfl
          have c1 : wc.cell? ⟨b, 1, none⟩ = some (.int .i64 T) := MM.cell_blk HXE.out rfl
          have c2 : wc.cell? ⟨b, 2, none⟩ = some (.int .i64 (-1)) := MM.cell_blk HXE.out rfl
          have c3 : wc.cell? ⟨b, 3, none⟩ = some (.slice A3 L.length k3) := MM.cell_blk HXE.out rfl
          have c4 : wc.cell? ⟨b, 4, none⟩ = some (.int .i64 1) := MM.cell_blk HXE.out rfl
          have c5 : wc.cell? ⟨b, 5, none⟩ = some (.int .i64 0) := MM.cell_blk HXE.out rfl
          have c6 : wc.cell? ⟨b, 6, none⟩ = some (.int .i64 0) := MM.cell_blk HXE.out rfl
          have c7 : wc.cell? ⟨b, 7, none⟩ = some (.slice A7 3 k7) := MM.cell_blk HXE.out rfl
          have c8 : wc.cell? ⟨b, 8, none⟩ = some (.slice A8 3 k8) := MM.cell_blk HXE.out rfl
          have c9 : wc.cell? ⟨b, 9, none⟩ = some (.slice A9 3 k9) := MM.cell_blk HXE.out rfl
          have c10 : wc.cell? ⟨b, 10, none⟩ = some (.slice A10 3 k10) := MM.cell_blk HXE.out rfl
          have c11 : wc.cell? ⟨b, 11, none⟩ = some (.int .i64 0) := MM.cell_blk HXE.out rfl
          have c12 : wc.cell? ⟨b, 12, none⟩ = some (.int .i64 7) := MM.cell_blk HXE.out rfl
          have d0 : wc.cell? ⟨cm, 0, none⟩ = some (.int .i64 3) := MM.cell_blk HME.out rfl
          have d1 : wc.cell? ⟨cm, 1, none⟩ = some (.int .i64 0) := MM.cell_blk HME.out rfl
          have d2 : wc.cell? ⟨cm, 2, none⟩ = some (.int .i64 1) := MM.cell_blk HME.out rfl
          have d3 : wc.cell? ⟨cm, 3, none⟩ = some (.int .i64 (T + 1)) := MM.cell_blk HME.out rfl
          have d4 : wc.cell? ⟨cm, 4, none⟩ = some (.int .i64 k) := MM.cell_blk HME.out rfl
          have d5 : wc.cell? ⟨cm, 5, none⟩ = some (.int .i64 lt) := MM.cell_blk HME.out rfl
          have d6 : wc.cell? ⟨cm, 6, none⟩ = some (.bool false) := MM.cell_blk HME.out rfl
          have d7 : wc.cell? ⟨cm, 7, none⟩ = some (.slice Ae E.length ke) := MM.cell_blk HME.out rfl
          have d8 : wc.cell? ⟨cm, 8, none⟩ = some (.int .i64 0) := MM.cell_blk HME.out rfl
          have d9 : wc.cell? ⟨cm, 9, none⟩ = some (.int .i64 0) := MM.cell_blk HME.out rfl
          have hel := HEL.out
          have hll := HLL.out
          have HSTEP := Lib.hid (cuts_step (T := T) (L := L) (E := E) (k := k) (lt := lt) hkl HLTK.out)
          have HTL := Lib.hid (takeL_eq E L k hkl)
          have HVV := Lib.hid (HV4.out.below HBE.out)
          go_wp2_with fail
          refine (handle_c _ (fun _ => True) (cnode T L) ⟨A3, k3, A7, k7, A8, k8, A9, k9, A10, k10⟩ ⟨HLE.out.rd.mono (fun _ _ _ => trivial), HVV.out.v.mono (fun _ _ _ => trivial), HVV.out.n.mono (fun _ _ _ => trivial), HVV.out.m.mono (fun _ _ _ => trivial), HVV.out.f.mono (fun _ _ _ => trivial)⟩ (cmsg T k lt E) Ae ke (fun _ => True) (HEE.out.rd.mono (fun _ _ _ => trivial)) (by show L.length ≤ 700000; omega) (by show 3 ≤ 1000; omega) rfl rfl rfl (by show E.length ≤ 1000; omega) (by show -1000000000 ≤ (0 : Int); omega) (by show (0 : Int) ≤ 1000000000; omega) (by show (0 : Int) ≤ 0; omega) ⟨by show (0 : Int) ≤ k; omega, by show (k : Int) ≤ 1000000; omega⟩ (cnode_nb T L) (cnode_mb T L)).mono ?_
          rintro e wh ⟨τ, Ao, ko, rfl, hn, hm, hbh⟩
          generalize handleS (cnode T L) (cmsg T k lt E) = s at HSTEP hn hm ⊢
          obtain ⟨sn, so⟩ := s
          obtain rfl : so = _ := HSTEP.out.2
          have HLG := Lib.hid (show sn.log = takeL L k E from HSTEP.out.1)
          simp only [List.length_singleton] at hm ⊢
          clear c0 c1 c2 c3 c4 c5 c6 c7 c8 c9 c10 c11 c12 d0 d1 d2 d3 d4 d5 d6 d7 d8 d9
          go_wp2_with fail
          obtain ⟨cs, hrd, hmr⟩ := hm
          obtain ⟨_, Ao', ko', e1, _, _, hrest⟩ := hrd
          injection e1 with e2 _ e4
          subst e2 e4
          obtain ⟨bo, oo, rfl, _, hbo, hcell⟩ := hrest (by simp)
          obtain ⟨vo, _, hget⟩ := MsgsR.get hmr (i := 0) rfl
          have g4 : wh.cell? ⟨bo, oo + 4, none⟩ = some (.int .i64 ((k : Int) + E.length)) := hcell 4 _ (hget 4 _ rfl)
          have g6 : wh.cell? ⟨bo, oo + 6, none⟩ = some (.bool true) := hcell 6 _ (hget 6 _ rfl)
          clear hrest hcell hget hmr HSTEP
          have hXh := (hbh.block b (MM.blk_lt HXE.out)).trans HXE.out
          have hMh := (hbh.block cm (MM.blk_lt HME.out)).trans HME.out
          have hLh := HLE.out.below hbh
          have hEh := HEE.out.below hbh
          have hBh := (HB4.out.trans (HBE.out.mono hwb)).trans (hbh.mono (HB4.out.trans (HBE.out.mono hwb)).size)
          have hPh := hn.hl
          have hbs := MM.blk_lt hXh
          have hcs := MM.blk_lt hMh
          obtain ⟨d, hd⟩ : ∃ d, d = wh.heap.size := ⟨_, rfl⟩
          rw [← hd]
          obtain ⟨w7, hw7⟩ : ∃ W, W = wh.alloc (.cells #[.int .i64 sn.id, .int .i64 sn.term, .int .i64 sn.vote, .slice τ.A3 sn.log.length τ.k3, .int .i64 sn.form, .int .i64 sn.role, .int .i64 sn.commit, .slice τ.A7 sn.votes.length τ.k7, .slice τ.A8 sn.nxt.length τ.k8, .slice τ.A9 sn.mtch.length τ.k9, .slice τ.A10 sn.forms.length τ.k10, .int .i64 sn.clock, .int .i64 sn.due] 28) := ⟨_, rfl⟩
          have qX7 : ((wh.alloc (.cells #[.int .i64 sn.id, .int .i64 sn.term, .int .i64 sn.vote, .slice τ.A3 sn.log.length τ.k3, .int .i64 sn.form, .int .i64 sn.role, .int .i64 sn.commit, .slice τ.A7 sn.votes.length τ.k7, .slice τ.A8 sn.nxt.length τ.k8, .slice τ.A9 sn.mtch.length τ.k9, .slice τ.A10 sn.forms.length τ.k10, .int .i64 sn.clock, .int .i64 sn.due] 28))).heap[b]? = some (.cells #[.int .i64 1, .int .i64 T, .int .i64 (-1), .slice A3 L.length k3, .int .i64 1, .int .i64 0, .int .i64 0, .slice A7 3 k7, .slice A8 3 k8, .slice A9 3 k9, .slice A10 3 k10, .int .i64 0, .int .i64 7] 28 (0, 0)) := (Below.heap_alloc _ _ _ hbs).trans hXh
          have qM7 : ((wh.alloc (.cells #[.int .i64 sn.id, .int .i64 sn.term, .int .i64 sn.vote, .slice τ.A3 sn.log.length τ.k3, .int .i64 sn.form, .int .i64 sn.role, .int .i64 sn.commit, .slice τ.A7 sn.votes.length τ.k7, .slice τ.A8 sn.nxt.length τ.k8, .slice τ.A9 sn.mtch.length τ.k9, .slice τ.A10 sn.forms.length τ.k10, .int .i64 sn.clock, .int .i64 sn.due] 28))).heap[cm]? = some (.cells #[.int .i64 3, .int .i64 0, .int .i64 1, .int .i64 (T + 1), .int .i64 k, .int .i64 lt, .bool false, .slice Ae E.length ke, .int .i64 0, .int .i64 0] 34 (0, 0)) := (Below.heap_alloc _ _ _ hcs).trans hMh
          have qL7 : MM.Row (wh.alloc (.cells #[.int .i64 sn.id, .int .i64 sn.term, .int .i64 sn.vote, .slice τ.A3 sn.log.length τ.k3, .int .i64 sn.form, .int .i64 sn.role, .int .i64 sn.commit, .slice τ.A7 sn.votes.length τ.k7, .slice τ.A8 sn.nxt.length τ.k8, .slice τ.A9 sn.mtch.length τ.k9, .slice τ.A10 sn.forms.length τ.k10, .int .i64 sn.clock, .int .i64 sn.due] 28)) (b + 1) 40 2 (.slice A3 L.length k3) L.length (entsC L) ob := hLh.alloc _
          have qE7 : MM.Row (wh.alloc (.cells #[.int .i64 sn.id, .int .i64 sn.term, .int .i64 sn.vote, .slice τ.A3 sn.log.length τ.k3, .int .i64 sn.form, .int .i64 sn.role, .int .i64 sn.commit, .slice τ.A7 sn.votes.length τ.k7, .slice τ.A8 sn.nxt.length τ.k8, .slice τ.A9 sn.mtch.length τ.k9, .slice τ.A10 sn.forms.length τ.k10, .int .i64 sn.clock, .int .i64 sn.due] 28)) (cm + 1) 40 2 (.slice Ae E.length ke) E.length (entsC E) oq := hEh.alloc _
          have qD7 : ((wh.alloc (.cells #[.int .i64 sn.id, .int .i64 sn.term, .int .i64 sn.vote, .slice τ.A3 sn.log.length τ.k3, .int .i64 sn.form, .int .i64 sn.role, .int .i64 sn.commit, .slice τ.A7 sn.votes.length τ.k7, .slice τ.A8 sn.nxt.length τ.k8, .slice τ.A9 sn.mtch.length τ.k9, .slice τ.A10 sn.forms.length τ.k10, .int .i64 sn.clock, .int .i64 sn.due] 28))).heap[d]? = some (.cells #[.int .i64 sn.id, .int .i64 sn.term, .int .i64 sn.vote, .slice τ.A3 sn.log.length τ.k3, .int .i64 sn.form, .int .i64 sn.role, .int .i64 sn.commit, .slice τ.A7 sn.votes.length τ.k7, .slice τ.A8 sn.nxt.length τ.k8, .slice τ.A9 sn.mtch.length τ.k9, .slice τ.A10 sn.forms.length τ.k10, .int .i64 sn.clock, .int .i64 sn.due] 28 (0, 0)) := by rw [hd]; exact MM.alloc_new wh _
          have qP7 : MM.Rd (wh.alloc (.cells #[.int .i64 sn.id, .int .i64 sn.term, .int .i64 sn.vote, .slice τ.A3 sn.log.length τ.k3, .int .i64 sn.form, .int .i64 sn.role, .int .i64 sn.commit, .slice τ.A7 sn.votes.length τ.k7, .slice τ.A8 sn.nxt.length τ.k8, .slice τ.A9 sn.mtch.length τ.k9, .slice τ.A10 sn.forms.length τ.k10, .int .i64 sn.clock, .int .i64 sn.due] 28)) (fun _ => True) 2 (.slice τ.A3 sn.log.length τ.k3) sn.log.length (entsC sn.log) := (hPh.mono (fun _ _ _ => trivial)).alloc _
          have qG7 : World.cell? (wh.alloc (.cells #[.int .i64 sn.id, .int .i64 sn.term, .int .i64 sn.vote, .slice τ.A3 sn.log.length τ.k3, .int .i64 sn.form, .int .i64 sn.role, .int .i64 sn.commit, .slice τ.A7 sn.votes.length τ.k7, .slice τ.A8 sn.nxt.length τ.k8, .slice τ.A9 sn.mtch.length τ.k9, .slice τ.A10 sn.forms.length τ.k10, .int .i64 sn.clock, .int .i64 sn.due] 28)) ⟨bo, oo + 4, none⟩ = some (.int .i64 ((k : Int) + E.length)) ∧ World.cell? (wh.alloc (.cells #[.int .i64 sn.id, .int .i64 sn.term, .int .i64 sn.vote, .slice τ.A3 sn.log.length τ.k3, .int .i64 sn.form, .int .i64 sn.role, .int .i64 sn.commit, .slice τ.A7 sn.votes.length τ.k7, .slice τ.A8 sn.nxt.length τ.k8, .slice τ.A9 sn.mtch.length τ.k9, .slice τ.A10 sn.forms.length τ.k10, .int .i64 sn.clock, .int .i64 sn.due] 28)) ⟨bo, oo + 6, none⟩ = some (.bool true) := ⟨(World.cell?_of_block (a := ⟨bo, oo + 4, none⟩) (Below.heap_alloc wh _ bo hbo)).trans g4, (World.cell?_of_block (a := ⟨bo, oo + 6, none⟩) (Below.heap_alloc wh _ bo hbo)).trans g6⟩
          have qB7 : Below w.heap.size w (wh.alloc (.cells #[.int .i64 sn.id, .int .i64 sn.term, .int .i64 sn.vote, .slice τ.A3 sn.log.length τ.k3, .int .i64 sn.form, .int .i64 sn.role, .int .i64 sn.commit, .slice τ.A7 sn.votes.length τ.k7, .slice τ.A8 sn.nxt.length τ.k8, .slice τ.A9 sn.mtch.length τ.k9, .slice τ.A10 sn.forms.length τ.k10, .int .i64 sn.clock, .int .i64 sn.due] 28)) := hBh.alloc hBh.size _
          rw [← hw7] at qX7 qM7 qL7 qE7 qD7 qP7 qG7 qB7 ⊢
          have HX7 := Lib.hid qX7
          have HM7 := Lib.hid qM7
          have HL7 := Lib.hid qL7
          have HE7 := Lib.hid qE7
          have HD7 := Lib.hid qD7
          have HP7 := Lib.hid qP7
          have HG7 := Lib.hid qG7
          have HB7 := Lib.hid qB7
          clear qX7 qM7 qL7 qE7 qD7 qP7 qG7 qB7 hw7
          clear hd hn hbh HXE HME HLE HEE HBE hXh hMh hLh hEh hBh hPh g4 g6 hbo
          go_meet
          case rel => exact ⟨d, bo, oo, ko, sn, τ, rfl, rfl, HLG, HX7, HM7, HL7, HE7, HD7, HP7, HG7, HB7⟩
        case rest =>
          obtain ⟨d, bo, oo, ko, sn, τ, rfl, rfl, HLG, HX7, HM7, HL7, HE7, HD7, HP7, HG7, HB7⟩ := hcut
          have HTL := Lib.hid (takeL_eq E L k hkl)
          clear HXE HME HLE HEE HBE
          obtain ⟨w7, hw7⟩ : ∃ W, W = wc := ⟨_, rfl⟩
          rw [← hw7] at HX7 HM7 HL7 HE7 HD7 HP7 HG7 HB7 ⊢
          clear hw7
          have hel := HEL.out
          have hll := HLL.out
          go_upto_region 22 with (fail)
          have hws : IntKind.i64.wrap ((k : Int) + (E.length : Int)) = (k : Int) + E.length := IntWalk.i64_in _ (by omega)
          have m7 : w7.cell? ⟨cm, 7, none⟩ = some (.slice Ae E.length ke) := MM.cell_blk HM7.out rfl
          have g4 := HG7.out.1
          have g6 := HG7.out.2
          have hnn : (((k : Int) + E.length) != ((k : Int) + E.length)) = false := by simp
          refine Go.RT.wp_region_tree [0, 1, 3, 7, 15, 31, 63, 127, 255, 511, 1023, 2047, 4095, 8191, 16383, 2047, 2047, 67583, 198655, 493567, 1048575, 2097151] (.p 0 (.p 1 (.p 2 (.p 3 (.p 4 (.p 5 (.p 6 (.s 7 (.p 8 (.p 9 (.p 10 (.p 11 (.p 12 (.p 13 (.s 14 (.p 15 (.p 16 (.s 17 (.p 18 (.p 19 (.p 20 (.p 21 .nil)))))))))))))))))))))) (by as_aux_lemma => kernel_rfl) (by as_aux_lemma => kernel_rfl) ?_
          repeat (first | (refine Go.RT.step_p rfl (fun K hK => ?_); go_simp; refine hK _ ?_; clear hK K) | (refine Go.RT.step_s rfl (fun K hK => ?_); go_simp; refine hK _ ?_; clear hK K))
          refine Go.RT.step_nil ?_
          clear m7 g4 g6 hnn hws
          go_upto_block 4 with (fail)
          go_cut [18, 19] (fun t18 t19 wd => ∃ nd : Nat, t18 = .bool (!fitsAt L k E) ∧ wd = w7.drewN nd)
          case first => as_aux_lemma =>
            go_wp2_with fail
            go_loopw [18, 19] (fun t18 t19 wr => ∃ i nd : Nat, t18 = .bool (!fitsAt L k (E.take i)) ∧ t19 = .int .i64 i ∧ i ≤ E.length ∧ wr = w7.drewN nd) (fun _ t19 _ => E.length - (intOf t19).toNat)
            case atStart => exact ⟨0, 1, rfl, rfl, by omega, rfl⟩
            case round => as_aux_lemma =>
              obtain ⟨i, nd, rfl, rfl, hi, rfl⟩ := hrel
              have m7 : w7.cell? ⟨cm, 7, none⟩ = some (.slice Ae E.length ke) := MM.cell_blk HM7.out rfl
              by_cases hl : i < E.length
              case neg =>
                obtain rfl : i = E.length := by omega
                have hb : decide ((E.length : Int) < (E.length : Int)) = false := by simp
                rw [List.take_length]
                go_wp2_with fail
                go_meet
                case rel => exact ⟨nd, rfl, rfl⟩
              have hb : decide ((i : Int) < (E.length : Int)) = true := decide_eq_true (by omega)
              obtain ⟨e, he⟩ : ∃ e, E[i]? = some e := ⟨_, List.getElem?_eq_getElem hl⟩
              obtain ⟨x, hx, hxt⟩ := HTL.out.2.2 i e he
              rw [← HLG.out] at hx
              have hpl : k + i < sn.log.length := (List.getElem?_eq_some_iff.1 hx).1
              obtain ⟨_, A', c', ea, _, _, hrest⟩ := HP7.out
              injection ea with ea1 _ ea2
              subst ea1 ea2
              obtain ⟨bP, oP, eA, _, _, hcP⟩ := hrest (by omega)
              obtain ⟨_, A', c', ea, _, _, hrest⟩ := HE7.out.rd
              injection ea with ea1 _ ea2
              subst ea1 ea2
              obtain ⟨bE, oE, eE, _, _, hcE⟩ := hrest (by omega)
              have d3 : w7.cell? ⟨d, 3, none⟩ = some (.slice (some ⟨bP, oP, none⟩) sn.log.length τ.k3) := by rw [← eA]; exact MM.cell_blk HD7.out rfl
              have b3 : w7.cell? ⟨b, 3, none⟩ = some (.slice A3 L.length k3) := MM.cell_blk HX7.out rfl
              rw [eE] at m7
              have p0 : w7.cell? ⟨bP, oP + (k + i) * 2, none⟩ = some (.int .i64 x.term) := hcP _ _ (entsC_get hx).1
              have e0 : w7.cell? ⟨bE, oE + i * 2, none⟩ = some (.int .i64 e.term) := hcE _ _ (entsC_get he).1
              rw [hxt] at p0
              have hki : ((k : Int) + (i : Int)).toNat = k + i := by omega
              have hk0 : 0 ≤ (k : Int) + (i : Int) := by omega
              have hk1 : (k : Int) + (i : Int) < (sn.log.length : Int) := by omega
              have hk2 : decide ((sn.log.length : Int) ≤ (k : Int) + (i : Int)) = false := decide_eq_false (by omega)
              have hnn : (e.term != e.term) = false := by simp
              have HF := Lib.hid (fitsAt_take_succ (l := L) (k := k) he)
              clear hrest hcP hcE hx hxt he eA eE
              go_upto_region 29 with (fail)
              refine Go.RT.wp_region_tree [0, 0, 2, 6, 15, 31, 63, 127, 63, 511, 1023, 2047, 63, 4159, 63, 28735, 61503, 127039, 262143, 524287] (.p 0 (.p 1 (.s 2 (.p 3 (.p 4 (.p 5 (.p 6 (.s 7 (.p 8 (.p 9 (.p 10 (.s 11 (.p 12 (.s 13 (.p 14 (.p 15 (.p 16 (.s 17 (.p 18 (.p 19 .nil)))))))))))))))))))) (by as_aux_lemma => kernel_rfl) (by as_aux_lemma => kernel_rfl) ?_
              repeat (first | (refine Go.RT.step_p rfl (fun K hK => ?_); go_simp; refine hK _ ?_; clear hK K) | (refine Go.RT.step_s rfl (fun K hK => ?_); go_simp; refine hK _ ?_; clear hK K))
              refine Go.RT.step_nil ?_
              go_upto_region 31 with (fail)
              clear d3 p0 hk1 hk2 hnn
              cases hfi : fitsAt L k (E.take i)
              · have HF2 := Lib.hid (show (!fitsAt L k (E.take (i + 1))) = true from by rw [HF.out, hfi]; rfl)
                simp only [Bool.not_false]
                clear hfi
                refine Go.RT.wp_region_tree [0, 1, 3, 3, 11, 27, 63, 127, 255, 511, 1023, 511, 4095, 8191, 16383, 511, 33279, 511, 229887, 492031, 1016319, 2097151, 4194303, 8388607] (.p 0 (.p 1 (.p 2 (.p 3 (.s 4 (.p 5 (.p 6 (.p 7 (.p 8 (.p 9 (.s 10 (.p 11 (.p 12 (.p 13 (.s 14 (.p 15 (.s 16 (.p 17 (.p 18 (.p 19 (.s 20 (.p 21 (.p 22 (.w 23 [] .nil .stop)))))))))))))))))))))))) (by as_aux_lemma => kernel_rfl) (by as_aux_lemma => kernel_rfl) ?_
                repeat (first | (refine Go.RT.step_p rfl (fun K hK => ?_); go_simp; refine hK _ ?_; clear hK K) | (refine Go.RT.step_s rfl (fun K hK => ?_); go_simp; refine hK _ ?_; clear hK K))
                (refine Go.RT.step_w rfl rfl (fun K hK => ?_) Go.RT.step_stop)
                go_wp2
                refine Go.RT.QK_normal _ _ _ _ (hK _ _ ?_ ?_) <;> clear hK K
                · repeat (first | exact Go.RT.again_nil | (refine Go.RT.again_not rfl rfl ?_) | (refine Go.RT.again_one rfl (by go_simp <;> rfl) ?_))
                refine Go.RT.step_nil ?_
                go_wp2_with fail
                go_roundw
                case rel => exact ⟨i + 1, nd + 2, by rw [HF2.out], by go_num, by omega, rfl⟩
                case measure => simp [intOf]; omega
              by_cases hkl2 : k + i < L.length
              case neg =>
                have HF2 := Lib.hid (show (!fitsAt L k (E.take (i + 1))) = true from by rw [HF.out, decide_eq_false hkl2]; simp)
                have hz : decide ((L.length : Int) ≤ (k : Int) + (i : Int)) = true := decide_eq_true (by omega)
                simp only [Bool.not_true]
                clear hfi hkl2
                refine Go.RT.wp_region_tree [0, 1, 3, 3, 11, 27, 63, 127, 255, 511, 1023, 511, 4095, 8191, 16383, 511, 33279, 511, 229887, 492031, 1016319, 2097151, 4194303, 8388607] (.p 0 (.p 1 (.p 2 (.p 3 (.s 4 (.p 5 (.p 6 (.p 7 (.p 8 (.p 9 (.s 10 (.p 11 (.p 12 (.p 13 (.s 14 (.p 15 (.s 16 (.p 17 (.p 18 (.p 19 (.s 20 (.p 21 (.p 22 (.w 23 [] .nil .stop)))))))))))))))))))))))) (by as_aux_lemma => kernel_rfl) (by as_aux_lemma => kernel_rfl) ?_
                repeat (first | (refine Go.RT.step_p rfl (fun K hK => ?_); go_simp; refine hK _ ?_; clear hK K) | (refine Go.RT.step_s rfl (fun K hK => ?_); go_simp; refine hK _ ?_; clear hK K))
                (refine Go.RT.step_w rfl rfl (fun K hK => ?_) Go.RT.step_stop)
                go_wp2
                refine Go.RT.QK_normal _ _ _ _ (hK _ _ ?_ ?_) <;> clear hK K
                · repeat (first | exact Go.RT.again_nil | (refine Go.RT.again_not rfl rfl ?_) | (refine Go.RT.again_one rfl (by go_simp <;> rfl) ?_))
                refine Go.RT.step_nil ?_
                go_wp2_with fail
                go_roundw
                case rel => exact ⟨i + 1, nd + 2, by rw [HF2.out], by go_num, by omega, rfl⟩
                case measure => simp [intOf]; omega
              obtain ⟨y, hy⟩ : ∃ y, L[k + i]? = some y := ⟨_, List.getElem?_eq_getElem hkl2⟩
              obtain ⟨_, A', c', ea, _, _, hrest⟩ := HL7.out.rd
              injection ea with ea1 _ ea2
              subst ea1 ea2
              obtain ⟨bL, oL, eL, _, _, hcL⟩ := hrest (by omega)
              rw [eL] at b3
              have l0c : w7.cell? ⟨bL, oL + (k + i) * 2, none⟩ = some (.int .i64 y.term) := hcL _ _ (entsC_get hy).1
              have hz : decide ((L.length : Int) ≤ (k : Int) + (i : Int)) = false := decide_eq_false (by omega)
              have hz1 : (k : Int) + (i : Int) < (L.length : Int) := by omega
              have hty : termAt L ((k + i + 1 : Nat) : Int) = y.term := termAt_get hy
              simp only [Bool.not_true]
              clear hrest hcL eL hy
              by_cases hq : y.term = e.term
              · have hqb : (y.term != e.term) = false := by simpa using hq
                have HF2 := Lib.hid (show (!fitsAt L k (E.take (i + 1))) = false from by rw [HF.out, hfi, decide_eq_true hkl2, hty, decide_eq_true hq]; rfl)
                clear hfi hkl2 hty hq
                refine Go.RT.wp_region_tree [0, 1, 3, 3, 11, 27, 63, 127, 255, 511, 1023, 511, 4095, 8191, 16383, 511, 33279, 511, 229887, 492031, 1016319, 2097151, 4194303, 8388607] (.p 0 (.p 1 (.p 2 (.p 3 (.s 4 (.p 5 (.p 6 (.p 7 (.p 8 (.p 9 (.s 10 (.p 11 (.p 12 (.p 13 (.s 14 (.p 15 (.s 16 (.p 17 (.p 18 (.p 19 (.s 20 (.p 21 (.p 22 (.w 23 [] .nil .stop)))))))))))))))))))))))) (by as_aux_lemma => kernel_rfl) (by as_aux_lemma => kernel_rfl) ?_
                repeat (first | (refine Go.RT.step_p rfl (fun K hK => ?_); go_simp; refine hK _ ?_; clear hK K) | (refine Go.RT.step_s rfl (fun K hK => ?_); go_simp; refine hK _ ?_; clear hK K))
                (refine Go.RT.step_w rfl rfl (fun K hK => ?_) Go.RT.step_stop)
                go_wp2
                refine Go.RT.QK_normal _ _ _ _ (hK _ _ ?_ ?_) <;> clear hK K
                · repeat (first | exact Go.RT.again_nil | (refine Go.RT.again_not rfl rfl ?_) | (refine Go.RT.again_one rfl (by go_simp <;> rfl) ?_))
                refine Go.RT.step_nil ?_
                go_wp2_with fail
                go_roundw
                case rel => exact ⟨i + 1, nd + 2, by rw [HF2.out], by go_num, by omega, rfl⟩
                case measure => simp [intOf]; omega
              · have hqb : (y.term != e.term) = true := by simpa using hq
                have HF2 := Lib.hid (show (!fitsAt L k (E.take (i + 1))) = true from by rw [HF.out, hfi, decide_eq_true hkl2, hty, decide_eq_false hq]; rfl)
                clear hfi hkl2 hty hq
                refine Go.RT.wp_region_tree [0, 1, 3, 3, 11, 27, 63, 127, 255, 511, 1023, 511, 4095, 8191, 16383, 511, 33279, 511, 229887, 492031, 1016319, 2097151, 4194303, 8388607] (.p 0 (.p 1 (.p 2 (.p 3 (.s 4 (.p 5 (.p 6 (.p 7 (.p 8 (.p 9 (.s 10 (.p 11 (.p 12 (.p 13 (.s 14 (.p 15 (.s 16 (.p 17 (.p 18 (.p 19 (.s 20 (.p 21 (.p 22 (.w 23 [] .nil .stop)))))))))))))))))))))))) (by as_aux_lemma => kernel_rfl) (by as_aux_lemma => kernel_rfl) ?_
                repeat (first | (refine Go.RT.step_p rfl (fun K hK => ?_); go_simp; refine hK _ ?_; clear hK K) | (refine Go.RT.step_s rfl (fun K hK => ?_); go_simp; refine hK _ ?_; clear hK K))
                (refine Go.RT.step_w rfl rfl (fun K hK => ?_) Go.RT.step_stop)
                go_wp2
                refine Go.RT.QK_normal _ _ _ _ (hK _ _ ?_ ?_) <;> clear hK K
                · repeat (first | exact Go.RT.again_nil | (refine Go.RT.again_not rfl rfl ?_) | (refine Go.RT.again_one rfl (by go_simp <;> rfl) ?_))
                refine Go.RT.step_nil ?_
                go_wp2_with fail
                go_roundw
                case rel => exact ⟨i + 1, nd + 2, by rw [HF2.out], by go_num, by omega, rfl⟩
                case measure => simp [intOf]; omega
          case rest =>
            obtain ⟨nd, rfl, rfl⟩ := hcut
            have b3 : w7.cell? ⟨b, 3, none⟩ = some (.slice A3 L.length k3) := MM.cell_blk HX7.out rfl
            have d3 : w7.cell? ⟨d, 3, none⟩ = some (.slice τ.A3 sn.log.length τ.k3) := MM.cell_blk HD7.out rfl
            have m7 : w7.cell? ⟨cm, 7, none⟩ = some (.slice Ae E.length ke) := MM.cell_blk HM7.out rfl
            have hnl : sn.log.length = (if fitsAt L k E then L.length else k + E.length) := by rw [HLG.out]; exact HTL.out.2.1
            have hkn : k ≤ sn.log.length := by rw [hnl]; split <;> omega
            obtain ⟨_, _, ea, hkP, hkm⟩ := HP7.out.slice
            injection ea with ea1 _ ea3
            subst ea1 ea3
            obtain ⟨_, _, ea, hkL, hkM⟩ := HL7.out.slice
            injection ea with ea1 _ ea3
            subst ea1 ea3
            have hsnk : sn.log.take k = L.take k := by rw [HLG.out]; exact HTL.out.1
            have hlk : (L.take k).length = k := by rw [List.length_take]; omega
            have RS : Hid (∀ wx, Below w7.heap.size w7 wx → Calls Try.prog 28 #[.slice τ.A3 k τ.k3, .slice A3 k k3] wx fun e w' => e = .returned (.bool true) ∧ Below wx.heap.size wx w') := by
              refine Lib.hid (fun wx hB => ?_)
              have := rents_same wx (fun _ => True) (fun _ => True) τ.A3 A3 τ.k3 k3 (L.take k) (by rw [hlk, ← hsnk, ← entsC_take]; exact (rd_front HP7.out hkn (by omega) (Nat.le_refl _)).below hB) (by rw [hlk, ← entsC_take]; exact ((rd_front HL7.out.rd hkl (by omega) (Nat.le_refl _)).mono (fun _ _ _ => trivial)).below hB)
              rw [hlk] at this
              exact this
            have hk0 : 0 ≤ (k : Int) := by omega
            have hk1 : (k : Int) ≤ (τ.k3 : Int) := by omega
            have hk2 : (k : Int) ≤ (k3 : Int) := by omega
            have hk3 : (k : Int) ≤ max (k : Int) 0 := by omega
            have hws : IntKind.i64.wrap ((k : Int) + (E.length : Int)) = (k : Int) + E.length := IntWalk.i64_in _ (by omega)
            have HB8 : Hid (∀ n, Below w.heap.size w (w7.drewN n)) := Lib.hid (fun n => ⟨HB7.out.os, HB7.out.tape, HB7.out.output, HB7.out.size, HB7.out.block⟩)
            have HR8 : Hid (∀ n, Below w7.heap.size w7 (w7.drewN n)) := Lib.hid (fun n => have h := Below.refl w7.heap.size w7; ⟨h.os, h.tape, h.output, h.size, h.block⟩)
            clear hsnk hlk hkP hkm hkL hkM
            cases hfi : fitsAt L k E
            · rw [hfi, if_neg (by decide)] at hnl
              have hq : ((sn.log.length : Int) == (k : Int) + (E.length : Int)) = true := by rw [hnl]; simp
              simp only [Bool.not_false]
              clear hfi hnl hkn
              go_upto_region 35 with (fail)
              refine Go.RT.wp_region_tree [0, 1, 3, 0, 15, 31, 63, 127, 63, 511, 63, 1087, 63, 7231, 16383, 32767, 65535] (.p 0 (.s 1 (.p 2 (.p 3 (.p 4 (.p 5 (.p 6 (.s 7 (.p 8 (.p 9 (.p 10 (.s 11 (.p 12 (.p 13 (.w 14 [] (.p 15 (.w 16 [] .nil .stop)) .stop))))))))))))))) (by as_aux_lemma => kernel_rfl) (by as_aux_lemma => kernel_rfl) ?_
              repeat (first | (refine Go.RT.step_p rfl (fun K hK => ?_); go_simp; refine hK _ ?_; clear hK K) | (refine Go.RT.step_s rfl (fun K hK => ?_); go_simp; refine hK _ ?_; clear hK K))
              (refine Go.RT.step_w rfl rfl (fun K hK => ?_) Go.RT.step_stop)
              go_wp2_with fail
              refine (RS.out _ (HR8.out _)).mono ?_
              rintro e wx ⟨rfl, hbx⟩
              go_wp2_with fail
              refine Go.RT.QK_normal _ _ _ _ (hK _ _ ?_ ?_) <;> clear hK K
              · repeat (first | exact Go.RT.again_nil | (refine Go.RT.again_not rfl rfl ?_) | (refine Go.RT.again_one rfl (by go_simp <;> rfl) ?_))
              repeat (first | (refine Go.RT.step_p rfl (fun K hK => ?_); go_simp; refine hK _ ?_; clear hK K) | (refine Go.RT.step_s rfl (fun K hK => ?_); go_simp; refine hK _ ?_; clear hK K))
              (refine Go.RT.step_w rfl rfl (fun K hK => ?_) Go.RT.step_stop)
              go_wp2
              refine Go.RT.QK_normal _ _ _ _ (hK _ _ ?_ ?_) <;> clear hK K
              · repeat (first | exact Go.RT.again_nil | (refine Go.RT.again_not rfl rfl ?_) | (refine Go.RT.again_one rfl (by go_simp <;> rfl) ?_))
              refine Go.RT.step_nil ?_
              go_wp2_with fail
              go_ret
              exact ⟨rfl, (HB8.out _).trans (hbx.mono HB7.out.size)⟩
            · rw [hfi, if_pos rfl] at hnl
              have hq : ((sn.log.length : Int) == (L.length : Int)) = true := by rw [hnl]; simp
              simp only [Bool.not_true]
              clear hfi hnl hkn
              go_upto_region 35 with (fail)
              refine Go.RT.wp_region_tree [0, 1, 3, 0, 15, 31, 63, 127, 63, 511, 63, 1087, 63, 7231, 16383, 32767, 65535] (.p 0 (.s 1 (.p 2 (.p 3 (.p 4 (.p 5 (.p 6 (.s 7 (.p 8 (.p 9 (.p 10 (.s 11 (.p 12 (.p 13 (.w 14 [] (.p 15 (.w 16 [] .nil .stop)) .stop))))))))))))))) (by as_aux_lemma => kernel_rfl) (by as_aux_lemma => kernel_rfl) ?_
              repeat (first | (refine Go.RT.step_p rfl (fun K hK => ?_); go_simp; refine hK _ ?_; clear hK K) | (refine Go.RT.step_s rfl (fun K hK => ?_); go_simp; refine hK _ ?_; clear hK K))
              (refine Go.RT.step_w rfl rfl (fun K hK => ?_) Go.RT.step_stop)
              go_wp2_with fail
              refine (RS.out _ (HR8.out _)).mono ?_
              rintro e wx ⟨rfl, hbx⟩
              go_wp2_with fail
              refine Go.RT.QK_normal _ _ _ _ (hK _ _ ?_ ?_) <;> clear hK K
              · repeat (first | exact Go.RT.again_nil | (refine Go.RT.again_not rfl rfl ?_) | (refine Go.RT.again_one rfl (by go_simp <;> rfl) ?_))
              repeat (first | (refine Go.RT.step_p rfl (fun K hK => ?_); go_simp; refine hK _ ?_; clear hK K) | (refine Go.RT.step_s rfl (fun K hK => ?_); go_simp; refine hK _ ?_; clear hK K))
              (refine Go.RT.step_w rfl rfl (fun K hK => ?_) Go.RT.step_stop)
              go_wp2
              refine Go.RT.QK_normal _ _ _ _ (hK _ _ ?_ ?_) <;> clear hK K
              · repeat (first | exact Go.RT.again_nil | (refine Go.RT.again_not rfl rfl ?_) | (refine Go.RT.again_one rfl (by go_simp <;> rfl) ?_))
              refine Go.RT.step_nil ?_
              go_wp2_with fail
              go_ret
              exact ⟨rfl, (HB8.out _).trans (hbx.mono HB7.out.size)⟩

end Go.Proofs.Ytnkmljdkokcdjaa
