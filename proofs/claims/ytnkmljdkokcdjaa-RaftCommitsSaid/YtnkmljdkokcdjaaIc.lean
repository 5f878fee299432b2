/- The law RaftCommits: a leader's commit is as far as a majority has what is of its term. -/
import Derived.WalkKit
import Derived.WalkSpells
import Derived.Lib.Hide
import Derived.Outline
import Derived.Test.YtnkmljdkokcdjaaChecked
import Derived.Test.YtnkmljdkokcdjaaMn
import Derived.Test.YtnkmljdkokcdjaaMem
import Derived.Test.YtnkmljdkokcdjaaFed
import Derived.Test.YtnkmljdkokcdjaaIb
import Derived.Test.YtnkmljdkokcdjaaMe
import Derived.Test.YtnkmljdkokcdjaaRl1
import Derived.Test.YtnkmljdkokcdjaaMk
import Derived.Test.YtnkmljdkokcdjaaMm
import Derived.Deep.DeepCutAuto
import Derived.Deep.CutBlock
import Derived.Deep.OwnRows
import Derived.IntWalk
set_option linter.unusedVariables false
set_option linter.unusedSimpArgs false
namespace Go.Proofs.Ytnkmljdkokcdjaa
open Go.RowKit Fed
set_option linter.unusedVariables false
attribute [local go_sem high] Fed.max2_int Fed.min2_int

theorem tdiv_nat' (q n : Nat) (h : q ≤ 4611686018427387904) : IntKind.i64.wrap ((q : Int).tdiv (n : Int)) = ((q / n : Nat) : Int) := by
  rw [← Int.ofNat_tdiv]
  have := Nat.div_le_self q n
  exact IntWalk.i64_in _ ⟨by have h0 : (0 : Int) ≤ ((q / n : Nat) : Int) := Int.natCast_nonneg _; omega, by have h1 : ((q / n : Nat) : Int) ≤ (q : Int) := Int.ofNat_le.2 this; omega⟩
/-- The law's row of five numbers. -/
def atC (a : List Int) : Array Value := #[.int .i64 (a.getD 0 0), .int .i64 (a.getD 1 0), .int .i64 (a.getD 2 0), .int .i64 (a.getD 3 0), .int .i64 (a.getD 4 0)]
theorem atC_get {a : List Int} {i : Nat} (hi : i < 5) : (atC a)[i]? = some (.int .i64 (a.getD i 0)) := by
  have h : i = 0 ∨ i = 1 ∨ i = 2 ∨ i = 3 ∨ i = 4 := by omega
  rcases h with rfl | rfl | rfl | rfl | rfl <;> rfl
theorem atC_set {a : List Int} {i : Nat} {v : Int} (hi : i < 5) (hl : i < a.length) : (atC a).setIfInBounds i (.int .i64 v) = atC (a.set i v) := by
  have g : ∀ j, (a.set i v).getD j 0 = if i = j then v else a.getD j 0 := fun j => by
    rw [List.getD_eq_getElem?_getD, List.getElem?_set]
    by_cases h : i = j
    · rw [if_pos h, if_pos h, if_pos hl]; rfl
    · rw [if_neg h, if_neg h, List.getD_eq_getElem?_getD]
  unfold atC
  rw [g, g, g, g, g]
  have h : i = 0 ∨ i = 1 ∨ i = 2 ∨ i = 3 ∨ i = 4 := by omega
  rcases h with rfl | rfl | rfl | rfl | rfl <;> simp
theorem atC_at0 {k j : Nat} (hk : 2 ≤ k) : atC (at0 k j) = #[.int .i64 ((j : Int) + 1), .int .i64 0, .int .i64 0, .int .i64 0, .int .i64 0] := by
  have h : ∀ i, 1 ≤ i → (at0 k j).getD i 0 = 0 := fun i hi => by
    by_cases q : i < k
    · rw [at0_get q, if_neg (by omega)]
    · rw [List.getD_eq_getElem?_getD, List.getElem?_eq_none (by rw [at0_len]; omega)]; rfl
  unfold atC
  rw [h 1 (by omega), h 2 (by omega), h 3 (by omega), h 4 (by omega), at0_get (by omega), if_pos rfl]
  rfl
set_option maxRecDepth 100000 in
set_option maxHeartbeats 40000000 in
theorem commits_law (a0 a1 : Int) (v2 : Value) (l2 : List Int) (x0 : (Lit.int .i64 a0).wf = true) (x1 : (Lit.int .i64 a1).wf = true) (w : World) (hr2 : MM.Rd w (fun j => j < w.heap.size) 1 v2 l2.length (intsC l2)) (hw2 : ∀ x, x ∈ l2 → (Lit.int .i64 x).wf = true) :
    Calls Try.prog 6 #[.int .i64 a0, .int .i64 a1, v2] w fun e w' => e = .returned (.bool true) ∧ Below w.heap.size w w' := by
  obtain ⟨A2, c2, rfl, q1, q2⟩ := hr2.slice
  have hm_l2 : l2.length ≤ maxLen := by omega
  unfold maxLen at hm_l2
  clear q1 q2
  have Hhr2 := Lib.hid hr2
  have Hhw2 := Lib.hid hw2
  clear hr2 hw2
  go_enter Try.func6, Try.ntmps6
  go_wp2_with fail
  refine (known_any _).mono ?_
  rintro e w1 ⟨rfl, hb1⟩
  have HB1 := Lib.hid hb1
  clear hb1
  go_wp2_with fail
  refine (within_fn _ a0 4 x0 (by omega) (by omega)).mono ?_
  rintro e w' ⟨rfl, rfl⟩
  have hv := wi_range a0 4 (by omega)
  generalize wi a0 4 = q at hv ⊢
  obtain ⟨q, rfl⟩ : ∃ q' : Nat, q = q' := ⟨q.toNat, by omega⟩
  have hk5 : q < 4 := by omega
  clear hv
  have hws : IntKind.i64.wrap (2 + (q : Int)) = ((q + 2 : Nat) : Int) := by rw [IntWalk.i64_in _ (by omega)]; omega
  go_wp2_with fail
  obtain ⟨k, hK⟩ : ∃ k : Nat, (q : Int) + 2 = k := ⟨q + 2, by omega⟩
  rw [hK]
  have hk2 : 2 ≤ k := by omega
  have hk5' : k ≤ 5 := by omega
  clear hws hk5 hK
  refine (leader_any w1 k hk2 hk5').mono ?_
  rintro e w2 ⟨σ, rfl, hn2, hb2⟩
  have HB2 := Lib.hid (HB1.out.trans (hb2.mono HB1.out.size))
  have N2 := Lib.hid (show NodeVs w2 (fun j => w.heap.size ≤ j ∧ j < w2.heap.size) (ledH k (k - 1)) σ from hn2.mono (fun j hj hl => ⟨by have := HB1.out.size; omega, hl⟩))
  have L0 := Lib.hid (led_one k hk2 hk5')
  generalize ledH k (k - 1) = n at N2 L0 ⊢
  clear hn2 hb2 HB1
  go_upto_region 5 with (fail)
  obtain ⟨b8, hb8⟩ : ∃ b, b = w2.heap.size := ⟨_, rfl⟩
  rw [← hb8]
  refine name_world (F := fun W => Hid (W.heap[b8]? = some (.cells #[.int .i64 n.id, .int .i64 n.term, .int .i64 n.vote, .slice σ.A3 n.log.length σ.k3, .int .i64 n.form, .int .i64 n.role, .int .i64 n.commit, .slice σ.A7 n.votes.length σ.k7, .slice σ.A8 n.nxt.length σ.k8, .slice σ.A9 n.mtch.length σ.k9, .slice σ.A10 n.forms.length σ.k10, .int .i64 n.clock, .int .i64 n.due] 28 (0, 0))) ∧ Hid (NodeVs W (fun j => w.heap.size ≤ j ∧ j ≠ b8) n σ) ∧ Hid (Below w.heap.size w W) ∧ Hid (b8 < W.heap.size)) _ (by exact ⟨Lib.hid (by rw [hb8]; exact MM.alloc_new _ _), Lib.hid ((N2.out.step (fun j _ hl => Below.heap_alloc _ _ j hl)).mono (fun j hj _ => ⟨hj.1, by rw [hb8]; omega⟩)), Lib.hid (HB2.out.alloc HB2.out.size _), Lib.hid (by rw [hb8]; simp)⟩) ?_
  clear N2
  intro w3 ⟨X3, N3, HB3, LT3⟩
  have BW := Lib.hid (show w.heap.size ≤ b8 from by rw [hb8]; exact HB2.out.size)
  clear hb8 HB2
  go_wp2_with fail
  refine (within_fn _ a1 8 x1 (by omega) (by omega)).mono ?_
  rintro e w' ⟨rfl, rfl⟩
  have hv := wi_range a1 8 (by omega)
  generalize wi a1 8 = jj at hv ⊢
  obtain ⟨j, rfl⟩ : ∃ j' : Nat, jj = j' := ⟨jj.toNat, by omega⟩
  have hj8 : j < 8 := by omega
  clear hv
  go_wp2_with fail
  go_loopw [10] (fun t10 wr => ∃ (i : Nat) (n : Fed.Node) (σ : Sl5), i ≤ j ∧ t10 = .int .i64 i ∧ Hid (LedN k i (at0 k i) n) ∧ Hid (wr.heap[b8]? = some (.cells #[.int .i64 n.id, .int .i64 n.term, .int .i64 n.vote, .slice σ.A3 n.log.length σ.k3, .int .i64 n.form, .int .i64 n.role, .int .i64 n.commit, .slice σ.A7 n.votes.length σ.k7, .slice σ.A8 n.nxt.length σ.k8, .slice σ.A9 n.mtch.length σ.k9, .slice σ.A10 n.forms.length σ.k10, .int .i64 n.clock, .int .i64 n.due] 28 (0, 0))) ∧ Hid (NodeVs wr (fun j => w.heap.size ≤ j ∧ j ≠ b8) n σ) ∧ Hid (Below w.heap.size w wr) ∧ Hid (b8 < wr.heap.size)) (fun t10 _ => j - (intOf t10).toNat)
  case atStart => exact ⟨0, n, σ, by omega, rfl, L0, X3, N3, HB3, LT3⟩
  case round =>
    clear L0 X3 N3 HB3 LT3
    obtain ⟨i, n, σ, hi, rfl, L, X, N, HB, LT⟩ := hrel
    by_cases hlt : i < j
    · have hlb : decide ((i : Int) < (j : Int)) = true := decide_eq_true (by omega)
      have hlb2 : decide (i < j) = true := decide_eq_true hlt
      obtain ⟨c0, c1, c2, c3, c4, c5, c6, c7, c8, c9, c10, c11, c12⟩ := MM.cells13 X.out
      go_wp2_with fail
      refine (propose_any wr (fun j => w.heap.size ≤ j ∧ j ≠ b8) n σ _ N.out (by rw [L.out.ll]; omega) (by rw [L.out.vl]; omega) (by rw [L.out.xl, L.out.vl]) (by rw [L.out.ml, L.out.al, L.out.vl]) (by rw [L.out.fl]; omega) (by rw [L.out.id]; omega) (by rw [L.out.id, L.out.vl]; omega) (fun q hq => by have h := L.out.nx q (by rw [← L.out.xl]; exact hq); omega)).mono ?_
      rintro e w5 ⟨τ, A5, c5', rfl, hn5, ho5, hb5⟩
      have X5 := Lib.hid ((hb5.block _ LT.out).trans X.out)
      have N5 := Lib.hid (show NodeVs w5 (fun j => w.heap.size ≤ j ∧ j ≠ b8) (proposeS n ⟨#[120]⟩).n τ from hn5.mono (fun q hq hl => ⟨by have := HB.out.size; omega, by have := LT.out; omega⟩))
      have L5 := Lib.hid (led_prop L.out hk2 ⟨#[120]⟩)
      have HB5 := Lib.hid (HB.out.trans (hb5.mono HB.out.size))
      have LT5 := Lib.hid (Nat.lt_of_lt_of_le LT.out hb5.size)
      clear hn5 ho5 hb5 X N HB LT L c0 c1 c2 c3 c4 c5 c6 c7 c8 c9 c10 c11 c12
      obtain ⟨z0, z1, z2, z3, z4, z5, z6, z7, z8, z9, z10, z11, z12⟩ := MM.frees13 X5.out
      obtain ⟨y0, y1, y2, y3, y4, y5, y6, y7, y8, y9, y10, y11, y12⟩ := MM.cells13 X5.out
      go_upto_region 8 with (fail)
      generalize (proposeS n ⟨#[120]⟩).n = n5 at N5 L5 ⊢
      refine name_world (F := fun W => Hid (W.heap[b8]? = some (.cells #[.int .i64 n5.id, .int .i64 n5.term, .int .i64 n5.vote, .slice τ.A3 n5.log.length τ.k3, .int .i64 n5.form, .int .i64 n5.role, .int .i64 n5.commit, .slice τ.A7 n5.votes.length τ.k7, .slice τ.A8 n5.nxt.length τ.k8, .slice τ.A9 n5.mtch.length τ.k9, .slice τ.A10 n5.forms.length τ.k10, .int .i64 n5.clock, .int .i64 n5.due] 28 (0, 0))) ∧ Hid (NodeVs W (fun j => w.heap.size ≤ j ∧ j ≠ b8) n5 τ) ∧ Hid (Below w.heap.size w W) ∧ Hid (b8 < W.heap.size)) _ (by exact ⟨Lib.hid ((set13 X5.out).trans rfl), Lib.hid (N5.out.step (fun q hq _ => far13 hq.2)), Lib.hid (below13 HB5.out BW.out), Lib.hid (Nat.lt_of_lt_of_le LT5.out (below13 (Below.refl b8 _) (Nat.le_refl _)).size)⟩) ?_
      intro w6 ⟨X6, N6, HB6, LT6⟩
      clear z0 z1 z2 z3 z4 z5 z6 z7 z8 z9 z10 z11 z12 y0 y1 y2 y3 y4 y5 y6 y7 y8 y9 y10 y11 y12 X5 N5 HB5 LT5
      go_wp2_with fail
      go_roundw
      case rel => first | exact ⟨i + 1, n5, τ, by omega, by go_num, L5, X6, N6, HB6, LT6⟩ | ((repeat apply Exists.intro); refine ⟨?_, rfl⟩; exact ⟨i + 1, n5, τ, by omega, by go_num, L5, X6, N6, HB6, LT6⟩)
      case measure => simp [intOf]; omega
    · have hlb : decide ((i : Int) < (j : Int)) = false := decide_eq_false (by omega)
      have hlb2 : decide (i < j) = false := decide_eq_false hlt
      obtain rfl : i = j := by omega
      have hwj : IntKind.i64.wrap ((i : Int) + 1) = (i : Int) + 1 := IntWalk.i64_in _ (by omega)
      go_upto_region 12 with (fail)
      obtain ⟨b11, hb11⟩ : ∃ b, b = wr.heap.size := ⟨_, rfl⟩
      rw [← hb11]
      refine name_world (F := fun W => Hid (W.heap[b8]? = some (.cells #[.int .i64 n.id, .int .i64 n.term, .int .i64 n.vote, .slice σ.A3 n.log.length σ.k3, .int .i64 n.form, .int .i64 n.role, .int .i64 n.commit, .slice σ.A7 n.votes.length σ.k7, .slice σ.A8 n.nxt.length σ.k8, .slice σ.A9 n.mtch.length σ.k9, .slice σ.A10 n.forms.length σ.k10, .int .i64 n.clock, .int .i64 n.due] 28 (0, 0))) ∧ Hid (NodeVs W (fun j => w.heap.size ≤ j ∧ j ≠ b8 ∧ j ≠ b11) n σ) ∧ Hid (W.heap[b11]? = some (.cells (atC (at0 k i)) 46 (0, 0))) ∧ Hid (Below w.heap.size w W) ∧ Hid (b8 < W.heap.size ∧ b11 < W.heap.size)) _ (by exact ⟨Lib.hid ((Below.heap_alloc _ _ _ LT.out).trans X.out), Lib.hid (((N.out.mono (ok' := fun q => (w.heap.size ≤ q ∧ q ≠ b8) ∧ q < wr.heap.size) (fun q hq hl => ⟨hq, hl⟩)).step (fun q hq hl => Below.heap_alloc _ _ q hl)).mono (fun q hq hl => ⟨hq.1.1, hq.1.2, by rw [hb11]; exact Nat.ne_of_lt hq.2⟩)), Lib.hid (by rw [hb11, atC_at0 hk2]; exact MM.alloc_new _ _), Lib.hid (HB.out.alloc HB.out.size _), Lib.hid (⟨by have := LT.out; simp; omega, by rw [hb11]; simp⟩)⟩) ?_
      intro w7 ⟨X7, N7, AT7, HB7, LT7⟩
      have BN := Lib.hid (show b8 ≠ b11 ∧ w.heap.size ≤ b11 from ⟨by rw [hb11]; exact Nat.ne_of_lt LT.out, by rw [hb11]; exact HB.out.size⟩)
      clear hb11 X N HB LT hlb hlb2 hlt hi
      go_wp2_with fail
      go_loopw [12] (fun t12 wr => ∃ (r : Nat) (n : Fed.Node) (σ : Sl5) (a : List Int), r ≤ l2.length ∧ r ≤ 15 ∧ t12 = .int .i64 r ∧ Hid (LedN k i a n) ∧ Hid (wr.heap[b8]? = some (.cells #[.int .i64 n.id, .int .i64 n.term, .int .i64 n.vote, .slice σ.A3 n.log.length σ.k3, .int .i64 n.form, .int .i64 n.role, .int .i64 n.commit, .slice σ.A7 n.votes.length σ.k7, .slice σ.A8 n.nxt.length σ.k8, .slice σ.A9 n.mtch.length σ.k9, .slice σ.A10 n.forms.length σ.k10, .int .i64 n.clock, .int .i64 n.due] 28 (0, 0))) ∧ Hid (NodeVs wr (fun j => w.heap.size ≤ j ∧ j ≠ b8 ∧ j ≠ b11) n σ) ∧ Hid (wr.heap[b11]? = some (.cells (atC a) 46 (0, 0))) ∧ Hid (Below w.heap.size w wr) ∧ Hid (b8 < wr.heap.size ∧ b11 < wr.heap.size)) (fun t12 _ => l2.length - (intOf t12).toNat)
      case atStart => exact ⟨0, n, σ, _, by omega, by omega, rfl, L, X7, N7, AT7, HB7, LT7⟩
      case round =>
        clear L X7 N7 AT7 HB7 LT7
        obtain ⟨r, n, σ, a, hr, hr15, rfl, L, X, N, AT, HB, LT⟩ := hrel
        obtain ⟨b, hb⟩ : ∃ b : Bool, b = (decide (r < l2.length) && decide (r < 15)) := ⟨_, rfl⟩
        have HBB := Lib.hid hb
        clear hb
        go_upto_region 13 with (fail)
        go_cut [52] (fun vb wc => vb = .bool b ∧ wr = wc)
        case first =>
          by_cases h1 : r < l2.length
          · have h1b : decide ((r : Int) < (l2.length : Int)) = true := decide_eq_true (by omega)
            by_cases h2 : r < 15
            · have h2b : decide ((r : Int) < 15) = true := decide_eq_true (by omega)
              have hbb : b = true := by rw [HBB.out, decide_eq_true h1, decide_eq_true h2]; rfl
              subst hbb
              go_wp2_with fail
              go_meet
              case rel => exact ⟨by first | rfl | (simp; omega), rfl⟩
            · have h2b : decide ((r : Int) < 15) = false := decide_eq_false (by omega)
              have hbb : b = false := by rw [HBB.out, decide_eq_false h2]; simp
              subst hbb
              go_wp2_with fail
              go_meet
              case rel => exact ⟨by first | rfl | (simp; omega), rfl⟩
          · have h1b : decide ((r : Int) < (l2.length : Int)) = false := decide_eq_false (by omega)
            have hbb : b = false := by rw [HBB.out, decide_eq_false h1]; rfl
            subst hbb
            go_wp2_with fail
            go_meet
            case rel => exact ⟨by first | rfl | (simp; omega), rfl⟩
        case rest =>
          obtain ⟨rfl, rfl⟩ := hcut
          cases b
          · clear HBB
            have c5 : wr.cell? ⟨b8, 5, none⟩ = some (.int .i64 n.role) := MM.cell_blk X.out rfl
            rw [L.out.rl] at c5
            go_wp2_with fail
            go_ret
            exact ⟨by first | rfl | simp, HB.out⟩
          · have hb2 : r < l2.length ∧ r < 15 := by
              have h := HBB.out
              have h' : (decide (r < l2.length) && decide (r < 15)) = true := h.symm
              simpa using h'
            clear HBB
            obtain ⟨hl1, hl2⟩ := hb2
            have hrd := Hhr2.out.step (w1 := wr) (fun j hj _ => HB.out.block j hj)
            obtain ⟨_, A', c', ea, _, _, hrest⟩ := hrd
            injection ea with ea1 el ea2
            clear el
            subst ea1 ea2
            obtain ⟨be_xx, oe_xx, rfl, _, _, hcell⟩ := hrest (by omega)
            have x0 : wr.cell? ⟨be_xx, oe_xx + r, none⟩ = some (.int .i64 (l2.getD r 0)) := hcell _ _ (intsC_get hl1)
            have HXW := Lib.hid (Hhw2.out (l2.getD r 0) (by rw [List.getD_eq_getElem?_getD, List.getElem?_eq_getElem hl1]; exact List.getElem_mem hl1))
            clear hcell hrest
            obtain ⟨xx, hxx⟩ : ∃ y, y = l2.getD r 0 := ⟨_, rfl⟩
            rw [← hxx] at x0 HXW
            have hvm := wi_range xx 1048576 (by omega)
            obtain ⟨m, hm⟩ : ∃ m : Nat, wi xx 1048576 = m := ⟨_, (Int.toNat_of_nonneg hvm.1).symm⟩
            have hmb : m < 1048576 := by omega
            have WN := Lib.hid hm
            clear hxx hvm hm
            go_wp2_with fail
            refine (within_big _ xx 1048576 HXW.out (by omega) (by omega)).mono ?_
            rintro e w' ⟨rfl, rfl⟩
            rw [WN.out]
            clear WN HXW x0
            go_upto_region 16 with (fail)
            obtain ⟨k1, hk1⟩ : ∃ k1 : Nat, k = k1 + 1 := ⟨k - 1, by omega⟩
            obtain ⟨i2, hi2⟩ : ∃ i2 : Nat, i2 = i + 2 := ⟨_, rfl⟩
            obtain ⟨f0, hf0⟩ : ∃ f0 : Nat, f0 = m % k1 := ⟨_, rfl⟩
            obtain ⟨m8, hm8⟩ : ∃ m8 : Nat, m8 = m / 8 := ⟨_, rfl⟩
            obtain ⟨ix, hix⟩ : ∃ ix : Nat, ix = m8 % i2 := ⟨_, rfl⟩
            have hf0b : f0 < k1 := by rw [hf0]; exact Nat.mod_lt _ (by omega)
            have hixb : ix < i2 := by rw [hix]; exact Nat.mod_lt _ (by omega)
            have hw1 : IntKind.i64.wrap ((k : Int) - 1) = (k1 : Int) := by rw [IntWalk.i64_in _ (by omega)]; omega
            have hw2 : IntKind.i64.wrap ((i : Int) + 2) = (i2 : Int) := by rw [IntWalk.i64_in _ (by omega)]; omega
            have hw3 : IntKind.i64.wrap (1 + (f0 : Int)) = ((f0 + 1 : Nat) : Int) := by rw [IntWalk.i64_in _ (by omega)]; omega
            have ht1 : (m : Int).tmod (k1 : Int) = (f0 : Int) := by rw [hf0]; rfl
            have ht2 : (m8 : Int).tmod (i2 : Int) = (ix : Int) := by rw [hix]; rfl
            have ht3 : IntKind.i64.wrap ((m : Int).tdiv 8) = (m8 : Int) := by rw [hm8]; exact tdiv_nat' m 8 (by omega)
            have ht4 : (m : Int) % (k1 : Int) = (f0 : Int) := by rw [hf0]; omega
            have ht5 : (m8 : Int) % (i2 : Int) = (ix : Int) := by rw [hix]; omega
            have ht6 : (m : Int) / 8 = (m8 : Int) := by omega
            have hz1 : ¬ (k1 : Int) = 0 := by omega
            have hz2 : ¬ k1 = 0 := by omega
            have hz3 : ¬ (i2 : Int) = 0 := by omega
            have hz4 : ¬ i2 = 0 := by omega
            have K1 := Lib.hid hk1
            have I2 := Lib.hid hi2
            clear hk1 hi2 hf0 hm8 hix
            refine Go.RT.wp_region_tree [0, 0, 2, 7, 15, 0, 32, 0, 128, 480, 31, 2047] (.p 0 (.p 1 (.p 2 (.p 3 (.p 4 (.p 5 (.p 6 (.p 7 (.p 8 (.p 9 (.w 10 [] (.w 11 [] .nil .stop) .stop))))))))))) (by kernel_rfl) (by kernel_rfl) ?_
            repeat (first | (refine Go.RT.step_p rfl (fun K hK => ?_); go_simp; refine hK _ ?_; clear hK K) | (refine Go.RT.step_s rfl (fun K hK => ?_); go_simp; refine hK _ ?_; clear hK K))
            (refine Go.RT.step_w rfl rfl (fun K hK => ?_) Go.RT.step_stop)
            go_wp2
            refine Go.RT.QK_normal _ _ _ _ (hK _ _ ?_ ?_) <;> clear hK K
            · repeat (first | exact Go.RT.again_nil | (refine Go.RT.again_not rfl rfl ?_) | (refine Go.RT.again_one rfl (by go_simp <;> rfl) ?_))
            (refine Go.RT.step_w rfl rfl (fun K hK => ?_) Go.RT.step_stop)
            go_wp2
            refine Go.RT.QK_normal _ _ _ _ (hK _ _ ?_ ?_) <;> clear hK K
            · repeat (first | exact Go.RT.again_nil | (refine Go.RT.again_not rfl rfl ?_) | (refine Go.RT.again_one rfl (by go_simp <;> rfl) ?_))
            refine Go.RT.step_nil ?_
            obtain ⟨fr, hfr⟩ : ∃ fr : Nat, fr = f0 + 1 := ⟨_, rfl⟩
            rw [show (f0 : Int) + 1 = (fr : Int) from by omega]
            have hf1 : 1 ≤ fr := by omega
            have hf5 : fr < 5 := by have := K1.out; omega
            have hfk : fr < k := by have := K1.out; omega
            have hix : ix ≤ i + 1 := by have := I2.out; omega
            clear hfr hf0b hixb hw1 hw2 hw3 ht1 ht2 ht3 ht4 ht5 ht6 hz1 hz2 hz3 hz4 K1 I2
            refine name_world (F := fun W => Hid (W.heap[b8]? = some (.cells #[.int .i64 n.id, .int .i64 n.term, .int .i64 n.vote, .slice σ.A3 n.log.length σ.k3, .int .i64 n.form, .int .i64 n.role, .int .i64 n.commit, .slice σ.A7 n.votes.length σ.k7, .slice σ.A8 n.nxt.length σ.k8, .slice σ.A9 n.mtch.length σ.k9, .slice σ.A10 n.forms.length σ.k10, .int .i64 n.clock, .int .i64 n.due] 28 (0, 0))) ∧ Hid (NodeVs W (fun j => w.heap.size ≤ j ∧ j ≠ b8 ∧ j ≠ b11) n σ) ∧ Hid (W.heap[b11]? = some (.cells (atC a) 46 (0, 0))) ∧ Hid (Below w.heap.size w W) ∧ Hid (b8 < W.heap.size ∧ b11 < W.heap.size)) _ (by exact ⟨Lib.hid (X.out), Lib.hid (N.out.step (fun _ _ _ => rfl)), Lib.hid (AT.out), Lib.hid (HB.out.drew), Lib.hid (LT.out)⟩) ?_
            clear X N AT HB LT
            intro v0 ⟨X0, N0, AT0, HB0, LT0⟩
            go_upto_region 17 with (fail)
            obtain ⟨c0, c1, c2, c3, c4, c5, c6, c7, c8, c9, c10, c11, c12⟩ := MM.cells13 X0.out
            have LENA := Lib.hid (show k = a.length from L.out.al.symm)
            have TL := Lib.hid (led_tell L.out hk2 hf1 hfk hix)
            have EM := Lib.hid (show (⟨4, (fr : Int), 0, n.term, (ix : Int), 0, true, [], 0, 1⟩ : Fed.Msg) = tellMsg fr ix from by unfold tellMsg; rw [L.out.tm])
            go_wp2_with fail
            refine (handle_c v0 (fun j => w.heap.size ≤ j ∧ j ≠ b8 ∧ j ≠ b11) n σ N0.out ⟨4, (fr : Int), 0, n.term, (ix : Int), 0, true, [], 0, 1⟩ none 0 (fun _ => False) (MM.Rd.nil _ _ _ _ _ (by simp [maxLen])) (by rw [L.out.ll]; omega) (by rw [L.out.vl]; omega) (by rw [L.out.xl, L.out.vl]) (by rw [L.out.ml, L.out.al, L.out.vl]) (by rw [L.out.fl, L.out.vl]) (by simp) (by have := L.out.ck; omega) (by have := L.out.ck; omega) (by rw [L.out.cm]; omega) (by constructor <;> simp <;> omega) (fun q hq => by have h := L.out.nx q (by rw [← L.out.xl]; exact hq); omega) (fun q hq => by rw [L.out.ml] at hq ⊢; have h := L.out.at0 q (by rw [← L.out.al]; exact hq); omega)).mono ?_
            rintro e w5 ⟨τ, Ao, ko, rfl, hn5, ho5, hb5⟩
            rw [EM.out] at hn5 ho5 ⊢
            obtain ⟨s1, hs1⟩ : ∃ s1, s1 = handleS n (tellMsg fr ix) := ⟨_, rfl⟩
            rw [← hs1] at hn5 TL ⊢
            clear ho5 hs1
            obtain ⟨o, out⟩ := s1
            have hout : out = [] := TL.out.2.1
            subst hout
            obtain ⟨a1, ha1⟩ : ∃ a1, a1 = atNext a fr ix := ⟨_, rfl⟩
            rw [← ha1] at TL
            have LO := Lib.hid (show LedN k i a1 o from TL.out.1)
            have NXE := Lib.hid (show o.nxt.getD fr 0 = a1.getD fr 0 + 1 from TL.out.2.2)
            have HA1 := Lib.hid ha1
            have X5 := Lib.hid ((hb5.block _ LT0.out.1).trans X0.out)
            have AT5 := Lib.hid ((hb5.block _ LT0.out.2).trans AT0.out)
            have M5 := Lib.hid (show NodeVs w5 (fun j => w.heap.size ≤ j ∧ j ≠ b8 ∧ j ≠ b11 ∧ j < w5.heap.size) o τ from hn5.mono (fun q hq hl => ⟨by have := HB0.out.size; omega, by have := LT0.out; omega, by have := LT0.out; omega, hl⟩))
            have HB5 := Lib.hid (HB0.out.trans (hb5.mono HB0.out.size))
            have LT5 := Lib.hid (show b8 < w5.heap.size ∧ b11 < w5.heap.size from ⟨Nat.lt_of_lt_of_le LT0.out.1 hb5.size, Nat.lt_of_lt_of_le LT0.out.2 hb5.size⟩)
            clear hn5 hb5 X0 N0 AT0 HB0 LT0 TL EM ha1 c0 c1 c2 c3 c4 c5 c6 c7 c8 c9 c10 c11 c12 L
            go_upto_region 18 with (fail)
            obtain ⟨b16, hb16⟩ : ∃ b, b = w5.heap.size := ⟨_, rfl⟩
            rw [← hb16]
            refine name_world (F := fun W => Hid (W.heap[b8]? = some (.cells #[.int .i64 n.id, .int .i64 n.term, .int .i64 n.vote, .slice σ.A3 n.log.length σ.k3, .int .i64 n.form, .int .i64 n.role, .int .i64 n.commit, .slice σ.A7 n.votes.length σ.k7, .slice σ.A8 n.nxt.length σ.k8, .slice σ.A9 n.mtch.length σ.k9, .slice σ.A10 n.forms.length σ.k10, .int .i64 n.clock, .int .i64 n.due] 28 (0, 0))) ∧ Hid (W.heap[b16]? = some (.cells #[.int .i64 o.id, .int .i64 o.term, .int .i64 o.vote, .slice τ.A3 o.log.length τ.k3, .int .i64 o.form, .int .i64 o.role, .int .i64 o.commit, .slice τ.A7 o.votes.length τ.k7, .slice τ.A8 o.nxt.length τ.k8, .slice τ.A9 o.mtch.length τ.k9, .slice τ.A10 o.forms.length τ.k10, .int .i64 o.clock, .int .i64 o.due] 28 (0, 0))) ∧ Hid (NodeVs W (fun j => w.heap.size ≤ j ∧ j ≠ b8 ∧ j ≠ b11 ∧ j ≠ b16) o τ) ∧ Hid (W.heap[b11]? = some (.cells (atC a) 46 (0, 0))) ∧ Hid (Below w.heap.size w W) ∧ Hid (b8 < W.heap.size ∧ b11 < W.heap.size ∧ b16 < W.heap.size)) _ (by exact ⟨Lib.hid ((Below.heap_alloc _ _ _ LT5.out.1).trans X5.out), Lib.hid (by rw [hb16]; exact MM.alloc_new _ _), Lib.hid ((M5.out.step (fun q hq hl => Below.heap_alloc _ _ q hl)).mono (fun q hq _ => ⟨hq.1, hq.2.1, hq.2.2.1, by rw [hb16]; exact Nat.ne_of_lt hq.2.2.2⟩)), Lib.hid ((Below.heap_alloc _ _ _ LT5.out.2).trans AT5.out), Lib.hid (HB5.out.alloc HB5.out.size _), Lib.hid (⟨by have := LT5.out; simp; omega, by have := LT5.out; simp; omega, by rw [hb16]; simp⟩)⟩) ?_
            intro v6 ⟨X6, Y6, M6, AT6, HB6, LT6⟩
            have B16 := Lib.hid (show b8 ≠ b16 ∧ b11 ≠ b16 ∧ w.heap.size ≤ b16 from ⟨by rw [hb16]; exact Nat.ne_of_lt LT5.out.1, by rw [hb16]; exact Nat.ne_of_lt LT5.out.2, by rw [hb16]; exact HB5.out.size⟩)
            clear hb16 X5 AT5 M5 HB5 LT5
            have xa : v6.cell? ⟨b11, fr, none⟩ = some (.int .i64 (a.getD fr 0)) := MM.cell_blk AT6.out (atC_get hf5)
            have fa : v6.frozen? ⟨b11, fr, none⟩ = false := MM.free_blk AT6.out
            have hf5i : (fr : Int) < 5 := by omega
            go_upto_region 19 with (fail)
            refine name_world (F := fun W => Hid (W.heap[b8]? = some (.cells #[.int .i64 n.id, .int .i64 n.term, .int .i64 n.vote, .slice σ.A3 n.log.length σ.k3, .int .i64 n.form, .int .i64 n.role, .int .i64 n.commit, .slice σ.A7 n.votes.length σ.k7, .slice σ.A8 n.nxt.length σ.k8, .slice σ.A9 n.mtch.length σ.k9, .slice σ.A10 n.forms.length σ.k10, .int .i64 n.clock, .int .i64 n.due] 28 (0, 0))) ∧ Hid (W.heap[b16]? = some (.cells #[.int .i64 o.id, .int .i64 o.term, .int .i64 o.vote, .slice τ.A3 o.log.length τ.k3, .int .i64 o.form, .int .i64 o.role, .int .i64 o.commit, .slice τ.A7 o.votes.length τ.k7, .slice τ.A8 o.nxt.length τ.k8, .slice τ.A9 o.mtch.length τ.k9, .slice τ.A10 o.forms.length τ.k10, .int .i64 o.clock, .int .i64 o.due] 28 (0, 0))) ∧ Hid (NodeVs W (fun j => w.heap.size ≤ j ∧ j ≠ b8 ∧ j ≠ b11 ∧ j ≠ b16) o τ) ∧ Hid (W.heap[b11]? = some (.cells (atC a1) 46 (0, 0))) ∧ Hid (Below w.heap.size w W) ∧ Hid (b8 < W.heap.size ∧ b11 < W.heap.size ∧ b16 < W.heap.size)) _ (by exact ⟨Lib.hid ((Below.heap_setCell _ _ _ _ BN.out.1).trans X6.out), Lib.hid ((Below.heap_setCell _ _ _ _ (fun e => B16.out.2.1 e.symm)).trans Y6.out), Lib.hid (M6.out.step (fun q hq _ => Below.heap_setCell _ _ _ q hq.2.2.1)), Lib.hid (by rw [HA1.out]; exact (setCell_blk _ AT6.out).trans (by rw [atC_set hf5 (by rw [← LENA.out]; exact hfk)]; rfl)), Lib.hid (HB6.out.setCell (p := ⟨b11, fr, none⟩) BN.out.2 _), Lib.hid (by simpa [World.setCell] using LT6.out)⟩) ?_
            intro v7 ⟨X7, Y7, M7, AT7, HB7, LT7⟩
            clear X6 Y6 M6 AT6 HB6 LT6 xa fa
            go_wp2_with fail
            go_loopw [18, 19] (fun t18 t19 wr => ∃ c : Nat, 1 ≤ c ∧ c ≤ i + 2 ∧ t18 = .int .i64 (best k a1 (c - 1) : Int) ∧ t19 = .int .i64 c ∧ Hid (wr = v7)) (fun _ t19 _ => i + 2 - (intOf t19).toNat)
            case atStart => exact ⟨1, by omega, by omega, rfl, rfl, Lib.hid rfl⟩
            case round =>
              obtain ⟨c, hc1, hc2, rfl, rfl, EW⟩ := hrel
              obtain rfl := EW.out.symm
              by_cases hcl : c ≤ i + 1
              · have hcb : decide ((c : Int) ≤ (i : Int) + 1) = true := decide_eq_true (by omega)
                have hcb2 : decide (c ≤ i + 1) = true := decide_eq_true hcl
                go_wp2_with fail
                go_loopw [20, 21] (fun t20 t21 wr => ∃ qq : Nat, qq ≤ k ∧ t20 = .int .i64 (countG (a1.take qq) (c : Int) : Int) ∧ t21 = .int .i64 qq ∧ Hid (wr = v7)) (fun _ t21 _ => k - (intOf t21).toNat)
                case atStart => exact ⟨0, by omega, by simp [countG], rfl, Lib.hid rfl⟩
                case round =>
                  obtain ⟨qq, hq, rfl, rfl, EW2⟩ := hrel
                  obtain rfl := EW2.out.symm
                  have hcg := countG_take_le a1 (c : Int) qq
                  by_cases hql : qq < k
                  · have hqb : decide ((qq : Int) < (k : Int)) = true := decide_eq_true (by omega)
                    have hqb2 : decide (qq < k) = true := decide_eq_true hql
                    have hq5 : qq < 5 := by omega
                    have hq5i : (qq : Int) < 5 := by omega
                    have xq : v7.cell? ⟨b11, qq, none⟩ = some (.int .i64 (a1.getD qq 0)) := MM.cell_blk AT7.out (atC_get hq5)
                    have CS := Lib.hid (countG_take_succ (l := a1) (x := (c : Int)) (k := qq) (by rw [LO.out.al]; exact hql))
                    have hwc : IntKind.i64.wrap ((countG (a1.take qq) (c : Int) : Int) + 1) = ((countG (a1.take qq) (c : Int) + 1 : Nat) : Int) := by rw [IntWalk.i64_in _ (by omega)]; omega
                    have HCG := Lib.hid hcg
                    clear hcg
                    obtain ⟨v, hv⟩ : ∃ v, v = a1.getD qq 0 := ⟨_, rfl⟩
                    rw [← hv] at xq CS
                    clear hv
                    by_cases hge : (c : Int) ≤ v
                    · have hgb : decide ((c : Int) ≤ v) = true := decide_eq_true hge
                      have CS2 := Lib.hid (show countG (a1.take (qq + 1)) (c : Int) = countG (a1.take qq) (c : Int) + 1 from by rw [CS.out, if_pos hge])
                      go_wp2_with fail
                      go_roundw
                      case rel => first | exact ⟨qq + 1, by omega, by rw [CS2.out]; first | rfl | go_num | simp, by go_num, by first | exact Lib.hid rfl | exact Lib.hid trivial⟩ | ((repeat apply Exists.intro); refine ⟨?_, rfl⟩; exact ⟨qq + 1, by omega, by rw [CS2.out]; first | rfl | go_num | simp, by go_num, by first | exact Lib.hid rfl | exact Lib.hid trivial⟩)
                      case measure => simp [intOf]; omega
                    · have hgb : decide ((c : Int) ≤ v) = false := decide_eq_false hge
                      have CS2 := Lib.hid (show countG (a1.take (qq + 1)) (c : Int) = countG (a1.take qq) (c : Int) from by rw [CS.out, if_neg hge]; rfl)
                      go_wp2_with fail
                      go_roundw
                      case rel => first | exact ⟨qq + 1, by omega, by rw [CS2.out], by go_num, by first | exact Lib.hid rfl | exact Lib.hid trivial⟩ | ((repeat apply Exists.intro); refine ⟨?_, rfl⟩; exact ⟨qq + 1, by omega, by rw [CS2.out], by go_num, by first | exact Lib.hid rfl | exact Lib.hid trivial⟩)
                      case measure => simp [intOf]; omega
                  · have hqb : decide ((qq : Int) < (k : Int)) = false := decide_eq_false (by omega)
                    have hqb2 : decide (qq < k) = false := decide_eq_false hql
                    have etk : a1.take qq = a1 := List.take_of_length_le (by rw [LO.out.al]; omega)
                    rw [etk] at hcg ⊢
                    obtain ⟨cg, hcgg⟩ : ∃ cg, cg = countG a1 (c : Int) := ⟨_, rfl⟩
                    rw [← hcgg] at hcg ⊢
                    have BS := Lib.hid (show best k a1 c = if k < 2 * cg then c else best k a1 (c - 1) from by
                      obtain ⟨c', rfl⟩ : ∃ c', c = c' + 1 := ⟨c - 1, by omega⟩
                      rw [hcgg]; rfl)
                    have hwm : IntKind.i64.wrap (2 * (cg : Int)) = ((2 * cg : Nat) : Int) := by rw [IntWalk.i64_in _ (by omega)]; omega
                    have hwc : IntKind.i64.wrap ((c : Int) + 1) = ((c + 1 : Nat) : Int) := by rw [IntWalk.i64_in _ (by omega)]; omega
                    clear etk hcgg
                    by_cases hmj : k < 2 * cg
                    · have hmb : decide ((k : Int) < 2 * (cg : Int)) = true := decide_eq_true (by omega)
                      have hmb2 : decide (k < 2 * cg) = true := decide_eq_true hmj
                      have BS2 := Lib.hid (show best k a1 (c + 1 - 1) = c from by rw [Nat.add_sub_cancel, BS.out, if_pos hmj])
                      go_wp2_with fail
                      go_roundw
                      case rel => first | exact ⟨c + 1, by omega, by omega, by rw [BS2.out], by go_num, by first | exact Lib.hid rfl | exact Lib.hid trivial⟩ | ((repeat apply Exists.intro); refine ⟨?_, rfl⟩; exact ⟨c + 1, by omega, by omega, by rw [BS2.out], by go_num, by first | exact Lib.hid rfl | exact Lib.hid trivial⟩)
                      case measure => simp [intOf]; omega
                    · have hmb : decide ((k : Int) < 2 * (cg : Int)) = false := decide_eq_false (by omega)
                      have hmb2 : decide (k < 2 * cg) = false := decide_eq_false hmj
                      have BS2 := Lib.hid (show best k a1 (c + 1 - 1) = best k a1 (c - 1) from by rw [Nat.add_sub_cancel, BS.out, if_neg hmj])
                      go_wp2_with fail
                      go_roundw
                      case rel => first | exact ⟨c + 1, by omega, by omega, by rw [BS2.out], by go_num, by first | exact Lib.hid rfl | exact Lib.hid trivial⟩ | ((repeat apply Exists.intro); refine ⟨?_, rfl⟩; exact ⟨c + 1, by omega, by omega, by rw [BS2.out], by go_num, by first | exact Lib.hid rfl | exact Lib.hid trivial⟩)
                      case measure => simp [intOf]; omega
              · have hcb : decide ((c : Int) ≤ (i : Int) + 1) = false := decide_eq_false (by omega)
                have hcb2 : decide (c ≤ i + 1) = false := decide_eq_false hcl
                obtain rfl : c = i + 2 := by omega
                rw [show i + 2 - 1 = i + 1 from by omega]
                go_upto_region 31 with (fail)
                obtain ⟨_, A9, c9, ea, _, _, hrest⟩ := M7.out.hm
                injection ea with ea1 el ea2
                clear el
                obtain ⟨bm, om, em, _, _, hcell⟩ := hrest (by rw [LO.out.ml, LO.out.al]; omega)
                have x9 : v7.cell? ⟨b16, 9, none⟩ = some (.slice (some ⟨bm, om, none⟩) k τ.k9) := by
                  have h : v7.cell? ⟨b16, 9, none⟩ = some (.slice τ.A9 o.mtch.length τ.k9) := MM.cell_blk Y7.out rfl
                  rw [ea1, em, LO.out.ml, LO.out.al] at h
                  exact h
                have xm : v7.cell? ⟨bm, om + fr, none⟩ = some (.int .i64 (a1.getD fr 0)) := by
                  have h := hcell fr _ (intsC_get (l := o.mtch) (i := fr) (by rw [LO.out.ml, LO.out.al]; exact hfk))
                  rw [LO.out.ml] at h
                  exact h
                clear ea1 ea2 em hcell hrest
                obtain ⟨_, A8, c8, ea, _, _, hrest⟩ := M7.out.hn
                injection ea with ea1 el ea2
                clear el
                obtain ⟨bn, on, en, _, _, hcell⟩ := hrest (by rw [LO.out.xl]; omega)
                have x8 : v7.cell? ⟨b16, 8, none⟩ = some (.slice (some ⟨bn, on, none⟩) k τ.k8) := by
                  have h : v7.cell? ⟨b16, 8, none⟩ = some (.slice τ.A8 o.nxt.length τ.k8) := MM.cell_blk Y7.out rfl
                  rw [ea1, en, LO.out.xl] at h
                  exact h
                have xn : v7.cell? ⟨bn, on + fr, none⟩ = some (.int .i64 (a1.getD fr 0 + 1)) := by
                  have h := hcell fr _ (intsC_get (l := o.nxt) (i := fr) (by rw [LO.out.xl]; exact hfk))
                  rw [NXE.out] at h
                  exact h
                clear ea1 ea2 en hcell hrest
                have x6 : v7.cell? ⟨b16, 6, none⟩ = some (.int .i64 (best k a1 (i + 1) : Int)) := by
                  rw [← LO.out.cm]; exact MM.cell_blk Y7.out rfl
                have xa : v7.cell? ⟨b11, fr, none⟩ = some (.int .i64 (a1.getD fr 0)) := MM.cell_blk AT7.out (atC_get hf5)
                have hVb := LO.out.at0 fr hfk
                generalize best k a1 (i + 1) = B at x6 ⊢
                generalize a1.getD fr 0 = V at xm xn xa hVb
                have hbB : ((B : Int) != (B : Int)) = false := by simp
                have hbk : ((k : Int) != (k : Int)) = false := by simp
                have hbV : (V != V) = false := by simp
                have hwV : IntKind.i64.wrap (V + 1) = V + 1 := IntWalk.i64_in _ (by omega)
                have hbV1 : (V + 1 != V + 1) = false := by simp
                have hfki : (fr : Int) < (k : Int) := by omega
                have hfri : 0 ≤ (fr : Int) := by omega
                refine Go.RT.wp_region_tree [0, 1, 0, 7, 15, 31, 63, 127, 255, 511, 1023, 2047, 4095, 1023, 16383, 32767, 65535, 131071, 262143, 524287, 131071, 2097151, 4194303, 8388607, 16777215, 33554431, 16777215, 134217727, 268435455, 16777215, 553648127, 1627389951, 4294967295, 8589934591, 17179869183, 34359738367, 68719476735, 34359738367, 274877906943, 549755813887, 34359738367, 1133871366143, 3332894621695, 7730941132799, 17592186044415, 35184372088831] (.p 0 (.s 1 (.p 2 (.p 3 (.p 4 (.p 5 (.p 6 (.p 7 (.p 8 (.p 9 (.p 10 (.s 11 (.p 12 (.p 13 (.p 14 (.p 15 (.p 16 (.p 17 (.s 18 (.p 19 (.p 20 (.p 21 (.p 22 (.p 23 (.p 24 (.s 25 (.p 26 (.p 27 (.s 28 (.p 29 (.p 30 (.s 31 (.p 32 (.p 33 (.p 34 (.p 35 (.s 36 (.p 37 (.p 38 (.s 39 (.p 40 (.p 41 (.s 42 (.p 43 (.p 44 (.p 45 .nil)))))))))))))))))))))))))))))))))))))))))))))) (by kernel_rfl) (by kernel_rfl) ?_
                repeat (first | (refine Go.RT.step_p rfl (fun K hK => ?_); go_simp; refine hK _ ?_; clear hK K) | (refine Go.RT.step_s rfl (fun K hK => ?_); go_simp; refine hK _ ?_; clear hK K))
                refine Go.RT.step_nil ?_
                clear x9 x8 xm xn x6 xa hbB hbk hbV hwV hbV1 hfki hfri hVb
                go_upto_region 33 with (fail)
                refine name_world (F := fun W => Hid (W.heap[b8]? = some (.cells #[.int .i64 n.id, .int .i64 n.term, .int .i64 n.vote, .slice σ.A3 n.log.length σ.k3, .int .i64 n.form, .int .i64 n.role, .int .i64 n.commit, .slice σ.A7 n.votes.length σ.k7, .slice σ.A8 n.nxt.length σ.k8, .slice σ.A9 n.mtch.length σ.k9, .slice σ.A10 n.forms.length σ.k10, .int .i64 n.clock, .int .i64 n.due] 28 (0, 0))) ∧ Hid (W.heap[b16]? = some (.cells #[.int .i64 o.id, .int .i64 o.term, .int .i64 o.vote, .slice τ.A3 o.log.length τ.k3, .int .i64 o.form, .int .i64 o.role, .int .i64 o.commit, .slice τ.A7 o.votes.length τ.k7, .slice τ.A8 o.nxt.length τ.k8, .slice τ.A9 o.mtch.length τ.k9, .slice τ.A10 o.forms.length τ.k10, .int .i64 o.clock, .int .i64 o.due] 28 (0, 0))) ∧ Hid (NodeVs W (fun j => w.heap.size ≤ j ∧ j ≠ b8 ∧ j ≠ b11 ∧ j ≠ b16) o τ) ∧ Hid (W.heap[b11]? = some (.cells (atC a1) 46 (0, 0))) ∧ Hid (Below w.heap.size w W) ∧ Hid (b8 < W.heap.size ∧ b11 < W.heap.size ∧ b16 < W.heap.size)) _ (by exact ⟨Lib.hid (X7.out), Lib.hid (Y7.out), Lib.hid (M7.out.step (fun _ _ _ => rfl)), Lib.hid (AT7.out), Lib.hid (HB7.out.drew), Lib.hid (LT7.out)⟩) ?_
                clear X7 Y7 M7 AT7 HB7 LT7
                intro v8 ⟨X8, Y8, M8, AT8, HB8, LT8⟩
                obtain ⟨c0, c1, c2, c3, c4, c5, c6, c7, c8, c9, c10, c11, c12⟩ := MM.cells13 Y8.out
                obtain ⟨y0, y1, y2, y3, y4, y5, y6, y7, y8, y9, y10, y11, y12⟩ := MM.cells13 X8.out
                obtain ⟨z0, z1, z2, z3, z4, z5, z6, z7, z8, z9, z10, z11, z12⟩ := MM.frees13 X8.out
                go_upto_region 14 with (fail)
                refine name_world (F := fun W => Hid (W.heap[b8]? = some (.cells #[.int .i64 o.id, .int .i64 o.term, .int .i64 o.vote, .slice τ.A3 o.log.length τ.k3, .int .i64 o.form, .int .i64 o.role, .int .i64 o.commit, .slice τ.A7 o.votes.length τ.k7, .slice τ.A8 o.nxt.length τ.k8, .slice τ.A9 o.mtch.length τ.k9, .slice τ.A10 o.forms.length τ.k10, .int .i64 o.clock, .int .i64 o.due] 28 (0, 0))) ∧ Hid (NodeVs W (fun j => w.heap.size ≤ j ∧ j ≠ b8 ∧ j ≠ b11) o τ) ∧ Hid (W.heap[b11]? = some (.cells (atC a1) 46 (0, 0))) ∧ Hid (Below w.heap.size w W) ∧ Hid (b8 < W.heap.size ∧ b11 < W.heap.size)) _ (by exact ⟨Lib.hid ((set13 X8.out).trans rfl), Lib.hid ((M8.out.step (fun q hq _ => far13 hq.2.1)).mono (fun q hq _ => ⟨hq.1, hq.2.1, hq.2.2.1⟩)), Lib.hid ((far13 (fun e => BN.out.1 e.symm)).trans AT8.out), Lib.hid (below13 HB8.out BW.out), Lib.hid (⟨Nat.lt_of_lt_of_le LT8.out.1 (below13 (Below.refl b8 _) (Nat.le_refl _)).size, Nat.lt_of_lt_of_le LT8.out.2.1 (below13 (Below.refl b8 _) (Nat.le_refl _)).size⟩)⟩) ?_
                intro v9 ⟨X9, N9, AT9, HB9, LT9⟩
                clear X8 Y8 M8 AT8 HB8 LT8 c0 c1 c2 c3 c4 c5 c6 c7 c8 c9 c10 c11 c12 y0 y1 y2 y3 y4 y5 y6 y7 y8 y9 y10 y11 y12 z0 z1 z2 z3 z4 z5 z6 z7 z8 z9 z10 z11 z12
                go_wp2_with fail
                go_roundw
                case rel => first | exact ⟨r + 1, o, τ, a1, by omega, by omega, by go_num, LO, X9, N9, AT9, HB9, LT9⟩ | ((repeat apply Exists.intro); refine ⟨?_, rfl⟩; exact ⟨r + 1, o, τ, a1, by omega, by omega, by go_num, LO, X9, N9, AT9, HB9, LT9⟩)
                case measure => simp [intOf]; omega

end Go.Proofs.Ytnkmljdkokcdjaa
