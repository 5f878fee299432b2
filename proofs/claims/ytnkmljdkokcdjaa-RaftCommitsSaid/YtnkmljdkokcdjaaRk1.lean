/-
  The document's New makes the same node as the plain newN; due. Conditions: the numbers are bounded as the theorem says.
-/
import Derived.WalkKit
import Derived.WalkSpells
import Derived.Lib.Hide
import Derived.Outline
import Derived.Test.YtnkmljdkokcdjaaChecked
import Derived.Test.YtnkmljdkokcdjaaMn
import Derived.Test.YtnkmljdkokcdjaaMem
import Derived.Test.YtnkmljdkokcdjaaFed
import Derived.Test.YtnkmljdkokcdjaaClone
import Derived.Test.YtnkmljdkokcdjaaMd
import Derived.Test.YtnkmljdkokcdjaaMf
import Derived.Test.YtnkmljdkokcdjaaMl
import Derived.Deep.DeepCutAuto
import Derived.Deep.CutBlock
import Derived.Deep.OwnRows
import Derived.IntWalk
set_option linter.unusedVariables false
set_option linter.unusedSimpArgs false
namespace Go.Proofs.Ytnkmljdkokcdjaa
open Go.RowKit Fed
set_option linter.unusedVariables false
attribute [local go_sem high] Fed.max2_int Fed.min2_int

theorem rdue_any (w : World) (id clock : Int) (v1 v2 v3 v4 v5 v6 v7 v8 v9 v10 v12 : Value) (hc0 : -1000000000 ≤ clock) (hc1 : clock ≤ 1000000000) (hi0 : -1000000000 ≤ id) (hi1 : id ≤ 1000000000) :
    Calls Try.prog 69 #[.agg #[.int .i64 id, v1, v2, v3, v4, v5, v6, v7, v8, v9, v10, .int .i64 clock, v12]] w fun e w' => e = .returned (.int .i64 (clock + 5 + 2 * id)) ∧ Below w.heap.size w w' := by
  go_enter Try.func69, Try.ntmps69
  go_wp2
  go_ret
  exact ⟨rfl, (Below.refl _ _).alloc (Nat.le_refl _) _⟩
theorem made_list (z : Value) (hz : z.cells = #[z]) (k : Nat) : (madeCells #[z] k).toList = List.replicate k z := by
  apply List.ext_getElem
  · simp [madeCells]
  · intro i h1 h2
    simp [madeCells, Nat.mod_one]
theorem row_made {w : World} {B o k e : Nat} {z : Value} (hk : k ≤ 1000) (hB : B ≤ o) (h : w.heap[o]? = some (.cells (madeCells #[z] k) e (0, 0))) (hz : z.cells = #[z]) : MM.Row w B e 1 (.slice (some ⟨o, 0, none⟩) k k) k (List.replicate k z) (some o) := by
  refine ⟨by simp, k, _, rfl, hB, h, Nat.le_refl _, by simp [maxLen]; omega, by simp [madeCells], ?_⟩
  rw [made_list z hz, List.take_of_length_le (by simp)]
/-- Ones, as far as i; noughts behind. -/
def onesTo (i k : Nat) : List Int := List.replicate i 1 ++ List.replicate (k - i) 0
theorem onesTo_len {i k : Nat} (h : i ≤ k) : (onesTo i k).length = k := by simp [onesTo]; omega
theorem onesTo_set {i k : Nat} (h : i < k) : (onesTo i k).set i 1 = onesTo (i + 1) k := by
  unfold onesTo
  rw [List.set_append_right _ _ (by simp), List.length_replicate, Nat.sub_self, show k - i = (k - (i + 1)) + 1 from by omega, List.replicate_succ, List.set_cons_zero, List.replicate_succ']
  simp
theorem onesTo_all (k : Nat) : onesTo k k = List.replicate k 1 := by simp [onesTo]
theorem onesTo_zero (k : Nat) : onesTo 0 k = List.replicate k 0 := by simp [onesTo]
def NewI (id form : Int) (k b6 b7 : Nat) (w0 : World) (D : Nat) (a : Act) (w : World) : Prop := ∃ (o1 o3 o5 o7 : Nat) (x12 x13 x14 x15 x16 x17 x18 x19 x20 x21 x22 x23 c7 c8 c9 c10 : Value),
  a = { tmps := #[.int .i64 id, .int .i64 k, .int .i64 form, undef, undef, undef, .pointer (some ⟨b6, 0, none⟩), .pointer (some ⟨b7, 0, none⟩), undef, .int .i64 id, .int .i64 form, .agg #[.int .i64 id, .int .i64 0, .int .i64 (-1), .slice none 0 0, .int .i64 form, .int .i64 0, .int .i64 0, .slice none 0 0, .slice none 0 0, .slice none 0 0, .slice none 0 0, .int .i64 0, .int .i64 0], x12, x13, x14, x15, x16, x17, x18, x19, x20, x21, x22, x23, undef, undef, undef, undef, undef, undef, undef, undef, undef, undef, undef, undef, undef, undef, undef, undef, undef], defers := [] } ∧ w.heap[b7]? = some (.cells #[.int .i64 id, .int .i64 0, .int .i64 (-1), .slice none 0 0, .int .i64 form, .int .i64 0, .int .i64 0, c7, c8, c9, c10, .int .i64 0, .int .i64 0] 28 (0, 0)) ∧ w.heap[b6]? = some (.cells #[.int .i64 0, .int .i64 0, .int .i64 0, .slice none 0 0, .int .i64 0, .int .i64 0, .int .i64 0, .slice none 0 0, .slice none 0 0, .slice none 0 0, .slice none 0 0, .int .i64 0, .int .i64 0] 28 (0, 0)) ∧ b6 ≠ b7 ∧ w0.heap.size ≤ b6 ∧ w0.heap.size ≤ b7 ∧ Below w0.heap.size w0 w
  ∧ (D.testBit 0 = true → x12 = .int .i64 k)
  ∧ (D.testBit 2 = true → x14 = .int .i64 k)
  ∧ (D.testBit 4 = true → x16 = .int .i64 k)
  ∧ (D.testBit 6 = true → x18 = .int .i64 k)
  ∧ (D.testBit 1 = true → x13 = .slice (some ⟨o1, 0, none⟩) k k ∧ w.heap[o1]? = some (.cells (madeCells #[.bool false] k) 4 (0, 0)) ∧ b7 < o1)
  ∧ (D.testBit 3 = true → x15 = .slice (some ⟨o3, 0, none⟩) k k ∧ w.heap[o3]? = some (.cells (madeCells #[.int .i64 0] k) 3 (0, 0)) ∧ b7 < o3)
  ∧ (D.testBit 5 = true → x17 = .slice (some ⟨o5, 0, none⟩) k k ∧ w.heap[o5]? = some (.cells (madeCells #[.int .i64 0] k) 3 (0, 0)) ∧ b7 < o5)
  ∧ (D.testBit 7 = true → x19 = .slice (some ⟨o7, 0, none⟩) k k ∧ w.heap[o7]? = some (.cells (madeCells #[.int .i64 0] k) 3 (0, 0)) ∧ b7 < o7)
  ∧ (D.testBit 3 = true → D.testBit 5 = true → o3 ≠ o5)
  ∧ (D.testBit 3 = true → D.testBit 7 = true → o3 ≠ o7)
  ∧ (D.testBit 5 = true → D.testBit 7 = true → o5 ≠ o7)
  ∧ (D.testBit 8 = true → x20 = .pointer (some ⟨b7, 7, none⟩))
  ∧ (D.testBit 10 = true → x21 = .pointer (some ⟨b7, 8, none⟩))
  ∧ (D.testBit 12 = true → x22 = .pointer (some ⟨b7, 9, none⟩))
  ∧ (D.testBit 14 = true → x23 = .pointer (some ⟨b7, 10, none⟩))
  ∧ (D.testBit 9 = true → c7 = x13)
  ∧ (D.testBit 11 = true → c8 = x15)
  ∧ (D.testBit 13 = true → c9 = x17)
  ∧ (D.testBit 15 = true → c10 = x19)
  ∧ (D.testBit 9 = true → D.testBit 1 = true)
  ∧ (D.testBit 11 = true → D.testBit 3 = true)
  ∧ (D.testBit 13 = true → D.testBit 5 = true)
  ∧ (D.testBit 15 = true → D.testBit 7 = true)

set_option maxRecDepth 100000 in
set_option maxHeartbeats 4000000 in
theorem rnew_raw (w : World) (id form : Int) (k : Nat) (hk : k ≤ 1000) (hi0 : -1000000000 ≤ id) (hi1 : id ≤ 1000000000) :
    Calls Try.prog 27 #[.int .i64 id, .int .i64 k, .int .i64 form] w
      fun e w' => ∃ A7 k7 A8 k8 A9 k9 A10 k10, e = .returned (.agg #[.int .i64 id, .int .i64 0, .int .i64 (-1), .slice none 0 0, .int .i64 form, .int .i64 0, .int .i64 0, .slice A7 k k7, .slice A8 k k8, .slice A9 k k9, .slice A10 k k10, .int .i64 0, .int .i64 (5 + 2 * id)]) ∧ Below w.heap.size w w' ∧ NodeV w' (fun j => w.heap.size ≤ j) (newN id k form) (.slice none 0 0) (.slice A7 k k7) (.slice A8 k k8) (.slice A9 k k9) (.slice A10 k k10) := by
  go_enter Try.func27, Try.ntmps27
  go_upto_region 2 with (fail)
  obtain ⟨b7, e7⟩ : ∃ b7, b7 = w.heap.size + 1 := ⟨_, rfl⟩
  obtain ⟨b6, e6⟩ : ∃ b6, b6 = w.heap.size := ⟨_, rfl⟩
  rw [← e7, ← e6]
  refine Go.RT.wp_region_inv [0, 1, 0, 4, 0, 16, 0, 64, 3, 259, 783, 1807, 3903, 7999, 16383, 32767] (by kernel_rfl) (by kernel_rfl) (NewI id form k b6 b7 w) ?init ?step ?fin
  case init =>
    exact ⟨0, 0, 0, 0, undef, undef, undef, undef, undef, undef, undef, undef, undef, undef, undef, undef, .slice none 0 0, .slice none 0 0, .slice none 0 0, .slice none 0 0, rfl, by rw [e7]; exact MM.alloc_new1 w _ _, by rw [e6]; exact (Below.heap_alloc (w.alloc _) _ w.heap.size (by simp)).trans (MM.alloc_new w _), by omega, by omega, by omega, (((Below.refl _ w).alloc (Nat.le_refl _) _).alloc (by simp) _).drew, fun hh => by simp at hh, fun hh => by simp at hh, fun hh => by simp at hh, fun hh => by simp at hh, fun hh => by simp at hh, fun hh => by simp at hh, fun hh => by simp at hh, fun hh => by simp at hh, fun hh _ => by simp at hh, fun hh _ => by simp at hh, fun hh _ => by simp at hh, fun hh => by simp at hh, fun hh => by simp at hh, fun hh => by simp at hh, fun hh => by simp at hh, fun hh => by simp at hh, fun hh => by simp at hh, fun hh => by simp at hh, fun hh => by simp at hh, fun hh => by simp at hh, fun hh => by simp at hh, fun hh => by simp at hh, fun hh => by simp at hh⟩
  case step =>
    clear e6 e7
    intro D i o a w' ho hD hd hI
    have hlt : i < 16 := (List.getElem?_eq_some_iff.1 ho).1
    obtain ⟨o1, o3, o5, o7, x12, x13, x14, x15, x16, x17, x18, x19, x20, x21, x22, x23, c7, c8, c9, c10, e, hb7, hb6, hne, h6, h7, hbel, m0, m2, m4, m6, k1, k3, k5, k7, d35, d37, d57, f8, f10, f12, f14, s9, s11, s13, s15, u9, u11, u13, u15⟩ := hI
    subst e
    have hc16 : i = 0 ∨ i = 1 ∨ i = 2 ∨ i = 3 ∨ i = 4 ∨ i = 5 ∨ i = 6 ∨ i = 7 ∨ i = 8 ∨ i = 9 ∨ i = 10 ∨ i = 11 ∨ i = 12 ∨ i = 13 ∨ i = 14 ∨ i = 15 := by omega
    clear hlt
    rcases hc16 with rfl | rfl | rfl | rfl | rfl | rfl | rfl | rfl | rfl | rfl | rfl | rfl | rfl | rfl | rfl | rfl
    · obtain rfl := Option.some.inj ho
      clear hd
      refine Go.RT.wpOp_val (v := .int .i64 k) (w' := w') rfl rfl (by first | rfl | (go_simp; done) | (go_simp <;> rfl)) ?_
      exact ⟨o1, o3, o5, o7, (.int .i64 k), x13, x14, x15, x16, x17, x18, x19, x20, x21, x22, x23, c7, c8, c9, c10, rfl, hb7, hb6, hne, h6, h7, hbel, (fun _ => rfl), (fun hh => m2 (by rw [Go.RT.bit_or] at hh; simpa using hh)), (fun hh => m4 (by rw [Go.RT.bit_or] at hh; simpa using hh)), (fun hh => m6 (by rw [Go.RT.bit_or] at hh; simpa using hh)), (fun hh => k1 (by rw [Go.RT.bit_or] at hh; simpa using hh)), (fun hh => k3 (by rw [Go.RT.bit_or] at hh; simpa using hh)), (fun hh => k5 (by rw [Go.RT.bit_or] at hh; simpa using hh)), (fun hh => k7 (by rw [Go.RT.bit_or] at hh; simpa using hh)), (fun hh h2 => d35 (by rw [Go.RT.bit_or] at hh; simpa using hh) (by rw [Go.RT.bit_or] at h2; simpa using h2)), (fun hh h2 => d37 (by rw [Go.RT.bit_or] at hh; simpa using hh) (by rw [Go.RT.bit_or] at h2; simpa using h2)), (fun hh h2 => d57 (by rw [Go.RT.bit_or] at hh; simpa using hh) (by rw [Go.RT.bit_or] at h2; simpa using h2)), (fun hh => f8 (by rw [Go.RT.bit_or] at hh; simpa using hh)), (fun hh => f10 (by rw [Go.RT.bit_or] at hh; simpa using hh)), (fun hh => f12 (by rw [Go.RT.bit_or] at hh; simpa using hh)), (fun hh => f14 (by rw [Go.RT.bit_or] at hh; simpa using hh)), (fun hh => s9 (by rw [Go.RT.bit_or] at hh; simpa using hh)), (fun hh => s11 (by rw [Go.RT.bit_or] at hh; simpa using hh)), (fun hh => s13 (by rw [Go.RT.bit_or] at hh; simpa using hh)), (fun hh => s15 (by rw [Go.RT.bit_or] at hh; simpa using hh)), (fun hh => by have q := u9 (by rw [Go.RT.bit_or] at hh; simpa using hh); rw [Go.RT.bit_or, q]; rfl), (fun hh => by have q := u11 (by rw [Go.RT.bit_or] at hh; simpa using hh); rw [Go.RT.bit_or, q]; rfl), (fun hh => by have q := u13 (by rw [Go.RT.bit_or] at hh; simpa using hh); rw [Go.RT.bit_or, q]; rfl), (fun hh => by have q := u15 (by rw [Go.RT.bit_or] at hh; simpa using hh); rw [Go.RT.bit_or, q]; rfl)⟩
    · obtain rfl := Option.some.inj ho
      have t0 : D.testBit 0 = true := by simp [Go.RT.depsIn, Region.binds] at hd; simp [hd]
      clear hd
      have em := m0 t0
      subst em
      have hr := run_make_row' (P := Try.prog) 25 4 (.bool false) 1 Try.underlying25 info4 rfl .i64 .i64 k (by omega) (by omega) w'
      refine Go.RT.wpOp_val (v := .slice (some ⟨w'.heap.size, 0, none⟩) k k) (w' := (w'.alloc (.cells (madeCells #[.bool false] k) 4))) rfl rfl (by simp [execOp, Act.eval, hr, Result.andThen] <;> rfl) ?_
      exact ⟨w'.heap.size, o3, o5, o7, (.int .i64 k), (.slice (some ⟨w'.heap.size, 0, none⟩) k k), x14, x15, x16, x17, x18, x19, x20, x21, x22, x23, c7, c8, c9, c10, rfl, ((Below.heap_alloc _ _ _ (MM.blk_lt hb7)).trans hb7), ((Below.heap_alloc _ _ _ (MM.blk_lt hb6)).trans hb6), hne, h6, h7, (hbel.alloc hbel.size _), (fun _ => rfl), (fun hh => m2 (by rw [Go.RT.bit_or] at hh; simpa using hh)), (fun hh => m4 (by rw [Go.RT.bit_or] at hh; simpa using hh)), (fun hh => m6 (by rw [Go.RT.bit_or] at hh; simpa using hh)), (fun _ => ⟨rfl, MM.alloc_new w' _, MM.blk_lt hb7⟩), (fun hh => by obtain ⟨q1, q2, q3⟩ := k3 (by rw [Go.RT.bit_or] at hh; simpa using hh); exact ⟨q1, (Below.heap_alloc _ _ _ (MM.blk_lt q2)).trans q2, q3⟩), (fun hh => by obtain ⟨q1, q2, q3⟩ := k5 (by rw [Go.RT.bit_or] at hh; simpa using hh); exact ⟨q1, (Below.heap_alloc _ _ _ (MM.blk_lt q2)).trans q2, q3⟩), (fun hh => by obtain ⟨q1, q2, q3⟩ := k7 (by rw [Go.RT.bit_or] at hh; simpa using hh); exact ⟨q1, (Below.heap_alloc _ _ _ (MM.blk_lt q2)).trans q2, q3⟩), (fun hh h2 => d35 (by rw [Go.RT.bit_or] at hh; simpa using hh) (by rw [Go.RT.bit_or] at h2; simpa using h2)), (fun hh h2 => d37 (by rw [Go.RT.bit_or] at hh; simpa using hh) (by rw [Go.RT.bit_or] at h2; simpa using h2)), (fun hh h2 => d57 (by rw [Go.RT.bit_or] at hh; simpa using hh) (by rw [Go.RT.bit_or] at h2; simpa using h2)), (fun hh => f8 (by rw [Go.RT.bit_or] at hh; simpa using hh)), (fun hh => f10 (by rw [Go.RT.bit_or] at hh; simpa using hh)), (fun hh => f12 (by rw [Go.RT.bit_or] at hh; simpa using hh)), (fun hh => f14 (by rw [Go.RT.bit_or] at hh; simpa using hh)), (fun hh => absurd (u9 (by rw [Go.RT.bit_or] at hh; simpa using hh)) (by rw [hD]; decide)), (fun hh => s11 (by rw [Go.RT.bit_or] at hh; simpa using hh)), (fun hh => s13 (by rw [Go.RT.bit_or] at hh; simpa using hh)), (fun hh => s15 (by rw [Go.RT.bit_or] at hh; simpa using hh)), (fun hh => by have q := u9 (by rw [Go.RT.bit_or] at hh; simpa using hh); rw [Go.RT.bit_or, q]; rfl), (fun hh => by have q := u11 (by rw [Go.RT.bit_or] at hh; simpa using hh); rw [Go.RT.bit_or, q]; rfl), (fun hh => by have q := u13 (by rw [Go.RT.bit_or] at hh; simpa using hh); rw [Go.RT.bit_or, q]; rfl), (fun hh => by have q := u15 (by rw [Go.RT.bit_or] at hh; simpa using hh); rw [Go.RT.bit_or, q]; rfl)⟩
    · obtain rfl := Option.some.inj ho
      clear hd
      refine Go.RT.wpOp_val (v := .int .i64 k) (w' := w') rfl rfl (by first | rfl | (go_simp; done) | (go_simp <;> rfl)) ?_
      exact ⟨o1, o3, o5, o7, x12, x13, (.int .i64 k), x15, x16, x17, x18, x19, x20, x21, x22, x23, c7, c8, c9, c10, rfl, hb7, hb6, hne, h6, h7, hbel, (fun hh => m0 (by rw [Go.RT.bit_or] at hh; simpa using hh)), (fun _ => rfl), (fun hh => m4 (by rw [Go.RT.bit_or] at hh; simpa using hh)), (fun hh => m6 (by rw [Go.RT.bit_or] at hh; simpa using hh)), (fun hh => k1 (by rw [Go.RT.bit_or] at hh; simpa using hh)), (fun hh => k3 (by rw [Go.RT.bit_or] at hh; simpa using hh)), (fun hh => k5 (by rw [Go.RT.bit_or] at hh; simpa using hh)), (fun hh => k7 (by rw [Go.RT.bit_or] at hh; simpa using hh)), (fun hh h2 => d35 (by rw [Go.RT.bit_or] at hh; simpa using hh) (by rw [Go.RT.bit_or] at h2; simpa using h2)), (fun hh h2 => d37 (by rw [Go.RT.bit_or] at hh; simpa using hh) (by rw [Go.RT.bit_or] at h2; simpa using h2)), (fun hh h2 => d57 (by rw [Go.RT.bit_or] at hh; simpa using hh) (by rw [Go.RT.bit_or] at h2; simpa using h2)), (fun hh => f8 (by rw [Go.RT.bit_or] at hh; simpa using hh)), (fun hh => f10 (by rw [Go.RT.bit_or] at hh; simpa using hh)), (fun hh => f12 (by rw [Go.RT.bit_or] at hh; simpa using hh)), (fun hh => f14 (by rw [Go.RT.bit_or] at hh; simpa using hh)), (fun hh => s9 (by rw [Go.RT.bit_or] at hh; simpa using hh)), (fun hh => s11 (by rw [Go.RT.bit_or] at hh; simpa using hh)), (fun hh => s13 (by rw [Go.RT.bit_or] at hh; simpa using hh)), (fun hh => s15 (by rw [Go.RT.bit_or] at hh; simpa using hh)), (fun hh => by have q := u9 (by rw [Go.RT.bit_or] at hh; simpa using hh); rw [Go.RT.bit_or, q]; rfl), (fun hh => by have q := u11 (by rw [Go.RT.bit_or] at hh; simpa using hh); rw [Go.RT.bit_or, q]; rfl), (fun hh => by have q := u13 (by rw [Go.RT.bit_or] at hh; simpa using hh); rw [Go.RT.bit_or, q]; rfl), (fun hh => by have q := u15 (by rw [Go.RT.bit_or] at hh; simpa using hh); rw [Go.RT.bit_or, q]; rfl)⟩
    · obtain rfl := Option.some.inj ho
      have t2 : D.testBit 2 = true := by simp [Go.RT.depsIn, Region.binds] at hd; simp [hd]
      clear hd
      have em := m2 t2
      subst em
      have hr := run_make_row' (P := Try.prog) 26 3 (.int .i64 0) 8 Try.underlying26 info3 rfl .i64 .i64 k (by omega) (by omega) w'
      refine Go.RT.wpOp_val (v := .slice (some ⟨w'.heap.size, 0, none⟩) k k) (w' := (w'.alloc (.cells (madeCells #[.int .i64 0] k) 3))) rfl rfl (by simp [execOp, Act.eval, hr, Result.andThen] <;> rfl) ?_
      exact ⟨o1, w'.heap.size, o5, o7, x12, x13, (.int .i64 k), (.slice (some ⟨w'.heap.size, 0, none⟩) k k), x16, x17, x18, x19, x20, x21, x22, x23, c7, c8, c9, c10, rfl, ((Below.heap_alloc _ _ _ (MM.blk_lt hb7)).trans hb7), ((Below.heap_alloc _ _ _ (MM.blk_lt hb6)).trans hb6), hne, h6, h7, (hbel.alloc hbel.size _), (fun hh => m0 (by rw [Go.RT.bit_or] at hh; simpa using hh)), (fun _ => rfl), (fun hh => m4 (by rw [Go.RT.bit_or] at hh; simpa using hh)), (fun hh => m6 (by rw [Go.RT.bit_or] at hh; simpa using hh)), (fun hh => by obtain ⟨q1, q2, q3⟩ := k1 (by rw [Go.RT.bit_or] at hh; simpa using hh); exact ⟨q1, (Below.heap_alloc _ _ _ (MM.blk_lt q2)).trans q2, q3⟩), (fun _ => ⟨rfl, MM.alloc_new w' _, MM.blk_lt hb7⟩), (fun hh => by obtain ⟨q1, q2, q3⟩ := k5 (by rw [Go.RT.bit_or] at hh; simpa using hh); exact ⟨q1, (Below.heap_alloc _ _ _ (MM.blk_lt q2)).trans q2, q3⟩), (fun hh => by obtain ⟨q1, q2, q3⟩ := k7 (by rw [Go.RT.bit_or] at hh; simpa using hh); exact ⟨q1, (Below.heap_alloc _ _ _ (MM.blk_lt q2)).trans q2, q3⟩), (fun _ h2 => by obtain ⟨q1, q2, q3⟩ := k5 (by rw [Go.RT.bit_or] at h2; simpa using h2); have := MM.blk_lt q2; omega), (fun _ h2 => by obtain ⟨q1, q2, q3⟩ := k7 (by rw [Go.RT.bit_or] at h2; simpa using h2); have := MM.blk_lt q2; omega), (fun hh h2 => d57 (by rw [Go.RT.bit_or] at hh; simpa using hh) (by rw [Go.RT.bit_or] at h2; simpa using h2)), (fun hh => f8 (by rw [Go.RT.bit_or] at hh; simpa using hh)), (fun hh => f10 (by rw [Go.RT.bit_or] at hh; simpa using hh)), (fun hh => f12 (by rw [Go.RT.bit_or] at hh; simpa using hh)), (fun hh => f14 (by rw [Go.RT.bit_or] at hh; simpa using hh)), (fun hh => s9 (by rw [Go.RT.bit_or] at hh; simpa using hh)), (fun hh => absurd (u11 (by rw [Go.RT.bit_or] at hh; simpa using hh)) (by rw [hD]; decide)), (fun hh => s13 (by rw [Go.RT.bit_or] at hh; simpa using hh)), (fun hh => s15 (by rw [Go.RT.bit_or] at hh; simpa using hh)), (fun hh => by have q := u9 (by rw [Go.RT.bit_or] at hh; simpa using hh); rw [Go.RT.bit_or, q]; rfl), (fun hh => by have q := u11 (by rw [Go.RT.bit_or] at hh; simpa using hh); rw [Go.RT.bit_or, q]; rfl), (fun hh => by have q := u13 (by rw [Go.RT.bit_or] at hh; simpa using hh); rw [Go.RT.bit_or, q]; rfl), (fun hh => by have q := u15 (by rw [Go.RT.bit_or] at hh; simpa using hh); rw [Go.RT.bit_or, q]; rfl)⟩
    · obtain rfl := Option.some.inj ho
      clear hd
      refine Go.RT.wpOp_val (v := .int .i64 k) (w' := w') rfl rfl (by first | rfl | (go_simp; done) | (go_simp <;> rfl)) ?_
      exact ⟨o1, o3, o5, o7, x12, x13, x14, x15, (.int .i64 k), x17, x18, x19, x20, x21, x22, x23, c7, c8, c9, c10, rfl, hb7, hb6, hne, h6, h7, hbel, (fun hh => m0 (by rw [Go.RT.bit_or] at hh; simpa using hh)), (fun hh => m2 (by rw [Go.RT.bit_or] at hh; simpa using hh)), (fun _ => rfl), (fun hh => m6 (by rw [Go.RT.bit_or] at hh; simpa using hh)), (fun hh => k1 (by rw [Go.RT.bit_or] at hh; simpa using hh)), (fun hh => k3 (by rw [Go.RT.bit_or] at hh; simpa using hh)), (fun hh => k5 (by rw [Go.RT.bit_or] at hh; simpa using hh)), (fun hh => k7 (by rw [Go.RT.bit_or] at hh; simpa using hh)), (fun hh h2 => d35 (by rw [Go.RT.bit_or] at hh; simpa using hh) (by rw [Go.RT.bit_or] at h2; simpa using h2)), (fun hh h2 => d37 (by rw [Go.RT.bit_or] at hh; simpa using hh) (by rw [Go.RT.bit_or] at h2; simpa using h2)), (fun hh h2 => d57 (by rw [Go.RT.bit_or] at hh; simpa using hh) (by rw [Go.RT.bit_or] at h2; simpa using h2)), (fun hh => f8 (by rw [Go.RT.bit_or] at hh; simpa using hh)), (fun hh => f10 (by rw [Go.RT.bit_or] at hh; simpa using hh)), (fun hh => f12 (by rw [Go.RT.bit_or] at hh; simpa using hh)), (fun hh => f14 (by rw [Go.RT.bit_or] at hh; simpa using hh)), (fun hh => s9 (by rw [Go.RT.bit_or] at hh; simpa using hh)), (fun hh => s11 (by rw [Go.RT.bit_or] at hh; simpa using hh)), (fun hh => s13 (by rw [Go.RT.bit_or] at hh; simpa using hh)), (fun hh => s15 (by rw [Go.RT.bit_or] at hh; simpa using hh)), (fun hh => by have q := u9 (by rw [Go.RT.bit_or] at hh; simpa using hh); rw [Go.RT.bit_or, q]; rfl), (fun hh => by have q := u11 (by rw [Go.RT.bit_or] at hh; simpa using hh); rw [Go.RT.bit_or, q]; rfl), (fun hh => by have q := u13 (by rw [Go.RT.bit_or] at hh; simpa using hh); rw [Go.RT.bit_or, q]; rfl), (fun hh => by have q := u15 (by rw [Go.RT.bit_or] at hh; simpa using hh); rw [Go.RT.bit_or, q]; rfl)⟩
    · obtain rfl := Option.some.inj ho
      have t4 : D.testBit 4 = true := by simp [Go.RT.depsIn, Region.binds] at hd; simp [hd]
      clear hd
      have em := m4 t4
      subst em
      have hr := run_make_row' (P := Try.prog) 26 3 (.int .i64 0) 8 Try.underlying26 info3 rfl .i64 .i64 k (by omega) (by omega) w'
      refine Go.RT.wpOp_val (v := .slice (some ⟨w'.heap.size, 0, none⟩) k k) (w' := (w'.alloc (.cells (madeCells #[.int .i64 0] k) 3))) rfl rfl (by simp [execOp, Act.eval, hr, Result.andThen] <;> rfl) ?_
      exact ⟨o1, o3, w'.heap.size, o7, x12, x13, x14, x15, (.int .i64 k), (.slice (some ⟨w'.heap.size, 0, none⟩) k k), x18, x19, x20, x21, x22, x23, c7, c8, c9, c10, rfl, ((Below.heap_alloc _ _ _ (MM.blk_lt hb7)).trans hb7), ((Below.heap_alloc _ _ _ (MM.blk_lt hb6)).trans hb6), hne, h6, h7, (hbel.alloc hbel.size _), (fun hh => m0 (by rw [Go.RT.bit_or] at hh; simpa using hh)), (fun hh => m2 (by rw [Go.RT.bit_or] at hh; simpa using hh)), (fun _ => rfl), (fun hh => m6 (by rw [Go.RT.bit_or] at hh; simpa using hh)), (fun hh => by obtain ⟨q1, q2, q3⟩ := k1 (by rw [Go.RT.bit_or] at hh; simpa using hh); exact ⟨q1, (Below.heap_alloc _ _ _ (MM.blk_lt q2)).trans q2, q3⟩), (fun hh => by obtain ⟨q1, q2, q3⟩ := k3 (by rw [Go.RT.bit_or] at hh; simpa using hh); exact ⟨q1, (Below.heap_alloc _ _ _ (MM.blk_lt q2)).trans q2, q3⟩), (fun _ => ⟨rfl, MM.alloc_new w' _, MM.blk_lt hb7⟩), (fun hh => by obtain ⟨q1, q2, q3⟩ := k7 (by rw [Go.RT.bit_or] at hh; simpa using hh); exact ⟨q1, (Below.heap_alloc _ _ _ (MM.blk_lt q2)).trans q2, q3⟩), (fun h2 _ => by obtain ⟨q1, q2, q3⟩ := k3 (by rw [Go.RT.bit_or] at h2; simpa using h2); have := MM.blk_lt q2; omega), (fun hh h2 => d37 (by rw [Go.RT.bit_or] at hh; simpa using hh) (by rw [Go.RT.bit_or] at h2; simpa using h2)), (fun _ h2 => by obtain ⟨q1, q2, q3⟩ := k7 (by rw [Go.RT.bit_or] at h2; simpa using h2); have := MM.blk_lt q2; omega), (fun hh => f8 (by rw [Go.RT.bit_or] at hh; simpa using hh)), (fun hh => f10 (by rw [Go.RT.bit_or] at hh; simpa using hh)), (fun hh => f12 (by rw [Go.RT.bit_or] at hh; simpa using hh)), (fun hh => f14 (by rw [Go.RT.bit_or] at hh; simpa using hh)), (fun hh => s9 (by rw [Go.RT.bit_or] at hh; simpa using hh)), (fun hh => s11 (by rw [Go.RT.bit_or] at hh; simpa using hh)), (fun hh => absurd (u13 (by rw [Go.RT.bit_or] at hh; simpa using hh)) (by rw [hD]; decide)), (fun hh => s15 (by rw [Go.RT.bit_or] at hh; simpa using hh)), (fun hh => by have q := u9 (by rw [Go.RT.bit_or] at hh; simpa using hh); rw [Go.RT.bit_or, q]; rfl), (fun hh => by have q := u11 (by rw [Go.RT.bit_or] at hh; simpa using hh); rw [Go.RT.bit_or, q]; rfl), (fun hh => by have q := u13 (by rw [Go.RT.bit_or] at hh; simpa using hh); rw [Go.RT.bit_or, q]; rfl), (fun hh => by have q := u15 (by rw [Go.RT.bit_or] at hh; simpa using hh); rw [Go.RT.bit_or, q]; rfl)⟩
    · obtain rfl := Option.some.inj ho
      clear hd
      refine Go.RT.wpOp_val (v := .int .i64 k) (w' := w') rfl rfl (by first | rfl | (go_simp; done) | (go_simp <;> rfl)) ?_
      exact ⟨o1, o3, o5, o7, x12, x13, x14, x15, x16, x17, (.int .i64 k), x19, x20, x21, x22, x23, c7, c8, c9, c10, rfl, hb7, hb6, hne, h6, h7, hbel, (fun hh => m0 (by rw [Go.RT.bit_or] at hh; simpa using hh)), (fun hh => m2 (by rw [Go.RT.bit_or] at hh; simpa using hh)), (fun hh => m4 (by rw [Go.RT.bit_or] at hh; simpa using hh)), (fun _ => rfl), (fun hh => k1 (by rw [Go.RT.bit_or] at hh; simpa using hh)), (fun hh => k3 (by rw [Go.RT.bit_or] at hh; simpa using hh)), (fun hh => k5 (by rw [Go.RT.bit_or] at hh; simpa using hh)), (fun hh => k7 (by rw [Go.RT.bit_or] at hh; simpa using hh)), (fun hh h2 => d35 (by rw [Go.RT.bit_or] at hh; simpa using hh) (by rw [Go.RT.bit_or] at h2; simpa using h2)), (fun hh h2 => d37 (by rw [Go.RT.bit_or] at hh; simpa using hh) (by rw [Go.RT.bit_or] at h2; simpa using h2)), (fun hh h2 => d57 (by rw [Go.RT.bit_or] at hh; simpa using hh) (by rw [Go.RT.bit_or] at h2; simpa using h2)), (fun hh => f8 (by rw [Go.RT.bit_or] at hh; simpa using hh)), (fun hh => f10 (by rw [Go.RT.bit_or] at hh; simpa using hh)), (fun hh => f12 (by rw [Go.RT.bit_or] at hh; simpa using hh)), (fun hh => f14 (by rw [Go.RT.bit_or] at hh; simpa using hh)), (fun hh => s9 (by rw [Go.RT.bit_or] at hh; simpa using hh)), (fun hh => s11 (by rw [Go.RT.bit_or] at hh; simpa using hh)), (fun hh => s13 (by rw [Go.RT.bit_or] at hh; simpa using hh)), (fun hh => s15 (by rw [Go.RT.bit_or] at hh; simpa using hh)), (fun hh => by have q := u9 (by rw [Go.RT.bit_or] at hh; simpa using hh); rw [Go.RT.bit_or, q]; rfl), (fun hh => by have q := u11 (by rw [Go.RT.bit_or] at hh; simpa using hh); rw [Go.RT.bit_or, q]; rfl), (fun hh => by have q := u13 (by rw [Go.RT.bit_or] at hh; simpa using hh); rw [Go.RT.bit_or, q]; rfl), (fun hh => by have q := u15 (by rw [Go.RT.bit_or] at hh; simpa using hh); rw [Go.RT.bit_or, q]; rfl)⟩
    · obtain rfl := Option.some.inj ho
      have t6 : D.testBit 6 = true := by simp [Go.RT.depsIn, Region.binds] at hd; simp [hd]
      clear hd
      have em := m6 t6
      subst em
      have hr := run_make_row' (P := Try.prog) 26 3 (.int .i64 0) 8 Try.underlying26 info3 rfl .i64 .i64 k (by omega) (by omega) w'
      refine Go.RT.wpOp_val (v := .slice (some ⟨w'.heap.size, 0, none⟩) k k) (w' := (w'.alloc (.cells (madeCells #[.int .i64 0] k) 3))) rfl rfl (by simp [execOp, Act.eval, hr, Result.andThen] <;> rfl) ?_
      exact ⟨o1, o3, o5, w'.heap.size, x12, x13, x14, x15, x16, x17, (.int .i64 k), (.slice (some ⟨w'.heap.size, 0, none⟩) k k), x20, x21, x22, x23, c7, c8, c9, c10, rfl, ((Below.heap_alloc _ _ _ (MM.blk_lt hb7)).trans hb7), ((Below.heap_alloc _ _ _ (MM.blk_lt hb6)).trans hb6), hne, h6, h7, (hbel.alloc hbel.size _), (fun hh => m0 (by rw [Go.RT.bit_or] at hh; simpa using hh)), (fun hh => m2 (by rw [Go.RT.bit_or] at hh; simpa using hh)), (fun hh => m4 (by rw [Go.RT.bit_or] at hh; simpa using hh)), (fun _ => rfl), (fun hh => by obtain ⟨q1, q2, q3⟩ := k1 (by rw [Go.RT.bit_or] at hh; simpa using hh); exact ⟨q1, (Below.heap_alloc _ _ _ (MM.blk_lt q2)).trans q2, q3⟩), (fun hh => by obtain ⟨q1, q2, q3⟩ := k3 (by rw [Go.RT.bit_or] at hh; simpa using hh); exact ⟨q1, (Below.heap_alloc _ _ _ (MM.blk_lt q2)).trans q2, q3⟩), (fun hh => by obtain ⟨q1, q2, q3⟩ := k5 (by rw [Go.RT.bit_or] at hh; simpa using hh); exact ⟨q1, (Below.heap_alloc _ _ _ (MM.blk_lt q2)).trans q2, q3⟩), (fun _ => ⟨rfl, MM.alloc_new w' _, MM.blk_lt hb7⟩), (fun hh h2 => d35 (by rw [Go.RT.bit_or] at hh; simpa using hh) (by rw [Go.RT.bit_or] at h2; simpa using h2)), (fun h2 _ => by obtain ⟨q1, q2, q3⟩ := k3 (by rw [Go.RT.bit_or] at h2; simpa using h2); have := MM.blk_lt q2; omega), (fun h2 _ => by obtain ⟨q1, q2, q3⟩ := k5 (by rw [Go.RT.bit_or] at h2; simpa using h2); have := MM.blk_lt q2; omega), (fun hh => f8 (by rw [Go.RT.bit_or] at hh; simpa using hh)), (fun hh => f10 (by rw [Go.RT.bit_or] at hh; simpa using hh)), (fun hh => f12 (by rw [Go.RT.bit_or] at hh; simpa using hh)), (fun hh => f14 (by rw [Go.RT.bit_or] at hh; simpa using hh)), (fun hh => s9 (by rw [Go.RT.bit_or] at hh; simpa using hh)), (fun hh => s11 (by rw [Go.RT.bit_or] at hh; simpa using hh)), (fun hh => s13 (by rw [Go.RT.bit_or] at hh; simpa using hh)), (fun hh => absurd (u15 (by rw [Go.RT.bit_or] at hh; simpa using hh)) (by rw [hD]; decide)), (fun hh => by have q := u9 (by rw [Go.RT.bit_or] at hh; simpa using hh); rw [Go.RT.bit_or, q]; rfl), (fun hh => by have q := u11 (by rw [Go.RT.bit_or] at hh; simpa using hh); rw [Go.RT.bit_or, q]; rfl), (fun hh => by have q := u13 (by rw [Go.RT.bit_or] at hh; simpa using hh); rw [Go.RT.bit_or, q]; rfl), (fun hh => by have q := u15 (by rw [Go.RT.bit_or] at hh; simpa using hh); rw [Go.RT.bit_or, q]; rfl)⟩
    · obtain rfl := Option.some.inj ho
      have t0 : D.testBit 0 = true := by simp [Go.RT.depsIn, Region.binds] at hd; simp [hd]
      have t1 : D.testBit 1 = true := by simp [Go.RT.depsIn, Region.binds] at hd; simp [hd]
      clear hd
      refine Go.RT.wpOp_val (v := .pointer (some ⟨b7, 7, none⟩)) (w' := w') rfl rfl (by first | (go_simp; done) | (go_simp <;> rfl)) ?_
      exact ⟨o1, o3, o5, o7, x12, x13, x14, x15, x16, x17, x18, x19, (.pointer (some ⟨b7, 7, none⟩)), x21, x22, x23, c7, c8, c9, c10, rfl, hb7, hb6, hne, h6, h7, hbel, (fun hh => m0 (by rw [Go.RT.bit_or] at hh; simpa using hh)), (fun hh => m2 (by rw [Go.RT.bit_or] at hh; simpa using hh)), (fun hh => m4 (by rw [Go.RT.bit_or] at hh; simpa using hh)), (fun hh => m6 (by rw [Go.RT.bit_or] at hh; simpa using hh)), (fun hh => k1 (by rw [Go.RT.bit_or] at hh; simpa using hh)), (fun hh => k3 (by rw [Go.RT.bit_or] at hh; simpa using hh)), (fun hh => k5 (by rw [Go.RT.bit_or] at hh; simpa using hh)), (fun hh => k7 (by rw [Go.RT.bit_or] at hh; simpa using hh)), (fun hh h2 => d35 (by rw [Go.RT.bit_or] at hh; simpa using hh) (by rw [Go.RT.bit_or] at h2; simpa using h2)), (fun hh h2 => d37 (by rw [Go.RT.bit_or] at hh; simpa using hh) (by rw [Go.RT.bit_or] at h2; simpa using h2)), (fun hh h2 => d57 (by rw [Go.RT.bit_or] at hh; simpa using hh) (by rw [Go.RT.bit_or] at h2; simpa using h2)), (fun _ => rfl), (fun hh => f10 (by rw [Go.RT.bit_or] at hh; simpa using hh)), (fun hh => f12 (by rw [Go.RT.bit_or] at hh; simpa using hh)), (fun hh => f14 (by rw [Go.RT.bit_or] at hh; simpa using hh)), (fun hh => s9 (by rw [Go.RT.bit_or] at hh; simpa using hh)), (fun hh => s11 (by rw [Go.RT.bit_or] at hh; simpa using hh)), (fun hh => s13 (by rw [Go.RT.bit_or] at hh; simpa using hh)), (fun hh => s15 (by rw [Go.RT.bit_or] at hh; simpa using hh)), (fun hh => by have q := u9 (by rw [Go.RT.bit_or] at hh; simpa using hh); rw [Go.RT.bit_or, q]; rfl), (fun hh => by have q := u11 (by rw [Go.RT.bit_or] at hh; simpa using hh); rw [Go.RT.bit_or, q]; rfl), (fun hh => by have q := u13 (by rw [Go.RT.bit_or] at hh; simpa using hh); rw [Go.RT.bit_or, q]; rfl), (fun hh => by have q := u15 (by rw [Go.RT.bit_or] at hh; simpa using hh); rw [Go.RT.bit_or, q]; rfl)⟩
    · obtain rfl := Option.some.inj ho
      have t0 : D.testBit 0 = true := by simp [Go.RT.depsIn, Region.binds] at hd; simp [hd]
      have t1 : D.testBit 1 = true := by simp [Go.RT.depsIn, Region.binds] at hd; simp [hd]
      have t8 : D.testBit 8 = true := by simp [Go.RT.depsIn, Region.binds] at hd; simp [hd]
      clear hd
      have ef := f8 t8
      subst ef
      obtain ⟨ev, q2, q3⟩ := k1 t1
      subst ev
      have hc : w'.cell? ⟨b7, 7, none⟩ = some c7 := MM.cell_blk hb7 rfl
      have hf : w'.frozen? ⟨b7, 7, none⟩ = false := MM.free_blk hb7
      refine Go.RT.wpOp_skip (w' := (w'.setCell ⟨b7, 7, none⟩ (.slice (some ⟨o1, 0, none⟩) k k))) rfl rfl (by first | (go_simp; done) | (go_simp <;> rfl)) ?_
      exact ⟨o1, o3, o5, o7, x12, (.slice (some ⟨o1, 0, none⟩) k k), x14, x15, x16, x17, x18, x19, (.pointer (some ⟨b7, 7, none⟩)), x21, x22, x23, (.slice (some ⟨o1, 0, none⟩) k k), c8, c9, c10, rfl, ((setCell_blk _ hb7).trans rfl), (ret_far hb6 (p := ⟨b7, _, none⟩) hne _), hne, h6, h7, (hbel.setCell (p := ⟨b7, _, none⟩) h7 _), (fun hh => m0 (by rw [Go.RT.bit_or] at hh; simpa using hh)), (fun hh => m2 (by rw [Go.RT.bit_or] at hh; simpa using hh)), (fun hh => m4 (by rw [Go.RT.bit_or] at hh; simpa using hh)), (fun hh => m6 (by rw [Go.RT.bit_or] at hh; simpa using hh)), (fun _ => ⟨rfl, ret_far q2 (p := ⟨b7, _, none⟩) (Nat.ne_of_gt q3) _, q3⟩), (fun hh => by obtain ⟨q1, q2, q3⟩ := k3 (by rw [Go.RT.bit_or] at hh; simpa using hh); exact ⟨q1, ret_far q2 (p := ⟨b7, _, none⟩) (Nat.ne_of_gt q3) _, q3⟩), (fun hh => by obtain ⟨q1, q2, q3⟩ := k5 (by rw [Go.RT.bit_or] at hh; simpa using hh); exact ⟨q1, ret_far q2 (p := ⟨b7, _, none⟩) (Nat.ne_of_gt q3) _, q3⟩), (fun hh => by obtain ⟨q1, q2, q3⟩ := k7 (by rw [Go.RT.bit_or] at hh; simpa using hh); exact ⟨q1, ret_far q2 (p := ⟨b7, _, none⟩) (Nat.ne_of_gt q3) _, q3⟩), (fun hh h2 => d35 (by rw [Go.RT.bit_or] at hh; simpa using hh) (by rw [Go.RT.bit_or] at h2; simpa using h2)), (fun hh h2 => d37 (by rw [Go.RT.bit_or] at hh; simpa using hh) (by rw [Go.RT.bit_or] at h2; simpa using h2)), (fun hh h2 => d57 (by rw [Go.RT.bit_or] at hh; simpa using hh) (by rw [Go.RT.bit_or] at h2; simpa using h2)), (fun _ => rfl), (fun hh => f10 (by rw [Go.RT.bit_or] at hh; simpa using hh)), (fun hh => f12 (by rw [Go.RT.bit_or] at hh; simpa using hh)), (fun hh => f14 (by rw [Go.RT.bit_or] at hh; simpa using hh)), (fun _ => rfl), (fun hh => s11 (by rw [Go.RT.bit_or] at hh; simpa using hh)), (fun hh => s13 (by rw [Go.RT.bit_or] at hh; simpa using hh)), (fun hh => s15 (by rw [Go.RT.bit_or] at hh; simpa using hh)), (fun _ => by rw [Go.RT.bit_or, t1]; rfl), (fun hh => by have q := u11 (by rw [Go.RT.bit_or] at hh; simpa using hh); rw [Go.RT.bit_or, q]; rfl), (fun hh => by have q := u13 (by rw [Go.RT.bit_or] at hh; simpa using hh); rw [Go.RT.bit_or, q]; rfl), (fun hh => by have q := u15 (by rw [Go.RT.bit_or] at hh; simpa using hh); rw [Go.RT.bit_or, q]; rfl)⟩
    · obtain rfl := Option.some.inj ho
      have t0 : D.testBit 0 = true := by simp [Go.RT.depsIn, Region.binds] at hd; simp [hd]
      have t1 : D.testBit 1 = true := by simp [Go.RT.depsIn, Region.binds] at hd; simp [hd]
      have t2 : D.testBit 2 = true := by simp [Go.RT.depsIn, Region.binds] at hd; simp [hd]
      have t3 : D.testBit 3 = true := by simp [Go.RT.depsIn, Region.binds] at hd; simp [hd]
      have t8 : D.testBit 8 = true := by simp [Go.RT.depsIn, Region.binds] at hd; simp [hd]
      have t9 : D.testBit 9 = true := by simp [Go.RT.depsIn, Region.binds] at hd; simp [hd]
      clear hd
      refine Go.RT.wpOp_val (v := .pointer (some ⟨b7, 8, none⟩)) (w' := w') rfl rfl (by first | (go_simp; done) | (go_simp <;> rfl)) ?_
      exact ⟨o1, o3, o5, o7, x12, x13, x14, x15, x16, x17, x18, x19, x20, (.pointer (some ⟨b7, 8, none⟩)), x22, x23, c7, c8, c9, c10, rfl, hb7, hb6, hne, h6, h7, hbel, (fun hh => m0 (by rw [Go.RT.bit_or] at hh; simpa using hh)), (fun hh => m2 (by rw [Go.RT.bit_or] at hh; simpa using hh)), (fun hh => m4 (by rw [Go.RT.bit_or] at hh; simpa using hh)), (fun hh => m6 (by rw [Go.RT.bit_or] at hh; simpa using hh)), (fun hh => k1 (by rw [Go.RT.bit_or] at hh; simpa using hh)), (fun hh => k3 (by rw [Go.RT.bit_or] at hh; simpa using hh)), (fun hh => k5 (by rw [Go.RT.bit_or] at hh; simpa using hh)), (fun hh => k7 (by rw [Go.RT.bit_or] at hh; simpa using hh)), (fun hh h2 => d35 (by rw [Go.RT.bit_or] at hh; simpa using hh) (by rw [Go.RT.bit_or] at h2; simpa using h2)), (fun hh h2 => d37 (by rw [Go.RT.bit_or] at hh; simpa using hh) (by rw [Go.RT.bit_or] at h2; simpa using h2)), (fun hh h2 => d57 (by rw [Go.RT.bit_or] at hh; simpa using hh) (by rw [Go.RT.bit_or] at h2; simpa using h2)), (fun hh => f8 (by rw [Go.RT.bit_or] at hh; simpa using hh)), (fun _ => rfl), (fun hh => f12 (by rw [Go.RT.bit_or] at hh; simpa using hh)), (fun hh => f14 (by rw [Go.RT.bit_or] at hh; simpa using hh)), (fun hh => s9 (by rw [Go.RT.bit_or] at hh; simpa using hh)), (fun hh => s11 (by rw [Go.RT.bit_or] at hh; simpa using hh)), (fun hh => s13 (by rw [Go.RT.bit_or] at hh; simpa using hh)), (fun hh => s15 (by rw [Go.RT.bit_or] at hh; simpa using hh)), (fun hh => by have q := u9 (by rw [Go.RT.bit_or] at hh; simpa using hh); rw [Go.RT.bit_or, q]; rfl), (fun hh => by have q := u11 (by rw [Go.RT.bit_or] at hh; simpa using hh); rw [Go.RT.bit_or, q]; rfl), (fun hh => by have q := u13 (by rw [Go.RT.bit_or] at hh; simpa using hh); rw [Go.RT.bit_or, q]; rfl), (fun hh => by have q := u15 (by rw [Go.RT.bit_or] at hh; simpa using hh); rw [Go.RT.bit_or, q]; rfl)⟩
    · obtain rfl := Option.some.inj ho
      have t0 : D.testBit 0 = true := by simp [Go.RT.depsIn, Region.binds] at hd; simp [hd]
      have t1 : D.testBit 1 = true := by simp [Go.RT.depsIn, Region.binds] at hd; simp [hd]
      have t2 : D.testBit 2 = true := by simp [Go.RT.depsIn, Region.binds] at hd; simp [hd]
      have t3 : D.testBit 3 = true := by simp [Go.RT.depsIn, Region.binds] at hd; simp [hd]
      have t8 : D.testBit 8 = true := by simp [Go.RT.depsIn, Region.binds] at hd; simp [hd]
      have t9 : D.testBit 9 = true := by simp [Go.RT.depsIn, Region.binds] at hd; simp [hd]
      have t10 : D.testBit 10 = true := by simp [Go.RT.depsIn, Region.binds] at hd; simp [hd]
      clear hd
      have ef := f10 t10
      subst ef
      obtain ⟨ev, q2, q3⟩ := k3 t3
      subst ev
      have hc : w'.cell? ⟨b7, 8, none⟩ = some c8 := MM.cell_blk hb7 rfl
      have hf : w'.frozen? ⟨b7, 8, none⟩ = false := MM.free_blk hb7
      refine Go.RT.wpOp_skip (w' := (w'.setCell ⟨b7, 8, none⟩ (.slice (some ⟨o3, 0, none⟩) k k))) rfl rfl (by first | (go_simp; done) | (go_simp <;> rfl)) ?_
      exact ⟨o1, o3, o5, o7, x12, x13, x14, (.slice (some ⟨o3, 0, none⟩) k k), x16, x17, x18, x19, x20, (.pointer (some ⟨b7, 8, none⟩)), x22, x23, c7, (.slice (some ⟨o3, 0, none⟩) k k), c9, c10, rfl, ((setCell_blk _ hb7).trans rfl), (ret_far hb6 (p := ⟨b7, _, none⟩) hne _), hne, h6, h7, (hbel.setCell (p := ⟨b7, _, none⟩) h7 _), (fun hh => m0 (by rw [Go.RT.bit_or] at hh; simpa using hh)), (fun hh => m2 (by rw [Go.RT.bit_or] at hh; simpa using hh)), (fun hh => m4 (by rw [Go.RT.bit_or] at hh; simpa using hh)), (fun hh => m6 (by rw [Go.RT.bit_or] at hh; simpa using hh)), (fun hh => by obtain ⟨q1, q2, q3⟩ := k1 (by rw [Go.RT.bit_or] at hh; simpa using hh); exact ⟨q1, ret_far q2 (p := ⟨b7, _, none⟩) (Nat.ne_of_gt q3) _, q3⟩), (fun _ => ⟨rfl, ret_far q2 (p := ⟨b7, _, none⟩) (Nat.ne_of_gt q3) _, q3⟩), (fun hh => by obtain ⟨q1, q2, q3⟩ := k5 (by rw [Go.RT.bit_or] at hh; simpa using hh); exact ⟨q1, ret_far q2 (p := ⟨b7, _, none⟩) (Nat.ne_of_gt q3) _, q3⟩), (fun hh => by obtain ⟨q1, q2, q3⟩ := k7 (by rw [Go.RT.bit_or] at hh; simpa using hh); exact ⟨q1, ret_far q2 (p := ⟨b7, _, none⟩) (Nat.ne_of_gt q3) _, q3⟩), (fun hh h2 => d35 (by rw [Go.RT.bit_or] at hh; simpa using hh) (by rw [Go.RT.bit_or] at h2; simpa using h2)), (fun hh h2 => d37 (by rw [Go.RT.bit_or] at hh; simpa using hh) (by rw [Go.RT.bit_or] at h2; simpa using h2)), (fun hh h2 => d57 (by rw [Go.RT.bit_or] at hh; simpa using hh) (by rw [Go.RT.bit_or] at h2; simpa using h2)), (fun hh => f8 (by rw [Go.RT.bit_or] at hh; simpa using hh)), (fun _ => rfl), (fun hh => f12 (by rw [Go.RT.bit_or] at hh; simpa using hh)), (fun hh => f14 (by rw [Go.RT.bit_or] at hh; simpa using hh)), (fun hh => s9 (by rw [Go.RT.bit_or] at hh; simpa using hh)), (fun _ => rfl), (fun hh => s13 (by rw [Go.RT.bit_or] at hh; simpa using hh)), (fun hh => s15 (by rw [Go.RT.bit_or] at hh; simpa using hh)), (fun hh => by have q := u9 (by rw [Go.RT.bit_or] at hh; simpa using hh); rw [Go.RT.bit_or, q]; rfl), (fun _ => by rw [Go.RT.bit_or, t3]; rfl), (fun hh => by have q := u13 (by rw [Go.RT.bit_or] at hh; simpa using hh); rw [Go.RT.bit_or, q]; rfl), (fun hh => by have q := u15 (by rw [Go.RT.bit_or] at hh; simpa using hh); rw [Go.RT.bit_or, q]; rfl)⟩
    · obtain rfl := Option.some.inj ho
      have t0 : D.testBit 0 = true := by simp [Go.RT.depsIn, Region.binds] at hd; simp [hd]
      have t1 : D.testBit 1 = true := by simp [Go.RT.depsIn, Region.binds] at hd; simp [hd]
      have t2 : D.testBit 2 = true := by simp [Go.RT.depsIn, Region.binds] at hd; simp [hd]
      have t3 : D.testBit 3 = true := by simp [Go.RT.depsIn, Region.binds] at hd; simp [hd]
      have t4 : D.testBit 4 = true := by simp [Go.RT.depsIn, Region.binds] at hd; simp [hd]
      have t5 : D.testBit 5 = true := by simp [Go.RT.depsIn, Region.binds] at hd; simp [hd]
      have t8 : D.testBit 8 = true := by simp [Go.RT.depsIn, Region.binds] at hd; simp [hd]
      have t9 : D.testBit 9 = true := by simp [Go.RT.depsIn, Region.binds] at hd; simp [hd]
      have t10 : D.testBit 10 = true := by simp [Go.RT.depsIn, Region.binds] at hd; simp [hd]
      have t11 : D.testBit 11 = true := by simp [Go.RT.depsIn, Region.binds] at hd; simp [hd]
      clear hd
      refine Go.RT.wpOp_val (v := .pointer (some ⟨b7, 9, none⟩)) (w' := w') rfl rfl (by first | (go_simp; done) | (go_simp <;> rfl)) ?_
      exact ⟨o1, o3, o5, o7, x12, x13, x14, x15, x16, x17, x18, x19, x20, x21, (.pointer (some ⟨b7, 9, none⟩)), x23, c7, c8, c9, c10, rfl, hb7, hb6, hne, h6, h7, hbel, (fun hh => m0 (by rw [Go.RT.bit_or] at hh; simpa using hh)), (fun hh => m2 (by rw [Go.RT.bit_or] at hh; simpa using hh)), (fun hh => m4 (by rw [Go.RT.bit_or] at hh; simpa using hh)), (fun hh => m6 (by rw [Go.RT.bit_or] at hh; simpa using hh)), (fun hh => k1 (by rw [Go.RT.bit_or] at hh; simpa using hh)), (fun hh => k3 (by rw [Go.RT.bit_or] at hh; simpa using hh)), (fun hh => k5 (by rw [Go.RT.bit_or] at hh; simpa using hh)), (fun hh => k7 (by rw [Go.RT.bit_or] at hh; simpa using hh)), (fun hh h2 => d35 (by rw [Go.RT.bit_or] at hh; simpa using hh) (by rw [Go.RT.bit_or] at h2; simpa using h2)), (fun hh h2 => d37 (by rw [Go.RT.bit_or] at hh; simpa using hh) (by rw [Go.RT.bit_or] at h2; simpa using h2)), (fun hh h2 => d57 (by rw [Go.RT.bit_or] at hh; simpa using hh) (by rw [Go.RT.bit_or] at h2; simpa using h2)), (fun hh => f8 (by rw [Go.RT.bit_or] at hh; simpa using hh)), (fun hh => f10 (by rw [Go.RT.bit_or] at hh; simpa using hh)), (fun _ => rfl), (fun hh => f14 (by rw [Go.RT.bit_or] at hh; simpa using hh)), (fun hh => s9 (by rw [Go.RT.bit_or] at hh; simpa using hh)), (fun hh => s11 (by rw [Go.RT.bit_or] at hh; simpa using hh)), (fun hh => s13 (by rw [Go.RT.bit_or] at hh; simpa using hh)), (fun hh => s15 (by rw [Go.RT.bit_or] at hh; simpa using hh)), (fun hh => by have q := u9 (by rw [Go.RT.bit_or] at hh; simpa using hh); rw [Go.RT.bit_or, q]; rfl), (fun hh => by have q := u11 (by rw [Go.RT.bit_or] at hh; simpa using hh); rw [Go.RT.bit_or, q]; rfl), (fun hh => by have q := u13 (by rw [Go.RT.bit_or] at hh; simpa using hh); rw [Go.RT.bit_or, q]; rfl), (fun hh => by have q := u15 (by rw [Go.RT.bit_or] at hh; simpa using hh); rw [Go.RT.bit_or, q]; rfl)⟩
    · obtain rfl := Option.some.inj ho
      have t0 : D.testBit 0 = true := by simp [Go.RT.depsIn, Region.binds] at hd; simp [hd]
      have t1 : D.testBit 1 = true := by simp [Go.RT.depsIn, Region.binds] at hd; simp [hd]
      have t2 : D.testBit 2 = true := by simp [Go.RT.depsIn, Region.binds] at hd; simp [hd]
      have t3 : D.testBit 3 = true := by simp [Go.RT.depsIn, Region.binds] at hd; simp [hd]
      have t4 : D.testBit 4 = true := by simp [Go.RT.depsIn, Region.binds] at hd; simp [hd]
      have t5 : D.testBit 5 = true := by simp [Go.RT.depsIn, Region.binds] at hd; simp [hd]
      have t8 : D.testBit 8 = true := by simp [Go.RT.depsIn, Region.binds] at hd; simp [hd]
      have t9 : D.testBit 9 = true := by simp [Go.RT.depsIn, Region.binds] at hd; simp [hd]
      have t10 : D.testBit 10 = true := by simp [Go.RT.depsIn, Region.binds] at hd; simp [hd]
      have t11 : D.testBit 11 = true := by simp [Go.RT.depsIn, Region.binds] at hd; simp [hd]
      have t12 : D.testBit 12 = true := by simp [Go.RT.depsIn, Region.binds] at hd; simp [hd]
      clear hd
      have ef := f12 t12
      subst ef
      obtain ⟨ev, q2, q3⟩ := k5 t5
      subst ev
      have hc : w'.cell? ⟨b7, 9, none⟩ = some c9 := MM.cell_blk hb7 rfl
      have hf : w'.frozen? ⟨b7, 9, none⟩ = false := MM.free_blk hb7
      refine Go.RT.wpOp_skip (w' := (w'.setCell ⟨b7, 9, none⟩ (.slice (some ⟨o5, 0, none⟩) k k))) rfl rfl (by first | (go_simp; done) | (go_simp <;> rfl)) ?_
      exact ⟨o1, o3, o5, o7, x12, x13, x14, x15, x16, (.slice (some ⟨o5, 0, none⟩) k k), x18, x19, x20, x21, (.pointer (some ⟨b7, 9, none⟩)), x23, c7, c8, (.slice (some ⟨o5, 0, none⟩) k k), c10, rfl, ((setCell_blk _ hb7).trans rfl), (ret_far hb6 (p := ⟨b7, _, none⟩) hne _), hne, h6, h7, (hbel.setCell (p := ⟨b7, _, none⟩) h7 _), (fun hh => m0 (by rw [Go.RT.bit_or] at hh; simpa using hh)), (fun hh => m2 (by rw [Go.RT.bit_or] at hh; simpa using hh)), (fun hh => m4 (by rw [Go.RT.bit_or] at hh; simpa using hh)), (fun hh => m6 (by rw [Go.RT.bit_or] at hh; simpa using hh)), (fun hh => by obtain ⟨q1, q2, q3⟩ := k1 (by rw [Go.RT.bit_or] at hh; simpa using hh); exact ⟨q1, ret_far q2 (p := ⟨b7, _, none⟩) (Nat.ne_of_gt q3) _, q3⟩), (fun hh => by obtain ⟨q1, q2, q3⟩ := k3 (by rw [Go.RT.bit_or] at hh; simpa using hh); exact ⟨q1, ret_far q2 (p := ⟨b7, _, none⟩) (Nat.ne_of_gt q3) _, q3⟩), (fun _ => ⟨rfl, ret_far q2 (p := ⟨b7, _, none⟩) (Nat.ne_of_gt q3) _, q3⟩), (fun hh => by obtain ⟨q1, q2, q3⟩ := k7 (by rw [Go.RT.bit_or] at hh; simpa using hh); exact ⟨q1, ret_far q2 (p := ⟨b7, _, none⟩) (Nat.ne_of_gt q3) _, q3⟩), (fun hh h2 => d35 (by rw [Go.RT.bit_or] at hh; simpa using hh) (by rw [Go.RT.bit_or] at h2; simpa using h2)), (fun hh h2 => d37 (by rw [Go.RT.bit_or] at hh; simpa using hh) (by rw [Go.RT.bit_or] at h2; simpa using h2)), (fun hh h2 => d57 (by rw [Go.RT.bit_or] at hh; simpa using hh) (by rw [Go.RT.bit_or] at h2; simpa using h2)), (fun hh => f8 (by rw [Go.RT.bit_or] at hh; simpa using hh)), (fun hh => f10 (by rw [Go.RT.bit_or] at hh; simpa using hh)), (fun _ => rfl), (fun hh => f14 (by rw [Go.RT.bit_or] at hh; simpa using hh)), (fun hh => s9 (by rw [Go.RT.bit_or] at hh; simpa using hh)), (fun hh => s11 (by rw [Go.RT.bit_or] at hh; simpa using hh)), (fun _ => rfl), (fun hh => s15 (by rw [Go.RT.bit_or] at hh; simpa using hh)), (fun hh => by have q := u9 (by rw [Go.RT.bit_or] at hh; simpa using hh); rw [Go.RT.bit_or, q]; rfl), (fun hh => by have q := u11 (by rw [Go.RT.bit_or] at hh; simpa using hh); rw [Go.RT.bit_or, q]; rfl), (fun _ => by rw [Go.RT.bit_or, t5]; rfl), (fun hh => by have q := u15 (by rw [Go.RT.bit_or] at hh; simpa using hh); rw [Go.RT.bit_or, q]; rfl)⟩
    · obtain rfl := Option.some.inj ho
      have t0 : D.testBit 0 = true := by simp [Go.RT.depsIn, Region.binds] at hd; simp [hd]
      have t1 : D.testBit 1 = true := by simp [Go.RT.depsIn, Region.binds] at hd; simp [hd]
      have t2 : D.testBit 2 = true := by simp [Go.RT.depsIn, Region.binds] at hd; simp [hd]
      have t3 : D.testBit 3 = true := by simp [Go.RT.depsIn, Region.binds] at hd; simp [hd]
      have t4 : D.testBit 4 = true := by simp [Go.RT.depsIn, Region.binds] at hd; simp [hd]
      have t5 : D.testBit 5 = true := by simp [Go.RT.depsIn, Region.binds] at hd; simp [hd]
      have t6 : D.testBit 6 = true := by simp [Go.RT.depsIn, Region.binds] at hd; simp [hd]
      have t7 : D.testBit 7 = true := by simp [Go.RT.depsIn, Region.binds] at hd; simp [hd]
      have t8 : D.testBit 8 = true := by simp [Go.RT.depsIn, Region.binds] at hd; simp [hd]
      have t9 : D.testBit 9 = true := by simp [Go.RT.depsIn, Region.binds] at hd; simp [hd]
      have t10 : D.testBit 10 = true := by simp [Go.RT.depsIn, Region.binds] at hd; simp [hd]
      have t11 : D.testBit 11 = true := by simp [Go.RT.depsIn, Region.binds] at hd; simp [hd]
      have t12 : D.testBit 12 = true := by simp [Go.RT.depsIn, Region.binds] at hd; simp [hd]
      have t13 : D.testBit 13 = true := by simp [Go.RT.depsIn, Region.binds] at hd; simp [hd]
      clear hd
      refine Go.RT.wpOp_val (v := .pointer (some ⟨b7, 10, none⟩)) (w' := w') rfl rfl (by first | (go_simp; done) | (go_simp <;> rfl)) ?_
      exact ⟨o1, o3, o5, o7, x12, x13, x14, x15, x16, x17, x18, x19, x20, x21, x22, (.pointer (some ⟨b7, 10, none⟩)), c7, c8, c9, c10, rfl, hb7, hb6, hne, h6, h7, hbel, (fun hh => m0 (by rw [Go.RT.bit_or] at hh; simpa using hh)), (fun hh => m2 (by rw [Go.RT.bit_or] at hh; simpa using hh)), (fun hh => m4 (by rw [Go.RT.bit_or] at hh; simpa using hh)), (fun hh => m6 (by rw [Go.RT.bit_or] at hh; simpa using hh)), (fun hh => k1 (by rw [Go.RT.bit_or] at hh; simpa using hh)), (fun hh => k3 (by rw [Go.RT.bit_or] at hh; simpa using hh)), (fun hh => k5 (by rw [Go.RT.bit_or] at hh; simpa using hh)), (fun hh => k7 (by rw [Go.RT.bit_or] at hh; simpa using hh)), (fun hh h2 => d35 (by rw [Go.RT.bit_or] at hh; simpa using hh) (by rw [Go.RT.bit_or] at h2; simpa using h2)), (fun hh h2 => d37 (by rw [Go.RT.bit_or] at hh; simpa using hh) (by rw [Go.RT.bit_or] at h2; simpa using h2)), (fun hh h2 => d57 (by rw [Go.RT.bit_or] at hh; simpa using hh) (by rw [Go.RT.bit_or] at h2; simpa using h2)), (fun hh => f8 (by rw [Go.RT.bit_or] at hh; simpa using hh)), (fun hh => f10 (by rw [Go.RT.bit_or] at hh; simpa using hh)), (fun hh => f12 (by rw [Go.RT.bit_or] at hh; simpa using hh)), (fun _ => rfl), (fun hh => s9 (by rw [Go.RT.bit_or] at hh; simpa using hh)), (fun hh => s11 (by rw [Go.RT.bit_or] at hh; simpa using hh)), (fun hh => s13 (by rw [Go.RT.bit_or] at hh; simpa using hh)), (fun hh => s15 (by rw [Go.RT.bit_or] at hh; simpa using hh)), (fun hh => by have q := u9 (by rw [Go.RT.bit_or] at hh; simpa using hh); rw [Go.RT.bit_or, q]; rfl), (fun hh => by have q := u11 (by rw [Go.RT.bit_or] at hh; simpa using hh); rw [Go.RT.bit_or, q]; rfl), (fun hh => by have q := u13 (by rw [Go.RT.bit_or] at hh; simpa using hh); rw [Go.RT.bit_or, q]; rfl), (fun hh => by have q := u15 (by rw [Go.RT.bit_or] at hh; simpa using hh); rw [Go.RT.bit_or, q]; rfl)⟩
    · obtain rfl := Option.some.inj ho
      have t0 : D.testBit 0 = true := by simp [Go.RT.depsIn, Region.binds] at hd; simp [hd]
      have t1 : D.testBit 1 = true := by simp [Go.RT.depsIn, Region.binds] at hd; simp [hd]
      have t2 : D.testBit 2 = true := by simp [Go.RT.depsIn, Region.binds] at hd; simp [hd]
      have t3 : D.testBit 3 = true := by simp [Go.RT.depsIn, Region.binds] at hd; simp [hd]
      have t4 : D.testBit 4 = true := by simp [Go.RT.depsIn, Region.binds] at hd; simp [hd]
      have t5 : D.testBit 5 = true := by simp [Go.RT.depsIn, Region.binds] at hd; simp [hd]
      have t6 : D.testBit 6 = true := by simp [Go.RT.depsIn, Region.binds] at hd; simp [hd]
      have t7 : D.testBit 7 = true := by simp [Go.RT.depsIn, Region.binds] at hd; simp [hd]
      have t8 : D.testBit 8 = true := by simp [Go.RT.depsIn, Region.binds] at hd; simp [hd]
      have t9 : D.testBit 9 = true := by simp [Go.RT.depsIn, Region.binds] at hd; simp [hd]
      have t10 : D.testBit 10 = true := by simp [Go.RT.depsIn, Region.binds] at hd; simp [hd]
      have t11 : D.testBit 11 = true := by simp [Go.RT.depsIn, Region.binds] at hd; simp [hd]
      have t12 : D.testBit 12 = true := by simp [Go.RT.depsIn, Region.binds] at hd; simp [hd]
      have t13 : D.testBit 13 = true := by simp [Go.RT.depsIn, Region.binds] at hd; simp [hd]
      have t14 : D.testBit 14 = true := by simp [Go.RT.depsIn, Region.binds] at hd; simp [hd]
      clear hd
      have ef := f14 t14
      subst ef
      obtain ⟨ev, q2, q3⟩ := k7 t7
      subst ev
      have hc : w'.cell? ⟨b7, 10, none⟩ = some c10 := MM.cell_blk hb7 rfl
      have hf : w'.frozen? ⟨b7, 10, none⟩ = false := MM.free_blk hb7
      refine Go.RT.wpOp_skip (w' := (w'.setCell ⟨b7, 10, none⟩ (.slice (some ⟨o7, 0, none⟩) k k))) rfl rfl (by first | (go_simp; done) | (go_simp <;> rfl)) ?_
      exact ⟨o1, o3, o5, o7, x12, x13, x14, x15, x16, x17, x18, (.slice (some ⟨o7, 0, none⟩) k k), x20, x21, x22, (.pointer (some ⟨b7, 10, none⟩)), c7, c8, c9, (.slice (some ⟨o7, 0, none⟩) k k), rfl, ((setCell_blk _ hb7).trans rfl), (ret_far hb6 (p := ⟨b7, _, none⟩) hne _), hne, h6, h7, (hbel.setCell (p := ⟨b7, _, none⟩) h7 _), (fun hh => m0 (by rw [Go.RT.bit_or] at hh; simpa using hh)), (fun hh => m2 (by rw [Go.RT.bit_or] at hh; simpa using hh)), (fun hh => m4 (by rw [Go.RT.bit_or] at hh; simpa using hh)), (fun hh => m6 (by rw [Go.RT.bit_or] at hh; simpa using hh)), (fun hh => by obtain ⟨q1, q2, q3⟩ := k1 (by rw [Go.RT.bit_or] at hh; simpa using hh); exact ⟨q1, ret_far q2 (p := ⟨b7, _, none⟩) (Nat.ne_of_gt q3) _, q3⟩), (fun hh => by obtain ⟨q1, q2, q3⟩ := k3 (by rw [Go.RT.bit_or] at hh; simpa using hh); exact ⟨q1, ret_far q2 (p := ⟨b7, _, none⟩) (Nat.ne_of_gt q3) _, q3⟩), (fun hh => by obtain ⟨q1, q2, q3⟩ := k5 (by rw [Go.RT.bit_or] at hh; simpa using hh); exact ⟨q1, ret_far q2 (p := ⟨b7, _, none⟩) (Nat.ne_of_gt q3) _, q3⟩), (fun _ => ⟨rfl, ret_far q2 (p := ⟨b7, _, none⟩) (Nat.ne_of_gt q3) _, q3⟩), (fun hh h2 => d35 (by rw [Go.RT.bit_or] at hh; simpa using hh) (by rw [Go.RT.bit_or] at h2; simpa using h2)), (fun hh h2 => d37 (by rw [Go.RT.bit_or] at hh; simpa using hh) (by rw [Go.RT.bit_or] at h2; simpa using h2)), (fun hh h2 => d57 (by rw [Go.RT.bit_or] at hh; simpa using hh) (by rw [Go.RT.bit_or] at h2; simpa using h2)), (fun hh => f8 (by rw [Go.RT.bit_or] at hh; simpa using hh)), (fun hh => f10 (by rw [Go.RT.bit_or] at hh; simpa using hh)), (fun hh => f12 (by rw [Go.RT.bit_or] at hh; simpa using hh)), (fun _ => rfl), (fun hh => s9 (by rw [Go.RT.bit_or] at hh; simpa using hh)), (fun hh => s11 (by rw [Go.RT.bit_or] at hh; simpa using hh)), (fun hh => s13 (by rw [Go.RT.bit_or] at hh; simpa using hh)), (fun _ => rfl), (fun hh => by have q := u9 (by rw [Go.RT.bit_or] at hh; simpa using hh); rw [Go.RT.bit_or, q]; rfl), (fun hh => by have q := u11 (by rw [Go.RT.bit_or] at hh; simpa using hh); rw [Go.RT.bit_or, q]; rfl), (fun hh => by have q := u13 (by rw [Go.RT.bit_or] at hh; simpa using hh); rw [Go.RT.bit_or, q]; rfl), (fun _ => by rw [Go.RT.bit_or, t7]; rfl)⟩
  case fin =>
    intro D a w2 hfull hI
    obtain ⟨o1, o3, o5, o7, x12, x13, x14, x15, x16, x17, x18, x19, x20, x21, x22, x23, c7, c8, c9, c10, e, hb7, hb6, hne, h6, h7, hbel, m0, m2, m4, m6, k1, k3, k5, k7, d35, d37, d57, f8, f10, f12, f14, s9, s11, s13, s15, u9, u11, u13, u15⟩ := hI
    subst e
    obtain ⟨rfl, j1, l1⟩ := k1 (hfull 1 (by decide))
    obtain ⟨rfl, j3, l3⟩ := k3 (hfull 3 (by decide))
    obtain ⟨rfl, j5, l5⟩ := k5 (hfull 5 (by decide))
    obtain ⟨rfl, j7, l7⟩ := k7 (hfull 7 (by decide))
    obtain rfl := s9 (hfull 9 (by decide))
    obtain rfl := s11 (hfull 11 (by decide))
    obtain rfl := s13 (hfull 13 (by decide))
    obtain rfl := s15 (hfull 15 (by decide))
    have n35 := d35 (hfull 3 (by decide)) (hfull 5 (by decide))
    have n37 := d37 (hfull 3 (by decide)) (hfull 7 (by decide))
    have n57 := d57 (hfull 5 (by decide)) (hfull 7 (by decide))
    have h67 : b6 < b7 := by omega
    clear m0 m2 m4 m6 k1 k3 k5 k7 d35 d37 d57 f8 f10 f12 f14 s9 s11 s13 s15 u9 u11 u13 u15 hfull e6 e7
    have H1 := Lib.hid (row_made hk (Nat.le_of_lt l1) j1 rfl)
    have H3 := Lib.hid (show MM.Row w2 b7 3 1 (.slice (some ⟨o3, 0, none⟩) k k) k (intsC (onesTo 0 k)) (some o3) from by rw [onesTo_zero]; simpa [intsC] using row_made hk (Nat.le_of_lt l3) j3 rfl)
    have H5 := Lib.hid (row_made hk (Nat.le_of_lt l5) j5 rfl)
    have H7 := Lib.hid (show MM.Row w2 b7 3 1 (.slice (some ⟨o7, 0, none⟩) k k) k (intsC (onesTo 0 k)) (some o7) from by rw [onesTo_zero]; simpa [intsC] using row_made hk (Nat.le_of_lt l7) j7 rfl)
    have T1 : MM.Ty w2 o1 4 := ⟨_, _, j1⟩
    have N1 := Lib.hid (show o1 ≠ o3 ∧ o1 ≠ o7 from ⟨ty_ne T1 ⟨_, _, j3⟩ (by decide), ty_ne T1 ⟨_, _, j7⟩ (by decide)⟩)
    have HX := Lib.hid hb7
    have HY := Lib.hid hb6
    have HB := Lib.hid hbel
    clear hb7 hb6 hbel j1 j3 j5 j7 T1
    dsimp only
    go_wp2_with fail
    go_loopw [8] (fun t8 wr => ∃ i : Nat, i ≤ k ∧ t8 = .int .i64 i ∧ Hid (wr.heap[b7]? = some (.cells #[.int .i64 id, .int .i64 0, .int .i64 (-1), .slice none 0 0, .int .i64 form, .int .i64 0, .int .i64 0, .slice (some ⟨o1, 0, none⟩) k k, .slice (some ⟨o3, 0, none⟩) k k, .slice (some ⟨o5, 0, none⟩) k k, .slice (some ⟨o7, 0, none⟩) k k, .int .i64 0, .int .i64 0] 28 (0, 0))) ∧ Hid (wr.heap[b6]? = some (.cells #[.int .i64 0, .int .i64 0, .int .i64 0, .slice none 0 0, .int .i64 0, .int .i64 0, .int .i64 0, .slice none 0 0, .slice none 0 0, .slice none 0 0, .slice none 0 0, .int .i64 0, .int .i64 0] 28 (0, 0))) ∧ Hid (MM.Row wr b7 4 1 (.slice (some ⟨o1, 0, none⟩) k k) k (List.replicate k (.bool false)) (some o1)) ∧ Hid (MM.Row wr b7 3 1 (.slice (some ⟨o3, 0, none⟩) k k) k (intsC (onesTo i k)) (some o3)) ∧ Hid (MM.Row wr b7 3 1 (.slice (some ⟨o5, 0, none⟩) k k) k (List.replicate k (.int .i64 0)) (some o5)) ∧ Hid (MM.Row wr b7 3 1 (.slice (some ⟨o7, 0, none⟩) k k) k (intsC (onesTo i k)) (some o7)) ∧ Hid (Below w.heap.size w wr)) (fun t8 _ => k - (intOf t8).toNat)
    case atStart => exact ⟨0, by omega, rfl, HX, HY, H1, H3, H5, H7, HB⟩
    case round =>
      obtain ⟨i, hi, rfl, HXr, HYr, R1, R3, R5, R7, HBr⟩ := hrel
      clear HX HY H1 H3 H5 H7 HB
      have c8 : wr.cell? ⟨b7, 8, none⟩ = some (.slice (some ⟨o3, 0, none⟩) k k) := MM.cell_blk HXr.out rfl
      have c10 : wr.cell? ⟨b7, 10, none⟩ = some (.slice (some ⟨o7, 0, none⟩) k k) := MM.cell_blk HXr.out rfl
      by_cases hlt : i < k
      · have hltb : decide ((i : Int) < (k : Int)) = true := decide_eq_true (by omega)
        have hl9 : i < (onesTo i k).length := by rw [onesTo_len hi]; exact hlt
        have q3 : wr.cell? ⟨o3, i, none⟩ = some (.int .i64 ((onesTo i k).getD i 0)) := R3.out.cell (intsC_get hl9)
        have q7 : wr.cell? ⟨o7, i, none⟩ = some (.int .i64 ((onesTo i k).getD i 0)) := R7.out.cell (intsC_get hl9)
        have z3 : wr.frozen? ⟨o3, i, none⟩ = false := R3.out.free _
        have z7 : wr.frozen? ⟨o7, i, none⟩ = false := R7.out.free _
        have n73 := n37.symm
        clear hl9
        go_wp2_with fail
        refine Go.RT.wp_region_tree [0, 1, 0, 0, 8, 0, 7, 71, 255, 511] (.p 0 (.s 1 (.p 2 (.p 3 (.s 4 (.p 5 (.p 6 (.w 7 [4] (.p 8 (.w 9 [] .nil .stop)) .stop)))))))) (by kernel_rfl) (by kernel_rfl) ?_
        repeat (first | (refine Go.RT.step_p rfl (fun K hK => ?_); go_simp; refine hK _ ?_; clear hK K) | (refine Go.RT.step_s rfl (fun K hK => ?_); go_simp; refine hK _ ?_; clear hK K))
        (refine Go.RT.step_w rfl rfl (fun K hK => ?_) Go.RT.step_stop)
        go_wp2
        refine Go.RT.QK_normal _ _ _ _ (hK _ _ ?_ ?_) <;> clear hK K
        · repeat (first | exact Go.RT.again_nil | (refine Go.RT.again_not rfl rfl ?_) | (refine Go.RT.again_one rfl (by go_simp <;> rfl) ?_))
        repeat (first | (refine Go.RT.step_p rfl (fun K hK => ?_); go_simp; refine hK _ ?_; clear hK K) | (refine Go.RT.step_s rfl (fun K hK => ?_); go_simp; refine hK _ ?_; clear hK K))
        (refine Go.RT.step_w rfl rfl (fun K hK => ?_) Go.RT.step_stop)
        go_wp2
        refine Go.RT.QK_normal _ _ _ _ (hK _ _ ?_ ?_) <;> clear hK K
        · repeat (first | exact Go.RT.again_nil | (refine Go.RT.again_not rfl rfl ?_) | (refine Go.RT.again_one rfl (by go_simp <;> rfl) ?_))
        refine Go.RT.step_nil ?_
        have HXf := Lib.hid (show (((wr.setCell ⟨o3, i, none⟩ (.int .i64 1)).setCell ⟨o7, i, none⟩ (.int .i64 1)).drew).heap[b7]? = some (.cells #[.int .i64 id, .int .i64 0, .int .i64 (-1), .slice none 0 0, .int .i64 form, .int .i64 0, .int .i64 0, .slice (some ⟨o1, 0, none⟩) k k, .slice (some ⟨o3, 0, none⟩) k k, .slice (some ⟨o5, 0, none⟩) k k, .slice (some ⟨o7, 0, none⟩) k k, .int .i64 0, .int .i64 0] 28 (0, 0)) from (Below.heap_setCell _ _ _ b7 (by show b7 ≠ o7; omega)).trans ((Below.heap_setCell _ _ _ b7 (by show b7 ≠ o3; omega)).trans HXr.out))
        have HYf := Lib.hid (show (((wr.setCell ⟨o3, i, none⟩ (.int .i64 1)).setCell ⟨o7, i, none⟩ (.int .i64 1)).drew).heap[b6]? = some (.cells #[.int .i64 0, .int .i64 0, .int .i64 0, .slice none 0 0, .int .i64 0, .int .i64 0, .int .i64 0, .slice none 0 0, .slice none 0 0, .slice none 0 0, .slice none 0 0, .int .i64 0, .int .i64 0] 28 (0, 0)) from (Below.heap_setCell _ _ _ b6 (by show b6 ≠ o7; omega)).trans ((Below.heap_setCell _ _ _ b6 (by show b6 ≠ o3; omega)).trans HYr.out))
        have S1 := Lib.hid (show MM.Row (((wr.setCell ⟨o3, i, none⟩ (.int .i64 1)).setCell ⟨o7, i, none⟩ (.int .i64 1)).drew) b7 4 1 (.slice (some ⟨o1, 0, none⟩) k k) k (List.replicate k (.bool false)) (some o1) from (R1.out.far (p := ⟨o3, i, none⟩) (fun x hx => by injection hx with hx; subst hx; exact N1.out.1) _).far (p := ⟨o7, i, none⟩) (fun x hx => by injection hx with hx; subst hx; exact N1.out.2) _)
        have S3 := Lib.hid (show MM.Row (((wr.setCell ⟨o3, i, none⟩ (.int .i64 1)).setCell ⟨o7, i, none⟩ (.int .i64 1)).drew) b7 3 1 (.slice (some ⟨o3, 0, none⟩) k k) k (intsC (onesTo (i + 1) k)) (some o3) from by
          have h9 := (R3.out.set (i := i) (u := .int .i64 1) hlt).far (p := ⟨o7, i, none⟩) (fun x hx => by injection hx with hx; subst hx; exact n37) (.int .i64 1)
          rw [← onesTo_set hlt]; refine MM.Row.drew ?_; simpa [intsC, List.map_set] using h9)
        have S5 := Lib.hid (show MM.Row (((wr.setCell ⟨o3, i, none⟩ (.int .i64 1)).setCell ⟨o7, i, none⟩ (.int .i64 1)).drew) b7 3 1 (.slice (some ⟨o5, 0, none⟩) k k) k (List.replicate k (.int .i64 0)) (some o5) from (R5.out.far (p := ⟨o3, i, none⟩) (fun x hx => by injection hx with hx; subst hx; exact n35.symm) _).far (p := ⟨o7, i, none⟩) (fun x hx => by injection hx with hx; subst hx; exact n57) _)
        have S7 := Lib.hid (show MM.Row (((wr.setCell ⟨o3, i, none⟩ (.int .i64 1)).setCell ⟨o7, i, none⟩ (.int .i64 1)).drew) b7 3 1 (.slice (some ⟨o7, 0, none⟩) k k) k (intsC (onesTo (i + 1) k)) (some o7) from by
          have h9 := (R7.out.far (p := ⟨o3, i, none⟩) (fun x hx => by injection hx with hx; subst hx; exact n37.symm) (.int .i64 1)).set (i := i) (u := .int .i64 1) hlt
          rw [← onesTo_set hlt]; refine MM.Row.drew ?_; simpa [intsC, List.map_set] using h9)
        have SB := Lib.hid (show Below w.heap.size w (((wr.setCell ⟨o3, i, none⟩ (.int .i64 1)).setCell ⟨o7, i, none⟩ (.int .i64 1)).drew) from ((HBr.out.setCell (p := ⟨o3, i, none⟩) (by show w.heap.size ≤ o3; omega) _).setCell (p := ⟨o7, i, none⟩) (by show w.heap.size ≤ o7; omega) _).drew)
        clear q3 q7 z3 z7
        go_wp2_with fail
        go_roundw
        case rel => exact ⟨i + 1, by omega, by go_num, HXf, HYf, S1, S3, S5, S7, SB⟩
        case measure => simp [intOf]; omega
      obtain rfl : i = k := by omega
      have hltb : decide ((i : Int) < (i : Int)) = false := by simp
      obtain ⟨x0, x1, x2, x3, x4, x5, x6, x7, x8, x9, x10, x11, x12⟩ := MM.cells13 HXr.out
      go_wp2_with fail
      refine (rdue_any _ id 0 _ _ _ _ _ _ _ _ _ _ _ (by omega) (by omega) hi0 hi1).mono ?_
      rintro e w5 ⟨rfl, hb5⟩
      have HX5 := Lib.hid ((hb5.block b7 (MM.blk_lt HXr.out)).trans HXr.out)
      have HY5 := Lib.hid ((hb5.block b6 (MM.blk_lt HYr.out)).trans HYr.out)
      have HB5 := Lib.hid (HBr.out.trans (hb5.mono HBr.out.size))
      have G1 := Lib.hid (R1.out.below hb5)
      have G3 := Lib.hid (R3.out.below hb5)
      have G5 := Lib.hid (R5.out.below hb5)
      have G7 := Lib.hid (R7.out.below hb5)
      clear hb5 R1 R3 R5 R7 HXr HYr HBr c8 c10 x0 x1 x2 x3 x4 x5 x6 x7 x8 x9 x10 x11 x12
      obtain ⟨y0, y1, y2, y3, y4, y5, y6, y7, y8, y9, y10, y11, y12⟩ := MM.cells13 HX5.out
      have yf12 : w5.frozen? ⟨b7, 12, none⟩ = false := MM.free_blk HX5.out
      go_upto_region 8 with (fail)
      obtain ⟨w6, hw6⟩ : ∃ W, W = w5.setCell ⟨b7, 12, none⟩ (.int .i64 (5 + 2 * id)) := ⟨_, rfl⟩
      have qX6 : ((w5.setCell ⟨b7, 12, none⟩ (.int .i64 (5 + 2 * id)))).heap[b7]? = some (.cells #[.int .i64 id, .int .i64 0, .int .i64 (-1), .slice none 0 0, .int .i64 form, .int .i64 0, .int .i64 0, .slice (some ⟨o1, 0, none⟩) i i, .slice (some ⟨o3, 0, none⟩) i i, .slice (some ⟨o5, 0, none⟩) i i, .slice (some ⟨o7, 0, none⟩) i i, .int .i64 0, .int .i64 (5 + 2 * id)] 28 (0, 0)) := (setCell_blk _ HX5.out).trans rfl
      have qY6 : ((w5.setCell ⟨b7, 12, none⟩ (.int .i64 (5 + 2 * id)))).heap[b6]? = some (.cells #[.int .i64 0, .int .i64 0, .int .i64 0, .slice none 0 0, .int .i64 0, .int .i64 0, .int .i64 0, .slice none 0 0, .slice none 0 0, .slice none 0 0, .slice none 0 0, .int .i64 0, .int .i64 0] 28 (0, 0)) := ret_far HY5.out (p := ⟨b7, 12, none⟩) hne _
      have qB6 : Below w.heap.size w (w5.setCell ⟨b7, 12, none⟩ (.int .i64 (5 + 2 * id))) := HB5.out.setCell (p := ⟨b7, 12, none⟩) h7 _
      have qG6 : MM.Row (w5.setCell ⟨b7, 12, none⟩ (.int .i64 (5 + 2 * id))) b7 4 1 (.slice (some ⟨o1, 0, none⟩) i i) i (List.replicate i (.bool false)) (some o1) := G1.out.far (p := ⟨b7, 12, none⟩) (fun x hx => ty_ne (G1.out.ty x hx) ⟨_, _, HX5.out⟩ (by decide)) _
      have qI6 : MM.Row (w5.setCell ⟨b7, 12, none⟩ (.int .i64 (5 + 2 * id))) b7 3 1 (.slice (some ⟨o3, 0, none⟩) i i) i (intsC (onesTo i i)) (some o3) := G3.out.far (p := ⟨b7, 12, none⟩) (fun x hx => ty_ne (G3.out.ty x hx) ⟨_, _, HX5.out⟩ (by decide)) _
      have qJ6 : MM.Row (w5.setCell ⟨b7, 12, none⟩ (.int .i64 (5 + 2 * id))) b7 3 1 (.slice (some ⟨o5, 0, none⟩) i i) i (List.replicate i (.int .i64 0)) (some o5) := G5.out.far (p := ⟨b7, 12, none⟩) (fun x hx => ty_ne (G5.out.ty x hx) ⟨_, _, HX5.out⟩ (by decide)) _
      have qK6 : MM.Row (w5.setCell ⟨b7, 12, none⟩ (.int .i64 (5 + 2 * id))) b7 3 1 (.slice (some ⟨o7, 0, none⟩) i i) i (intsC (onesTo i i)) (some o7) := G7.out.far (p := ⟨b7, 12, none⟩) (fun x hx => ty_ne (G7.out.ty x hx) ⟨_, _, HX5.out⟩ (by decide)) _
      rw [← hw6] at qX6 qY6 qB6 qG6 qI6 qJ6 qK6 ⊢
      have HX6 := Lib.hid qX6
      have HY6 := Lib.hid qY6
      have HB6 := Lib.hid qB6
      have G6 := Lib.hid qG6
      have I6 := Lib.hid qI6
      have J6 := Lib.hid qJ6
      have K6 := Lib.hid qK6
      clear qX6 qY6 qB6 qG6 qI6 qJ6 qK6 hw6 HX5 HY5 HB5 G1 G3 G5 G7 yf12 y0 y1 y2 y3 y4 y5 y6 y7 y8 y9 y10 y11 y12
      obtain ⟨x0, x1, x2, x3, x4, x5, x6, x7, x8, x9, x10, x11, x12⟩ := MM.cells13 HX6.out
      obtain ⟨y0, y1, y2, y3, y4, y5, y6, y7, y8, y9, y10, y11, y12⟩ := MM.cells13 HY6.out
      obtain ⟨yf0, yf1, yf2, yf3, yf4, yf5, yf6, yf7, yf8, yf9, yf10, yf11, yf12⟩ := MM.frees13 HY6.out
      go_wp2_with fail
      have hYf : ((((((((((((((w6).setCell ⟨b6, 0, none⟩ (.int .i64 id)).setCell ⟨b6, 1, none⟩ (.int .i64 0)).setCell ⟨b6, 2, none⟩ (.int .i64 (-1))).setCell ⟨b6, 3, none⟩ (.slice none 0 0)).setCell ⟨b6, 4, none⟩ (.int .i64 form)).setCell ⟨b6, 5, none⟩ (.int .i64 0)).setCell ⟨b6, 6, none⟩ (.int .i64 0)).setCell ⟨b6, 7, none⟩ (.slice (some ⟨o1, 0, none⟩) i i)).setCell ⟨b6, 8, none⟩ (.slice (some ⟨o3, 0, none⟩) i i)).setCell ⟨b6, 9, none⟩ (.slice (some ⟨o5, 0, none⟩) i i)).setCell ⟨b6, 10, none⟩ (.slice (some ⟨o7, 0, none⟩) i i)).setCell ⟨b6, 11, none⟩ (.int .i64 0)).setCell ⟨b6, 12, none⟩ (.int .i64 (5 + 2 * id))).heap[b6]? = some (.cells #[.int .i64 id, .int .i64 0, .int .i64 (-1), .slice none 0 0, .int .i64 form, .int .i64 0, .int .i64 0, .slice (some ⟨o1, 0, none⟩) i i, .slice (some ⟨o3, 0, none⟩) i i, .slice (some ⟨o5, 0, none⟩) i i, .slice (some ⟨o7, 0, none⟩) i i, .int .i64 0, .int .i64 (5 + 2 * id)] 28 (0, 0)) := set13 HY6.out
      have hBf : Below w.heap.size w ((((((((((((((w6).setCell ⟨b6, 0, none⟩ (.int .i64 id)).setCell ⟨b6, 1, none⟩ (.int .i64 0)).setCell ⟨b6, 2, none⟩ (.int .i64 (-1))).setCell ⟨b6, 3, none⟩ (.slice none 0 0)).setCell ⟨b6, 4, none⟩ (.int .i64 form)).setCell ⟨b6, 5, none⟩ (.int .i64 0)).setCell ⟨b6, 6, none⟩ (.int .i64 0)).setCell ⟨b6, 7, none⟩ (.slice (some ⟨o1, 0, none⟩) i i)).setCell ⟨b6, 8, none⟩ (.slice (some ⟨o3, 0, none⟩) i i)).setCell ⟨b6, 9, none⟩ (.slice (some ⟨o5, 0, none⟩) i i)).setCell ⟨b6, 10, none⟩ (.slice (some ⟨o7, 0, none⟩) i i)).setCell ⟨b6, 11, none⟩ (.int .i64 0)).setCell ⟨b6, 12, none⟩ (.int .i64 (5 + 2 * id))) := below13 HB6.out h6
      have far : ∀ x, b7 ≤ x → ((((((((((((((w6).setCell ⟨b6, 0, none⟩ (.int .i64 id)).setCell ⟨b6, 1, none⟩ (.int .i64 0)).setCell ⟨b6, 2, none⟩ (.int .i64 (-1))).setCell ⟨b6, 3, none⟩ (.slice none 0 0)).setCell ⟨b6, 4, none⟩ (.int .i64 form)).setCell ⟨b6, 5, none⟩ (.int .i64 0)).setCell ⟨b6, 6, none⟩ (.int .i64 0)).setCell ⟨b6, 7, none⟩ (.slice (some ⟨o1, 0, none⟩) i i)).setCell ⟨b6, 8, none⟩ (.slice (some ⟨o3, 0, none⟩) i i)).setCell ⟨b6, 9, none⟩ (.slice (some ⟨o5, 0, none⟩) i i)).setCell ⟨b6, 10, none⟩ (.slice (some ⟨o7, 0, none⟩) i i)).setCell ⟨b6, 11, none⟩ (.int .i64 0)).setCell ⟨b6, 12, none⟩ (.int .i64 (5 + 2 * id))).heap[x]? = w6.heap[x]? := fun x hx => far13 (by omega)
      obtain ⟨wf, hwf⟩ : ∃ W, W = (((((((((((((w6).setCell ⟨b6, 0, none⟩ (.int .i64 id)).setCell ⟨b6, 1, none⟩ (.int .i64 0)).setCell ⟨b6, 2, none⟩ (.int .i64 (-1))).setCell ⟨b6, 3, none⟩ (.slice none 0 0)).setCell ⟨b6, 4, none⟩ (.int .i64 form)).setCell ⟨b6, 5, none⟩ (.int .i64 0)).setCell ⟨b6, 6, none⟩ (.int .i64 0)).setCell ⟨b6, 7, none⟩ (.slice (some ⟨o1, 0, none⟩) i i)).setCell ⟨b6, 8, none⟩ (.slice (some ⟨o3, 0, none⟩) i i)).setCell ⟨b6, 9, none⟩ (.slice (some ⟨o5, 0, none⟩) i i)).setCell ⟨b6, 10, none⟩ (.slice (some ⟨o7, 0, none⟩) i i)).setCell ⟨b6, 11, none⟩ (.int .i64 0)).setCell ⟨b6, 12, none⟩ (.int .i64 (5 + 2 * id)) := ⟨_, rfl⟩
      rw [← hwf] at hYf hBf far ⊢
      clear hwf
      obtain ⟨z0, z1, z2, z3, z4, z5, z6, z7, z8, z9, z10, z11, z12⟩ := MM.cells13 hYf
      refine bodyPost_ret (v := .agg #[.int .i64 id, .int .i64 0, .int .i64 (-1), .slice none 0 0, .int .i64 form, .int .i64 0, .int .i64 0, .slice (some ⟨o1, 0, none⟩) i i, .slice (some ⟨o3, 0, none⟩) i i, .slice (some ⟨o5, 0, none⟩) i i, .slice (some ⟨o7, 0, none⟩) i i, .int .i64 0, .int .i64 (5 + 2 * id)]) (by simp [results, Try.results27, go_sem, z0, z1, z2, z3, z4, z5, z6, z7, z8, z9, z10, z11, z12]) rfl ⟨_, _, _, _, _, _, _, _, rfl, hBf, ?_⟩
      unfold newN
      have rd : ∀ {e n v xs o}, MM.Row w6 b7 e 1 v n xs (some o) → MM.Rd wf (fun j => w.heap.size ≤ j) 1 v n xs := fun {e n v xs o} h => ((h.rd.mono (ok' := fun x => b7 ≤ x) fun x hx _ => (h.lt x hx).1).step fun x hx _ => far x hx).mono fun x hx _ => by have : b7 ≤ x := hx; omega
      refine ⟨MM.Rd.nil _ _ _ _ _ (by simp [maxLen]), ?_, ?_, ?_, ?_⟩
      · show MM.Rd _ _ _ _ (List.replicate _ _).length _; rw [List.length_replicate]; simpa [boolsC] using rd G6.out
      · show MM.Rd _ _ _ _ (List.replicate _ _).length _; rw [List.length_replicate]; have h9 := rd I6.out; rw [onesTo_all] at h9; exact h9
      · show MM.Rd _ _ _ _ (List.replicate _ _).length _; rw [List.length_replicate]; simpa [intsC] using rd J6.out
      · show MM.Rd _ _ _ _ (List.replicate _ _).length _; rw [List.length_replicate]; have h9 := rd K6.out; rw [onesTo_all] at h9; exact h9
theorem rnew_c (w : World) (id form K : Int) (k : Nat) (hK : K = k) (hk : k ≤ 1000) (hi0 : -1000000000 ≤ id) (hi1 : id ≤ 1000000000) :
    Calls Try.prog 27 #[.int .i64 id, .int .i64 K, .int .i64 form] w
      fun e w' => ∃ σ : Sl5, e = .returned (.agg #[.int .i64 (newN id k form).id, .int .i64 (newN id k form).term, .int .i64 (newN id k form).vote, .slice σ.A3 (newN id k form).log.length σ.k3, .int .i64 (newN id k form).form, .int .i64 (newN id k form).role, .int .i64 (newN id k form).commit, .slice σ.A7 (newN id k form).votes.length σ.k7, .slice σ.A8 (newN id k form).nxt.length σ.k8, .slice σ.A9 (newN id k form).mtch.length σ.k9, .slice σ.A10 (newN id k form).forms.length σ.k10, .int .i64 (newN id k form).clock, .int .i64 (newN id k form).due]) ∧ Below w.heap.size w w' ∧ NodeVs w' (fun j => w.heap.size ≤ j) (newN id k form) σ := by
  subst hK
  refine (rnew_raw w id form k hk hi0 hi1).mono ?_
  rintro e w' ⟨A7, k7, A8, k8, A9, k9, A10, k10, rfl, hb, hn⟩
  refine ⟨⟨none, 0, A7, k7, A8, k8, A9, k9, A10, k10⟩, ?_, hb, ?_⟩
  · unfold newN; simp
  · unfold newN at hn ⊢
    simpa [NodeVs] using hn

end Go.Proofs.Ytnkmljdkokcdjaa
