/-
  A row is cloned: entries, bools, ints, strings, messages. Condition: the lengths are below the model of a slice.
-/
import Derived.WalkKit
import Derived.WalkSpells
import Derived.Lib.Hide
import Derived.Test.YtnkmljdkokcdjaaChecked
import Derived.Test.YtnkmljdkokcdjaaMn
import Derived.Test.YtnkmljdkokcdjaaMem
set_option linter.unusedVariables false
set_option linter.unusedSimpArgs false
namespace Go.Proofs.Ytnkmljdkokcdjaa
open Go.RowKit

theorem info40 : (Try.prog.info? 40).map (fun i => (i.zero, i.size, i.bytes)) = some (some (.agg #[.int .i64 0, .string ByteArray.empty]), 2, 24) := by kernel_rfl
theorem clone_entry (w : World) (ok : Nat → Prop) (v : Value) (n : Nat) (xs : List Value) (h : MM.Rd w ok 2 v n xs) (h1 : ∀ u ∈ xs, u.oneCell' = true) (hn : n * 24 ≤ 140737488355328) :
    Calls Try.prog 76 #[v] w fun e w' => ∃ v' ob, e = .returned v' ∧ MM.Row w' w.heap.size 40 2 v' n xs ob ∧ Below w.heap.size w w' := by
  obtain ⟨i0, hi, hz0, hz1, hz2⟩ := info_parts info40
  have h' := h
  obtain ⟨hl, A, c, rfl, hnc, hcm, hs⟩ := h
  cases A with
  | none =>
    obtain rfl : n = 0 := by
      rcases Nat.eq_zero_or_pos n with h0 | h0
      · exact h0
      · obtain ⟨_, _, h2, _⟩ := hs h0; cases h2
    obtain rfl : xs = [] := List.eq_nil_of_length_eq_zero (by simp [hl])
    have he := fun w => Lib.run_eql_slice_nil (P := Try.prog) w 24 40 none 0 c 0 0 Try.underlying24
    clear hs hl h' h1
    go_enter Try.func76, Try.ntmps76
    go_wp2
    go_ret
    exact ⟨_, none, rfl, MM.Row.nil _ _ _ _ _, Below.refl _ _⟩
  | some ad =>
    have he := fun w => Lib.run_eql_slice_nil (P := Try.prog) w 24 40 (some ad) n c 0 0 Try.underlying24
    have hmax : 0 + n ≤ maxLen := by omega
    have hby : (0 + n) * 24 ≤ 140737488355328 := by omega
    have H := Lib.hid h'
    have H1 := Lib.hid h1
    clear hs hl h' h1 hn hnc hcm
    go_enter Try.func76, Try.ntmps76
    go_wp2_with (at_builtin; refine MM.wpList_append_row _ rfl (.tmp 5) (.tmp 6) 24 rfl w.heap.size 40 i0 (.agg #[.int .i64 0, .string ByteArray.empty]) 2 24 Try.underlying24 hi hz0 hz1 hz2 rfl (by decide) _ 0 [] none rfl (MM.Row.nil _ _ _ _ _) ok _ n xs rfl ?_ H1.out hmax hby ?_ ?_)
    · exact H.out.alloc _
    · simp
    · intro v' w' ob' hr hg _
      go_wp2
      go_ret
      exact ⟨v', ob', rfl, hr, ((Below.refl _ _).alloc (Nat.le_refl _) _).grown hg (by simp) (by simp)⟩

theorem info4 : (Try.prog.info? 4).map (fun i => (i.zero, i.size, i.bytes)) = some (some (.bool false), 1, 1) := by kernel_rfl
theorem clone_bool (w : World) (ok : Nat → Prop) (v : Value) (n : Nat) (xs : List Value) (h : MM.Rd w ok 1 v n xs) (h1 : ∀ u ∈ xs, u.oneCell' = true) (hn : n * 1 ≤ 140737488355328) :
    Calls Try.prog 84 #[v] w fun e w' => ∃ v' ob, e = .returned v' ∧ MM.Row w' w.heap.size 4 1 v' n xs ob ∧ Below w.heap.size w w' := by
  obtain ⟨i0, hi, hz0, hz1, hz2⟩ := info_parts info4
  have h' := h
  obtain ⟨hl, A, c, rfl, hnc, hcm, hs⟩ := h
  cases A with
  | none =>
    obtain rfl : n = 0 := by
      rcases Nat.eq_zero_or_pos n with h0 | h0
      · exact h0
      · obtain ⟨_, _, h2, _⟩ := hs h0; cases h2
    obtain rfl : xs = [] := List.eq_nil_of_length_eq_zero (by simp [hl])
    have he := fun w => Lib.run_eql_slice_nil (P := Try.prog) w 25 4 none 0 c 0 0 Try.underlying25
    clear hs hl h' h1
    go_enter Try.func84, Try.ntmps84
    go_wp2
    go_ret
    exact ⟨_, none, rfl, MM.Row.nil _ _ _ _ _, Below.refl _ _⟩
  | some ad =>
    have he := fun w => Lib.run_eql_slice_nil (P := Try.prog) w 25 4 (some ad) n c 0 0 Try.underlying25
    have hmax : 0 + n ≤ maxLen := by omega
    have hby : (0 + n) * 1 ≤ 140737488355328 := by omega
    have H := Lib.hid h'
    have H1 := Lib.hid h1
    clear hs hl h' h1 hn hnc hcm
    go_enter Try.func84, Try.ntmps84
    go_wp2_with (at_builtin; refine MM.wpList_append_row _ rfl (.tmp 5) (.tmp 6) 25 rfl w.heap.size 4 i0 (.bool false) 1 1 Try.underlying25 hi hz0 hz1 hz2 rfl (by decide) _ 0 [] none rfl (MM.Row.nil _ _ _ _ _) ok _ n xs rfl ?_ H1.out hmax hby ?_ ?_)
    · exact H.out.alloc _
    · simp
    · intro v' w' ob' hr hg _
      go_wp2
      go_ret
      exact ⟨v', ob', rfl, hr, ((Below.refl _ _).alloc (Nat.le_refl _) _).grown hg (by simp) (by simp)⟩

theorem info3 : (Try.prog.info? 3).map (fun i => (i.zero, i.size, i.bytes)) = some (some (.int .i64 0), 1, 8) := by kernel_rfl
theorem clone_int (w : World) (ok : Nat → Prop) (v : Value) (n : Nat) (xs : List Value) (h : MM.Rd w ok 1 v n xs) (h1 : ∀ u ∈ xs, u.oneCell' = true) (hn : n * 8 ≤ 140737488355328) :
    Calls Try.prog 85 #[v] w fun e w' => ∃ v' ob, e = .returned v' ∧ MM.Row w' w.heap.size 3 1 v' n xs ob ∧ Below w.heap.size w w' := by
  obtain ⟨i0, hi, hz0, hz1, hz2⟩ := info_parts info3
  have h' := h
  obtain ⟨hl, A, c, rfl, hnc, hcm, hs⟩ := h
  cases A with
  | none =>
    obtain rfl : n = 0 := by
      rcases Nat.eq_zero_or_pos n with h0 | h0
      · exact h0
      · obtain ⟨_, _, h2, _⟩ := hs h0; cases h2
    obtain rfl : xs = [] := List.eq_nil_of_length_eq_zero (by simp [hl])
    have he := fun w => Lib.run_eql_slice_nil (P := Try.prog) w 26 3 none 0 c 0 0 Try.underlying26
    clear hs hl h' h1
    go_enter Try.func85, Try.ntmps85
    go_wp2
    go_ret
    exact ⟨_, none, rfl, MM.Row.nil _ _ _ _ _, Below.refl _ _⟩
  | some ad =>
    have he := fun w => Lib.run_eql_slice_nil (P := Try.prog) w 26 3 (some ad) n c 0 0 Try.underlying26
    have hmax : 0 + n ≤ maxLen := by omega
    have hby : (0 + n) * 8 ≤ 140737488355328 := by omega
    have H := Lib.hid h'
    have H1 := Lib.hid h1
    clear hs hl h' h1 hn hnc hcm
    go_enter Try.func85, Try.ntmps85
    go_wp2_with (at_builtin; refine MM.wpList_append_row _ rfl (.tmp 5) (.tmp 6) 26 rfl w.heap.size 3 i0 (.int .i64 0) 1 8 Try.underlying26 hi hz0 hz1 hz2 rfl (by decide) _ 0 [] none rfl (MM.Row.nil _ _ _ _ _) ok _ n xs rfl ?_ H1.out hmax hby ?_ ?_)
    · exact H.out.alloc _
    · simp
    · intro v' w' ob' hr hg _
      go_wp2
      go_ret
      exact ⟨v', ob', rfl, hr, ((Below.refl _ _).alloc (Nat.le_refl _) _).grown hg (by simp) (by simp)⟩

theorem info9 : (Try.prog.info? 9).map (fun i => (i.zero, i.size, i.bytes)) = some (some (.string ByteArray.empty), 1, 16) := by kernel_rfl
theorem clone_string (w : World) (ok : Nat → Prop) (v : Value) (n : Nat) (xs : List Value) (h : MM.Rd w ok 1 v n xs) (h1 : ∀ u ∈ xs, u.oneCell' = true) (hn : n * 16 ≤ 140737488355328) :
    Calls Try.prog 80 #[v] w fun e w' => ∃ v' ob, e = .returned v' ∧ MM.Row w' w.heap.size 9 1 v' n xs ob ∧ Below w.heap.size w w' := by
  obtain ⟨i0, hi, hz0, hz1, hz2⟩ := info_parts info9
  have h' := h
  obtain ⟨hl, A, c, rfl, hnc, hcm, hs⟩ := h
  cases A with
  | none =>
    obtain rfl : n = 0 := by
      rcases Nat.eq_zero_or_pos n with h0 | h0
      · exact h0
      · obtain ⟨_, _, h2, _⟩ := hs h0; cases h2
    obtain rfl : xs = [] := List.eq_nil_of_length_eq_zero (by simp [hl])
    have he := fun w => Lib.run_eql_slice_nil (P := Try.prog) w 61 9 none 0 c 0 0 Try.underlying61
    clear hs hl h' h1
    go_enter Try.func80, Try.ntmps80
    go_wp2
    go_ret
    exact ⟨_, none, rfl, MM.Row.nil _ _ _ _ _, Below.refl _ _⟩
  | some ad =>
    have he := fun w => Lib.run_eql_slice_nil (P := Try.prog) w 61 9 (some ad) n c 0 0 Try.underlying61
    have hmax : 0 + n ≤ maxLen := by omega
    have hby : (0 + n) * 16 ≤ 140737488355328 := by omega
    have H := Lib.hid h'
    have H1 := Lib.hid h1
    clear hs hl h' h1 hn hnc hcm
    go_enter Try.func80, Try.ntmps80
    go_wp2_with (at_builtin; refine MM.wpList_append_row _ rfl (.tmp 5) (.tmp 6) 61 rfl w.heap.size 9 i0 (.string ByteArray.empty) 1 16 Try.underlying61 hi hz0 hz1 hz2 rfl (by decide) _ 0 [] none rfl (MM.Row.nil _ _ _ _ _) ok _ n xs rfl ?_ H1.out hmax hby ?_ ?_)
    · exact H.out.alloc _
    · simp
    · intro v' w' ob' hr hg _
      go_wp2
      go_ret
      exact ⟨v', ob', rfl, hr, ((Below.refl _ _).alloc (Nat.le_refl _) _).grown hg (by simp) (by simp)⟩

theorem info34 : (Try.prog.info? 34).map (fun i => (i.zero, i.size, i.bytes)) = some (some (.agg #[.int .i64 0, .int .i64 0, .int .i64 0, .int .i64 0, .int .i64 0, .int .i64 0, .bool false, .slice none 0 0, .int .i64 0, .int .i64 0]), 10, 96) := by kernel_rfl
theorem clone_msg (w : World) (ok : Nat → Prop) (v : Value) (n : Nat) (xs : List Value) (h : MM.Rd w ok 10 v n xs) (h1 : ∀ u ∈ xs, u.oneCell' = true) (hn : n * 96 ≤ 140737488355328) :
    Calls Try.prog 105 #[v] w fun e w' => ∃ v' ob, e = .returned v' ∧ MM.Row w' w.heap.size 34 10 v' n xs ob ∧ Below w.heap.size w w' := by
  obtain ⟨i0, hi, hz0, hz1, hz2⟩ := info_parts info34
  have h' := h
  obtain ⟨hl, A, c, rfl, hnc, hcm, hs⟩ := h
  cases A with
  | none =>
    obtain rfl : n = 0 := by
      rcases Nat.eq_zero_or_pos n with h0 | h0
      · exact h0
      · obtain ⟨_, _, h2, _⟩ := hs h0; cases h2
    obtain rfl : xs = [] := List.eq_nil_of_length_eq_zero (by simp [hl])
    have he := fun w => Lib.run_eql_slice_nil (P := Try.prog) w 30 34 none 0 c 0 0 Try.underlying30
    clear hs hl h' h1
    go_enter Try.func105, Try.ntmps105
    go_wp2
    go_ret
    exact ⟨_, none, rfl, MM.Row.nil _ _ _ _ _, Below.refl _ _⟩
  | some ad =>
    have he := fun w => Lib.run_eql_slice_nil (P := Try.prog) w 30 34 (some ad) n c 0 0 Try.underlying30
    have hmax : 0 + n ≤ maxLen := by omega
    have hby : (0 + n) * 96 ≤ 140737488355328 := by omega
    have H := Lib.hid h'
    have H1 := Lib.hid h1
    clear hs hl h' h1 hn hnc hcm
    go_enter Try.func105, Try.ntmps105
    go_wp2_with (at_builtin; refine MM.wpList_append_row _ rfl (.tmp 5) (.tmp 6) 30 rfl w.heap.size 34 i0 (.agg #[.int .i64 0, .int .i64 0, .int .i64 0, .int .i64 0, .int .i64 0, .int .i64 0, .bool false, .slice none 0 0, .int .i64 0, .int .i64 0]) 10 96 Try.underlying30 hi hz0 hz1 hz2 rfl (by decide) _ 0 [] none rfl (MM.Row.nil _ _ _ _ _) ok _ n xs rfl ?_ H1.out hmax hby ?_ ?_)
    · exact H.out.alloc _
    · simp
    · intro v' w' ob' hr hg _
      go_wp2
      go_ret
      exact ⟨v', ob', rfl, hr, ((Below.refl _ _).alloc (Nat.le_refl _) _).grown hg (by simp) (by simp)⟩

end Go.Proofs.Ytnkmljdkokcdjaa
