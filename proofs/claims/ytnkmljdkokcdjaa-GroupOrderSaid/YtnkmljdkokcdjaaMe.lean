/-
  The law's within; the node that the law's known looks at.
-/
import Derived.WalkKit
import Derived.WalkSpells
import Derived.Lib.Hide
import Derived.Outline
import Derived.Test.YtnkmljdkokcdjaaChecked
import Derived.Test.YtnkmljdkokcdjaaMn
import Derived.Test.YtnkmljdkokcdjaaMem
import Derived.Test.YtnkmljdkokcdjaaFed
import Derived.Test.YtnkmljdkokcdjaaRc3
set_option linter.unusedVariables false
set_option linter.unusedSimpArgs false
namespace Go.Proofs.Ytnkmljdkokcdjaa
open Go.RowKit Fed
set_option linter.unusedVariables false
attribute [local go_sem high] Fed.max2_int Fed.min2_int

@[irreducible] def wi (a n : Int) : Int := if a.tmod n < 0 then a.tmod n + n else a.tmod n
theorem wi_range (a n : Int) (h : 0 < n) : 0 ≤ wi a n ∧ wi a n < n := by
  have h1 := Int.tmod_lt_of_pos a h
  have h2 : -n < a.tmod n := Int.lt_tmod_of_pos a h
  unfold wi
  split <;> omega
theorem within_fn (w : World) (a n : Int) (ha : (Lit.int .i64 a).wf = true) (h0 : 0 < n) (h1 : n ≤ 1000000) :
    Calls Try.prog 23 #[.int .i64 a, .int .i64 n] w fun e w' => e = .returned (.int .i64 (wi a n)) ∧ w = w' := by
  have h2 := Int.tmod_lt_of_pos a h0
  have h3 : -n < a.tmod n := Int.lt_tmod_of_pos a h0
  have h4 : (n == 0) = false := by simp; omega
  unfold wi
  by_cases h : a.tmod n < 0
  · go_enter Try.func23, Try.ntmps23
    go_wp2
    all_goals go_ret
    all_goals exact ⟨MM.ret_int (by first | (simp; done) | go_num), rfl⟩
  · go_enter Try.func23, Try.ntmps23
    go_wp2
    all_goals go_ret
    all_goals exact ⟨MM.ret_int (by first | (simp; done) | go_num), rfl⟩

end Go.Proofs.Ytnkmljdkokcdjaa
namespace Go.Proofs.Ytnkmljdkokcdjaa
open Go.RowKit Fed
set_option linter.unusedVariables false
attribute [local go_sem high] Fed.max2_int Fed.min2_int

def kn (j : Nat) : Fed.Node := if j < 5 then ⟨0, 0, -1, [], 2, 0, 0, [false], [1], [0], [1], j, 5⟩ else ⟨0, 1, 0, [⟨1, ⟨#[]⟩⟩], 2, 2, 1, [true], [1], [1], [1], 5, 10⟩
theorem kn_tick : ∀ j, j < 5 → tickS (kn j) = ⟨kn (j + 1), []⟩ := by
  intro j hj
  have h : j = 0 ∨ j = 1 ∨ j = 2 ∨ j = 3 ∨ j = 4 := by omega
  unfold tickS
  rcases h with rfl | rfl | rfl | rfl | rfl <;> rfl
theorem kn_new : newN 0 1 2 = kn 0 := by unfold newN; rfl
theorem kn_log : ∀ j, (kn j).log.length ≤ 800000 := by intro j; unfold kn; split <;> simp
theorem kn_votes : ∀ j, (kn j).votes.length = 1 := by intro j; unfold kn; split <;> rfl
theorem kn_nxt : ∀ j, (kn j).nxt.length = 1 := by intro j; unfold kn; split <;> rfl
theorem kn_mtch : ∀ j, (kn j).mtch.length = 1 := by intro j; unfold kn; split <;> rfl
theorem kn_forms : ∀ j, (kn j).forms.length = 1 := by intro j; unfold kn; split <;> rfl
theorem kn_term : ∀ j, -1000000000 ≤ (kn j).term ∧ (kn j).term ≤ 1000000000 := by intro j; unfold kn; split <;> simp
theorem kn_clock : ∀ j, -999999999 ≤ (kn j).clock ∧ (kn j).clock ≤ 999999999 := by intro j; unfold kn; split <;> simp; omega
theorem kn_next : ∀ j i, i < (kn j).nxt.length → -1000000000 ≤ (kn j).nxt.getD i 0 ∧ (kn j).nxt.getD i 0 ≤ 1000000000 := by
  intro j i hi
  rw [kn_nxt] at hi
  obtain rfl : i = 0 := by omega
  unfold kn
  split <;> simp
/-- New, with what comes back as a node's cells. -/
theorem new_node (w : World) (id form K : Int) (k : Nat) (hK : K = k) (hk : k ≤ 1000) (hi0 : -1000000000 ≤ id) (hi1 : id ≤ 1000000000) :
    Calls Try.prog 24 #[.int .i64 id, .int .i64 K, .int .i64 form] w
      fun e w' => ∃ A3 k3 A7 k7 A8 k8 A9 k9 A10 k10, e = .returned (.agg #[.int .i64 (newN id k form).id, .int .i64 (newN id k form).term, .int .i64 (newN id k form).vote, .slice A3 (newN id k form).log.length k3, .int .i64 (newN id k form).form, .int .i64 (newN id k form).role, .int .i64 (newN id k form).commit, .slice A7 (newN id k form).votes.length k7, .slice A8 (newN id k form).nxt.length k8, .slice A9 (newN id k form).mtch.length k9, .slice A10 (newN id k form).forms.length k10, .int .i64 (newN id k form).clock, .int .i64 (newN id k form).due]) ∧ Below w.heap.size w w' ∧ NodeV w' (fun j => w.heap.size ≤ j) (newN id k form) (.slice A3 (newN id k form).log.length k3) (.slice A7 (newN id k form).votes.length k7) (.slice A8 (newN id k form).nxt.length k8) (.slice A9 (newN id k form).mtch.length k9) (.slice A10 (newN id k form).forms.length k10) := by
  subst hK
  refine (new_any w id form k hk hi0 hi1).mono ?_
  rintro e w' ⟨A7, k7, A8, k8, A9, k9, A10, k10, rfl, hb, hn⟩
  refine ⟨none, 0, A7, k7, A8, k8, A9, k9, A10, k10, ?_, hb, ?_⟩
  · unfold newN; simp
  · unfold newN at hn ⊢
    simpa using hn

end Go.Proofs.Ytnkmljdkokcdjaa
namespace Go.Proofs.Ytnkmljdkokcdjaa
open Go.RowKit Fed
set_option linter.unusedVariables false
attribute [local go_sem high] Fed.max2_int Fed.min2_int

theorem tick_kn (w : World) (ok : Nat → Prop) (j : Nat) (hj : j < 5) (A3 : Option Addr) (k3 : Nat) (A7 : Option Addr) (k7 : Nat) (A8 : Option Addr) (k8 : Nat) (A9 : Option Addr) (k9 : Nat) (A10 : Option Addr) (k10 : Nat) (h : NodeV w (ok) (kn j) (.slice A3 (kn j).log.length k3) (.slice A7 (kn j).votes.length k7) (.slice A8 (kn j).nxt.length k8) (.slice A9 (kn j).mtch.length k9) (.slice A10 (kn j).forms.length k10)) :
    Calls Try.prog 25 #[.agg #[.int .i64 (kn j).id, .int .i64 (kn j).term, .int .i64 (kn j).vote, .slice A3 (kn j).log.length k3, .int .i64 (kn j).form, .int .i64 (kn j).role, .int .i64 (kn j).commit, .slice A7 (kn j).votes.length k7, .slice A8 (kn j).nxt.length k8, .slice A9 (kn j).mtch.length k9, .slice A10 (kn j).forms.length k10, .int .i64 (kn j).clock, .int .i64 (kn j).due]] w fun e w' => ∃ A3 k3 A7 k7 A8 k8 A9 k9 A10 k10 Ao ko, e = .returned (.tuple #[.agg #[.int .i64 (kn (j + 1)).id, .int .i64 (kn (j + 1)).term, .int .i64 (kn (j + 1)).vote, .slice A3 (kn (j + 1)).log.length k3, .int .i64 (kn (j + 1)).form, .int .i64 (kn (j + 1)).role, .int .i64 (kn (j + 1)).commit, .slice A7 (kn (j + 1)).votes.length k7, .slice A8 (kn (j + 1)).nxt.length k8, .slice A9 (kn (j + 1)).mtch.length k9, .slice A10 (kn (j + 1)).forms.length k10, .int .i64 (kn (j + 1)).clock, .int .i64 (kn (j + 1)).due], .slice Ao 0 ko]) ∧ NodeV w' (fun k => w.heap.size ≤ k) (kn (j + 1)) (.slice A3 (kn (j + 1)).log.length k3) (.slice A7 (kn (j + 1)).votes.length k7) (.slice A8 (kn (j + 1)).nxt.length k8) (.slice A9 (kn (j + 1)).mtch.length k9) (.slice A10 (kn (j + 1)).forms.length k10) ∧ Below w.heap.size w w' := by
  refine (tick_any w ok (kn j) _ _ _ _ _ h (kn_log j) (by rw [kn_votes]; omega) (by rw [kn_nxt, kn_votes]) (by rw [kn_mtch]; omega) (by rw [kn_forms]; omega) (kn_term j).1 (kn_term j).2 (kn_clock j).1 (kn_clock j).2 (kn_next j)).mono ?_
  rw [kn_tick j hj]
  rintro e w' ⟨A3, k3, A7, k7, A8, k8, A9, k9, A10, k10, Ao, ko, rfl, hn, _, hb⟩
  exact ⟨A3, k3, A7, k7, A8, k8, A9, k9, A10, k10, Ao, ko, rfl, hn, hb⟩

set_option maxRecDepth 100000 in
set_option maxHeartbeats 1600000 in
theorem known_any (w : World) : Calls Try.prog 22 #[] w fun e w' => e = .returned (.bool true) ∧ Below w.heap.size w w' := by
  go_enter Try.func22, Try.ntmps22
  go_wp2_with fail
  refine (new_any _ 0 1 3 (by omega) (by omega) (by omega)).mono ?_
  rintro e w1 ⟨B7, c7, B8, c8, B9, c9, B10, c10, rfl, hb1, _⟩
  have HB1 := Lib.hid hb1
  clear hb1
  go_wp2_with fail
  have hX1 : (w1.alloc (.cells #[.int .i64 0, .int .i64 0, .int .i64 (-1), .slice none 0 0, .int .i64 1, .int .i64 0, .int .i64 0, .slice B7 3 c7, .slice B8 3 c8, .slice B9 3 c9, .slice B10 3 c10, .int .i64 0, .int .i64 5] 28)).heap[w1.heap.size]? = some (.cells #[.int .i64 0, .int .i64 0, .int .i64 (-1), .slice none 0 0, .int .i64 1, .int .i64 0, .int .i64 0, .slice B7 3 c7, .slice B8 3 c8, .slice B9 3 c9, .slice B10 3 c10, .int .i64 0, .int .i64 5] 28 (0, 0)) := MM.alloc_new w1 _
  have hB1 : Below w.heap.size w (w1.alloc (.cells #[.int .i64 0, .int .i64 0, .int .i64 (-1), .slice none 0 0, .int .i64 1, .int .i64 0, .int .i64 0, .slice B7 3 c7, .slice B8 3 c8, .slice B9 3 c9, .slice B10 3 c10, .int .i64 0, .int .i64 5] 28)) := HB1.out.alloc HB1.out.size _
  obtain ⟨w2, hw2⟩ : ∃ W, W = w1.alloc (.cells #[.int .i64 0, .int .i64 0, .int .i64 (-1), .slice none 0 0, .int .i64 1, .int .i64 0, .int .i64 0, .slice B7 3 c7, .slice B8 3 c8, .slice B9 3 c9, .slice B10 3 c10, .int .i64 0, .int .i64 5] 28) := ⟨_, rfl⟩
  obtain ⟨a, ha⟩ : ∃ a, a = w1.heap.size := ⟨_, rfl⟩
  rw [← ha] at hX1 ⊢
  rw [← hw2] at hX1 hB1 ⊢
  have haw : w.heap.size ≤ a := by rw [ha]; exact HB1.out.size
  clear hw2 ha HB1
  refine (new_node _ 0 2 1 1 rfl (by omega) (by omega) (by omega)).mono ?_
  rintro e w3 ⟨A3, k3, A7, k7, A8, k8, A9, k9, A10, k10, rfl, hb3, hn3⟩
  rw [kn_new] at hn3 ⊢
  have hX3 := (hb3.block a (MM.blk_lt hX1)).trans hX1
  have HB3 := Lib.hid (hB1.trans (hb3.mono hB1.size))
  have HA3 := Lib.hid (show a < w3.heap.size from MM.blk_lt hX3)
  have HN3 := Lib.hid hn3
  have HX3 := Lib.hid hX3
  clear hb3 hX1 hB1 hX3 hn3
  go_wp2_with fail
  have hX4 : (w3.alloc (.cells #[.int .i64 (kn 0).id, .int .i64 (kn 0).term, .int .i64 (kn 0).vote, .slice A3 (kn 0).log.length k3, .int .i64 (kn 0).form, .int .i64 (kn 0).role, .int .i64 (kn 0).commit, .slice A7 (kn 0).votes.length k7, .slice A8 (kn 0).nxt.length k8, .slice A9 (kn 0).mtch.length k9, .slice A10 (kn 0).forms.length k10, .int .i64 (kn 0).clock, .int .i64 (kn 0).due] 28)).heap[w3.heap.size]? = some (.cells #[.int .i64 (kn 0).id, .int .i64 (kn 0).term, .int .i64 (kn 0).vote, .slice A3 (kn 0).log.length k3, .int .i64 (kn 0).form, .int .i64 (kn 0).role, .int .i64 (kn 0).commit, .slice A7 (kn 0).votes.length k7, .slice A8 (kn 0).nxt.length k8, .slice A9 (kn 0).mtch.length k9, .slice A10 (kn 0).forms.length k10, .int .i64 (kn 0).clock, .int .i64 (kn 0).due] 28 (0, 0)) := MM.alloc_new w3 _
  have hA4 : (w3.alloc (.cells #[.int .i64 (kn 0).id, .int .i64 (kn 0).term, .int .i64 (kn 0).vote, .slice A3 (kn 0).log.length k3, .int .i64 (kn 0).form, .int .i64 (kn 0).role, .int .i64 (kn 0).commit, .slice A7 (kn 0).votes.length k7, .slice A8 (kn 0).nxt.length k8, .slice A9 (kn 0).mtch.length k9, .slice A10 (kn 0).forms.length k10, .int .i64 (kn 0).clock, .int .i64 (kn 0).due] 28)).heap[a]? = some (.cells #[.int .i64 0, .int .i64 0, .int .i64 (-1), .slice none 0 0, .int .i64 1, .int .i64 0, .int .i64 0, .slice B7 3 c7, .slice B8 3 c8, .slice B9 3 c9, .slice B10 3 c10, .int .i64 0, .int .i64 5] 28 (0, 0)) := (Below.heap_alloc _ _ _ HA3.out).trans HX3.out
  have hB4 : Below w.heap.size w (w3.alloc (.cells #[.int .i64 (kn 0).id, .int .i64 (kn 0).term, .int .i64 (kn 0).vote, .slice A3 (kn 0).log.length k3, .int .i64 (kn 0).form, .int .i64 (kn 0).role, .int .i64 (kn 0).commit, .slice A7 (kn 0).votes.length k7, .slice A8 (kn 0).nxt.length k8, .slice A9 (kn 0).mtch.length k9, .slice A10 (kn 0).forms.length k10, .int .i64 (kn 0).clock, .int .i64 (kn 0).due] 28)) := HB3.out.alloc HB3.out.size _
  have hn4 : NodeV (w3.alloc (.cells #[.int .i64 (kn 0).id, .int .i64 (kn 0).term, .int .i64 (kn 0).vote, .slice A3 (kn 0).log.length k3, .int .i64 (kn 0).form, .int .i64 (kn 0).role, .int .i64 (kn 0).commit, .slice A7 (kn 0).votes.length k7, .slice A8 (kn 0).nxt.length k8, .slice A9 (kn 0).mtch.length k9, .slice A10 (kn 0).forms.length k10, .int .i64 (kn 0).clock, .int .i64 (kn 0).due] 28)) (fun k => k ≠ w3.heap.size) (kn 0) (.slice A3 (kn 0).log.length k3) (.slice A7 (kn 0).votes.length k7) (.slice A8 (kn 0).nxt.length k8) (.slice A9 (kn 0).mtch.length k9) (.slice A10 (kn 0).forms.length k10) := (HN3.out.mono (ok' := fun k => k ≠ w3.heap.size) fun k _ hk => by omega).step fun k _ hk => Below.heap_alloc _ _ _ hk
  obtain ⟨w4, hw4⟩ : ∃ W, W = w3.alloc (.cells #[.int .i64 (kn 0).id, .int .i64 (kn 0).term, .int .i64 (kn 0).vote, .slice A3 (kn 0).log.length k3, .int .i64 (kn 0).form, .int .i64 (kn 0).role, .int .i64 (kn 0).commit, .slice A7 (kn 0).votes.length k7, .slice A8 (kn 0).nxt.length k8, .slice A9 (kn 0).mtch.length k9, .slice A10 (kn 0).forms.length k10, .int .i64 (kn 0).clock, .int .i64 (kn 0).due] 28) := ⟨_, rfl⟩
  rw [← hw4] at hX4 hA4 hB4 hn4 ⊢
  have hab : a < w3.heap.size := HA3.out
  obtain ⟨b, hb⟩ : ∃ b, b = w3.heap.size := ⟨_, rfl⟩
  rw [← hb] at hX4 hn4 hab ⊢
  clear hw4 hb HB3 HA3 HN3 HX3
  have HX4 := Lib.hid hX4
  have HA4 := Lib.hid hA4
  have HB4 := Lib.hid hB4
  have HN4 := Lib.hid hn4
  clear hX4 hA4 hB4 hn4
  go_loopw [3] (fun i wr => ∃ (j : Nat) (A3 : Option Addr) (k3 : Nat) (A7 : Option Addr) (k7 : Nat) (A8 : Option Addr) (k8 : Nat) (A9 : Option Addr) (k9 : Nat) (A10 : Option Addr) (k10 : Nat), j ≤ 5 ∧ i = .int .i64 j ∧ wr.heap[b]? = some (.cells #[.int .i64 (kn j).id, .int .i64 (kn j).term, .int .i64 (kn j).vote, .slice A3 (kn j).log.length k3, .int .i64 (kn j).form, .int .i64 (kn j).role, .int .i64 (kn j).commit, .slice A7 (kn j).votes.length k7, .slice A8 (kn j).nxt.length k8, .slice A9 (kn j).mtch.length k9, .slice A10 (kn j).forms.length k10, .int .i64 (kn j).clock, .int .i64 (kn j).due] 28 (0, 0)) ∧ NodeV wr (fun k => k ≠ b) (kn j) (.slice A3 (kn j).log.length k3) (.slice A7 (kn j).votes.length k7) (.slice A8 (kn j).nxt.length k8) (.slice A9 (kn j).mtch.length k9) (.slice A10 (kn j).forms.length k10) ∧ wr.heap[a]? = some (.cells #[.int .i64 0, .int .i64 0, .int .i64 (-1), .slice none 0 0, .int .i64 1, .int .i64 0, .int .i64 0, .slice B7 3 c7, .slice B8 3 c8, .slice B9 3 c9, .slice B10 3 c10, .int .i64 0, .int .i64 5] 28 (0, 0)) ∧ Below w.heap.size w wr) (fun i _ => 5 - (intOf i).toNat)
  case atStart => exact ⟨0, A3, k3, A7, k7, A8, k8, A9, k9, A10, k10, by omega, rfl, HX4.out, HN4.out, HA4.out, HB4.out⟩
  case round =>
    obtain ⟨j, A3, k3, A7, k7, A8, k8, A9, k9, A10, k10, hj, rfl, hx, hn, ha, hb⟩ := hrel
    clear HX4 HA4 HB4 HN4
    have HX := Lib.hid hx
    have HN := Lib.hid hn
    have HA := Lib.hid ha
    have HB := Lib.hid hb
    clear hx hn ha hb
    by_cases hlt : j < 5
    · have hc : decide ((j : Int) < 5) = true := decide_eq_true (by omega)
      obtain ⟨c0, c1, c2, c3, c4, c5, c6, c7, c8, c9, c10, c11, c12⟩ := MM.cells13 HX.out
      go_wp2_with fail
      refine (tick_kn _ _ j hlt A3 k3 A7 k7 A8 k8 A9 k9 A10 k10 HN.out).mono ?_
      rintro e we ⟨A3n, k3n, A7n, k7n, A8n, k8n, A9n, k9n, A10n, k10n, Ao, ko, rfl, hn1, hb1⟩
      have hX1 := (hb1.block b (MM.blk_lt HX.out)).trans HX.out
      have hA1 := (hb1.block a (MM.blk_lt HA.out)).trans HA.out
      have hB1 := HB.out.trans (hb1.mono HB.out.size)
      have hwb : b < wr.heap.size := MM.blk_lt HX.out
      have HN1 := Lib.hid (hn1.mono (ok' := fun k => k ≠ b) fun k hk _ => by omega)
      clear HX HN HA HB hb1 hn1 c0 c1 c2 c3 c4 c5 c6 c7 c8 c9 c10 c11 c12
      obtain ⟨y0, y1, y2, y3, y4, y5, y6, y7, y8, y9, y10, y11, y12⟩ := MM.cells13 hX1
      obtain ⟨g0, g1, g2, g3, g4, g5, g6, g7, g8, g9, g10, g11, g12⟩ := MM.frees13 hX1
      have HX1 := Lib.hid hX1
      have HA1 := Lib.hid hA1
      have HB1 := Lib.hid hB1
      clear hX1 hA1 hB1
      go_wp2_with fail
      have hXf : ((((((((((((((we).setCell ⟨b, 0, none⟩ (.int .i64 (kn (j + 1)).id)).setCell ⟨b, 1, none⟩ (.int .i64 (kn (j + 1)).term)).setCell ⟨b, 2, none⟩ (.int .i64 (kn (j + 1)).vote)).setCell ⟨b, 3, none⟩ (.slice A3n (kn (j + 1)).log.length k3n)).setCell ⟨b, 4, none⟩ (.int .i64 (kn (j + 1)).form)).setCell ⟨b, 5, none⟩ (.int .i64 (kn (j + 1)).role)).setCell ⟨b, 6, none⟩ (.int .i64 (kn (j + 1)).commit)).setCell ⟨b, 7, none⟩ (.slice A7n (kn (j + 1)).votes.length k7n)).setCell ⟨b, 8, none⟩ (.slice A8n (kn (j + 1)).nxt.length k8n)).setCell ⟨b, 9, none⟩ (.slice A9n (kn (j + 1)).mtch.length k9n)).setCell ⟨b, 10, none⟩ (.slice A10n (kn (j + 1)).forms.length k10n)).setCell ⟨b, 11, none⟩ (.int .i64 (kn (j + 1)).clock)).setCell ⟨b, 12, none⟩ (.int .i64 (kn (j + 1)).due)).heap[b]? = some (.cells #[.int .i64 (kn (j + 1)).id, .int .i64 (kn (j + 1)).term, .int .i64 (kn (j + 1)).vote, .slice A3n (kn (j + 1)).log.length k3n, .int .i64 (kn (j + 1)).form, .int .i64 (kn (j + 1)).role, .int .i64 (kn (j + 1)).commit, .slice A7n (kn (j + 1)).votes.length k7n, .slice A8n (kn (j + 1)).nxt.length k8n, .slice A9n (kn (j + 1)).mtch.length k9n, .slice A10n (kn (j + 1)).forms.length k10n, .int .i64 (kn (j + 1)).clock, .int .i64 (kn (j + 1)).due] 28 (0, 0)) := set13 HX1.out
      have hBf : Below w.heap.size w ((((((((((((((we).setCell ⟨b, 0, none⟩ (.int .i64 (kn (j + 1)).id)).setCell ⟨b, 1, none⟩ (.int .i64 (kn (j + 1)).term)).setCell ⟨b, 2, none⟩ (.int .i64 (kn (j + 1)).vote)).setCell ⟨b, 3, none⟩ (.slice A3n (kn (j + 1)).log.length k3n)).setCell ⟨b, 4, none⟩ (.int .i64 (kn (j + 1)).form)).setCell ⟨b, 5, none⟩ (.int .i64 (kn (j + 1)).role)).setCell ⟨b, 6, none⟩ (.int .i64 (kn (j + 1)).commit)).setCell ⟨b, 7, none⟩ (.slice A7n (kn (j + 1)).votes.length k7n)).setCell ⟨b, 8, none⟩ (.slice A8n (kn (j + 1)).nxt.length k8n)).setCell ⟨b, 9, none⟩ (.slice A9n (kn (j + 1)).mtch.length k9n)).setCell ⟨b, 10, none⟩ (.slice A10n (kn (j + 1)).forms.length k10n)).setCell ⟨b, 11, none⟩ (.int .i64 (kn (j + 1)).clock)).setCell ⟨b, 12, none⟩ (.int .i64 (kn (j + 1)).due)) := below13 HB1.out (by omega)
      have hAf : ((((((((((((((we).setCell ⟨b, 0, none⟩ (.int .i64 (kn (j + 1)).id)).setCell ⟨b, 1, none⟩ (.int .i64 (kn (j + 1)).term)).setCell ⟨b, 2, none⟩ (.int .i64 (kn (j + 1)).vote)).setCell ⟨b, 3, none⟩ (.slice A3n (kn (j + 1)).log.length k3n)).setCell ⟨b, 4, none⟩ (.int .i64 (kn (j + 1)).form)).setCell ⟨b, 5, none⟩ (.int .i64 (kn (j + 1)).role)).setCell ⟨b, 6, none⟩ (.int .i64 (kn (j + 1)).commit)).setCell ⟨b, 7, none⟩ (.slice A7n (kn (j + 1)).votes.length k7n)).setCell ⟨b, 8, none⟩ (.slice A8n (kn (j + 1)).nxt.length k8n)).setCell ⟨b, 9, none⟩ (.slice A9n (kn (j + 1)).mtch.length k9n)).setCell ⟨b, 10, none⟩ (.slice A10n (kn (j + 1)).forms.length k10n)).setCell ⟨b, 11, none⟩ (.int .i64 (kn (j + 1)).clock)).setCell ⟨b, 12, none⟩ (.int .i64 (kn (j + 1)).due)).heap[a]? = some (.cells #[.int .i64 0, .int .i64 0, .int .i64 (-1), .slice none 0 0, .int .i64 1, .int .i64 0, .int .i64 0, .slice B7 3 c7, .slice B8 3 c8, .slice B9 3 c9, .slice B10 3 c10, .int .i64 0, .int .i64 5] 28 (0, 0)) := (far13 (by omega)).trans HA1.out
      have hNf : NodeV ((((((((((((((we).setCell ⟨b, 0, none⟩ (.int .i64 (kn (j + 1)).id)).setCell ⟨b, 1, none⟩ (.int .i64 (kn (j + 1)).term)).setCell ⟨b, 2, none⟩ (.int .i64 (kn (j + 1)).vote)).setCell ⟨b, 3, none⟩ (.slice A3n (kn (j + 1)).log.length k3n)).setCell ⟨b, 4, none⟩ (.int .i64 (kn (j + 1)).form)).setCell ⟨b, 5, none⟩ (.int .i64 (kn (j + 1)).role)).setCell ⟨b, 6, none⟩ (.int .i64 (kn (j + 1)).commit)).setCell ⟨b, 7, none⟩ (.slice A7n (kn (j + 1)).votes.length k7n)).setCell ⟨b, 8, none⟩ (.slice A8n (kn (j + 1)).nxt.length k8n)).setCell ⟨b, 9, none⟩ (.slice A9n (kn (j + 1)).mtch.length k9n)).setCell ⟨b, 10, none⟩ (.slice A10n (kn (j + 1)).forms.length k10n)).setCell ⟨b, 11, none⟩ (.int .i64 (kn (j + 1)).clock)).setCell ⟨b, 12, none⟩ (.int .i64 (kn (j + 1)).due)) (fun k => k ≠ b) (kn (j + 1)) (.slice A3n (kn (j + 1)).log.length k3n) (.slice A7n (kn (j + 1)).votes.length k7n) (.slice A8n (kn (j + 1)).nxt.length k8n) (.slice A9n (kn (j + 1)).mtch.length k9n) (.slice A10n (kn (j + 1)).forms.length k10n) := HN1.out.step fun k hk _ => far13 hk
      go_roundw
      case rel => exact ⟨j + 1, A3n, k3n, A7n, k7n, A8n, k8n, A9n, k9n, A10n, k10n, by omega, by go_num, hXf, hNf, hAf, hBf⟩
      case measure => simp [intOf]; omega
    · obtain rfl : j = 5 := by omega
      have hc : decide (((5 : Nat) : Int) < 5) = false := by decide
      unfold kn at HX HN
      simp only [show ¬ (5 < 5) from by omega, if_false] at HX
      have p1 : wr.cell? ⟨b, 1, none⟩ = some (.int .i64 1) := MM.cell_blk HX.out rfl
      have p3 : wr.cell? ⟨b, 3, none⟩ = some (.slice A3 1 k3) := MM.cell_blk HX.out rfl
      have p5 : wr.cell? ⟨b, 5, none⟩ = some (.int .i64 2) := MM.cell_blk HX.out rfl
      have p6 : wr.cell? ⟨b, 6, none⟩ = some (.int .i64 1) := MM.cell_blk HX.out rfl
      have q2 : wr.cell? ⟨a, 2, none⟩ = some (.int .i64 (-1)) := MM.cell_blk HA.out rfl
      have q5 : wr.cell? ⟨a, 5, none⟩ = some (.int .i64 0) := MM.cell_blk HA.out rfl
      have q8 : wr.cell? ⟨a, 8, none⟩ = some (.slice B8 3 c8) := MM.cell_blk HA.out rfl
      have q12 : wr.cell? ⟨a, 12, none⟩ = some (.int .i64 5) := MM.cell_blk HA.out rfl
      go_wp2_with fail
      go_ret
      exact ⟨rfl, HB.out⟩

end Go.Proofs.Ytnkmljdkokcdjaa
