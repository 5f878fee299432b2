/-
  The law RaftTicks returns true, and writes nothing that was there, for any three ints.
-/
import Derived.WalkKit
import Derived.WalkSpells
import Derived.Lib.Hide
import Derived.Outline
import Derived.Test.YtnkmljdkokcdjaaChecked
import Derived.Test.YtnkmljdkokcdjaaRg
import Derived.Test.YtnkmljdkokcdjaaMem
import Derived.Test.YtnkmljdkokcdjaaFed
import Derived.Test.YtnkmljdkokcdjaaRd4
namespace Go.Proofs.Ytnkmljdkokcdjaa
open Go.RowKit Fed
set_option linter.unusedVariables false
attribute [local go_sem high] Fed.max2_int Fed.min2_int

theorem tick_alone (w : World) (ok : Nat → Prop) (i k : Nat) (t : Int) (n : Fed.Node) (ha : Alone i k t n) (hi : i < k) (hk : 2 ≤ k) (hk1 : k ≤ 10) (ht : 0 ≤ t) (ht1 : t ≤ 100) (A3 : Option Addr) (k3 : Nat) (A7 : Option Addr) (k7 : Nat) (A8 : Option Addr) (k8 : Nat) (A9 : Option Addr) (k9 : Nat) (A10 : Option Addr) (k10 : Nat) (h : NodeV w (ok) n (.slice A3 n.log.length k3) (.slice A7 n.votes.length k7) (.slice A8 n.nxt.length k8) (.slice A9 n.mtch.length k9) (.slice A10 n.forms.length k10)) :
    Calls Try.prog 25 #[.agg #[.int .i64 n.id, .int .i64 n.term, .int .i64 n.vote, .slice A3 n.log.length k3, .int .i64 n.form, .int .i64 n.role, .int .i64 n.commit, .slice A7 n.votes.length k7, .slice A8 n.nxt.length k8, .slice A9 n.mtch.length k9, .slice A10 n.forms.length k10, .int .i64 n.clock, .int .i64 n.due]] w fun e w' => ∃ (s : NS) (A3 : Option Addr) (k3 : Nat) (A7 : Option Addr) (k7 : Nat) (A8 : Option Addr) (k8 : Nat) (A9 : Option Addr) (k9 : Nat) (A10 : Option Addr) (k10 : Nat) (Ao : Option Addr) (ko : Nat), e = .returned (.tuple #[.agg #[.int .i64 s.n.id, .int .i64 s.n.term, .int .i64 s.n.vote, .slice A3 s.n.log.length k3, .int .i64 s.n.form, .int .i64 s.n.role, .int .i64 s.n.commit, .slice A7 s.n.votes.length k7, .slice A8 s.n.nxt.length k8, .slice A9 s.n.mtch.length k9, .slice A10 s.n.forms.length k10, .int .i64 s.n.clock, .int .i64 s.n.due], .slice Ao s.out.length ko]) ∧ NodeV w' (fun k => w.heap.size ≤ k) s.n (.slice A3 s.n.log.length k3) (.slice A7 s.n.votes.length k7) (.slice A8 s.n.nxt.length k8) (.slice A9 s.n.mtch.length k9) (.slice A10 s.n.forms.length k10) ∧ MsgsV w' (fun j => w.heap.size ≤ j) (.slice Ao s.out.length ko) s.out ∧ Below w.heap.size w w'
      ∧ Alone i k (t + 1) s.n ∧ (n.due = t + 1 → s.n.term = n.term + 1 ∧ s.n.due = t + 1 + 5 + 2 * i ∧ s.out.length = k - 1 ∧ ∀ m, m ∈ s.out → m.kind = 1 ∧ m.term = n.term + 1 ∧ m.frm = i ∧ m.to ≠ i) ∧ (n.due ≠ t + 1 → s.n.term = n.term ∧ s.n.due = n.due ∧ s.out.length = 0) := by
  refine (tick_any w ok n _ _ _ _ _ h (by rw [ha.log]; simp) (by rw [ha.votes]; omega) (by rw [ha.nxt, ha.votes]) (by rw [ha.mtch]; omega) (by rw [ha.forms]; omega) (by have := ha.term; omega) (by have := ha.term; omega) (by rw [ha.clock]; omega) (by rw [ha.clock]; omega) ha.one).mono ?_
  rintro e w' ⟨A3, k3, A7, k7, A8, k8, A9, k9, A10, k10, Ao, ko, rfl, hn, hm, hb⟩
  refine ⟨tickS n, A3, k3, A7, k7, A8, k8, A9, k9, A10, k10, Ao, ko, rfl, hn, hm, hb, ?_⟩
  by_cases hd : n.due = t + 1
  · obtain ⟨o, h1, h2, h3, h4, h5, h6⟩ := ha.stand hi hk ht hd
    rw [h1]
    exact ⟨h2, fun _ => ⟨h3, h4, h5, h6⟩, fun h => absurd hd h⟩
  · obtain ⟨h1, h2⟩ := ha.wait hi hd
    rw [h1]
    exact ⟨h2, fun h => absurd h hd, fun _ => ⟨rfl, rfl, rfl⟩⟩

set_option maxRecDepth 100000 in
set_option maxHeartbeats 1600000 in
theorem ticks_law (a0 a1 a2 : Int) (x0 : (Lit.int .i64 a0).wf = true) (x1 : (Lit.int .i64 a1).wf = true) (x2 : (Lit.int .i64 a2).wf = true) (w : World) :
    Calls Try.prog 3 #[.int .i64 a0, .int .i64 a1, .int .i64 a2] w fun e w' => e = .returned (.bool true) ∧ Below w.heap.size w w' := by
  have X2 := Lib.hid x2
  go_enter Try.func3, Try.ntmps3
  go_wp2_with fail
  refine (known_any _).mono ?_
  rintro e w1 ⟨rfl, hb1⟩
  have HB1 := Lib.hid hb1
  clear hb1
  go_wp2_with fail
  refine (within_fn _ a1 4 x1 (by omega) (by omega)).mono ?_
  rintro e w' ⟨rfl, rfl⟩
  have hq := wi_range a1 4 (by omega)
  obtain ⟨q, hq'⟩ : ∃ q : Nat, wi a1 4 = q := ⟨(wi a1 4).toNat, by omega⟩
  rw [hq'] at hq ⊢
  clear hq'
  go_wp2_with fail
  refine (within_fn _ a0 (2 + q) x0 (by omega) (by omega)).mono ?_
  rintro e w' ⟨rfl, rfl⟩
  have hi := wi_range a0 (2 + q) (by omega)
  obtain ⟨i, hi'⟩ : ∃ i : Nat, wi a0 (2 + q) = i := ⟨(wi a0 (2 + q)).toNat, by omega⟩
  rw [hi'] at hi ⊢
  clear hi'
  clear x0 x1 x2
  go_wp2_with fail
  refine (new_node _ i 1 (2 + q) (2 + q) (by omega) (by omega) (by omega) (by omega)).mono ?_
  rintro e w3 ⟨A3, k3, A7, k7, A8, k8, A9, k9, A10, k10, rfl, hb3, hn3⟩
  have hal := Lib.hid (Alone.new i (2 + q))
  have hdue : (newN (i : Int) (2 + q) 1).due = 5 + 2 * i := by unfold newN; rfl
  have hterm : (newN (i : Int) (2 + q) 1).term = 0 := by unfold newN; rfl
  have HDT := Lib.hid (And.intro hdue hterm)
  clear hdue hterm
  generalize newN (i : Int) (2 + q) 1 = n0 at hal hn3 HDT ⊢
  have HB3 := Lib.hid (HB1.out.trans (hb3.mono HB1.out.size))
  have HN3 := Lib.hid hn3
  clear hb3 hn3 HB1
  go_wp2_with fail
  have hX4 : (w3.alloc (.cells #[.int .i64 n0.id, .int .i64 n0.term, .int .i64 n0.vote, .slice A3 n0.log.length k3, .int .i64 n0.form, .int .i64 n0.role, .int .i64 n0.commit, .slice A7 n0.votes.length k7, .slice A8 n0.nxt.length k8, .slice A9 n0.mtch.length k9, .slice A10 n0.forms.length k10, .int .i64 n0.clock, .int .i64 n0.due] 28)).heap[w3.heap.size]? = some (.cells #[.int .i64 n0.id, .int .i64 n0.term, .int .i64 n0.vote, .slice A3 n0.log.length k3, .int .i64 n0.form, .int .i64 n0.role, .int .i64 n0.commit, .slice A7 n0.votes.length k7, .slice A8 n0.nxt.length k8, .slice A9 n0.mtch.length k9, .slice A10 n0.forms.length k10, .int .i64 n0.clock, .int .i64 n0.due] 28 (0, 0)) := MM.alloc_new w3 _
  have hB4 : Below w.heap.size w (w3.alloc (.cells #[.int .i64 n0.id, .int .i64 n0.term, .int .i64 n0.vote, .slice A3 n0.log.length k3, .int .i64 n0.form, .int .i64 n0.role, .int .i64 n0.commit, .slice A7 n0.votes.length k7, .slice A8 n0.nxt.length k8, .slice A9 n0.mtch.length k9, .slice A10 n0.forms.length k10, .int .i64 n0.clock, .int .i64 n0.due] 28)) := HB3.out.alloc HB3.out.size _
  have hn4 : NodeV (w3.alloc (.cells #[.int .i64 n0.id, .int .i64 n0.term, .int .i64 n0.vote, .slice A3 n0.log.length k3, .int .i64 n0.form, .int .i64 n0.role, .int .i64 n0.commit, .slice A7 n0.votes.length k7, .slice A8 n0.nxt.length k8, .slice A9 n0.mtch.length k9, .slice A10 n0.forms.length k10, .int .i64 n0.clock, .int .i64 n0.due] 28)) (fun k => k ≠ w3.heap.size) n0 (.slice A3 n0.log.length k3) (.slice A7 n0.votes.length k7) (.slice A8 n0.nxt.length k8) (.slice A9 n0.mtch.length k9) (.slice A10 n0.forms.length k10) := (HN3.out.mono (ok' := fun k => k ≠ w3.heap.size) fun k _ hk => by omega).step fun k _ hk => Below.heap_alloc _ _ _ hk
  obtain ⟨w4, hw4⟩ : ∃ W, W = w3.alloc (.cells #[.int .i64 n0.id, .int .i64 n0.term, .int .i64 n0.vote, .slice A3 n0.log.length k3, .int .i64 n0.form, .int .i64 n0.role, .int .i64 n0.commit, .slice A7 n0.votes.length k7, .slice A8 n0.nxt.length k8, .slice A9 n0.mtch.length k9, .slice A10 n0.forms.length k10, .int .i64 n0.clock, .int .i64 n0.due] 28) := ⟨_, rfl⟩
  rw [← hw4] at hX4 hB4 hn4 ⊢
  have hwb : w.heap.size ≤ w3.heap.size := HB3.out.size
  obtain ⟨b, hb⟩ : ∃ b, b = w3.heap.size := ⟨_, rfl⟩
  rw [← hb] at hX4 hn4 hwb ⊢
  clear hw4 hb HB3 HN3
  have HX4 := Lib.hid hX4
  have HB4 := Lib.hid hB4
  have HN4 := Lib.hid hn4
  clear hX4 hB4 hn4
  have hwi := wi_range a2 60 (by omega)
  have HWI := Lib.hid hwi
  go_loopw [10, 11, 12] (fun vt vd vi wr => ∃ (t : Nat) (n : Fed.Node) (A3 : Option Addr) (k3 : Nat) (A7 : Option Addr) (k7 : Nat) (A8 : Option Addr) (k8 : Nat) (A9 : Option Addr) (k9 : Nat) (A10 : Option Addr) (k10 : Nat), (t : Int) ≤ wi a2 60 ∧ vt = .int .i64 n.term ∧ vd = .int .i64 n.due ∧ vi = .int .i64 (t + 1) ∧ Hid (Alone i (2 + q) t n) ∧ wr.heap[b]? = some (.cells #[.int .i64 n.id, .int .i64 n.term, .int .i64 n.vote, .slice A3 n.log.length k3, .int .i64 n.form, .int .i64 n.role, .int .i64 n.commit, .slice A7 n.votes.length k7, .slice A8 n.nxt.length k8, .slice A9 n.mtch.length k9, .slice A10 n.forms.length k10, .int .i64 n.clock, .int .i64 n.due] 28 (0, 0)) ∧ NodeV wr (fun k => k ≠ b) n (.slice A3 n.log.length k3) (.slice A7 n.votes.length k7) (.slice A8 n.nxt.length k8) (.slice A9 n.mtch.length k9) (.slice A10 n.forms.length k10) ∧ Below w.heap.size w wr) (fun _ _ vi _ => 70 - (intOf vi).toNat)
  case atStart => exact ⟨0, n0, A3, k3, A7, k7, A8, k8, A9, k9, A10, k10, by have := HWI.out; omega, by rw [HDT.out.2], by rw [HDT.out.1], rfl, hal, HX4.out, HN4.out, HB4.out⟩
  case round =>
    obtain ⟨t, n, A3, k3, A7, k7, A8, k8, A9, k9, A10, k10, ht, rfl, rfl, rfl, HAL, hx, hn, hb⟩ := hrel
    clear HX4 HB4 HN4 hal HDT
    have HX := Lib.hid hx
    have HN := Lib.hid hn
    have HB := Lib.hid hb
    clear hx hn hb
    go_wp2_with fail
    refine (within_fn _ a2 60 X2.out (by omega) (by omega)).mono ?_
    rintro e w' ⟨rfl, rfl⟩
    by_cases hlt : (t : Int) + 1 ≤ wi a2 60
    · have hc : decide ((t : Int) + 1 ≤ wi a2 60) = true := decide_eq_true hlt
      have c0 : wr.cell? ⟨b, 0, none⟩ = some (.int .i64 n.id) := MM.cell_blk HX.out rfl
      have c1 : wr.cell? ⟨b, 1, none⟩ = some (.int .i64 n.term) := MM.cell_blk HX.out rfl
      have c2 : wr.cell? ⟨b, 2, none⟩ = some (.int .i64 n.vote) := MM.cell_blk HX.out rfl
      have c3 : wr.cell? ⟨b, 3, none⟩ = some (.slice A3 n.log.length k3) := MM.cell_blk HX.out rfl
      have c4 : wr.cell? ⟨b, 4, none⟩ = some (.int .i64 n.form) := MM.cell_blk HX.out rfl
      have c5 : wr.cell? ⟨b, 5, none⟩ = some (.int .i64 n.role) := MM.cell_blk HX.out rfl
      have c6 : wr.cell? ⟨b, 6, none⟩ = some (.int .i64 n.commit) := MM.cell_blk HX.out rfl
      have c7 : wr.cell? ⟨b, 7, none⟩ = some (.slice A7 n.votes.length k7) := MM.cell_blk HX.out rfl
      have c8 : wr.cell? ⟨b, 8, none⟩ = some (.slice A8 n.nxt.length k8) := MM.cell_blk HX.out rfl
      have c9 : wr.cell? ⟨b, 9, none⟩ = some (.slice A9 n.mtch.length k9) := MM.cell_blk HX.out rfl
      have c10 : wr.cell? ⟨b, 10, none⟩ = some (.slice A10 n.forms.length k10) := MM.cell_blk HX.out rfl
      have c11 : wr.cell? ⟨b, 11, none⟩ = some (.int .i64 n.clock) := MM.cell_blk HX.out rfl
      have c12 : wr.cell? ⟨b, 12, none⟩ = some (.int .i64 n.due) := MM.cell_blk HX.out rfl
      go_wp2_with fail
      refine (tick_alone _ _ i (2 + q) t n HAL.out (by omega) (by omega) (by omega) (by omega) (by omega) A3 k3 A7 k7 A8 k8 A9 k9 A10 k10 HN.out).mono ?_
      rintro e we ⟨s, A3n, k3n, A7n, k7n, A8n, k8n, A9n, k9n, A10n, k10n, Ao, ko, rfl, hn1, hm1, hb1, hal1, hdo, hwait⟩
      have hX1 := (hb1.block b (MM.blk_lt HX.out)).trans HX.out
      have hwr : b < wr.heap.size := MM.blk_lt HX.out
      have hwe : wr.heap.size ≤ we.heap.size := hb1.size
      have hbw : b < we.heap.size := by omega
      have hbn : b ≠ we.heap.size := by omega
      have HB1 := Lib.hid (HB.out.trans (hb1.mono HB.out.size))
      have HN1 := Lib.hid (hn1.mono (ok' := fun k => k ≠ b ∧ k ≠ we.heap.size) fun k hk hk2 => (by constructor <;> omega))
      have HM1 := Lib.hid (hm1.mono (ok' := fun k => k ≠ b ∧ k ≠ we.heap.size) fun k hk hk2 => (by constructor <;> omega))
      have HAL1 := Lib.hid (show Alone i (2 + q) ((t + 1 : Nat) : Int) s.n from by rw [show ((t + 1 : Nat) : Int) = (t : Int) + 1 from by simp]; exact hal1)
      clear HX HN HB hb1 hn1 hm1 hal1 c0 c1 c2 c3 c4 c5 c6 c7 c8 c9 c10 c11 c12
      have hck : (s.n.clock != (t : Int) + 1) = false := by have := HAL1.out.clock; simp at this ⊢; exact this
      have HRO := Lib.hid (show ((s.n.role == 1) = true ∧ 0 < s.n.term) ∨ ((s.n.role == 1) = false ∧ ¬ (0 < s.n.term)) from by
        rcases HAL1.out.role with ⟨h1, h2⟩ | ⟨h1, h2⟩
        · exact Or.inl ⟨by rw [h1]; rfl, h2⟩
        · exact Or.inr ⟨by rw [h1]; rfl, by omega⟩)
      by_cases hd : n.due = (t : Int) + 1
      · obtain ⟨k1, k2, k3', k4⟩ := hdo hd
        have hdb : ((t : Int) + 1 == n.due) = true := by rw [hd]; simp
        have HK1 := Lib.hid k1
        have HK2 := Lib.hid k2
        have HK4 := Lib.hid k4
        have HD := Lib.hid hd
        have htm := HAL.out.term
        rw [show s.out.length = q + 1 from by omega] at HM1 ⊢
        have HOL := Lib.hid (show s.out.length = q + 1 from by omega)
        clear hdo hwait k1 k2 k3' k4 hd
        have hl1 : ((q : Int) + 1 != 2 + (q : Int) - 1) = false := by simp; omega
        have hl2 : (((q + 1 : Nat) : Int) != 2 + (q : Int) - 1) = false := by simp; omega
        have hl3 : ((q : Int) + 1 = 2 + (q : Int) - 1) = True := by simp; omega
        obtain ⟨cs, hrd, hmr⟩ := HM1.out
        obtain ⟨_, Ao', ko', e1, _, _, hrest⟩ := hrd
        injection e1 with e2 e3 e4
        subst e2 e4
        obtain ⟨bo, oo, rfl, hok, hbo, hcell⟩ := hrest (by omega)
        have HMR := Lib.hid hmr
        have HCE := Lib.hid hcell
        clear hmr hcell HM1 e3 hrest
        go_wp2_with fail
        have hY5 : (we.alloc (.cells #[.int .i64 s.n.id, .int .i64 s.n.term, .int .i64 s.n.vote, .slice A3n s.n.log.length k3n, .int .i64 s.n.form, .int .i64 s.n.role, .int .i64 s.n.commit, .slice A7n s.n.votes.length k7n, .slice A8n s.n.nxt.length k8n, .slice A9n s.n.mtch.length k9n, .slice A10n s.n.forms.length k10n, .int .i64 s.n.clock, .int .i64 s.n.due] 28)).heap[we.heap.size]? = some (.cells #[.int .i64 s.n.id, .int .i64 s.n.term, .int .i64 s.n.vote, .slice A3n s.n.log.length k3n, .int .i64 s.n.form, .int .i64 s.n.role, .int .i64 s.n.commit, .slice A7n s.n.votes.length k7n, .slice A8n s.n.nxt.length k8n, .slice A9n s.n.mtch.length k9n, .slice A10n s.n.forms.length k10n, .int .i64 s.n.clock, .int .i64 s.n.due] 28 (0, 0)) := MM.alloc_new we _
        have hX5 : (we.alloc (.cells #[.int .i64 s.n.id, .int .i64 s.n.term, .int .i64 s.n.vote, .slice A3n s.n.log.length k3n, .int .i64 s.n.form, .int .i64 s.n.role, .int .i64 s.n.commit, .slice A7n s.n.votes.length k7n, .slice A8n s.n.nxt.length k8n, .slice A9n s.n.mtch.length k9n, .slice A10n s.n.forms.length k10n, .int .i64 s.n.clock, .int .i64 s.n.due] 28)).heap[b]? = _ := (Below.heap_alloc _ _ _ hbw).trans hX1
        have hB5 : Below w.heap.size w (we.alloc (.cells #[.int .i64 s.n.id, .int .i64 s.n.term, .int .i64 s.n.vote, .slice A3n s.n.log.length k3n, .int .i64 s.n.form, .int .i64 s.n.role, .int .i64 s.n.commit, .slice A7n s.n.votes.length k7n, .slice A8n s.n.nxt.length k8n, .slice A9n s.n.mtch.length k9n, .slice A10n s.n.forms.length k10n, .int .i64 s.n.clock, .int .i64 s.n.due] 28)) := HB1.out.alloc (by omega) _
        have hN5 : NodeV (we.alloc (.cells #[.int .i64 s.n.id, .int .i64 s.n.term, .int .i64 s.n.vote, .slice A3n s.n.log.length k3n, .int .i64 s.n.form, .int .i64 s.n.role, .int .i64 s.n.commit, .slice A7n s.n.votes.length k7n, .slice A8n s.n.nxt.length k8n, .slice A9n s.n.mtch.length k9n, .slice A10n s.n.forms.length k10n, .int .i64 s.n.clock, .int .i64 s.n.due] 28)) (fun k => k ≠ b ∧ k ≠ we.heap.size) s.n (.slice A3n s.n.log.length k3n) (.slice A7n s.n.votes.length k7n) (.slice A8n s.n.nxt.length k8n) (.slice A9n s.n.mtch.length k9n) (.slice A10n s.n.forms.length k10n) := HN1.out.step fun k _ hk => Below.heap_alloc _ _ _ hk
        have hC5 : ∀ jx u, cs[jx]? = some u → (we.alloc (.cells #[.int .i64 s.n.id, .int .i64 s.n.term, .int .i64 s.n.vote, .slice A3n s.n.log.length k3n, .int .i64 s.n.form, .int .i64 s.n.role, .int .i64 s.n.commit, .slice A7n s.n.votes.length k7n, .slice A8n s.n.nxt.length k8n, .slice A9n s.n.mtch.length k9n, .slice A10n s.n.forms.length k10n, .int .i64 s.n.clock, .int .i64 s.n.due] 28)).cell? ⟨bo, oo + jx, none⟩ = some u := fun jx u h => (World.cell?_of_block (w := we) (Below.heap_alloc _ _ _ hbo)).trans (HCE.out jx u h)
        obtain ⟨w5, hw5⟩ : ∃ W, W = we.alloc (.cells #[.int .i64 s.n.id, .int .i64 s.n.term, .int .i64 s.n.vote, .slice A3n s.n.log.length k3n, .int .i64 s.n.form, .int .i64 s.n.role, .int .i64 s.n.commit, .slice A7n s.n.votes.length k7n, .slice A8n s.n.nxt.length k8n, .slice A9n s.n.mtch.length k9n, .slice A10n s.n.forms.length k10n, .int .i64 s.n.clock, .int .i64 s.n.due] 28) := ⟨_, rfl⟩
        rw [← hw5] at hY5 hX5 hB5 hN5 hC5 ⊢
        obtain ⟨c, hcw⟩ : ∃ c, c = we.heap.size := ⟨_, rfl⟩
        rw [← hcw] at hY5 hN5 hbn hbw ⊢
        clear hw5 hcw hX1 HCE hok hbo
        have HY5 := Lib.hid hY5
        have HX5 := Lib.hid hX5
        have HB5 := Lib.hid hB5
        have HN5 := Lib.hid hN5
        have HC5 := Lib.hid hC5
        clear hY5 hX5 hB5 hN5 hC5
        go_loop [15] (fun v => ∃ j : Nat, j ≤ q + 1 ∧ v = .int .i64 j) (fun v => 10 - (intOf v).toNat)
        case atStart => exact ⟨0, by omega, rfl⟩
        case round =>
          obtain ⟨j, hj, rfl⟩ := hrel
          by_cases hjq : j < q + 1
          · obtain ⟨m, hm⟩ : ∃ m, s.out[j]? = some m := ⟨s.out[j]'(by rw [HOL.out]; exact hjq), List.getElem?_eq_getElem _⟩
            obtain ⟨ve, _, hcs⟩ := MsgsR.get HMR.out hm
            obtain ⟨p1, p2, p3, p4⟩ := HK4.out m (List.mem_of_getElem? hm)
            have e0 : w5.cell? ⟨bo, oo + j * 10, none⟩ = some (.int .i64 1) := by have h9 := HC5.out _ _ (hcs 0 _ rfl); rw [p1] at h9; exact h9
            have e3 : w5.cell? ⟨bo, oo + j * 10 + 3, none⟩ = some (.int .i64 (n.term + 1)) := by have h9 := HC5.out _ _ (hcs 3 _ rfl); rw [p2] at h9; exact h9
            have e1 : w5.cell? ⟨bo, oo + j * 10 + 1, none⟩ = some (.int .i64 i) := by have h9 := HC5.out _ _ (hcs 1 _ rfl); rw [p3] at h9; exact h9
            have e2 : w5.cell? ⟨bo, oo + j * 10 + 2, none⟩ = some (.int .i64 m.to) := HC5.out _ _ (hcs 2 _ rfl)
            have ne : (m.to == (i : Int)) = false := by simpa using p4
            have hc1 : decide ((j : Int) < ((q + 1 : Nat) : Int)) = true := decide_eq_true (by omega)
            have hc2 : decide ((j : Int) < (q : Int) + 1) = true := decide_eq_true (by omega)
            clear hcs p1 p2 p3 p4 hm
            go_wp2_with fail
            go_round
            case rel => exact ⟨j + 1, by omega, by go_num⟩
            case measure => simp [intOf]; omega
          · obtain rfl : j = q + 1 := by omega
            have hc1 : decide (((q + 1 : Nat) : Int) < ((q + 1 : Nat) : Int)) = false := by simp
            have hc2 : decide (((q : Int) + 1) < (q : Int) + 1) = false := by simp
            have htb : (s.n.term != n.term + 1) = false := by rw [HK1.out]; simp
            have hub : (s.n.due != (t : Int) + 1 + 5 + 2 * (i : Int)) = false := by rw [HK2.out]; simp
            have hr1 : (s.n.role == 1) = true := by
              rcases HRO.out with h | h
              · exact h.1
              · have := HK1.out; omega
            have hgt : decide (0 < n.term + 1) = true := decide_eq_true (by omega)
            have z0 : w5.cell? ⟨c, 0, none⟩ = some (.int .i64 s.n.id) := MM.cell_blk HY5.out rfl
            have z1 : w5.cell? ⟨c, 1, none⟩ = some (.int .i64 s.n.term) := MM.cell_blk HY5.out rfl
            have z2 : w5.cell? ⟨c, 2, none⟩ = some (.int .i64 s.n.vote) := MM.cell_blk HY5.out rfl
            have z3 : w5.cell? ⟨c, 3, none⟩ = some (.slice A3n s.n.log.length k3n) := MM.cell_blk HY5.out rfl
            have z4 : w5.cell? ⟨c, 4, none⟩ = some (.int .i64 s.n.form) := MM.cell_blk HY5.out rfl
            have z5 : w5.cell? ⟨c, 5, none⟩ = some (.int .i64 s.n.role) := MM.cell_blk HY5.out rfl
            have z6 : w5.cell? ⟨c, 6, none⟩ = some (.int .i64 s.n.commit) := MM.cell_blk HY5.out rfl
            have z7 : w5.cell? ⟨c, 7, none⟩ = some (.slice A7n s.n.votes.length k7n) := MM.cell_blk HY5.out rfl
            have z8 : w5.cell? ⟨c, 8, none⟩ = some (.slice A8n s.n.nxt.length k8n) := MM.cell_blk HY5.out rfl
            have z9 : w5.cell? ⟨c, 9, none⟩ = some (.slice A9n s.n.mtch.length k9n) := MM.cell_blk HY5.out rfl
            have z10 : w5.cell? ⟨c, 10, none⟩ = some (.slice A10n s.n.forms.length k10n) := MM.cell_blk HY5.out rfl
            have z11 : w5.cell? ⟨c, 11, none⟩ = some (.int .i64 s.n.clock) := MM.cell_blk HY5.out rfl
            have z12 : w5.cell? ⟨c, 12, none⟩ = some (.int .i64 s.n.due) := MM.cell_blk HY5.out rfl
            have y0 : w5.cell? ⟨b, 0, none⟩ = some (.int .i64 n.id) := MM.cell_blk HX5.out rfl
            have y1 : w5.cell? ⟨b, 1, none⟩ = some (.int .i64 n.term) := MM.cell_blk HX5.out rfl
            have y2 : w5.cell? ⟨b, 2, none⟩ = some (.int .i64 n.vote) := MM.cell_blk HX5.out rfl
            have y3 : w5.cell? ⟨b, 3, none⟩ = some (.slice A3 n.log.length k3) := MM.cell_blk HX5.out rfl
            have y4 : w5.cell? ⟨b, 4, none⟩ = some (.int .i64 n.form) := MM.cell_blk HX5.out rfl
            have y5 : w5.cell? ⟨b, 5, none⟩ = some (.int .i64 n.role) := MM.cell_blk HX5.out rfl
            have y6 : w5.cell? ⟨b, 6, none⟩ = some (.int .i64 n.commit) := MM.cell_blk HX5.out rfl
            have y7 : w5.cell? ⟨b, 7, none⟩ = some (.slice A7 n.votes.length k7) := MM.cell_blk HX5.out rfl
            have y8 : w5.cell? ⟨b, 8, none⟩ = some (.slice A8 n.nxt.length k8) := MM.cell_blk HX5.out rfl
            have y9 : w5.cell? ⟨b, 9, none⟩ = some (.slice A9 n.mtch.length k9) := MM.cell_blk HX5.out rfl
            have y10 : w5.cell? ⟨b, 10, none⟩ = some (.slice A10 n.forms.length k10) := MM.cell_blk HX5.out rfl
            have y11 : w5.cell? ⟨b, 11, none⟩ = some (.int .i64 n.clock) := MM.cell_blk HX5.out rfl
            have y12 : w5.cell? ⟨b, 12, none⟩ = some (.int .i64 n.due) := MM.cell_blk HX5.out rfl
            have g0 : w5.frozen? ⟨b, 0, none⟩ = false := MM.free_blk HX5.out
            have g1 : w5.frozen? ⟨b, 1, none⟩ = false := MM.free_blk HX5.out
            have g2 : w5.frozen? ⟨b, 2, none⟩ = false := MM.free_blk HX5.out
            have g3 : w5.frozen? ⟨b, 3, none⟩ = false := MM.free_blk HX5.out
            have g4 : w5.frozen? ⟨b, 4, none⟩ = false := MM.free_blk HX5.out
            have g5 : w5.frozen? ⟨b, 5, none⟩ = false := MM.free_blk HX5.out
            have g6 : w5.frozen? ⟨b, 6, none⟩ = false := MM.free_blk HX5.out
            have g7 : w5.frozen? ⟨b, 7, none⟩ = false := MM.free_blk HX5.out
            have g8 : w5.frozen? ⟨b, 8, none⟩ = false := MM.free_blk HX5.out
            have g9 : w5.frozen? ⟨b, 9, none⟩ = false := MM.free_blk HX5.out
            have g10 : w5.frozen? ⟨b, 10, none⟩ = false := MM.free_blk HX5.out
            have g11 : w5.frozen? ⟨b, 11, none⟩ = false := MM.free_blk HX5.out
            have g12 : w5.frozen? ⟨b, 12, none⟩ = false := MM.free_blk HX5.out
            go_wp2_with fail
            have hXf : ((((((((((((((w5).setCell ⟨b, 0, none⟩ (.int .i64 s.n.id)).setCell ⟨b, 1, none⟩ (.int .i64 s.n.term)).setCell ⟨b, 2, none⟩ (.int .i64 s.n.vote)).setCell ⟨b, 3, none⟩ (.slice A3n s.n.log.length k3n)).setCell ⟨b, 4, none⟩ (.int .i64 s.n.form)).setCell ⟨b, 5, none⟩ (.int .i64 s.n.role)).setCell ⟨b, 6, none⟩ (.int .i64 s.n.commit)).setCell ⟨b, 7, none⟩ (.slice A7n s.n.votes.length k7n)).setCell ⟨b, 8, none⟩ (.slice A8n s.n.nxt.length k8n)).setCell ⟨b, 9, none⟩ (.slice A9n s.n.mtch.length k9n)).setCell ⟨b, 10, none⟩ (.slice A10n s.n.forms.length k10n)).setCell ⟨b, 11, none⟩ (.int .i64 s.n.clock)).setCell ⟨b, 12, none⟩ (.int .i64 s.n.due)).heap[b]? = some (.cells #[.int .i64 s.n.id, .int .i64 s.n.term, .int .i64 s.n.vote, .slice A3n s.n.log.length k3n, .int .i64 s.n.form, .int .i64 s.n.role, .int .i64 s.n.commit, .slice A7n s.n.votes.length k7n, .slice A8n s.n.nxt.length k8n, .slice A9n s.n.mtch.length k9n, .slice A10n s.n.forms.length k10n, .int .i64 s.n.clock, .int .i64 s.n.due] 28 (0, 0)) := set13 HX5.out
            have hBf : Below w.heap.size w ((((((((((((((w5).setCell ⟨b, 0, none⟩ (.int .i64 s.n.id)).setCell ⟨b, 1, none⟩ (.int .i64 s.n.term)).setCell ⟨b, 2, none⟩ (.int .i64 s.n.vote)).setCell ⟨b, 3, none⟩ (.slice A3n s.n.log.length k3n)).setCell ⟨b, 4, none⟩ (.int .i64 s.n.form)).setCell ⟨b, 5, none⟩ (.int .i64 s.n.role)).setCell ⟨b, 6, none⟩ (.int .i64 s.n.commit)).setCell ⟨b, 7, none⟩ (.slice A7n s.n.votes.length k7n)).setCell ⟨b, 8, none⟩ (.slice A8n s.n.nxt.length k8n)).setCell ⟨b, 9, none⟩ (.slice A9n s.n.mtch.length k9n)).setCell ⟨b, 10, none⟩ (.slice A10n s.n.forms.length k10n)).setCell ⟨b, 11, none⟩ (.int .i64 s.n.clock)).setCell ⟨b, 12, none⟩ (.int .i64 s.n.due)) := below13 HB5.out (by omega)
            have hNf : NodeV ((((((((((((((w5).setCell ⟨b, 0, none⟩ (.int .i64 s.n.id)).setCell ⟨b, 1, none⟩ (.int .i64 s.n.term)).setCell ⟨b, 2, none⟩ (.int .i64 s.n.vote)).setCell ⟨b, 3, none⟩ (.slice A3n s.n.log.length k3n)).setCell ⟨b, 4, none⟩ (.int .i64 s.n.form)).setCell ⟨b, 5, none⟩ (.int .i64 s.n.role)).setCell ⟨b, 6, none⟩ (.int .i64 s.n.commit)).setCell ⟨b, 7, none⟩ (.slice A7n s.n.votes.length k7n)).setCell ⟨b, 8, none⟩ (.slice A8n s.n.nxt.length k8n)).setCell ⟨b, 9, none⟩ (.slice A9n s.n.mtch.length k9n)).setCell ⟨b, 10, none⟩ (.slice A10n s.n.forms.length k10n)).setCell ⟨b, 11, none⟩ (.int .i64 s.n.clock)).setCell ⟨b, 12, none⟩ (.int .i64 s.n.due)) (fun k => k ≠ b) s.n (.slice A3n s.n.log.length k3n) (.slice A7n s.n.votes.length k7n) (.slice A8n s.n.nxt.length k8n) (.slice A9n s.n.mtch.length k9n) (.slice A10n s.n.forms.length k10n) := (HN5.out.step fun k hk hk2 => far13 hk.1).mono fun k hk _ => hk.1
            go_roundw
            case rel => exact ⟨t + 1, s.n, A3n, k3n, A7n, k7n, A8n, k8n, A9n, k9n, A10n, k10n, by omega, by rw [HK1.out], by rw [HK2.out], by go_num, HAL1, hXf, hNf, hBf⟩
            case measure => simp [intOf]; omega
      · obtain ⟨k1, k2, k3'⟩ := hwait hd
        have hdb : ((t : Int) + 1 == n.due) = false := by simp; omega
        have HK1 := Lib.hid k1
        have HK2 := Lib.hid k2
        have HD := Lib.hid hd
        have htb : (s.n.term != n.term) = false := by rw [k1]; simp
        have hub : (s.n.due != n.due) = false := by rw [k2]; simp
        have hro2 := Lib.hid (show ((s.n.role == 1) = true ∧ 0 < n.term) ∨ ((s.n.role == 1) = false ∧ ¬ (0 < n.term)) from by rw [← HK1.out]; exact HRO.out)
        rw [k3'] at HM1 ⊢
        clear hdo hwait k1 k2 k3' hd
        have y0 : we.cell? ⟨b, 0, none⟩ = some (.int .i64 n.id) := MM.cell_blk hX1 rfl
        have y1 : we.cell? ⟨b, 1, none⟩ = some (.int .i64 n.term) := MM.cell_blk hX1 rfl
        have y2 : we.cell? ⟨b, 2, none⟩ = some (.int .i64 n.vote) := MM.cell_blk hX1 rfl
        have y3 : we.cell? ⟨b, 3, none⟩ = some (.slice A3 n.log.length k3) := MM.cell_blk hX1 rfl
        have y4 : we.cell? ⟨b, 4, none⟩ = some (.int .i64 n.form) := MM.cell_blk hX1 rfl
        have y5 : we.cell? ⟨b, 5, none⟩ = some (.int .i64 n.role) := MM.cell_blk hX1 rfl
        have y6 : we.cell? ⟨b, 6, none⟩ = some (.int .i64 n.commit) := MM.cell_blk hX1 rfl
        have y7 : we.cell? ⟨b, 7, none⟩ = some (.slice A7 n.votes.length k7) := MM.cell_blk hX1 rfl
        have y8 : we.cell? ⟨b, 8, none⟩ = some (.slice A8 n.nxt.length k8) := MM.cell_blk hX1 rfl
        have y9 : we.cell? ⟨b, 9, none⟩ = some (.slice A9 n.mtch.length k9) := MM.cell_blk hX1 rfl
        have y10 : we.cell? ⟨b, 10, none⟩ = some (.slice A10 n.forms.length k10) := MM.cell_blk hX1 rfl
        have y11 : we.cell? ⟨b, 11, none⟩ = some (.int .i64 n.clock) := MM.cell_blk hX1 rfl
        have y12 : we.cell? ⟨b, 12, none⟩ = some (.int .i64 n.due) := MM.cell_blk hX1 rfl
        have g0 : we.frozen? ⟨b, 0, none⟩ = false := MM.free_blk hX1
        have g1 : we.frozen? ⟨b, 1, none⟩ = false := MM.free_blk hX1
        have g2 : we.frozen? ⟨b, 2, none⟩ = false := MM.free_blk hX1
        have g3 : we.frozen? ⟨b, 3, none⟩ = false := MM.free_blk hX1
        have g4 : we.frozen? ⟨b, 4, none⟩ = false := MM.free_blk hX1
        have g5 : we.frozen? ⟨b, 5, none⟩ = false := MM.free_blk hX1
        have g6 : we.frozen? ⟨b, 6, none⟩ = false := MM.free_blk hX1
        have g7 : we.frozen? ⟨b, 7, none⟩ = false := MM.free_blk hX1
        have g8 : we.frozen? ⟨b, 8, none⟩ = false := MM.free_blk hX1
        have g9 : we.frozen? ⟨b, 9, none⟩ = false := MM.free_blk hX1
        have g10 : we.frozen? ⟨b, 10, none⟩ = false := MM.free_blk hX1
        have g11 : we.frozen? ⟨b, 11, none⟩ = false := MM.free_blk hX1
        have g12 : we.frozen? ⟨b, 12, none⟩ = false := MM.free_blk hX1
        have HX1 := Lib.hid hX1
        clear hX1
        have fin : ∀ (wf : World), wf = ((((((((((((((we).setCell ⟨b, 0, none⟩ (.int .i64 s.n.id)).setCell ⟨b, 1, none⟩ (.int .i64 s.n.term)).setCell ⟨b, 2, none⟩ (.int .i64 s.n.vote)).setCell ⟨b, 3, none⟩ (.slice A3n s.n.log.length k3n)).setCell ⟨b, 4, none⟩ (.int .i64 s.n.form)).setCell ⟨b, 5, none⟩ (.int .i64 s.n.role)).setCell ⟨b, 6, none⟩ (.int .i64 s.n.commit)).setCell ⟨b, 7, none⟩ (.slice A7n s.n.votes.length k7n)).setCell ⟨b, 8, none⟩ (.slice A8n s.n.nxt.length k8n)).setCell ⟨b, 9, none⟩ (.slice A9n s.n.mtch.length k9n)).setCell ⟨b, 10, none⟩ (.slice A10n s.n.forms.length k10n)).setCell ⟨b, 11, none⟩ (.int .i64 s.n.clock)).setCell ⟨b, 12, none⟩ (.int .i64 s.n.due)).alloc (.cells #[.int .i64 s.n.id, .int .i64 s.n.term, .int .i64 s.n.vote, .slice A3n s.n.log.length k3n, .int .i64 s.n.form, .int .i64 s.n.role, .int .i64 s.n.commit, .slice A7n s.n.votes.length k7n, .slice A8n s.n.nxt.length k8n, .slice A9n s.n.mtch.length k9n, .slice A10n s.n.forms.length k10n, .int .i64 s.n.clock, .int .i64 s.n.due] 28) → (wf.heap[b]? = some (.cells #[.int .i64 s.n.id, .int .i64 s.n.term, .int .i64 s.n.vote, .slice A3n s.n.log.length k3n, .int .i64 s.n.form, .int .i64 s.n.role, .int .i64 s.n.commit, .slice A7n s.n.votes.length k7n, .slice A8n s.n.nxt.length k8n, .slice A9n s.n.mtch.length k9n, .slice A10n s.n.forms.length k10n, .int .i64 s.n.clock, .int .i64 s.n.due] 28 (0, 0)) ∧ NodeV wf (fun k => k ≠ b) s.n (.slice A3n s.n.log.length k3n) (.slice A7n s.n.votes.length k7n) (.slice A8n s.n.nxt.length k8n) (.slice A9n s.n.mtch.length k9n) (.slice A10n s.n.forms.length k10n) ∧ Below w.heap.size w wf) := by
          rintro wf rfl
          have q1 : Below w.heap.size w ((((((((((((((we).setCell ⟨b, 0, none⟩ (.int .i64 s.n.id)).setCell ⟨b, 1, none⟩ (.int .i64 s.n.term)).setCell ⟨b, 2, none⟩ (.int .i64 s.n.vote)).setCell ⟨b, 3, none⟩ (.slice A3n s.n.log.length k3n)).setCell ⟨b, 4, none⟩ (.int .i64 s.n.form)).setCell ⟨b, 5, none⟩ (.int .i64 s.n.role)).setCell ⟨b, 6, none⟩ (.int .i64 s.n.commit)).setCell ⟨b, 7, none⟩ (.slice A7n s.n.votes.length k7n)).setCell ⟨b, 8, none⟩ (.slice A8n s.n.nxt.length k8n)).setCell ⟨b, 9, none⟩ (.slice A9n s.n.mtch.length k9n)).setCell ⟨b, 10, none⟩ (.slice A10n s.n.forms.length k10n)).setCell ⟨b, 11, none⟩ (.int .i64 s.n.clock)).setCell ⟨b, 12, none⟩ (.int .i64 s.n.due)) := below13 HB1.out (by omega)
          have q2 : ((((((((((((((we).setCell ⟨b, 0, none⟩ (.int .i64 s.n.id)).setCell ⟨b, 1, none⟩ (.int .i64 s.n.term)).setCell ⟨b, 2, none⟩ (.int .i64 s.n.vote)).setCell ⟨b, 3, none⟩ (.slice A3n s.n.log.length k3n)).setCell ⟨b, 4, none⟩ (.int .i64 s.n.form)).setCell ⟨b, 5, none⟩ (.int .i64 s.n.role)).setCell ⟨b, 6, none⟩ (.int .i64 s.n.commit)).setCell ⟨b, 7, none⟩ (.slice A7n s.n.votes.length k7n)).setCell ⟨b, 8, none⟩ (.slice A8n s.n.nxt.length k8n)).setCell ⟨b, 9, none⟩ (.slice A9n s.n.mtch.length k9n)).setCell ⟨b, 10, none⟩ (.slice A10n s.n.forms.length k10n)).setCell ⟨b, 11, none⟩ (.int .i64 s.n.clock)).setCell ⟨b, 12, none⟩ (.int .i64 s.n.due)).heap[b]? = _ := set13 HX1.out
          have q3 : NodeV ((((((((((((((we).setCell ⟨b, 0, none⟩ (.int .i64 s.n.id)).setCell ⟨b, 1, none⟩ (.int .i64 s.n.term)).setCell ⟨b, 2, none⟩ (.int .i64 s.n.vote)).setCell ⟨b, 3, none⟩ (.slice A3n s.n.log.length k3n)).setCell ⟨b, 4, none⟩ (.int .i64 s.n.form)).setCell ⟨b, 5, none⟩ (.int .i64 s.n.role)).setCell ⟨b, 6, none⟩ (.int .i64 s.n.commit)).setCell ⟨b, 7, none⟩ (.slice A7n s.n.votes.length k7n)).setCell ⟨b, 8, none⟩ (.slice A8n s.n.nxt.length k8n)).setCell ⟨b, 9, none⟩ (.slice A9n s.n.mtch.length k9n)).setCell ⟨b, 10, none⟩ (.slice A10n s.n.forms.length k10n)).setCell ⟨b, 11, none⟩ (.int .i64 s.n.clock)).setCell ⟨b, 12, none⟩ (.int .i64 s.n.due)) (fun k => k ≠ b) s.n (.slice A3n s.n.log.length k3n) (.slice A7n s.n.votes.length k7n) (.slice A8n s.n.nxt.length k8n) (.slice A9n s.n.mtch.length k9n) (.slice A10n s.n.forms.length k10n) := (HN1.out.step fun k hk hk2 => far13 hk.1).mono fun k hk _ => hk.1
          exact ⟨(Below.heap_alloc _ _ _ (MM.blk_lt q2)).trans q2, q3.below ((Below.refl _ _).alloc (Nat.le_refl _) _), q1.alloc q1.size _⟩
        rcases hro2.out with ⟨r1, r2⟩ | ⟨r1, r2⟩
        · have hgt : decide (0 < n.term) = true := decide_eq_true r2
          go_wp2_with fail
          obtain ⟨hXf, hNf, hBf⟩ := fin _ rfl
          go_roundw
          case rel => exact ⟨t + 1, s.n, A3n, k3n, A7n, k7n, A8n, k8n, A9n, k9n, A10n, k10n, by omega, by rw [HK1.out], by rw [HK2.out], by go_num, HAL1, hXf, hNf, hBf⟩
          case measure => simp [intOf]; omega
        · have hgt : decide (0 < n.term) = false := decide_eq_false r2
          go_wp2_with fail
          obtain ⟨hXf, hNf, hBf⟩ := fin _ rfl
          go_roundw
          case rel => exact ⟨t + 1, s.n, A3n, k3n, A7n, k7n, A8n, k8n, A9n, k9n, A10n, k10n, by omega, by rw [HK1.out], by rw [HK2.out], by go_num, HAL1, hXf, hNf, hBf⟩
          case measure => simp [intOf]; omega
    · have hc : decide ((t : Int) + 1 ≤ wi a2 60) = false := decide_eq_false hlt
      go_wp2_with fail
      go_ret
      exact ⟨rfl, HB.out⟩

end Go.Proofs.Ytnkmljdkokcdjaa
