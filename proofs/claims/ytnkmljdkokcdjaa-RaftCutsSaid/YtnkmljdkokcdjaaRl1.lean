/-
  The law RaftLeads returns true, and writes nothing that was there, for any int and any row of ints.
-/
import Derived.WalkKit
import Derived.WalkSpells
import Derived.Lib.Hide
import Derived.Outline
import Derived.Test.YtnkmljdkokcdjaaChecked
import Derived.Test.YtnkmljdkokcdjaaRg
import Derived.Test.YtnkmljdkokcdjaaMem
import Derived.Test.YtnkmljdkokcdjaaFed
import Derived.Test.YtnkmljdkokcdjaaRl0
import Derived.Deep.DeepCutAuto
import Derived.Deep.CutBlock
import Derived.IntWalk
namespace Go.Proofs.Ytnkmljdkokcdjaa
open Go.RowKit Fed
set_option linter.unusedVariables false
attribute [local go_sem high] Fed.max2_int Fed.min2_int

/-- Where a node's rows lie. -/
structure Sl5 where
  A3 : Option Addr
  k3 : Nat
  A7 : Option Addr
  k7 : Nat
  A8 : Option Addr
  k8 : Nat
  A9 : Option Addr
  k9 : Nat
  A10 : Option Addr
  k10 : Nat
abbrev NodeVs (w : World) (ok : Nat → Prop) (n : Fed.Node) (σ : Sl5) : Prop := NodeV w ok n (.slice σ.A3 n.log.length σ.k3) (.slice σ.A7 n.votes.length σ.k7) (.slice σ.A8 n.nxt.length σ.k8) (.slice σ.A9 n.mtch.length σ.k9) (.slice σ.A10 n.forms.length σ.k10)
theorem new_c (w : World) (id form K : Int) (k : Nat) (hK : K = k) (hk : k ≤ 1000) (hi0 : -1000000000 ≤ id) (hi1 : id ≤ 1000000000) :
    Calls Try.prog 24 #[.int .i64 id, .int .i64 K, .int .i64 form] w
      fun e w' => ∃ σ : Sl5, e = .returned (.agg #[.int .i64 (newN id k form).id, .int .i64 (newN id k form).term, .int .i64 (newN id k form).vote, .slice σ.A3 (newN id k form).log.length σ.k3, .int .i64 (newN id k form).form, .int .i64 (newN id k form).role, .int .i64 (newN id k form).commit, .slice σ.A7 (newN id k form).votes.length σ.k7, .slice σ.A8 (newN id k form).nxt.length σ.k8, .slice σ.A9 (newN id k form).mtch.length σ.k9, .slice σ.A10 (newN id k form).forms.length σ.k10, .int .i64 (newN id k form).clock, .int .i64 (newN id k form).due]) ∧ Below w.heap.size w w' ∧ NodeVs w' (fun j => w.heap.size ≤ j) (newN id k form) σ := by
  refine (new_node w id form K k hK hk hi0 hi1).mono ?_
  rintro e w' ⟨A3, k3, A7, k7, A8, k8, A9, k9, A10, k10, rfl, hb, hn⟩
  exact ⟨⟨A3, k3, A7, k7, A8, k8, A9, k9, A10, k10⟩, rfl, hb, hn⟩
theorem tick_c (w : World) (ok : Nat → Prop) (n : Fed.Node) (σ : Sl5) (h : NodeVs w ok n σ) (l1 : n.log.length ≤ 800000) (l2 : n.votes.length ≤ 1000) (l3 : n.nxt.length = n.votes.length) (l4 : n.mtch.length ≤ 1000) (l5 : n.forms.length ≤ 1000)
    (ht0 : -1000000000 ≤ n.term) (ht1 : n.term ≤ 1000000000) (hc0 : -999999999 ≤ n.clock) (hc1 : n.clock ≤ 999999999) (hx : ∀ i, i < n.nxt.length → -1000000000 ≤ n.nxt.getD i 0 ∧ n.nxt.getD i 0 ≤ 1000000000) :
    Calls Try.prog 25 #[.agg #[.int .i64 n.id, .int .i64 n.term, .int .i64 n.vote, .slice σ.A3 n.log.length σ.k3, .int .i64 n.form, .int .i64 n.role, .int .i64 n.commit, .slice σ.A7 n.votes.length σ.k7, .slice σ.A8 n.nxt.length σ.k8, .slice σ.A9 n.mtch.length σ.k9, .slice σ.A10 n.forms.length σ.k10, .int .i64 n.clock, .int .i64 n.due]] w
      fun e w' => ∃ (τ : Sl5) (Ao : Option Addr) (ko : Nat), e = .returned (.tuple #[.agg #[.int .i64 (tickS n).n.id, .int .i64 (tickS n).n.term, .int .i64 (tickS n).n.vote, .slice τ.A3 (tickS n).n.log.length τ.k3, .int .i64 (tickS n).n.form, .int .i64 (tickS n).n.role, .int .i64 (tickS n).n.commit, .slice τ.A7 (tickS n).n.votes.length τ.k7, .slice τ.A8 (tickS n).n.nxt.length τ.k8, .slice τ.A9 (tickS n).n.mtch.length τ.k9, .slice τ.A10 (tickS n).n.forms.length τ.k10, .int .i64 (tickS n).n.clock, .int .i64 (tickS n).n.due], .slice Ao (tickS n).out.length ko]) ∧ NodeVs w' (fun j => w.heap.size ≤ j) (tickS n).n τ ∧ MsgsV w' (fun j => w.heap.size ≤ j) (.slice Ao (tickS n).out.length ko) (tickS n).out ∧ Below w.heap.size w w' := by
  refine (tick_any w ok n _ _ _ _ _ h l1 l2 l3 l4 l5 ht0 ht1 hc0 hc1 hx).mono ?_
  rintro e w' ⟨A3, k3, A7, k7, A8, k8, A9, k9, A10, k10, Ao, ko, rfl, hn, hm, hb⟩
  exact ⟨⟨A3, k3, A7, k7, A8, k8, A9, k9, A10, k10⟩, Ao, ko, rfl, hn, hm, hb⟩
theorem handle_c (w : World) (ok : Nat → Prop) (n : Fed.Node) (σ : Sl5) (h : NodeVs w ok n σ) (m : Fed.Msg) (A : Option Addr) (c : Nat) (ok2 : Nat → Prop) (hr : MM.Rd w ok2 2 (.slice A m.entries.length c) m.entries.length (entsC m.entries))
    (l1 : n.log.length ≤ 700000) (l2 : n.votes.length ≤ 1000) (l3 : n.nxt.length = n.votes.length) (l4 : n.mtch.length = n.votes.length) (l5 : n.forms.length = n.votes.length) (he : m.entries.length ≤ 1000)
    (hc0 : -1000000000 ≤ n.clock) (hc1 : n.clock ≤ 1000000000) (hcm : 0 ≤ n.commit) (hz : 0 ≤ m.index ∧ m.index ≤ 1000000)
    (hx : ∀ i, i < n.nxt.length → -1000000 ≤ n.nxt.getD i 0 ∧ n.nxt.getD i 0 ≤ 1000000) (hy : ∀ i, i < n.mtch.length → -1000000 ≤ n.mtch.getD i 0 ∧ n.mtch.getD i 0 ≤ 1000000) :
    Calls Try.prog 26 #[.agg #[.int .i64 n.id, .int .i64 n.term, .int .i64 n.vote, .slice σ.A3 n.log.length σ.k3, .int .i64 n.form, .int .i64 n.role, .int .i64 n.commit, .slice σ.A7 n.votes.length σ.k7, .slice σ.A8 n.nxt.length σ.k8, .slice σ.A9 n.mtch.length σ.k9, .slice σ.A10 n.forms.length σ.k10, .int .i64 n.clock, .int .i64 n.due], .agg #[.int .i64 m.kind, .int .i64 m.frm, .int .i64 m.to, .int .i64 m.term, .int .i64 m.index, .int .i64 m.logTerm, .bool m.ok, .slice A m.entries.length c, .int .i64 m.commit, .int .i64 m.form]] w
      fun e w' => ∃ (τ : Sl5) (Ao : Option Addr) (ko : Nat), e = .returned (.tuple #[.agg #[.int .i64 (handleS n m).n.id, .int .i64 (handleS n m).n.term, .int .i64 (handleS n m).n.vote, .slice τ.A3 (handleS n m).n.log.length τ.k3, .int .i64 (handleS n m).n.form, .int .i64 (handleS n m).n.role, .int .i64 (handleS n m).n.commit, .slice τ.A7 (handleS n m).n.votes.length τ.k7, .slice τ.A8 (handleS n m).n.nxt.length τ.k8, .slice τ.A9 (handleS n m).n.mtch.length τ.k9, .slice τ.A10 (handleS n m).n.forms.length τ.k10, .int .i64 (handleS n m).n.clock, .int .i64 (handleS n m).n.due], .slice Ao (handleS n m).out.length ko]) ∧ NodeVs w' (fun j => w.heap.size ≤ j) (handleS n m).n τ ∧ MsgsV w' (fun j => w.heap.size ≤ j) (.slice Ao (handleS n m).out.length ko) (handleS n m).out ∧ Below w.heap.size w w' := by
  refine (handle_any w ok n _ _ _ _ _ h m A c ok2 hr l1 l2 l3 l4 l5 he hc0 hc1 hcm hz hx hy).mono ?_
  rintro e w' ⟨A3, k3, A7, k7, A8, k8, A9, k9, A10, k10, Ao, ko, rfl, hn, hm, hb⟩
  exact ⟨⟨A3, k3, A7, k7, A8, k8, A9, k9, A10, k10⟩, Ao, ko, rfl, hn, hm, hb⟩

set_option maxRecDepth 100000 in
set_option maxHeartbeats 4000000 in
theorem leads_law (a0 : Int) (v : Value) (l : List Int) (x0 : (Lit.int .i64 a0).wf = true) (w : World) (hr : MM.Rd w (fun j => j < w.heap.size) 1 v l.length (intsC l)) (hw : ∀ x, x ∈ l → (Lit.int .i64 x).wf = true) :
    Calls Try.prog 4 #[.int .i64 a0, v] w fun e w' => e = .returned (.bool true) ∧ Below w.heap.size w w' := by
  obtain ⟨A, c, rfl, _, _⟩ := hr.slice
  have HR := Lib.hid hr
  have HW := Lib.hid hw
  clear hr hw
  go_enter Try.func4, Try.ntmps4
  go_wp2_with fail
  refine (known_any _).mono ?_
  rintro e w1 ⟨rfl, hb1⟩
  have HB1 := Lib.hid hb1
  clear hb1
  go_wp2_with fail
  refine (within_fn _ a0 4 x0 (by omega) (by omega)).mono ?_
  rintro e w' ⟨rfl, rfl⟩
  have hq := wi_range a0 4 (by omega)
  obtain ⟨q, hq'⟩ : ∃ q : Nat, wi a0 4 = q := ⟨(wi a0 4).toNat, by omega⟩
  rw [hq'] at hq ⊢
  clear hq' x0
  go_wp2_with fail
  refine (new_c _ 0 1 (2 + q) (2 + q) (by omega) (by omega) (by omega) (by omega)).mono ?_
  rintro e w3 ⟨σ, rfl, hb3, hn3⟩
  rw [ln_new] at hn3 ⊢
  have HB3 := Lib.hid (HB1.out.trans (hb3.mono HB1.out.size))
  have HN3 := Lib.hid hn3
  clear hb3 hn3 HB1
  go_wp2_with fail
  obtain ⟨b, hb⟩ : ∃ b, b = w3.heap.size := ⟨_, rfl⟩
  have hwb : w.heap.size ≤ b := by rw [hb]; exact HB3.out.size
  rw [← hb]
  obtain ⟨w4, hw4⟩ : ∃ W, W = w3.alloc (.cells #[.int .i64 (ln (2 + q) 0).id, .int .i64 (ln (2 + q) 0).term, .int .i64 (ln (2 + q) 0).vote, .slice σ.A3 (ln (2 + q) 0).log.length σ.k3, .int .i64 (ln (2 + q) 0).form, .int .i64 (ln (2 + q) 0).role, .int .i64 (ln (2 + q) 0).commit, .slice σ.A7 (ln (2 + q) 0).votes.length σ.k7, .slice σ.A8 (ln (2 + q) 0).nxt.length σ.k8, .slice σ.A9 (ln (2 + q) 0).mtch.length σ.k9, .slice σ.A10 (ln (2 + q) 0).forms.length σ.k10, .int .i64 (ln (2 + q) 0).clock, .int .i64 (ln (2 + q) 0).due] 28) := ⟨_, rfl⟩
  have qX4 : ((w3.alloc (.cells #[.int .i64 (ln (2 + q) 0).id, .int .i64 (ln (2 + q) 0).term, .int .i64 (ln (2 + q) 0).vote, .slice σ.A3 (ln (2 + q) 0).log.length σ.k3, .int .i64 (ln (2 + q) 0).form, .int .i64 (ln (2 + q) 0).role, .int .i64 (ln (2 + q) 0).commit, .slice σ.A7 (ln (2 + q) 0).votes.length σ.k7, .slice σ.A8 (ln (2 + q) 0).nxt.length σ.k8, .slice σ.A9 (ln (2 + q) 0).mtch.length σ.k9, .slice σ.A10 (ln (2 + q) 0).forms.length σ.k10, .int .i64 (ln (2 + q) 0).clock, .int .i64 (ln (2 + q) 0).due] 28))).heap[b]? = some (.cells #[.int .i64 (ln (2 + q) 0).id, .int .i64 (ln (2 + q) 0).term, .int .i64 (ln (2 + q) 0).vote, .slice σ.A3 (ln (2 + q) 0).log.length σ.k3, .int .i64 (ln (2 + q) 0).form, .int .i64 (ln (2 + q) 0).role, .int .i64 (ln (2 + q) 0).commit, .slice σ.A7 (ln (2 + q) 0).votes.length σ.k7, .slice σ.A8 (ln (2 + q) 0).nxt.length σ.k8, .slice σ.A9 (ln (2 + q) 0).mtch.length σ.k9, .slice σ.A10 (ln (2 + q) 0).forms.length σ.k10, .int .i64 (ln (2 + q) 0).clock, .int .i64 (ln (2 + q) 0).due] 28 (0, 0)) := by rw [hb]; exact MM.alloc_new w3 _
  have qN4 : NodeVs (w3.alloc (.cells #[.int .i64 (ln (2 + q) 0).id, .int .i64 (ln (2 + q) 0).term, .int .i64 (ln (2 + q) 0).vote, .slice σ.A3 (ln (2 + q) 0).log.length σ.k3, .int .i64 (ln (2 + q) 0).form, .int .i64 (ln (2 + q) 0).role, .int .i64 (ln (2 + q) 0).commit, .slice σ.A7 (ln (2 + q) 0).votes.length σ.k7, .slice σ.A8 (ln (2 + q) 0).nxt.length σ.k8, .slice σ.A9 (ln (2 + q) 0).mtch.length σ.k9, .slice σ.A10 (ln (2 + q) 0).forms.length σ.k10, .int .i64 (ln (2 + q) 0).clock, .int .i64 (ln (2 + q) 0).due] 28)) (fun x => x ≠ b) (ln (2 + q) 0) σ := (HN3.out.mono (ok' := fun x => x ≠ b) fun x _ hx => by omega).step fun x _ hx => Below.heap_alloc _ _ _ hx
  have qB4 : Below w.heap.size w (w3.alloc (.cells #[.int .i64 (ln (2 + q) 0).id, .int .i64 (ln (2 + q) 0).term, .int .i64 (ln (2 + q) 0).vote, .slice σ.A3 (ln (2 + q) 0).log.length σ.k3, .int .i64 (ln (2 + q) 0).form, .int .i64 (ln (2 + q) 0).role, .int .i64 (ln (2 + q) 0).commit, .slice σ.A7 (ln (2 + q) 0).votes.length σ.k7, .slice σ.A8 (ln (2 + q) 0).nxt.length σ.k8, .slice σ.A9 (ln (2 + q) 0).mtch.length σ.k9, .slice σ.A10 (ln (2 + q) 0).forms.length σ.k10, .int .i64 (ln (2 + q) 0).clock, .int .i64 (ln (2 + q) 0).due] 28)) := HB3.out.alloc HB3.out.size _
  rw [← hw4] at qX4 qN4 qB4 ⊢
  have HX4 := Lib.hid qX4
  have HN4 := Lib.hid qN4
  have HB4 := Lib.hid qB4
  clear qX4 qN4 qB4 hw4 HN3 HB3
  clear hb
  go_loopw [7] (fun t7 wr => ∃ (j : Nat) (σ : Sl5), j ≤ 5 ∧ t7 = .int .i64 j ∧ Hid (wr.heap[b]? = some (.cells #[.int .i64 (ln (2 + q) j).id, .int .i64 (ln (2 + q) j).term, .int .i64 (ln (2 + q) j).vote, .slice σ.A3 (ln (2 + q) j).log.length σ.k3, .int .i64 (ln (2 + q) j).form, .int .i64 (ln (2 + q) j).role, .int .i64 (ln (2 + q) j).commit, .slice σ.A7 (ln (2 + q) j).votes.length σ.k7, .slice σ.A8 (ln (2 + q) j).nxt.length σ.k8, .slice σ.A9 (ln (2 + q) j).mtch.length σ.k9, .slice σ.A10 (ln (2 + q) j).forms.length σ.k10, .int .i64 (ln (2 + q) j).clock, .int .i64 (ln (2 + q) j).due] 28 (0, 0))) ∧ Hid (NodeVs wr (fun x => x ≠ b) (ln (2 + q) j) σ) ∧ Hid (Below w.heap.size w wr)) (fun t7 _ => 5 - (intOf t7).toNat)
  case atStart => exact ⟨0, σ, by omega, rfl, HX4, HN4, HB4⟩
  case round =>
    obtain ⟨j, σ, hj, rfl, HX, HN, HB⟩ := hrel
    clear HX4 HN4 HB4
    obtain ⟨p1, p2, p3, p4, p5, p6, p7, p8, p9⟩ := ln_facts (2 + q) j hj (by omega)
    have P := Lib.hid (And.intro p1 (And.intro p2 (And.intro p3 (And.intro p4 (And.intro p5 (And.intro p6 (And.intro p7 (And.intro p8 p9))))))))
    clear p1 p2 p3 p4 p5 p6 p7 p8 p9
    by_cases hlt : j < 5
    · have hltb : decide ((j : Int) < 5) = true := decide_eq_true (by omega)
      have c0 : wr.cell? ⟨b, 0, none⟩ = some (.int .i64 (ln (2 + q) j).id) := MM.cell_blk HX.out rfl
      have c1 : wr.cell? ⟨b, 1, none⟩ = some (.int .i64 (ln (2 + q) j).term) := MM.cell_blk HX.out rfl
      have c2 : wr.cell? ⟨b, 2, none⟩ = some (.int .i64 (ln (2 + q) j).vote) := MM.cell_blk HX.out rfl
      have c3 : wr.cell? ⟨b, 3, none⟩ = some (.slice σ.A3 (ln (2 + q) j).log.length σ.k3) := MM.cell_blk HX.out rfl
      have c4 : wr.cell? ⟨b, 4, none⟩ = some (.int .i64 (ln (2 + q) j).form) := MM.cell_blk HX.out rfl
      have c5 : wr.cell? ⟨b, 5, none⟩ = some (.int .i64 (ln (2 + q) j).role) := MM.cell_blk HX.out rfl
      have c6 : wr.cell? ⟨b, 6, none⟩ = some (.int .i64 (ln (2 + q) j).commit) := MM.cell_blk HX.out rfl
      have c7 : wr.cell? ⟨b, 7, none⟩ = some (.slice σ.A7 (ln (2 + q) j).votes.length σ.k7) := MM.cell_blk HX.out rfl
      have c8 : wr.cell? ⟨b, 8, none⟩ = some (.slice σ.A8 (ln (2 + q) j).nxt.length σ.k8) := MM.cell_blk HX.out rfl
      have c9 : wr.cell? ⟨b, 9, none⟩ = some (.slice σ.A9 (ln (2 + q) j).mtch.length σ.k9) := MM.cell_blk HX.out rfl
      have c10 : wr.cell? ⟨b, 10, none⟩ = some (.slice σ.A10 (ln (2 + q) j).forms.length σ.k10) := MM.cell_blk HX.out rfl
      have c11 : wr.cell? ⟨b, 11, none⟩ = some (.int .i64 (ln (2 + q) j).clock) := MM.cell_blk HX.out rfl
      have c12 : wr.cell? ⟨b, 12, none⟩ = some (.int .i64 (ln (2 + q) j).due) := MM.cell_blk HX.out rfl
      go_wp2_with fail
      refine (tick_c _ _ (ln (2 + q) j) σ HN.out (by rw [P.out.1]; omega) (by rw [P.out.2.1]; omega) (by rw [P.out.2.2.1, P.out.2.1]) (by rw [P.out.2.2.2.1]; omega) (by rw [P.out.2.2.2.2.1]; omega) (by have := P.out.2.2.2.2.2.1; omega) (by have := P.out.2.2.2.2.2.2.1; omega) (by rw [P.out.2.2.2.2.2.2.2.1]; omega) (by rw [P.out.2.2.2.2.2.2.2.1]; omega) P.out.2.2.2.2.2.2.2.2).mono ?_
      rintro e we ⟨τ, Ao, ko, rfl, hn, _, hbe⟩
      rw [ln_tick (by omega) hlt] at hn ⊢
      have hXe := (hbe.block b (MM.blk_lt HX.out)).trans HX.out
      have hbl := MM.blk_lt HX.out
      have HXe := Lib.hid hXe
      have HNe := Lib.hid (hn.mono (ok' := fun x => x ≠ b) fun x hx _ => by omega)
      have HBe := Lib.hid (HB.out.trans (hbe.mono HB.out.size))
      clear hn hbe hXe HX HN HB c0 c1 c2 c3 c4 c5 c6 c7 c8 c9 c10 c11 c12
      have y0 : we.cell? ⟨b, 0, none⟩ = some (.int .i64 (ln (2 + q) j).id) := MM.cell_blk HXe.out rfl
      have y1 : we.cell? ⟨b, 1, none⟩ = some (.int .i64 (ln (2 + q) j).term) := MM.cell_blk HXe.out rfl
      have y2 : we.cell? ⟨b, 2, none⟩ = some (.int .i64 (ln (2 + q) j).vote) := MM.cell_blk HXe.out rfl
      have y3 : we.cell? ⟨b, 3, none⟩ = some (.slice σ.A3 (ln (2 + q) j).log.length σ.k3) := MM.cell_blk HXe.out rfl
      have y4 : we.cell? ⟨b, 4, none⟩ = some (.int .i64 (ln (2 + q) j).form) := MM.cell_blk HXe.out rfl
      have y5 : we.cell? ⟨b, 5, none⟩ = some (.int .i64 (ln (2 + q) j).role) := MM.cell_blk HXe.out rfl
      have y6 : we.cell? ⟨b, 6, none⟩ = some (.int .i64 (ln (2 + q) j).commit) := MM.cell_blk HXe.out rfl
      have y7 : we.cell? ⟨b, 7, none⟩ = some (.slice σ.A7 (ln (2 + q) j).votes.length σ.k7) := MM.cell_blk HXe.out rfl
      have y8 : we.cell? ⟨b, 8, none⟩ = some (.slice σ.A8 (ln (2 + q) j).nxt.length σ.k8) := MM.cell_blk HXe.out rfl
      have y9 : we.cell? ⟨b, 9, none⟩ = some (.slice σ.A9 (ln (2 + q) j).mtch.length σ.k9) := MM.cell_blk HXe.out rfl
      have y10 : we.cell? ⟨b, 10, none⟩ = some (.slice σ.A10 (ln (2 + q) j).forms.length σ.k10) := MM.cell_blk HXe.out rfl
      have y11 : we.cell? ⟨b, 11, none⟩ = some (.int .i64 (ln (2 + q) j).clock) := MM.cell_blk HXe.out rfl
      have y12 : we.cell? ⟨b, 12, none⟩ = some (.int .i64 (ln (2 + q) j).due) := MM.cell_blk HXe.out rfl
      have g0 : we.frozen? ⟨b, 0, none⟩ = false := MM.free_blk HXe.out
      have g1 : we.frozen? ⟨b, 1, none⟩ = false := MM.free_blk HXe.out
      have g2 : we.frozen? ⟨b, 2, none⟩ = false := MM.free_blk HXe.out
      have g3 : we.frozen? ⟨b, 3, none⟩ = false := MM.free_blk HXe.out
      have g4 : we.frozen? ⟨b, 4, none⟩ = false := MM.free_blk HXe.out
      have g5 : we.frozen? ⟨b, 5, none⟩ = false := MM.free_blk HXe.out
      have g6 : we.frozen? ⟨b, 6, none⟩ = false := MM.free_blk HXe.out
      have g7 : we.frozen? ⟨b, 7, none⟩ = false := MM.free_blk HXe.out
      have g8 : we.frozen? ⟨b, 8, none⟩ = false := MM.free_blk HXe.out
      have g9 : we.frozen? ⟨b, 9, none⟩ = false := MM.free_blk HXe.out
      have g10 : we.frozen? ⟨b, 10, none⟩ = false := MM.free_blk HXe.out
      have g11 : we.frozen? ⟨b, 11, none⟩ = false := MM.free_blk HXe.out
      have g12 : we.frozen? ⟨b, 12, none⟩ = false := MM.free_blk HXe.out
      go_wp2_with fail
      have hXf : ((((((((((((((we).setCell ⟨b, 0, none⟩ (.int .i64 (ln (2 + q) (j + 1)).id)).setCell ⟨b, 1, none⟩ (.int .i64 (ln (2 + q) (j + 1)).term)).setCell ⟨b, 2, none⟩ (.int .i64 (ln (2 + q) (j + 1)).vote)).setCell ⟨b, 3, none⟩ (.slice τ.A3 (ln (2 + q) (j + 1)).log.length τ.k3)).setCell ⟨b, 4, none⟩ (.int .i64 (ln (2 + q) (j + 1)).form)).setCell ⟨b, 5, none⟩ (.int .i64 (ln (2 + q) (j + 1)).role)).setCell ⟨b, 6, none⟩ (.int .i64 (ln (2 + q) (j + 1)).commit)).setCell ⟨b, 7, none⟩ (.slice τ.A7 (ln (2 + q) (j + 1)).votes.length τ.k7)).setCell ⟨b, 8, none⟩ (.slice τ.A8 (ln (2 + q) (j + 1)).nxt.length τ.k8)).setCell ⟨b, 9, none⟩ (.slice τ.A9 (ln (2 + q) (j + 1)).mtch.length τ.k9)).setCell ⟨b, 10, none⟩ (.slice τ.A10 (ln (2 + q) (j + 1)).forms.length τ.k10)).setCell ⟨b, 11, none⟩ (.int .i64 (ln (2 + q) (j + 1)).clock)).setCell ⟨b, 12, none⟩ (.int .i64 (ln (2 + q) (j + 1)).due)).heap[b]? = some (.cells #[.int .i64 (ln (2 + q) (j + 1)).id, .int .i64 (ln (2 + q) (j + 1)).term, .int .i64 (ln (2 + q) (j + 1)).vote, .slice τ.A3 (ln (2 + q) (j + 1)).log.length τ.k3, .int .i64 (ln (2 + q) (j + 1)).form, .int .i64 (ln (2 + q) (j + 1)).role, .int .i64 (ln (2 + q) (j + 1)).commit, .slice τ.A7 (ln (2 + q) (j + 1)).votes.length τ.k7, .slice τ.A8 (ln (2 + q) (j + 1)).nxt.length τ.k8, .slice τ.A9 (ln (2 + q) (j + 1)).mtch.length τ.k9, .slice τ.A10 (ln (2 + q) (j + 1)).forms.length τ.k10, .int .i64 (ln (2 + q) (j + 1)).clock, .int .i64 (ln (2 + q) (j + 1)).due] 28 (0, 0)) := set13 HXe.out
      have hNf : NodeVs ((((((((((((((we).setCell ⟨b, 0, none⟩ (.int .i64 (ln (2 + q) (j + 1)).id)).setCell ⟨b, 1, none⟩ (.int .i64 (ln (2 + q) (j + 1)).term)).setCell ⟨b, 2, none⟩ (.int .i64 (ln (2 + q) (j + 1)).vote)).setCell ⟨b, 3, none⟩ (.slice τ.A3 (ln (2 + q) (j + 1)).log.length τ.k3)).setCell ⟨b, 4, none⟩ (.int .i64 (ln (2 + q) (j + 1)).form)).setCell ⟨b, 5, none⟩ (.int .i64 (ln (2 + q) (j + 1)).role)).setCell ⟨b, 6, none⟩ (.int .i64 (ln (2 + q) (j + 1)).commit)).setCell ⟨b, 7, none⟩ (.slice τ.A7 (ln (2 + q) (j + 1)).votes.length τ.k7)).setCell ⟨b, 8, none⟩ (.slice τ.A8 (ln (2 + q) (j + 1)).nxt.length τ.k8)).setCell ⟨b, 9, none⟩ (.slice τ.A9 (ln (2 + q) (j + 1)).mtch.length τ.k9)).setCell ⟨b, 10, none⟩ (.slice τ.A10 (ln (2 + q) (j + 1)).forms.length τ.k10)).setCell ⟨b, 11, none⟩ (.int .i64 (ln (2 + q) (j + 1)).clock)).setCell ⟨b, 12, none⟩ (.int .i64 (ln (2 + q) (j + 1)).due)) (fun x => x ≠ b) (ln (2 + q) (j + 1)) τ := HNe.out.step fun x hx _ => far13 hx
      have hBf : Below w.heap.size w ((((((((((((((we).setCell ⟨b, 0, none⟩ (.int .i64 (ln (2 + q) (j + 1)).id)).setCell ⟨b, 1, none⟩ (.int .i64 (ln (2 + q) (j + 1)).term)).setCell ⟨b, 2, none⟩ (.int .i64 (ln (2 + q) (j + 1)).vote)).setCell ⟨b, 3, none⟩ (.slice τ.A3 (ln (2 + q) (j + 1)).log.length τ.k3)).setCell ⟨b, 4, none⟩ (.int .i64 (ln (2 + q) (j + 1)).form)).setCell ⟨b, 5, none⟩ (.int .i64 (ln (2 + q) (j + 1)).role)).setCell ⟨b, 6, none⟩ (.int .i64 (ln (2 + q) (j + 1)).commit)).setCell ⟨b, 7, none⟩ (.slice τ.A7 (ln (2 + q) (j + 1)).votes.length τ.k7)).setCell ⟨b, 8, none⟩ (.slice τ.A8 (ln (2 + q) (j + 1)).nxt.length τ.k8)).setCell ⟨b, 9, none⟩ (.slice τ.A9 (ln (2 + q) (j + 1)).mtch.length τ.k9)).setCell ⟨b, 10, none⟩ (.slice τ.A10 (ln (2 + q) (j + 1)).forms.length τ.k10)).setCell ⟨b, 11, none⟩ (.int .i64 (ln (2 + q) (j + 1)).clock)).setCell ⟨b, 12, none⟩ (.int .i64 (ln (2 + q) (j + 1)).due)) := below13 HBe.out hwb
      have HXf := Lib.hid hXf
      have HNf := Lib.hid hNf
      have HBf := Lib.hid hBf
      clear hXf hNf hBf
      go_roundw
      case rel => exact ⟨j + 1, τ, by omega, by go_num, HXf, HNf, HBf⟩
      case measure => simp [intOf]; omega
    obtain rfl : j = 5 := by omega
    clear P
    have hcand := ln_cand (k := 2 + q) (by omega) (by omega)
    generalize ln (2 + q) 5 = n0 at hcand HX HN ⊢
    have HC := Lib.hid hcand
    have hbl := MM.blk_lt HX.out
    clear hcand
    go_wp2_with fail
    obtain ⟨d, hd⟩ : ∃ d, d = wr.heap.size := ⟨_, rfl⟩
    have hbd : b ≠ d := by omega
    have hwd : w.heap.size ≤ d := by have := HB.out.size; omega
    rw [← hd]
    obtain ⟨w5, hw5⟩ : ∃ W, W = wr.alloc (.cells #[.bool true, .bool false, .bool false, .bool false, .bool false] 36) := ⟨_, rfl⟩
    have qX5 : ((wr.alloc (.cells #[.bool true, .bool false, .bool false, .bool false, .bool false] 36))).heap[b]? = some (.cells #[.int .i64 n0.id, .int .i64 n0.term, .int .i64 n0.vote, .slice σ.A3 n0.log.length σ.k3, .int .i64 n0.form, .int .i64 n0.role, .int .i64 n0.commit, .slice σ.A7 n0.votes.length σ.k7, .slice σ.A8 n0.nxt.length σ.k8, .slice σ.A9 n0.mtch.length σ.k9, .slice σ.A10 n0.forms.length σ.k10, .int .i64 n0.clock, .int .i64 n0.due] 28 (0, 0)) := (Below.heap_alloc _ _ _ hbl).trans HX.out
    have qD5 : ((wr.alloc (.cells #[.bool true, .bool false, .bool false, .bool false, .bool false] 36))).heap[d]? = some (.cells (boolsC [true, false, false, false, false]).toArray 36 (0, 0)) := by rw [hd]; exact MM.alloc_new wr _
    have qN5 : NodeVs (wr.alloc (.cells #[.bool true, .bool false, .bool false, .bool false, .bool false] 36)) (fun x => x ≠ b ∧ x ≠ d) n0 σ := (HN.out.mono (ok' := fun x => x ≠ b ∧ x ≠ d) fun x hx hy => by have : x ≠ b := hx; constructor <;> omega).step fun x _ hx => Below.heap_alloc _ _ _ hx
    have qB5 : Below w.heap.size w (wr.alloc (.cells #[.bool true, .bool false, .bool false, .bool false, .bool false] 36)) := HB.out.alloc HB.out.size _
    rw [← hw5] at qX5 qD5 qN5 qB5 ⊢
    have HX5 := Lib.hid qX5
    have HD5 := Lib.hid qD5
    have HN5 := Lib.hid qN5
    have HB5 := Lib.hid qB5
    clear qX5 qD5 qN5 qB5 hw5 HX HN HB
    clear hd
    go_loopw [9, 10] (fun t9 t10 wr => ∃ (i : Nat) (n : Fed.Node) (has : List Bool) (σ : Sl5), i ≤ l.length ∧ t9 = .int .i64 (countT has) ∧ t10 = .int .i64 i ∧ Hid (Cand (2 + q) n has) ∧ Hid (wr.heap[b]? = some (.cells #[.int .i64 n.id, .int .i64 n.term, .int .i64 n.vote, .slice σ.A3 n.log.length σ.k3, .int .i64 n.form, .int .i64 n.role, .int .i64 n.commit, .slice σ.A7 n.votes.length σ.k7, .slice σ.A8 n.nxt.length σ.k8, .slice σ.A9 n.mtch.length σ.k9, .slice σ.A10 n.forms.length σ.k10, .int .i64 n.clock, .int .i64 n.due] 28 (0, 0))) ∧ Hid (wr.heap[d]? = some (.cells (boolsC has).toArray 36 (0, 0))) ∧ Hid (NodeVs wr (fun x => x ≠ b ∧ x ≠ d) n σ) ∧ Hid (Below w.heap.size w wr)) (fun _ t10 _ => l.length - (intOf t10).toNat)
    case atStart => exact ⟨0, n0, [true, false, false, false, false], σ, by omega, rfl, rfl, HC, HX5, HD5, HN5, HB5⟩
    case round =>
      obtain ⟨i, n, has, τ, hi, rfl, rfl, HCD, HX, HD, HN, HB⟩ := hrel
      clear HX5 HD5 HN5 HB5 HC
      have hcl : countT has ≤ 5 := by have h1 := countT_le has; have h2 := HCD.out.hl; omega
      by_cases hlt : i < l.length ∧ i < 12
      case neg =>
        have c1 : wr.cell? ⟨b, 1, none⟩ = some (.int .i64 n.term) := MM.cell_blk HX.out rfl
        have hnt : (n.term == 1) = true := by rw [HCD.out.term]; rfl
        by_cases h1 : i < l.length
        · have h1b : decide ((i : Int) < (l.length : Int)) = true := decide_eq_true (by omega)
          have h2b : decide ((i : Int) < 12) = false := decide_eq_false (by omega)
          go_wp2_with fail
          go_ret
          exact ⟨rfl, HB.out⟩
        · have h1b : decide ((i : Int) < (l.length : Int)) = false := decide_eq_false (by omega)
          go_wp2_with fail
          go_ret
          exact ⟨rfl, HB.out⟩
      obtain ⟨hl1, hl2⟩ := hlt
      have h1b : decide ((i : Int) < (l.length : Int)) = true := decide_eq_true (by omega)
      have h2b : decide ((i : Int) < 12) = true := decide_eq_true (by omega)
      have hrd := HR.out.step (w1 := wr) (fun x hx _ => HB.out.block x hx)
      obtain ⟨_, A', c', ea, hc1, hc2, hrest⟩ := hrd
      injection ea with ea1 _ ea2
      subst ea1 ea2
      obtain ⟨be, oe, rfl, _, _, hcell⟩ := hrest (by omega)
      have x0 : wr.cell? ⟨be, oe + i, none⟩ = some (.int .i64 (l.getD i 0)) := hcell _ _ (intsC_get hl1)
      have HXW := Lib.hid (HW.out (l.getD i 0) (by rw [List.getD_eq_getElem?_getD, List.getElem?_eq_getElem hl1]; exact List.getElem_mem hl1))
      clear hcell hrest
      generalize l.getD i 0 = x at x0 HXW
      go_wp2_with fail
      refine (within_big _ x 1048576 HXW.out (by omega) (by omega)).mono ?_
      rintro e w' ⟨rfl, rfl⟩
      have hv := wi_range x 1048576 (by omega)
      generalize wi x 1048576 = v at hv ⊢
      have hqz : ((2 : Int) + q - 1 == 0) = false := by simp; omega
      go_upto_region 17 with (fail)
      obtain ⟨f, hf, hf1, hf2⟩ : ∃ f : Nat, wrap64 (1 + v % (2 + (q : Int) - 1)) = f ∧ 1 ≤ f ∧ f < 2 + q := by
        have h1 := Int.emod_nonneg v (b := 2 + (q : Int) - 1) (by omega)
        have h2 := Int.emod_lt_of_pos v (b := 2 + (q : Int) - 1) (by omega)
        refine ⟨1 + (v % (2 + (q : Int) - 1)).toNat, ?_, by omega, by omega⟩
        unfold wrap64
        omega
      rw [hf]
      clear hf hqz
      generalize decide (0 < v / 8 % 4) = okb
      clear hv
      obtain ⟨hcd2, hol⟩ := HCD.out.step (by omega) (by omega) hf2 okb
      have c0 : wr.cell? ⟨b, 0, none⟩ = some (.int .i64 n.id) := MM.cell_blk HX.out rfl
      have c1 : wr.cell? ⟨b, 1, none⟩ = some (.int .i64 n.term) := MM.cell_blk HX.out rfl
      have c2 : wr.cell? ⟨b, 2, none⟩ = some (.int .i64 n.vote) := MM.cell_blk HX.out rfl
      have c3 : wr.cell? ⟨b, 3, none⟩ = some (.slice τ.A3 n.log.length τ.k3) := MM.cell_blk HX.out rfl
      have c4 : wr.cell? ⟨b, 4, none⟩ = some (.int .i64 n.form) := MM.cell_blk HX.out rfl
      have c5 : wr.cell? ⟨b, 5, none⟩ = some (.int .i64 n.role) := MM.cell_blk HX.out rfl
      have c6 : wr.cell? ⟨b, 6, none⟩ = some (.int .i64 n.commit) := MM.cell_blk HX.out rfl
      have c7 : wr.cell? ⟨b, 7, none⟩ = some (.slice τ.A7 n.votes.length τ.k7) := MM.cell_blk HX.out rfl
      have c8 : wr.cell? ⟨b, 8, none⟩ = some (.slice τ.A8 n.nxt.length τ.k8) := MM.cell_blk HX.out rfl
      have c9 : wr.cell? ⟨b, 9, none⟩ = some (.slice τ.A9 n.mtch.length τ.k9) := MM.cell_blk HX.out rfl
      have c10 : wr.cell? ⟨b, 10, none⟩ = some (.slice τ.A10 n.forms.length τ.k10) := MM.cell_blk HX.out rfl
      have c11 : wr.cell? ⟨b, 11, none⟩ = some (.int .i64 n.clock) := MM.cell_blk HX.out rfl
      have c12 : wr.cell? ⟨b, 12, none⟩ = some (.int .i64 n.due) := MM.cell_blk HX.out rfl
      go_wp2_with fail
      refine (handle_c _ _ n τ HN.out (vmsg f okb) none 0 (fun _ => True) (MM.Rd.nil _ _ _ _ _ (by simp [maxLen])) (by have := HCD.out; rcases this.st with h | h; rw [h.2.2.1]; simp; rw [h.2.2]; omega) (by rw [HCD.out.votes]; omega) (by rw [HCD.out.nxt, HCD.out.votes]) (by rw [HCD.out.mtch, HCD.out.votes]) (by rw [HCD.out.forms, HCD.out.votes]) (by simp [vmsg]) (by rw [HCD.out.clock]; omega) (by rw [HCD.out.clock]; omega) (by rw [HCD.out.commit]; omega) ⟨by simp [vmsg], by simp [vmsg]⟩ HCD.out.nb HCD.out.mb).mono ?_
      rintro e we ⟨ρ, Ao, ko, rfl, hn, _, hbe⟩
      generalize handleS n (vmsg f okb) = s at hcd2 hol hn ⊢
      have hXe := (hbe.block b (MM.blk_lt HX.out)).trans HX.out
      have hDe := (hbe.block d (MM.blk_lt HD.out)).trans HD.out
      have hbl := MM.blk_lt HX.out
      have hdl := MM.blk_lt HD.out
      have hsw := hbe.size
      have HCD2 := Lib.hid hcd2
      have HOL := Lib.hid hol
      have HBe := Lib.hid (HB.out.trans (hbe.mono HB.out.size))
      have HNe := Lib.hid (hn.mono (ok' := fun x => x ≠ b ∧ x ≠ d ∧ x ≠ we.heap.size) fun x hx _ => by refine ⟨?_, ?_, ?_⟩ <;> omega)
      clear hcd2 hol hn hbe c0 c1 c2 c3 c4 c5 c6 c7 c8 c9 c10 c11 c12
      go_upto_region 18 with (fail)
      obtain ⟨e1, he1⟩ : ∃ e1, e1 = we.heap.size := ⟨_, rfl⟩
      have heb : e1 ≠ b := by omega
      have hed : e1 ≠ d := by omega
      have hwe : w.heap.size ≤ e1 := by omega
      rw [← he1] at HNe ⊢
      obtain ⟨w6, hw6⟩ : ∃ W, W = we.alloc (.cells #[.int .i64 s.n.id, .int .i64 s.n.term, .int .i64 s.n.vote, .slice ρ.A3 s.n.log.length ρ.k3, .int .i64 s.n.form, .int .i64 s.n.role, .int .i64 s.n.commit, .slice ρ.A7 s.n.votes.length ρ.k7, .slice ρ.A8 s.n.nxt.length ρ.k8, .slice ρ.A9 s.n.mtch.length ρ.k9, .slice ρ.A10 s.n.forms.length ρ.k10, .int .i64 s.n.clock, .int .i64 s.n.due] 28) := ⟨_, rfl⟩
      have qX6 : ((we.alloc (.cells #[.int .i64 s.n.id, .int .i64 s.n.term, .int .i64 s.n.vote, .slice ρ.A3 s.n.log.length ρ.k3, .int .i64 s.n.form, .int .i64 s.n.role, .int .i64 s.n.commit, .slice ρ.A7 s.n.votes.length ρ.k7, .slice ρ.A8 s.n.nxt.length ρ.k8, .slice ρ.A9 s.n.mtch.length ρ.k9, .slice ρ.A10 s.n.forms.length ρ.k10, .int .i64 s.n.clock, .int .i64 s.n.due] 28))).heap[b]? = some (.cells #[.int .i64 n.id, .int .i64 n.term, .int .i64 n.vote, .slice τ.A3 n.log.length τ.k3, .int .i64 n.form, .int .i64 n.role, .int .i64 n.commit, .slice τ.A7 n.votes.length τ.k7, .slice τ.A8 n.nxt.length τ.k8, .slice τ.A9 n.mtch.length τ.k9, .slice τ.A10 n.forms.length τ.k10, .int .i64 n.clock, .int .i64 n.due] 28 (0, 0)) := (Below.heap_alloc _ _ _ (by omega)).trans hXe
      have qD6 : ((we.alloc (.cells #[.int .i64 s.n.id, .int .i64 s.n.term, .int .i64 s.n.vote, .slice ρ.A3 s.n.log.length ρ.k3, .int .i64 s.n.form, .int .i64 s.n.role, .int .i64 s.n.commit, .slice ρ.A7 s.n.votes.length ρ.k7, .slice ρ.A8 s.n.nxt.length ρ.k8, .slice ρ.A9 s.n.mtch.length ρ.k9, .slice ρ.A10 s.n.forms.length ρ.k10, .int .i64 s.n.clock, .int .i64 s.n.due] 28))).heap[d]? = some (.cells (boolsC has).toArray 36 (0, 0)) := (Below.heap_alloc _ _ _ (by omega)).trans hDe
      have qE6 : ((we.alloc (.cells #[.int .i64 s.n.id, .int .i64 s.n.term, .int .i64 s.n.vote, .slice ρ.A3 s.n.log.length ρ.k3, .int .i64 s.n.form, .int .i64 s.n.role, .int .i64 s.n.commit, .slice ρ.A7 s.n.votes.length ρ.k7, .slice ρ.A8 s.n.nxt.length ρ.k8, .slice ρ.A9 s.n.mtch.length ρ.k9, .slice ρ.A10 s.n.forms.length ρ.k10, .int .i64 s.n.clock, .int .i64 s.n.due] 28))).heap[e1]? = some (.cells #[.int .i64 s.n.id, .int .i64 s.n.term, .int .i64 s.n.vote, .slice ρ.A3 s.n.log.length ρ.k3, .int .i64 s.n.form, .int .i64 s.n.role, .int .i64 s.n.commit, .slice ρ.A7 s.n.votes.length ρ.k7, .slice ρ.A8 s.n.nxt.length ρ.k8, .slice ρ.A9 s.n.mtch.length ρ.k9, .slice ρ.A10 s.n.forms.length ρ.k10, .int .i64 s.n.clock, .int .i64 s.n.due] 28 (0, 0)) := by rw [he1]; exact MM.alloc_new we _
      have qN6 : NodeVs (we.alloc (.cells #[.int .i64 s.n.id, .int .i64 s.n.term, .int .i64 s.n.vote, .slice ρ.A3 s.n.log.length ρ.k3, .int .i64 s.n.form, .int .i64 s.n.role, .int .i64 s.n.commit, .slice ρ.A7 s.n.votes.length ρ.k7, .slice ρ.A8 s.n.nxt.length ρ.k8, .slice ρ.A9 s.n.mtch.length ρ.k9, .slice ρ.A10 s.n.forms.length ρ.k10, .int .i64 s.n.clock, .int .i64 s.n.due] 28)) (fun x => x ≠ b ∧ x ≠ d ∧ x ≠ e1) s.n ρ := HNe.out.step fun x _ hx => Below.heap_alloc _ _ _ hx
      have qB6 : Below w.heap.size w (we.alloc (.cells #[.int .i64 s.n.id, .int .i64 s.n.term, .int .i64 s.n.vote, .slice ρ.A3 s.n.log.length ρ.k3, .int .i64 s.n.form, .int .i64 s.n.role, .int .i64 s.n.commit, .slice ρ.A7 s.n.votes.length ρ.k7, .slice ρ.A8 s.n.nxt.length ρ.k8, .slice ρ.A9 s.n.mtch.length ρ.k9, .slice ρ.A10 s.n.forms.length ρ.k10, .int .i64 s.n.clock, .int .i64 s.n.due] 28)) := HBe.out.alloc HBe.out.size _
      rw [← hw6] at qX6 qD6 qE6 qN6 qB6 ⊢
      have HX6 := Lib.hid qX6
      have HD6 := Lib.hid qD6
      have HE6 := Lib.hid qE6
      have HN6 := Lib.hid qN6
      have HB6 := Lib.hid qB6
      clear qX6 qD6 qE6 qN6 qB6 hw6
      clear he1 hXe hDe HX HD HN HB HNe HBe x0 h1b h2b
      go_upto_region 19 with (fail)
      obtain ⟨was, hwas⟩ : ∃ was, was = decide ((2 : Int) + q < 2 * (countT has : Int)) := ⟨_, rfl⟩
      rw [← hwas]
      have HWAS := Lib.hid hwas
      clear hwas
      have hfh : f < has.length := by rw [HCD.out.hl]; omega
      have df : w6.cell? ⟨d, f, none⟩ = some (.bool (has.getD f false)) := MM.cell_blk HD6.out (by simpa using boolsC_get hfh)
      have dz : w6.frozen? ⟨d, f, none⟩ = false := MM.free_blk HD6.out
      have hf5 : f < 5 := by omega
      have hf5i : (f : Int) < 5 := by omega
      have HFH := Lib.hid hfh
      clear hfh
      obtain ⟨hasf, hhf⟩ : ∃ hasf, hasf = has.getD f false := ⟨_, rfl⟩
      rw [← hhf] at df
      have HHF := Lib.hid hhf
      clear hhf
      go_cut [81] (fun v81 wc => v81 = .bool (okb && !hasf && !was) ∧ w6 = wc)
      case first =>
        cases okb
        · go_wp2_with fail
          go_meet
          case rel => exact ⟨rfl, rfl⟩
        · cases hasf
          · go_wp2_with fail
            go_meet
            case rel => exact ⟨by simp, rfl⟩
          · go_wp2_with fail
            go_meet
            case rel => exact ⟨rfl, rfl⟩
      case rest =>
        obtain ⟨rfl, rfl⟩ := hcut
        go_upto_if 81 with (fail)
        go_cut [9] (fun v9 wc => v9 = .int .i64 (countT (hasNext (2 + q) has f okb)) ∧ Hid (wc.heap[b]? = some (.cells #[.int .i64 n.id, .int .i64 n.term, .int .i64 n.vote, .slice τ.A3 n.log.length τ.k3, .int .i64 n.form, .int .i64 n.role, .int .i64 n.commit, .slice τ.A7 n.votes.length τ.k7, .slice τ.A8 n.nxt.length τ.k8, .slice τ.A9 n.mtch.length τ.k9, .slice τ.A10 n.forms.length τ.k10, .int .i64 n.clock, .int .i64 n.due] 28 (0, 0))) ∧ Hid (wc.heap[d]? = some (.cells (boolsC (hasNext (2 + q) has f okb)).toArray 36 (0, 0))) ∧ Hid (wc.heap[e1]? = some (.cells #[.int .i64 s.n.id, .int .i64 s.n.term, .int .i64 s.n.vote, .slice ρ.A3 s.n.log.length ρ.k3, .int .i64 s.n.form, .int .i64 s.n.role, .int .i64 s.n.commit, .slice ρ.A7 s.n.votes.length ρ.k7, .slice ρ.A8 s.n.nxt.length ρ.k8, .slice ρ.A9 s.n.mtch.length ρ.k9, .slice ρ.A10 s.n.forms.length ρ.k10, .int .i64 s.n.clock, .int .i64 s.n.due] 28 (0, 0))) ∧ Hid (NodeVs wc (fun x => x ≠ b ∧ x ≠ d ∧ x ≠ e1) s.n ρ) ∧ Hid (Below w.heap.size w wc))
        case first =>
          by_cases hb : (okb && !hasf && !was) = true
          · have HBB := Lib.hid hb
            simp only [hb]
            clear hb
            have HNX := Lib.hid (show hasNext (2 + q) has f okb = has.set f true ∧ countT (has.set f true) = countT has + 1 from by
              have h1 := HBB.out
              have h2 := HWAS.out
              simp only [Bool.and_eq_true, Bool.not_eq_true'] at h1
              rw [h1.2] at h2
              have h3 : ¬ ((2 : Int) + q < 2 * (countT has : Int)) := of_decide_eq_false h2.symm
              refine ⟨by unfold hasNext; rw [if_pos ⟨h1.1.1, by omega⟩], ?_⟩
              rw [countT_set HFH.out, if_neg (by rw [← HHF.out, h1.1.2]; decide)])
            go_wp2_with fail
            go_meet
            case rel => exact ⟨by rw [HNX.out.1, HNX.out.2]; go_num, Lib.hid (ret_far HX6.out (p := ⟨d, _, none⟩) hbd _), Lib.hid (by rw [HNX.out.1]; refine (setCell_blk _ HD6.out).trans ?_; simp [boolsC, List.map_set]), Lib.hid (ret_far HE6.out (p := ⟨d, _, none⟩) hed _), Lib.hid (HN6.out.step fun x hx _ => Below.heap_setCell _ _ _ x hx.2.1), Lib.hid (HB6.out.setCell (p := ⟨d, _, none⟩) hwd _)⟩
          · have hb : (okb && !hasf && !was) = false := by simpa using hb
            have HBB := Lib.hid hb
            simp only [hb]
            clear hb
            have HNX := Lib.hid (show hasNext (2 + q) has f okb = has from by
              have h1 := HBB.out
              have h2 := HWAS.out
              unfold hasNext
              split
              · rename_i h3
                have h4 : was = false := by rw [h2]; exact decide_eq_false (by omega)
                rw [h3.1, h4] at h1
                have h5 : has.getD f false = true := by rw [← HHF.out]; simpa using h1
                have h6 : has[f]'HFH.out = true := by rw [List.getD_eq_getElem?_getD, List.getElem?_eq_getElem HFH.out] at h5; simpa using h5
                rw [← h6, List.set_getElem_self]
              · rfl)
            go_wp2_with fail
            go_meet
            case rel => exact ⟨by rw [HNX.out], HX6, by rw [HNX.out]; exact HD6, HE6, HN6, HB6⟩
        case rest =>
          obtain ⟨rfl, HX7, HD7, HE7, HN7, HB7⟩ := hcut
          clear HX6 HD6 HE6 HN6 HB6 df dz
          have hcl7 : countT (hasNext (2 + q) has f okb) ≤ 5 := by have h1 := countT_le (hasNext (2 + q) has f okb); have h2 := HCD2.out.hl; omega
          have ce0 : wc.cell? ⟨e1, 0, none⟩ = some (.int .i64 s.n.id) := MM.cell_blk HE7.out rfl
          have ce1 : wc.cell? ⟨e1, 1, none⟩ = some (.int .i64 s.n.term) := MM.cell_blk HE7.out rfl
          have ce2 : wc.cell? ⟨e1, 2, none⟩ = some (.int .i64 s.n.vote) := MM.cell_blk HE7.out rfl
          have ce3 : wc.cell? ⟨e1, 3, none⟩ = some (.slice ρ.A3 s.n.log.length ρ.k3) := MM.cell_blk HE7.out rfl
          have ce4 : wc.cell? ⟨e1, 4, none⟩ = some (.int .i64 s.n.form) := MM.cell_blk HE7.out rfl
          have ce5 : wc.cell? ⟨e1, 5, none⟩ = some (.int .i64 s.n.role) := MM.cell_blk HE7.out rfl
          have ce6 : wc.cell? ⟨e1, 6, none⟩ = some (.int .i64 s.n.commit) := MM.cell_blk HE7.out rfl
          have ce7 : wc.cell? ⟨e1, 7, none⟩ = some (.slice ρ.A7 s.n.votes.length ρ.k7) := MM.cell_blk HE7.out rfl
          have ce8 : wc.cell? ⟨e1, 8, none⟩ = some (.slice ρ.A8 s.n.nxt.length ρ.k8) := MM.cell_blk HE7.out rfl
          have ce9 : wc.cell? ⟨e1, 9, none⟩ = some (.slice ρ.A9 s.n.mtch.length ρ.k9) := MM.cell_blk HE7.out rfl
          have ce10 : wc.cell? ⟨e1, 10, none⟩ = some (.slice ρ.A10 s.n.forms.length ρ.k10) := MM.cell_blk HE7.out rfl
          have ce11 : wc.cell? ⟨e1, 11, none⟩ = some (.int .i64 s.n.clock) := MM.cell_blk HE7.out rfl
          have ce12 : wc.cell? ⟨e1, 12, none⟩ = some (.int .i64 s.n.due) := MM.cell_blk HE7.out rfl
          have y0 : wc.cell? ⟨b, 0, none⟩ = some (.int .i64 n.id) := MM.cell_blk HX7.out rfl
          have y1 : wc.cell? ⟨b, 1, none⟩ = some (.int .i64 n.term) := MM.cell_blk HX7.out rfl
          have y2 : wc.cell? ⟨b, 2, none⟩ = some (.int .i64 n.vote) := MM.cell_blk HX7.out rfl
          have y3 : wc.cell? ⟨b, 3, none⟩ = some (.slice τ.A3 n.log.length τ.k3) := MM.cell_blk HX7.out rfl
          have y4 : wc.cell? ⟨b, 4, none⟩ = some (.int .i64 n.form) := MM.cell_blk HX7.out rfl
          have y5 : wc.cell? ⟨b, 5, none⟩ = some (.int .i64 n.role) := MM.cell_blk HX7.out rfl
          have y6 : wc.cell? ⟨b, 6, none⟩ = some (.int .i64 n.commit) := MM.cell_blk HX7.out rfl
          have y7 : wc.cell? ⟨b, 7, none⟩ = some (.slice τ.A7 n.votes.length τ.k7) := MM.cell_blk HX7.out rfl
          have y8 : wc.cell? ⟨b, 8, none⟩ = some (.slice τ.A8 n.nxt.length τ.k8) := MM.cell_blk HX7.out rfl
          have y9 : wc.cell? ⟨b, 9, none⟩ = some (.slice τ.A9 n.mtch.length τ.k9) := MM.cell_blk HX7.out rfl
          have y10 : wc.cell? ⟨b, 10, none⟩ = some (.slice τ.A10 n.forms.length τ.k10) := MM.cell_blk HX7.out rfl
          have y11 : wc.cell? ⟨b, 11, none⟩ = some (.int .i64 n.clock) := MM.cell_blk HX7.out rfl
          have y12 : wc.cell? ⟨b, 12, none⟩ = some (.int .i64 n.due) := MM.cell_blk HX7.out rfl
          have g0 : wc.frozen? ⟨b, 0, none⟩ = false := MM.free_blk HX7.out
          have g1 : wc.frozen? ⟨b, 1, none⟩ = false := MM.free_blk HX7.out
          have g2 : wc.frozen? ⟨b, 2, none⟩ = false := MM.free_blk HX7.out
          have g3 : wc.frozen? ⟨b, 3, none⟩ = false := MM.free_blk HX7.out
          have g4 : wc.frozen? ⟨b, 4, none⟩ = false := MM.free_blk HX7.out
          have g5 : wc.frozen? ⟨b, 5, none⟩ = false := MM.free_blk HX7.out
          have g6 : wc.frozen? ⟨b, 6, none⟩ = false := MM.free_blk HX7.out
          have g7 : wc.frozen? ⟨b, 7, none⟩ = false := MM.free_blk HX7.out
          have g8 : wc.frozen? ⟨b, 8, none⟩ = false := MM.free_blk HX7.out
          have g9 : wc.frozen? ⟨b, 9, none⟩ = false := MM.free_blk HX7.out
          have g10 : wc.frozen? ⟨b, 10, none⟩ = false := MM.free_blk HX7.out
          have g11 : wc.frozen? ⟨b, 11, none⟩ = false := MM.free_blk HX7.out
          have g12 : wc.frozen? ⟨b, 12, none⟩ = false := MM.free_blk HX7.out
          have hnames : True := trivial
          by_cases hm : (2 : Int) + q < 2 * (countT (hasNext (2 + q) has f okb) : Int)
          · have hmb : decide ((2 : Int) + q < 2 * (countT (hasNext (2 + q) has f okb) : Int)) = true := decide_eq_true hm
            have hst := HCD2.out.st
            have hst2 : s.n.role = 2 ∧ s.n.log.length = 1 := by
              rcases hst with h | h
              · omega
              · exact h.2
            have hr2 : (s.n.role == 2) = true := by rw [hst2.1]; rfl
            have hl2 : ((s.n.log.length : Int) != 1) = false := by rw [hst2.2]; rfl
            clear hst hst2
            cases hws : was
            · have ho : s.out.length = 2 + q - 1 := by
                rw [HOL.out, if_pos]
                have h2 := HWAS.out
                rw [hws] at h2
                have h3 : ¬ ((2 : Int) + q < 2 * (countT has : Int)) := of_decide_eq_false h2.symm
                exact ⟨by omega, by omega⟩
              have hob : ((s.out.length : Int) != 2 + q - 1) = false := by simp; omega
              clear ho hm hws
              go_upto_region 27 with (fail)
              clear hr2 hl2 hob hmb
              go_wp2_with fail
              have HXf := Lib.hid (show ((((((((((((((wc).setCell ⟨b, 0, none⟩ (.int .i64 s.n.id)).setCell ⟨b, 1, none⟩ (.int .i64 s.n.term)).setCell ⟨b, 2, none⟩ (.int .i64 s.n.vote)).setCell ⟨b, 3, none⟩ (.slice ρ.A3 s.n.log.length ρ.k3)).setCell ⟨b, 4, none⟩ (.int .i64 s.n.form)).setCell ⟨b, 5, none⟩ (.int .i64 s.n.role)).setCell ⟨b, 6, none⟩ (.int .i64 s.n.commit)).setCell ⟨b, 7, none⟩ (.slice ρ.A7 s.n.votes.length ρ.k7)).setCell ⟨b, 8, none⟩ (.slice ρ.A8 s.n.nxt.length ρ.k8)).setCell ⟨b, 9, none⟩ (.slice ρ.A9 s.n.mtch.length ρ.k9)).setCell ⟨b, 10, none⟩ (.slice ρ.A10 s.n.forms.length ρ.k10)).setCell ⟨b, 11, none⟩ (.int .i64 s.n.clock)).setCell ⟨b, 12, none⟩ (.int .i64 s.n.due)).heap[b]? = some (.cells #[.int .i64 s.n.id, .int .i64 s.n.term, .int .i64 s.n.vote, .slice ρ.A3 s.n.log.length ρ.k3, .int .i64 s.n.form, .int .i64 s.n.role, .int .i64 s.n.commit, .slice ρ.A7 s.n.votes.length ρ.k7, .slice ρ.A8 s.n.nxt.length ρ.k8, .slice ρ.A9 s.n.mtch.length ρ.k9, .slice ρ.A10 s.n.forms.length ρ.k10, .int .i64 s.n.clock, .int .i64 s.n.due] 28 (0, 0)) from set13 HX7.out)
              have HDf := Lib.hid (show ((((((((((((((wc).setCell ⟨b, 0, none⟩ (.int .i64 s.n.id)).setCell ⟨b, 1, none⟩ (.int .i64 s.n.term)).setCell ⟨b, 2, none⟩ (.int .i64 s.n.vote)).setCell ⟨b, 3, none⟩ (.slice ρ.A3 s.n.log.length ρ.k3)).setCell ⟨b, 4, none⟩ (.int .i64 s.n.form)).setCell ⟨b, 5, none⟩ (.int .i64 s.n.role)).setCell ⟨b, 6, none⟩ (.int .i64 s.n.commit)).setCell ⟨b, 7, none⟩ (.slice ρ.A7 s.n.votes.length ρ.k7)).setCell ⟨b, 8, none⟩ (.slice ρ.A8 s.n.nxt.length ρ.k8)).setCell ⟨b, 9, none⟩ (.slice ρ.A9 s.n.mtch.length ρ.k9)).setCell ⟨b, 10, none⟩ (.slice ρ.A10 s.n.forms.length ρ.k10)).setCell ⟨b, 11, none⟩ (.int .i64 s.n.clock)).setCell ⟨b, 12, none⟩ (.int .i64 s.n.due)).heap[d]? = some (.cells (boolsC (hasNext (2 + q) has f okb)).toArray 36 (0, 0)) from (far13 hbd.symm).trans HD7.out)
              have HNf := Lib.hid (show NodeVs ((((((((((((((wc).setCell ⟨b, 0, none⟩ (.int .i64 s.n.id)).setCell ⟨b, 1, none⟩ (.int .i64 s.n.term)).setCell ⟨b, 2, none⟩ (.int .i64 s.n.vote)).setCell ⟨b, 3, none⟩ (.slice ρ.A3 s.n.log.length ρ.k3)).setCell ⟨b, 4, none⟩ (.int .i64 s.n.form)).setCell ⟨b, 5, none⟩ (.int .i64 s.n.role)).setCell ⟨b, 6, none⟩ (.int .i64 s.n.commit)).setCell ⟨b, 7, none⟩ (.slice ρ.A7 s.n.votes.length ρ.k7)).setCell ⟨b, 8, none⟩ (.slice ρ.A8 s.n.nxt.length ρ.k8)).setCell ⟨b, 9, none⟩ (.slice ρ.A9 s.n.mtch.length ρ.k9)).setCell ⟨b, 10, none⟩ (.slice ρ.A10 s.n.forms.length ρ.k10)).setCell ⟨b, 11, none⟩ (.int .i64 s.n.clock)).setCell ⟨b, 12, none⟩ (.int .i64 s.n.due)) (fun x => x ≠ b ∧ x ≠ d) s.n ρ from (HN7.out.step fun x hx _ => far13 hx.1).mono fun x hx _ => ⟨hx.1, hx.2.1⟩)
              have HBf := Lib.hid (show Below w.heap.size w ((((((((((((((wc).setCell ⟨b, 0, none⟩ (.int .i64 s.n.id)).setCell ⟨b, 1, none⟩ (.int .i64 s.n.term)).setCell ⟨b, 2, none⟩ (.int .i64 s.n.vote)).setCell ⟨b, 3, none⟩ (.slice ρ.A3 s.n.log.length ρ.k3)).setCell ⟨b, 4, none⟩ (.int .i64 s.n.form)).setCell ⟨b, 5, none⟩ (.int .i64 s.n.role)).setCell ⟨b, 6, none⟩ (.int .i64 s.n.commit)).setCell ⟨b, 7, none⟩ (.slice ρ.A7 s.n.votes.length ρ.k7)).setCell ⟨b, 8, none⟩ (.slice ρ.A8 s.n.nxt.length ρ.k8)).setCell ⟨b, 9, none⟩ (.slice ρ.A9 s.n.mtch.length ρ.k9)).setCell ⟨b, 10, none⟩ (.slice ρ.A10 s.n.forms.length ρ.k10)).setCell ⟨b, 11, none⟩ (.int .i64 s.n.clock)).setCell ⟨b, 12, none⟩ (.int .i64 s.n.due)) from below13 HB7.out hwb)
              go_roundw
              case rel =>
                (repeat apply Exists.intro)
                refine ⟨?_, rfl⟩
                exact ⟨i + 1, s.n, hasNext (2 + q) has f okb, ρ, by omega, rfl, by go_num, HCD2, HXf, HDf, HNf, HBf⟩
              case measure => simp [intOf]; omega
            · have ho : s.out.length = 0 := by
                rw [HOL.out, if_neg]
                have h2 := HWAS.out
                rw [hws] at h2
                have h3 : ((2 : Int) + q < 2 * (countT has : Int)) := of_decide_eq_true h2.symm
                omega
              have hob : ((s.out.length : Int) != 0) = false := by rw [ho]; rfl
              clear ho hm hws
              go_upto_region 27 with (fail)
              clear hr2 hl2 hob hmb
              go_wp2_with fail
              have HXf := Lib.hid (show ((((((((((((((wc).setCell ⟨b, 0, none⟩ (.int .i64 s.n.id)).setCell ⟨b, 1, none⟩ (.int .i64 s.n.term)).setCell ⟨b, 2, none⟩ (.int .i64 s.n.vote)).setCell ⟨b, 3, none⟩ (.slice ρ.A3 s.n.log.length ρ.k3)).setCell ⟨b, 4, none⟩ (.int .i64 s.n.form)).setCell ⟨b, 5, none⟩ (.int .i64 s.n.role)).setCell ⟨b, 6, none⟩ (.int .i64 s.n.commit)).setCell ⟨b, 7, none⟩ (.slice ρ.A7 s.n.votes.length ρ.k7)).setCell ⟨b, 8, none⟩ (.slice ρ.A8 s.n.nxt.length ρ.k8)).setCell ⟨b, 9, none⟩ (.slice ρ.A9 s.n.mtch.length ρ.k9)).setCell ⟨b, 10, none⟩ (.slice ρ.A10 s.n.forms.length ρ.k10)).setCell ⟨b, 11, none⟩ (.int .i64 s.n.clock)).setCell ⟨b, 12, none⟩ (.int .i64 s.n.due)).heap[b]? = some (.cells #[.int .i64 s.n.id, .int .i64 s.n.term, .int .i64 s.n.vote, .slice ρ.A3 s.n.log.length ρ.k3, .int .i64 s.n.form, .int .i64 s.n.role, .int .i64 s.n.commit, .slice ρ.A7 s.n.votes.length ρ.k7, .slice ρ.A8 s.n.nxt.length ρ.k8, .slice ρ.A9 s.n.mtch.length ρ.k9, .slice ρ.A10 s.n.forms.length ρ.k10, .int .i64 s.n.clock, .int .i64 s.n.due] 28 (0, 0)) from set13 HX7.out)
              have HDf := Lib.hid (show ((((((((((((((wc).setCell ⟨b, 0, none⟩ (.int .i64 s.n.id)).setCell ⟨b, 1, none⟩ (.int .i64 s.n.term)).setCell ⟨b, 2, none⟩ (.int .i64 s.n.vote)).setCell ⟨b, 3, none⟩ (.slice ρ.A3 s.n.log.length ρ.k3)).setCell ⟨b, 4, none⟩ (.int .i64 s.n.form)).setCell ⟨b, 5, none⟩ (.int .i64 s.n.role)).setCell ⟨b, 6, none⟩ (.int .i64 s.n.commit)).setCell ⟨b, 7, none⟩ (.slice ρ.A7 s.n.votes.length ρ.k7)).setCell ⟨b, 8, none⟩ (.slice ρ.A8 s.n.nxt.length ρ.k8)).setCell ⟨b, 9, none⟩ (.slice ρ.A9 s.n.mtch.length ρ.k9)).setCell ⟨b, 10, none⟩ (.slice ρ.A10 s.n.forms.length ρ.k10)).setCell ⟨b, 11, none⟩ (.int .i64 s.n.clock)).setCell ⟨b, 12, none⟩ (.int .i64 s.n.due)).heap[d]? = some (.cells (boolsC (hasNext (2 + q) has f okb)).toArray 36 (0, 0)) from (far13 hbd.symm).trans HD7.out)
              have HNf := Lib.hid (show NodeVs ((((((((((((((wc).setCell ⟨b, 0, none⟩ (.int .i64 s.n.id)).setCell ⟨b, 1, none⟩ (.int .i64 s.n.term)).setCell ⟨b, 2, none⟩ (.int .i64 s.n.vote)).setCell ⟨b, 3, none⟩ (.slice ρ.A3 s.n.log.length ρ.k3)).setCell ⟨b, 4, none⟩ (.int .i64 s.n.form)).setCell ⟨b, 5, none⟩ (.int .i64 s.n.role)).setCell ⟨b, 6, none⟩ (.int .i64 s.n.commit)).setCell ⟨b, 7, none⟩ (.slice ρ.A7 s.n.votes.length ρ.k7)).setCell ⟨b, 8, none⟩ (.slice ρ.A8 s.n.nxt.length ρ.k8)).setCell ⟨b, 9, none⟩ (.slice ρ.A9 s.n.mtch.length ρ.k9)).setCell ⟨b, 10, none⟩ (.slice ρ.A10 s.n.forms.length ρ.k10)).setCell ⟨b, 11, none⟩ (.int .i64 s.n.clock)).setCell ⟨b, 12, none⟩ (.int .i64 s.n.due)) (fun x => x ≠ b ∧ x ≠ d) s.n ρ from (HN7.out.step fun x hx _ => far13 hx.1).mono fun x hx _ => ⟨hx.1, hx.2.1⟩)
              have HBf := Lib.hid (show Below w.heap.size w ((((((((((((((wc).setCell ⟨b, 0, none⟩ (.int .i64 s.n.id)).setCell ⟨b, 1, none⟩ (.int .i64 s.n.term)).setCell ⟨b, 2, none⟩ (.int .i64 s.n.vote)).setCell ⟨b, 3, none⟩ (.slice ρ.A3 s.n.log.length ρ.k3)).setCell ⟨b, 4, none⟩ (.int .i64 s.n.form)).setCell ⟨b, 5, none⟩ (.int .i64 s.n.role)).setCell ⟨b, 6, none⟩ (.int .i64 s.n.commit)).setCell ⟨b, 7, none⟩ (.slice ρ.A7 s.n.votes.length ρ.k7)).setCell ⟨b, 8, none⟩ (.slice ρ.A8 s.n.nxt.length ρ.k8)).setCell ⟨b, 9, none⟩ (.slice ρ.A9 s.n.mtch.length ρ.k9)).setCell ⟨b, 10, none⟩ (.slice ρ.A10 s.n.forms.length ρ.k10)).setCell ⟨b, 11, none⟩ (.int .i64 s.n.clock)).setCell ⟨b, 12, none⟩ (.int .i64 s.n.due)) from below13 HB7.out hwb)
              go_roundw
              case rel =>
                (repeat apply Exists.intro)
                refine ⟨?_, rfl⟩
                exact ⟨i + 1, s.n, hasNext (2 + q) has f okb, ρ, by omega, rfl, by go_num, HCD2, HXf, HDf, HNf, HBf⟩
              case measure => simp [intOf]; omega
          · have hmb : decide ((2 : Int) + q < 2 * (countT (hasNext (2 + q) has f okb) : Int)) = false := decide_eq_false hm
            have hst := HCD2.out.st
            have hst2 : s.n.role = 1 ∧ s.n.log.length = 0 := by
              rcases hst with h | h
              · exact ⟨h.2.1, by rw [h.2.2.1]; rfl⟩
              · omega
            have hr2 : (s.n.role == 2) = false := by rw [hst2.1]; rfl
            have hl2 : ((s.n.log.length : Int) != 0) = false := by rw [hst2.2]; rfl
            have ho : s.out.length = 0 := by rw [HOL.out, if_neg (by omega)]
            have hob : ((s.out.length : Int) != 0) = false := by rw [ho]; rfl
            cases hws : was
            · clear ho hm hws hst hst2
              go_upto_region 27 with (fail)
              clear hr2 hl2 hob hmb
              go_wp2_with fail
              have HXf := Lib.hid (show ((((((((((((((wc).setCell ⟨b, 0, none⟩ (.int .i64 s.n.id)).setCell ⟨b, 1, none⟩ (.int .i64 s.n.term)).setCell ⟨b, 2, none⟩ (.int .i64 s.n.vote)).setCell ⟨b, 3, none⟩ (.slice ρ.A3 s.n.log.length ρ.k3)).setCell ⟨b, 4, none⟩ (.int .i64 s.n.form)).setCell ⟨b, 5, none⟩ (.int .i64 s.n.role)).setCell ⟨b, 6, none⟩ (.int .i64 s.n.commit)).setCell ⟨b, 7, none⟩ (.slice ρ.A7 s.n.votes.length ρ.k7)).setCell ⟨b, 8, none⟩ (.slice ρ.A8 s.n.nxt.length ρ.k8)).setCell ⟨b, 9, none⟩ (.slice ρ.A9 s.n.mtch.length ρ.k9)).setCell ⟨b, 10, none⟩ (.slice ρ.A10 s.n.forms.length ρ.k10)).setCell ⟨b, 11, none⟩ (.int .i64 s.n.clock)).setCell ⟨b, 12, none⟩ (.int .i64 s.n.due)).heap[b]? = some (.cells #[.int .i64 s.n.id, .int .i64 s.n.term, .int .i64 s.n.vote, .slice ρ.A3 s.n.log.length ρ.k3, .int .i64 s.n.form, .int .i64 s.n.role, .int .i64 s.n.commit, .slice ρ.A7 s.n.votes.length ρ.k7, .slice ρ.A8 s.n.nxt.length ρ.k8, .slice ρ.A9 s.n.mtch.length ρ.k9, .slice ρ.A10 s.n.forms.length ρ.k10, .int .i64 s.n.clock, .int .i64 s.n.due] 28 (0, 0)) from set13 HX7.out)
              have HDf := Lib.hid (show ((((((((((((((wc).setCell ⟨b, 0, none⟩ (.int .i64 s.n.id)).setCell ⟨b, 1, none⟩ (.int .i64 s.n.term)).setCell ⟨b, 2, none⟩ (.int .i64 s.n.vote)).setCell ⟨b, 3, none⟩ (.slice ρ.A3 s.n.log.length ρ.k3)).setCell ⟨b, 4, none⟩ (.int .i64 s.n.form)).setCell ⟨b, 5, none⟩ (.int .i64 s.n.role)).setCell ⟨b, 6, none⟩ (.int .i64 s.n.commit)).setCell ⟨b, 7, none⟩ (.slice ρ.A7 s.n.votes.length ρ.k7)).setCell ⟨b, 8, none⟩ (.slice ρ.A8 s.n.nxt.length ρ.k8)).setCell ⟨b, 9, none⟩ (.slice ρ.A9 s.n.mtch.length ρ.k9)).setCell ⟨b, 10, none⟩ (.slice ρ.A10 s.n.forms.length ρ.k10)).setCell ⟨b, 11, none⟩ (.int .i64 s.n.clock)).setCell ⟨b, 12, none⟩ (.int .i64 s.n.due)).heap[d]? = some (.cells (boolsC (hasNext (2 + q) has f okb)).toArray 36 (0, 0)) from (far13 hbd.symm).trans HD7.out)
              have HNf := Lib.hid (show NodeVs ((((((((((((((wc).setCell ⟨b, 0, none⟩ (.int .i64 s.n.id)).setCell ⟨b, 1, none⟩ (.int .i64 s.n.term)).setCell ⟨b, 2, none⟩ (.int .i64 s.n.vote)).setCell ⟨b, 3, none⟩ (.slice ρ.A3 s.n.log.length ρ.k3)).setCell ⟨b, 4, none⟩ (.int .i64 s.n.form)).setCell ⟨b, 5, none⟩ (.int .i64 s.n.role)).setCell ⟨b, 6, none⟩ (.int .i64 s.n.commit)).setCell ⟨b, 7, none⟩ (.slice ρ.A7 s.n.votes.length ρ.k7)).setCell ⟨b, 8, none⟩ (.slice ρ.A8 s.n.nxt.length ρ.k8)).setCell ⟨b, 9, none⟩ (.slice ρ.A9 s.n.mtch.length ρ.k9)).setCell ⟨b, 10, none⟩ (.slice ρ.A10 s.n.forms.length ρ.k10)).setCell ⟨b, 11, none⟩ (.int .i64 s.n.clock)).setCell ⟨b, 12, none⟩ (.int .i64 s.n.due)) (fun x => x ≠ b ∧ x ≠ d) s.n ρ from (HN7.out.step fun x hx _ => far13 hx.1).mono fun x hx _ => ⟨hx.1, hx.2.1⟩)
              have HBf := Lib.hid (show Below w.heap.size w ((((((((((((((wc).setCell ⟨b, 0, none⟩ (.int .i64 s.n.id)).setCell ⟨b, 1, none⟩ (.int .i64 s.n.term)).setCell ⟨b, 2, none⟩ (.int .i64 s.n.vote)).setCell ⟨b, 3, none⟩ (.slice ρ.A3 s.n.log.length ρ.k3)).setCell ⟨b, 4, none⟩ (.int .i64 s.n.form)).setCell ⟨b, 5, none⟩ (.int .i64 s.n.role)).setCell ⟨b, 6, none⟩ (.int .i64 s.n.commit)).setCell ⟨b, 7, none⟩ (.slice ρ.A7 s.n.votes.length ρ.k7)).setCell ⟨b, 8, none⟩ (.slice ρ.A8 s.n.nxt.length ρ.k8)).setCell ⟨b, 9, none⟩ (.slice ρ.A9 s.n.mtch.length ρ.k9)).setCell ⟨b, 10, none⟩ (.slice ρ.A10 s.n.forms.length ρ.k10)).setCell ⟨b, 11, none⟩ (.int .i64 s.n.clock)).setCell ⟨b, 12, none⟩ (.int .i64 s.n.due)) from below13 HB7.out hwb)
              go_roundw
              case rel =>
                (repeat apply Exists.intro)
                refine ⟨?_, rfl⟩
                exact ⟨i + 1, s.n, hasNext (2 + q) has f okb, ρ, by omega, rfl, by go_num, HCD2, HXf, HDf, HNf, HBf⟩
              case measure => simp [intOf]; omega
            · exfalso
              have h2 := HWAS.out
              rw [hws] at h2
              have h3 : ((2 : Int) + q < 2 * (countT has : Int)) := of_decide_eq_true h2.symm
              have h4 : countT has ≤ countT (hasNext (2 + q) has f okb) := by
                unfold hasNext
                split
                · rw [countT_set HFH.out]; split <;> omega
                · omega
              omega

end Go.Proofs.Ytnkmljdkokcdjaa
