/-
  The law RaftLeads returns true, and writes nothing that was there, for any int and any row of ints.
-/
import Derived.WalkKit
import Derived.WalkSpells
import Derived.Lib.Hide
import Derived.Outline
import Derived.Test.YtnkmljdkokcdjaaChecked
import Derived.Test.YtnkmljdkokcdjaaMn
import Derived.Test.YtnkmljdkokcdjaaMem
import Derived.Test.YtnkmljdkokcdjaaFed
import Derived.Test.YtnkmljdkokcdjaaRe7
import Derived.Test.YtnkmljdkokcdjaaMd
import Derived.Test.YtnkmljdkokcdjaaRc3
import Derived.Test.YtnkmljdkokcdjaaMe
import Derived.Test.YtnkmljdkokcdjaaMl
import Derived.Deep.DeepCutAuto
import Derived.Deep.CutBlock
import Derived.IntWalk
set_option linter.unusedVariables false
set_option linter.unusedSimpArgs false
namespace Go.Proofs.Ytnkmljdkokcdjaa
open Go.RowKit Fed
set_option linter.unusedVariables false
attribute [local go_sem high] Fed.max2_int Fed.min2_int

theorem within_big (w : World) (a n : Int) (ha : (Lit.int .i64 a).wf = true) (h0 : 0 < n) (h1 : n ≤ 1152921504606846976) :
    Calls Try.prog 23 #[.int .i64 a, .int .i64 n] w fun e w' => e = .returned (.int .i64 (wi a n)) ∧ w = w' := by
  have h2 := Int.tmod_lt_of_pos a h0
  have h3 : -n < a.tmod n := Int.lt_tmod_of_pos a h0
  have h4 : (n == 0) = false := by simp; omega
  unfold wi
  by_cases h : a.tmod n < 0
  · go_enter Try.func23, Try.ntmps23
    go_wp2
    all_goals go_ret
    all_goals exact ⟨MM.ret_int (by first | (simp; done) | go_num), rfl⟩
  · go_enter Try.func23, Try.ntmps23
    go_wp2
    all_goals go_ret
    all_goals exact ⟨MM.ret_int (by first | (simp; done) | go_num), rfl⟩
theorem new_c (w : World) (id form K : Int) (k : Nat) (hK : K = k) (hk : k ≤ 1000) (hi0 : -1000000000 ≤ id) (hi1 : id ≤ 1000000000) :
    Calls Try.prog 24 #[.int .i64 id, .int .i64 K, .int .i64 form] w
      fun e w' => ∃ σ : Sl5, e = .returned (.agg #[.int .i64 (newN id k form).id, .int .i64 (newN id k form).term, .int .i64 (newN id k form).vote, .slice σ.A3 (newN id k form).log.length σ.k3, .int .i64 (newN id k form).form, .int .i64 (newN id k form).role, .int .i64 (newN id k form).commit, .slice σ.A7 (newN id k form).votes.length σ.k7, .slice σ.A8 (newN id k form).nxt.length σ.k8, .slice σ.A9 (newN id k form).mtch.length σ.k9, .slice σ.A10 (newN id k form).forms.length σ.k10, .int .i64 (newN id k form).clock, .int .i64 (newN id k form).due]) ∧ Below w.heap.size w w' ∧ NodeVs w' (fun j => w.heap.size ≤ j) (newN id k form) σ := by
  refine (new_node w id form K k hK hk hi0 hi1).mono ?_
  rintro e w' ⟨A3, k3, A7, k7, A8, k8, A9, k9, A10, k10, rfl, hb, hn⟩
  exact ⟨⟨A3, k3, A7, k7, A8, k8, A9, k9, A10, k10⟩, rfl, hb, hn⟩
theorem tick_c (w : World) (ok : Nat → Prop) (n : Fed.Node) (σ : Sl5) (h : NodeVs w ok n σ) (l1 : n.log.length ≤ 800000) (l2 : n.votes.length ≤ 1000) (l3 : n.nxt.length = n.votes.length) (l4 : n.mtch.length ≤ 1000) (l5 : n.forms.length ≤ 1000)
    (ht0 : -1000000000 ≤ n.term) (ht1 : n.term ≤ 1000000000) (hc0 : -999999999 ≤ n.clock) (hc1 : n.clock ≤ 999999999) (hx : ∀ i, i < n.nxt.length → -1000000000 ≤ n.nxt.getD i 0 ∧ n.nxt.getD i 0 ≤ 1000000000) :
    Calls Try.prog 25 #[.agg #[.int .i64 n.id, .int .i64 n.term, .int .i64 n.vote, .slice σ.A3 n.log.length σ.k3, .int .i64 n.form, .int .i64 n.role, .int .i64 n.commit, .slice σ.A7 n.votes.length σ.k7, .slice σ.A8 n.nxt.length σ.k8, .slice σ.A9 n.mtch.length σ.k9, .slice σ.A10 n.forms.length σ.k10, .int .i64 n.clock, .int .i64 n.due]] w
      fun e w' => ∃ (τ : Sl5) (Ao : Option Addr) (ko : Nat), e = .returned (.tuple #[.agg #[.int .i64 (tickS n).n.id, .int .i64 (tickS n).n.term, .int .i64 (tickS n).n.vote, .slice τ.A3 (tickS n).n.log.length τ.k3, .int .i64 (tickS n).n.form, .int .i64 (tickS n).n.role, .int .i64 (tickS n).n.commit, .slice τ.A7 (tickS n).n.votes.length τ.k7, .slice τ.A8 (tickS n).n.nxt.length τ.k8, .slice τ.A9 (tickS n).n.mtch.length τ.k9, .slice τ.A10 (tickS n).n.forms.length τ.k10, .int .i64 (tickS n).n.clock, .int .i64 (tickS n).n.due], .slice Ao (tickS n).out.length ko]) ∧ NodeVs w' (fun j => w.heap.size ≤ j) (tickS n).n τ ∧ MsgsV w' (fun j => w.heap.size ≤ j) (.slice Ao (tickS n).out.length ko) (tickS n).out ∧ Below w.heap.size w w' := by
  refine (tick_any w ok n _ _ _ _ _ h l1 l2 l3 l4 l5 ht0 ht1 hc0 hc1 hx).mono ?_
  rintro e w' ⟨A3, k3, A7, k7, A8, k8, A9, k9, A10, k10, Ao, ko, rfl, hn, hm, hb⟩
  exact ⟨⟨A3, k3, A7, k7, A8, k8, A9, k9, A10, k10⟩, Ao, ko, rfl, hn, hm, hb⟩
theorem handle_c (w : World) (ok : Nat → Prop) (n : Fed.Node) (σ : Sl5) (h : NodeVs w ok n σ) (m : Fed.Msg) (A : Option Addr) (c : Nat) (ok2 : Nat → Prop) (hr : MM.Rd w ok2 2 (.slice A m.entries.length c) m.entries.length (entsC m.entries))
    (l1 : n.log.length ≤ 700000) (l2 : n.votes.length ≤ 1000) (l3 : n.nxt.length = n.votes.length) (l4 : n.mtch.length = n.votes.length) (l5 : n.forms.length = n.votes.length) (he : m.entries.length ≤ 1000)
    (hc0 : -1000000000 ≤ n.clock) (hc1 : n.clock ≤ 1000000000) (hcm : 0 ≤ n.commit) (hz : 0 ≤ m.index ∧ m.index ≤ 1000000)
    (hx : ∀ i, i < n.nxt.length → -1000000 ≤ n.nxt.getD i 0 ∧ n.nxt.getD i 0 ≤ 1000000) (hy : ∀ i, i < n.mtch.length → -1000000 ≤ n.mtch.getD i 0 ∧ n.mtch.getD i 0 ≤ 1000000) :
    Calls Try.prog 26 #[.agg #[.int .i64 n.id, .int .i64 n.term, .int .i64 n.vote, .slice σ.A3 n.log.length σ.k3, .int .i64 n.form, .int .i64 n.role, .int .i64 n.commit, .slice σ.A7 n.votes.length σ.k7, .slice σ.A8 n.nxt.length σ.k8, .slice σ.A9 n.mtch.length σ.k9, .slice σ.A10 n.forms.length σ.k10, .int .i64 n.clock, .int .i64 n.due], .agg #[.int .i64 m.kind, .int .i64 m.frm, .int .i64 m.to, .int .i64 m.term, .int .i64 m.index, .int .i64 m.logTerm, .bool m.ok, .slice A m.entries.length c, .int .i64 m.commit, .int .i64 m.form]] w
      fun e w' => ∃ (τ : Sl5) (Ao : Option Addr) (ko : Nat), e = .returned (.tuple #[.agg #[.int .i64 (handleS n m).n.id, .int .i64 (handleS n m).n.term, .int .i64 (handleS n m).n.vote, .slice τ.A3 (handleS n m).n.log.length τ.k3, .int .i64 (handleS n m).n.form, .int .i64 (handleS n m).n.role, .int .i64 (handleS n m).n.commit, .slice τ.A7 (handleS n m).n.votes.length τ.k7, .slice τ.A8 (handleS n m).n.nxt.length τ.k8, .slice τ.A9 (handleS n m).n.mtch.length τ.k9, .slice τ.A10 (handleS n m).n.forms.length τ.k10, .int .i64 (handleS n m).n.clock, .int .i64 (handleS n m).n.due], .slice Ao (handleS n m).out.length ko]) ∧ NodeVs w' (fun j => w.heap.size ≤ j) (handleS n m).n τ ∧ MsgsV w' (fun j => w.heap.size ≤ j) (.slice Ao (handleS n m).out.length ko) (handleS n m).out ∧ Below w.heap.size w w' := by
  refine (handle_any w ok n _ _ _ _ _ h m A c ok2 hr l1 l2 l3 l4 l5 he hc0 hc1 hcm hz hx hy).mono ?_
  rintro e w' ⟨A3, k3, A7, k7, A8, k8, A9, k9, A10, k10, Ao, ko, rfl, hn, hm, hb⟩
  exact ⟨⟨A3, k3, A7, k7, A8, k8, A9, k9, A10, k10⟩, Ao, ko, rfl, hn, hm, hb⟩

end Go.Proofs.Ytnkmljdkokcdjaa
