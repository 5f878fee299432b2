/-
The law's state, in plain Lean; what is sent is not much.
-/
import Derived.Test.YtnkmljdkokcdjaaB2
import Derived.Test.YtnkmljdkokcdjaaB5
set_option linter.unusedVariables false
set_option linter.unusedSimpArgs false
namespace Fed
open Go Go.RowKit Go.Proofs.Ytnkmljdkokcdjaa
structure PS where
 ns : List Node
 f : List Msg
def blank : Node := ⟨0, 0, -1, [], 0, 0, 0, [], [], [], [], 0, 0⟩
def noMsg : Msg := ⟨0, 0, 0, 0, 0, 0, false, [], 0, 0⟩
def letter (k : Nat) : ByteArray := ⟨#[UInt8.ofNat (97 + k)]⟩
structure NodeGood (size : Nat) (n : Node) : Prop where
 v : n.votes.length = size
 x : n.nxt.length = size
 m : n.mtch.length = size
 f : n.forms.length = size
 i0 : 0 ≤ n.id
 i1 : n.id < size
 l : n.log.length ≤ 100000
 t0 : 0 ≤ n.term
 t1 : n.term ≤ 1000000
 c0 : 0 ≤ n.clock
 c1 : n.clock ≤ 1000000
 cm : 0 ≤ n.commit
 hx : ∀ i, i < size → -1000000 ≤ n.nxt.getD i 0 ∧ n.nxt.getD i 0 ≤ 1000000
 hy : ∀ i, i < size → -1000000 ≤ n.mtch.getD i 0 ∧ n.mtch.getD i 0 ≤ 1000000
 ld : n.role = 2 → ∀ i, i < size → 1 ≤ n.nxt.getD i 0 ∧ n.nxt.getD i 0 ≤ n.log.length + 1
structure MsgGood (size : Nat) (m : Msg) : Prop where
 k0 : 1 ≤ m.kind
 k1 : m.kind ≤ 4
 f0 : 0 ≤ m.frm
 f1 : m.frm < size
 t0 : 0 ≤ m.to
 t1 : m.to < size
 e : m.entries.length ≤ 1000
 i0 : 0 ≤ m.index
 i1 : m.index ≤ 1000000
structure Good (size : Nat) (s : PS) : Prop where
 len : s.ns.length = size
 ns : ∀ n ∈ s.ns, NodeGood size n
 fl : s.f.length ≤ 1000
 f : ∀ m ∈ s.f, MsgGood size m
end Fed
namespace Go.Proofs.Ytnkmljdkokcdjaa
open Go Go.RowKit Fed
theorem tickS_out (n : Fed.Node) (hv : n.votes.length ≤ 1000) : (tickS n).out.length ≤ 1000000 := by
 unfold tickS
 split
 ·simp
 split
 ·split
  ·have := spreadMsgs_le { n with clock := n.clock + 1 } n.votes.length
   show (spreadMsgs _ _).length ≤ _
   omega
  ·simp
 split
 ·exact standS_out { n with clock := n.clock + 1 } hv
 ·simp
theorem proposeS_out (n : Fed.Node) (d : ByteArray) (hv : n.votes.length ≤ 1000) : (proposeS n d).out.length ≤ 1000000 := by
 unfold proposeS
 split
 ·have := spreadMsgs_le (putN n d) n.votes.length
  show ([] ++ spreadMsgs (putN n d) n.votes.length).length ≤ 1000000
  rw [List.nil_append]
  omega
 ·simp
theorem handleS_out (n : Fed.Node) (m : Fed.Msg) (hv : n.votes.length ≤ 1000) : (handleS n m).out.length ≤ 1000000 := by
 unfold handleS
 split
 ·exact handleIn_out (bump n m) m (by rw [bump_votes]; exact hv)
 ·simp
end Go.Proofs.Ytnkmljdkokcdjaa
