/-
  The law's state, in plain Lean; what is sent is not much.
-/
import Derived.Test.YtnkmljdkokcdjaaRe0
import Derived.Test.YtnkmljdkokcdjaaMe
set_option linter.unusedVariables false
set_option linter.unusedSimpArgs false
namespace Fed
open Go Go.RowKit Go.Proofs.Ytnkmljdkokcdjaa

/-- The law's nodes and what flies between them. -/
structure PS where
  ns : List Node
  f : List Msg
/-- Forty at most fly: the last. -/
def trim (l : List Msg) : List Msg := l.drop (l.length - 40)
/-- What a node comes to, what it sends. -/
def pfin (s : PS) (id : Nat) (r : NS) : PS := ⟨s.ns.set id r.n, trim (s.f ++ r.out)⟩
def blank : Node := ⟨0, 0, -1, [], 0, 0, 0, [], [], [], [], 0, 0⟩
def noMsg : Msg := ⟨0, 0, 0, 0, 0, 0, false, [], 0, 0⟩
def nodeAt (s : PS) (id : Nat) : Node := s.ns.getD id blank
/-- One letter of eight. -/
def letter (k : Nat) : ByteArray := ⟨#[UInt8.ofNat (97 + k)]⟩
/-- One number of the law's row. -/
def pstep (tick : Node → NS) (hand : Node → Msg → NS) (prop : Node → ByteArray → NS) (size n : Nat) (s : PS) : PS :=
  if n % 12 < 4 then pfin s (n / 12 % size) (tick (nodeAt s (n / 12 % size)))
  else if n % 12 < 9 then
    if s.f.length = 0 then s
    else pfin ⟨s.ns, s.f.eraseIdx (n / 12 % min s.f.length 4)⟩ (s.f.getD (n / 12 % min s.f.length 4) noMsg).to.toNat (hand (nodeAt s (s.f.getD (n / 12 % min s.f.length 4) noMsg).to.toNat) (s.f.getD (n / 12 % min s.f.length 4) noMsg))
  else if n % 12 < 10 then (if 0 < s.f.length then ⟨s.ns, s.f ++ [s.f.getD (n / 12 % s.f.length) noMsg]⟩ else s)
  else if n % 12 < 11 then pfin s (n / 12 % size) (prop (nodeAt s (n / 12 % size)) (letter (n / 36 % 8)))
  else if n / 36 % 3 = 0 then pfin s (n / 12 % size) ⟨restartN (nodeAt s (n / 12 % size)) (1 + ((n / 108 % 2 : Nat) : Int)), []⟩
  else pfin ⟨s.ns, s.f.drop 1⟩ (n / 12 % size) ⟨nodeAt s (n / 12 % size), []⟩
/-- The nodes at the beginning. -/
def initN (size i : Nat) : List Node := (List.range i).map fun j : Nat => newN (j : Int) size (1 + (j : Int) % 2)
theorem initN_succ (size i : Nat) : initN size (i + 1) = initN size i ++ [newN (i : Int) size (1 + (i : Int) % 2)] := by
  unfold initN
  rw [List.range_succ, List.map_append]
  rfl
theorem initN_len (size i : Nat) : (initN size i).length = i := by simp [initN]
/-- The law's state behind so many numbers. -/
def pstates (size : Nat) (l : List Int) : Nat → PS
  | 0 => ⟨initN size size, []⟩
  | i + 1 => pstep tickS handleS proposeS size (wi (l.getD i 0) 1073741824).toNat (pstates size l i)
/-- A node that may be walked. -/
structure NodeGood (size : Nat) (n : Node) : Prop where
  v : n.votes.length = size
  x : n.nxt.length = size
  m : n.mtch.length = size
  f : n.forms.length = size
  i0 : 0 ≤ n.id
  i1 : n.id < size
  l : n.log.length ≤ 100000
  t0 : 0 ≤ n.term
  t1 : n.term ≤ 1000000
  c0 : 0 ≤ n.clock
  c1 : n.clock ≤ 1000000
  cm : 0 ≤ n.commit
  hx : ∀ i, i < size → -1000000 ≤ n.nxt.getD i 0 ∧ n.nxt.getD i 0 ≤ 1000000
  hy : ∀ i, i < size → -1000000 ≤ n.mtch.getD i 0 ∧ n.mtch.getD i 0 ≤ 1000000
  ld : n.role = 2 → ∀ i, i < size → 1 ≤ n.nxt.getD i 0 ∧ n.nxt.getD i 0 ≤ n.log.length + 1
/-- A message that may be walked. -/
structure MsgGood (size : Nat) (m : Msg) : Prop where
  k0 : 1 ≤ m.kind
  k1 : m.kind ≤ 4
  f0 : 0 ≤ m.frm
  f1 : m.frm < size
  t0 : 0 ≤ m.to
  t1 : m.to < size
  e : m.entries.length ≤ 1000
  i0 : 0 ≤ m.index
  i1 : m.index ≤ 1000000
structure Good (size : Nat) (s : PS) : Prop where
  len : s.ns.length = size
  ns : ∀ n ∈ s.ns, NodeGood size n
  fl : s.f.length ≤ 1000
  f : ∀ m ∈ s.f, MsgGood size m
end Fed
namespace Go.Proofs.Ytnkmljdkokcdjaa
open Go Go.RowKit Fed
set_option linter.unusedVariables false
/-- What a tick, a proposal sends is not much. -/
theorem tickS_out (n : Fed.Node) (hv : n.votes.length ≤ 1000) : (tickS n).out.length ≤ 1000000 := by
  unfold tickS
  split
  · simp
  split
  · split
    · have := spreadMsgs_le { n with clock := n.clock + 1 } n.votes.length
      show (spreadMsgs _ _).length ≤ _
      omega
    · simp
  split
  · exact standS_out { n with clock := n.clock + 1 } hv
  · simp
theorem proposeS_out (n : Fed.Node) (d : ByteArray) (hv : n.votes.length ≤ 1000) : (proposeS n d).out.length ≤ 1000000 := by
  unfold proposeS
  split
  · have := spreadMsgs_le (putN n d) n.votes.length
    show ([] ++ spreadMsgs (putN n d) n.votes.length).length ≤ 1000000
    rw [List.nil_append]
    omega
  · simp
theorem handleS_out (n : Fed.Node) (m : Fed.Msg) (hv : n.votes.length ≤ 1000) : (handleS n m).out.length ≤ 1000000 := by
  unfold handleS
  split
  · exact handleIn_out (bump n m) m (by rw [bump_votes]; exact hv)
  · simp
end Go.Proofs.Ytnkmljdkokcdjaa
