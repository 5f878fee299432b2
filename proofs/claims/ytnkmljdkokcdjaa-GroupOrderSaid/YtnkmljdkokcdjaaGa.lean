/- The law's group of nodes, in plain Lean: what each of its steps comes to. -/
import Derived.Test.YtnkmljdkokcdjaaMh
import Derived.Test.YtnkmljdkokcdjaaRc3
set_option linter.unusedVariables false
set_option linter.unusedSimpArgs false
namespace Fed
open Go Go.RowKit Go.Proofs.Ytnkmljdkokcdjaa
set_option linter.unusedVariables false

/-- Nodes, which are up, what flies. -/
structure GS where
  ns : List Node
  us : List Bool
  f : List Msg
namespace GS
def isUp (s : GS) (id : Int) : Bool := decide (0 ≤ id) && decide (id < s.ns.length) && s.us.getD id.toNat false
def node (s : GS) (id : Int) : Node := s.ns.getD id.toNat blank
def put (s : GS) (id : Int) (r : NS) : GS := ⟨s.ns.set id.toNat r.n, s.us, s.f ++ r.out⟩
def has (s : GS) (a : Int) : Bool := decide (0 ≤ a) && decide (a < s.f.length)
def msg (s : GS) (a : Int) : Msg := s.f.getD a.toNat noMsg
def cut (s : GS) (a : Int) : GS := if s.has a = true then ⟨s.ns, s.us, s.f.eraseIdx a.toNat⟩ else s
def tick (s : GS) (id : Int) : GS := if s.isUp id = true then s.put id (tickS (s.node id)) else s
def deliver (s : GS) (a : Int) : GS :=
  if s.has a = true then (if s.isUp (s.msg a).to = true then (s.cut a).put (s.msg a).to (handleS (s.node (s.msg a).to) (s.msg a)) else s.cut a) else s
def twice (s : GS) (a : Int) : GS := if s.has a = true then ⟨s.ns, s.us, s.f ++ [s.msg a]⟩ else s
def prop (s : GS) (id : Int) (d : ByteArray) : GS := if s.isUp id = true then s.put id (proposeS (s.node id) d) else s
def propOk (s : GS) (id : Int) : Bool := s.isUp id && decide ((s.node id).role = 2)
def crash (s : GS) (id : Int) : GS := if s.isUp id = true then ⟨s.ns, s.us.set id.toNat false, s.f⟩ else s
def startOk (s : GS) (id form : Int) : Bool := decide (0 ≤ id) && decide (id < s.ns.length) && !s.us.getD id.toNat false && (decide (form = 1) || decide (form = 2))
def start (s : GS) (id form : Int) : GS := if s.startOk id form = true then ⟨s.ns.set id.toNat (restartN (s.node id) form), s.us.set id.toNat true, s.f⟩ else s
end GS
/-- The data of entries that have any. -/
def datas (l : List Entry) : List ByteArray := (l.filter fun e => !e.data.toList.isEmpty).map (·.data)
def appliedN (n : Node) : List ByteArray := datas (n.log.take n.commit.toNat)
namespace GS
def applied (s : GS) (id : Int) : List ByteArray := if s.isUp id = true then appliedN (s.node id) else []
/-- The one that leads in the highest term, of the first ones. -/
def leadTo (s : GS) : Nat → Int
  | 0 => -1
  | i + 1 => if (s.us.getD i false && decide ((s.ns.getD i blank).role = 2) && (decide (leadTo s i < 0) || decide ((s.ns.getD (leadTo s i).toNat blank).term < (s.ns.getD i blank).term))) = true then (i : Int) else leadTo s i
def leader (s : GS) : Int := s.leadTo s.ns.length
def new (k : Nat) : GS := ⟨(List.range k).map fun j : Nat => newN (j : Int) k 1, List.replicate k true, []⟩
end GS
end Fed
