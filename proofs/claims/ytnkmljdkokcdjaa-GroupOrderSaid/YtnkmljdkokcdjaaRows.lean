/-
  No cell of these rows narrows 'for every input' (looked for: loops, veiled, ifaces, maps, wideKeys, modest, calm, conditions, laid).
  DERIVED. THE GIVEN ROWS OF THIS SEAT. 19 by the template 'for every input the law returns true; each argument reads behind the call as it read before'; 0 by the template 'total and deterministic' (their statements: YtnkmljdkokcdjaaTotals.lean).
  GIVEN WITH THE SEED: the statements are not yours to turn. If you find one false, say at which input.
  Laid BY PROGRAM, IN A SANDBOX (cutbox-rows.mjs): the forced cells as the released guide's own fill.sh prints them over the translation 140452518ab0164c… (all of the seat's roots in one cut). By AI agents, Wed Nov 11 2026. No macro, syntax, notation, axiom, sorry.
-/
import Derived.Test.YtnkmljdkokcdjaaChecked
import GoSem.Claim
import GoSem.ClaimJoined
import GoSem.ClaimMapViews
import Derived.JoinedTies
import Derived.KernelRfl
namespace Go.Proofs.Ytnkmljdkokcdjaa
/- THE CELL 'sum', in the pinned program and in every row, IS THE sha256 OF THE DUMP (.gsa) THAT YtnkmljdkokcdjaaProg.lean LOADS. Nothing in Lean hashes anything: it is a label: what it is worth is what the hold of that sum in a sandbox is worth. -/
noncomputable def Try.pinned : Pinned := { name := "ytnkmljdkokcdjaa", sum := "140452518ab0164c35ee85e54b4e363b21a2d8adaf055cb15976f0f00e2d892e", checked := Try.checked }
namespace Rows
def none {H : Type} : Left H := { results := [], args := [] }

/-- 'federationlaw8.RaftTicks': WHATEVER THE INPUT: true; the input reads as it did. -/
def raftTicksSpec : ChangeSpec := { name := "raftTicks", fn := fun _ => fun
  | [d1, d2, d3] => { results := [.lit (.bool true)], args := [d1, d2, d3] }
  | _ => none }
def raftTicksRow : OpenClaim := { program := "ytnkmljdkokcdjaa", sum := "140452518ab0164c35ee85e54b4e363b21a2d8adaf055cb15976f0f00e2d892e", func := "federation/federationlaw8.RaftTicks", spec := "raftTicks", unfollowed := true, recurses := true, apart := false }
def RaftTicksSaid : Prop := raftTicksRow.holds Try.pinned (OpenSpec.ofChange raftTicksSpec)

/-- ITS FALSE NEIGHBOUR: 'it returns false'. Refute it at one input. -/
def raftTicksWrong : ChangeSpec := { name := "raftTicks", fn := fun _ => fun
  | [d1, d2, d3] => { results := [.lit (.bool false)], args := [d1, d2, d3] }
  | _ => none }
def RaftTicksWrongFalsely : Prop := raftTicksRow.holds Try.pinned (OpenSpec.ofChange raftTicksWrong)

/-- 'federationlaw8.RaftLeads': WHATEVER THE INPUT: true; the input reads as it did. -/
def raftLeadsSpec : ChangeSpec := { name := "raftLeads", fn := fun _ => fun
  | [d1, d2] => { results := [.lit (.bool true)], args := [d1, d2] }
  | _ => none }
def raftLeadsRow : OpenClaim := { program := "ytnkmljdkokcdjaa", sum := "140452518ab0164c35ee85e54b4e363b21a2d8adaf055cb15976f0f00e2d892e", func := "federation/federationlaw8.RaftLeads", spec := "raftLeads", unfollowed := true, recurses := true, apart := false }
def RaftLeadsSaid : Prop := raftLeadsRow.holds Try.pinned (OpenSpec.ofChange raftLeadsSpec)

/-- ITS FALSE NEIGHBOUR: 'it returns false'. Refute it at one input. -/
def raftLeadsWrong : ChangeSpec := { name := "raftLeads", fn := fun _ => fun
  | [d1, d2] => { results := [.lit (.bool false)], args := [d1, d2] }
  | _ => none }
def RaftLeadsWrongFalsely : Prop := raftLeadsRow.holds Try.pinned (OpenSpec.ofChange raftLeadsWrong)

/-- 'federationlaw8.RaftCuts': WHATEVER THE INPUT: true; the input reads as it did. -/
def raftCutsSpec : ChangeSpec := { name := "raftCuts", fn := fun _ => fun
  | [d1, d2, d3, d4] => { results := [.lit (.bool true)], args := [d1, d2, d3, d4] }
  | _ => none }
def raftCutsRow : OpenClaim := { program := "ytnkmljdkokcdjaa", sum := "140452518ab0164c35ee85e54b4e363b21a2d8adaf055cb15976f0f00e2d892e", func := "federation/federationlaw8.RaftCuts", spec := "raftCuts", unfollowed := true, recurses := true, apart := false }
def RaftCutsSaid : Prop := raftCutsRow.holds Try.pinned (OpenSpec.ofChange raftCutsSpec)

/-- ITS FALSE NEIGHBOUR: 'it returns false'. Refute it at one input. -/
def raftCutsWrong : ChangeSpec := { name := "raftCuts", fn := fun _ => fun
  | [d1, d2, d3, d4] => { results := [.lit (.bool false)], args := [d1, d2, d3, d4] }
  | _ => none }
def RaftCutsWrongFalsely : Prop := raftCutsRow.holds Try.pinned (OpenSpec.ofChange raftCutsWrong)

/-- 'federationlaw8.RaftCommits': WHATEVER THE INPUT: true; the input reads as it did. -/
def raftCommitsSpec : ChangeSpec := { name := "raftCommits", fn := fun _ => fun
  | [d1, d2, d3] => { results := [.lit (.bool true)], args := [d1, d2, d3] }
  | _ => none }
def raftCommitsRow : OpenClaim := { program := "ytnkmljdkokcdjaa", sum := "140452518ab0164c35ee85e54b4e363b21a2d8adaf055cb15976f0f00e2d892e", func := "federation/federationlaw8.RaftCommits", spec := "raftCommits", unfollowed := true, recurses := true, apart := false }
def RaftCommitsSaid : Prop := raftCommitsRow.holds Try.pinned (OpenSpec.ofChange raftCommitsSpec)

/-- ITS FALSE NEIGHBOUR: 'it returns false'. Refute it at one input. -/
def raftCommitsWrong : ChangeSpec := { name := "raftCommits", fn := fun _ => fun
  | [d1, d2, d3] => { results := [.lit (.bool false)], args := [d1, d2, d3] }
  | _ => none }
def RaftCommitsWrongFalsely : Prop := raftCommitsRow.holds Try.pinned (OpenSpec.ofChange raftCommitsWrong)

/-- 'federationlaw8.RaftPlays': WHATEVER THE INPUT: true; the input reads as it did. -/
def raftPlaysSpec : ChangeSpec := { name := "raftPlays", fn := fun _ => fun
  | [d1, d2] => { results := [.lit (.bool true)], args := [d1, d2] }
  | _ => none }
def raftPlaysRow : OpenClaim := { program := "ytnkmljdkokcdjaa", sum := "140452518ab0164c35ee85e54b4e363b21a2d8adaf055cb15976f0f00e2d892e", func := "federation/federationlaw8.RaftPlays", spec := "raftPlays", unfollowed := true, recurses := true, apart := false }
def RaftPlaysSaid : Prop := raftPlaysRow.holds Try.pinned (OpenSpec.ofChange raftPlaysSpec)

/-- ITS FALSE NEIGHBOUR: 'it returns false'. Refute it at one input. -/
def raftPlaysWrong : ChangeSpec := { name := "raftPlays", fn := fun _ => fun
  | [d1, d2] => { results := [.lit (.bool false)], args := [d1, d2] }
  | _ => none }
def RaftPlaysWrongFalsely : Prop := raftPlaysRow.holds Try.pinned (OpenSpec.ofChange raftPlaysWrong)

/-- 'federationlaw8.RaftLogs': WHATEVER THE INPUT: true; the input reads as it did. -/
def raftLogsSpec : ChangeSpec := { name := "raftLogs", fn := fun _ => fun
  | [d1, d2] => { results := [.lit (.bool true)], args := [d1, d2] }
  | _ => none }
def raftLogsRow : OpenClaim := { program := "ytnkmljdkokcdjaa", sum := "140452518ab0164c35ee85e54b4e363b21a2d8adaf055cb15976f0f00e2d892e", func := "federation/federationlaw8.RaftLogs", spec := "raftLogs", unfollowed := true, recurses := true, apart := false }
def RaftLogsSaid : Prop := raftLogsRow.holds Try.pinned (OpenSpec.ofChange raftLogsSpec)

/-- ITS FALSE NEIGHBOUR: 'it returns false'. Refute it at one input. -/
def raftLogsWrong : ChangeSpec := { name := "raftLogs", fn := fun _ => fun
  | [d1, d2] => { results := [.lit (.bool false)], args := [d1, d2] }
  | _ => none }
def RaftLogsWrongFalsely : Prop := raftLogsRow.holds Try.pinned (OpenSpec.ofChange raftLogsWrong)

/-- 'federationlaw8.RaftVotes': WHATEVER THE INPUT: true; the input reads as it did. -/
def raftVotesSpec : ChangeSpec := { name := "raftVotes", fn := fun _ => fun
  | [d1, d2, d3] => { results := [.lit (.bool true)], args := [d1, d2, d3] }
  | _ => none }
def raftVotesRow : OpenClaim := { program := "ytnkmljdkokcdjaa", sum := "140452518ab0164c35ee85e54b4e363b21a2d8adaf055cb15976f0f00e2d892e", func := "federation/federationlaw8.RaftVotes", spec := "raftVotes", unfollowed := true, recurses := true, apart := false }
def RaftVotesSaid : Prop := raftVotesRow.holds Try.pinned (OpenSpec.ofChange raftVotesSpec)

/-- ITS FALSE NEIGHBOUR: 'it returns false'. Refute it at one input. -/
def raftVotesWrong : ChangeSpec := { name := "raftVotes", fn := fun _ => fun
  | [d1, d2, d3] => { results := [.lit (.bool false)], args := [d1, d2, d3] }
  | _ => none }
def RaftVotesWrongFalsely : Prop := raftVotesRow.holds Try.pinned (OpenSpec.ofChange raftVotesWrong)

/-- 'federationlaw8.RaftOwn': WHATEVER THE INPUT: true; the input reads as it did. -/
def raftOwnSpec : ChangeSpec := { name := "raftOwn", fn := fun _ => fun
  | [d1, d2, d3] => { results := [.lit (.bool true)], args := [d1, d2, d3] }
  | _ => none }
def raftOwnRow : OpenClaim := { program := "ytnkmljdkokcdjaa", sum := "140452518ab0164c35ee85e54b4e363b21a2d8adaf055cb15976f0f00e2d892e", func := "federation/federationlaw8.RaftOwn", spec := "raftOwn", unfollowed := true, recurses := true, apart := false }
def RaftOwnSaid : Prop := raftOwnRow.holds Try.pinned (OpenSpec.ofChange raftOwnSpec)

/-- ITS FALSE NEIGHBOUR: 'it returns false'. Refute it at one input. -/
def raftOwnWrong : ChangeSpec := { name := "raftOwn", fn := fun _ => fun
  | [d1, d2, d3] => { results := [.lit (.bool false)], args := [d1, d2, d3] }
  | _ => none }
def RaftOwnWrongFalsely : Prop := raftOwnRow.holds Try.pinned (OpenSpec.ofChange raftOwnWrong)

/-- 'federationlaw8.RaftOlder': WHATEVER THE INPUT: true; the input reads as it did. -/
def raftOlderSpec : ChangeSpec := { name := "raftOlder", fn := fun _ => fun
  | [d1, d2, d3, d4] => { results := [.lit (.bool true)], args := [d1, d2, d3, d4] }
  | _ => none }
def raftOlderRow : OpenClaim := { program := "ytnkmljdkokcdjaa", sum := "140452518ab0164c35ee85e54b4e363b21a2d8adaf055cb15976f0f00e2d892e", func := "federation/federationlaw8.RaftOlder", spec := "raftOlder", unfollowed := true, recurses := true, apart := false }
def RaftOlderSaid : Prop := raftOlderRow.holds Try.pinned (OpenSpec.ofChange raftOlderSpec)

/-- ITS FALSE NEIGHBOUR: 'it returns false'. Refute it at one input. -/
def raftOlderWrong : ChangeSpec := { name := "raftOlder", fn := fun _ => fun
  | [d1, d2, d3, d4] => { results := [.lit (.bool false)], args := [d1, d2, d3, d4] }
  | _ => none }
def RaftOlderWrongFalsely : Prop := raftOlderRow.holds Try.pinned (OpenSpec.ofChange raftOlderWrong)

/-- 'federationlaw9.GroupElects': WHATEVER THE INPUT: true; the input reads as it did. -/
def groupElectsSpec : ChangeSpec := { name := "groupElects", fn := fun _ => fun
  | [d1, d2, d3] => { results := [.lit (.bool true)], args := [d1, d2, d3] }
  | _ => none }
def groupElectsRow : OpenClaim := { program := "ytnkmljdkokcdjaa", sum := "140452518ab0164c35ee85e54b4e363b21a2d8adaf055cb15976f0f00e2d892e", func := "federation/federationlaw9.GroupElects", spec := "groupElects", unfollowed := true, recurses := true, apart := false }
def GroupElectsSaid : Prop := groupElectsRow.holds Try.pinned (OpenSpec.ofChange groupElectsSpec)

/-- ITS FALSE NEIGHBOUR: 'it returns false'. Refute it at one input. -/
def groupElectsWrong : ChangeSpec := { name := "groupElects", fn := fun _ => fun
  | [d1, d2, d3] => { results := [.lit (.bool false)], args := [d1, d2, d3] }
  | _ => none }
def GroupElectsWrongFalsely : Prop := groupElectsRow.holds Try.pinned (OpenSpec.ofChange groupElectsWrong)

/-- 'federationlaw9.GroupMinor': WHATEVER THE INPUT: true; the input reads as it did. -/
def groupMinorSpec : ChangeSpec := { name := "groupMinor", fn := fun _ => fun
  | [d1, d2, d3] => { results := [.lit (.bool true)], args := [d1, d2, d3] }
  | _ => none }
def groupMinorRow : OpenClaim := { program := "ytnkmljdkokcdjaa", sum := "140452518ab0164c35ee85e54b4e363b21a2d8adaf055cb15976f0f00e2d892e", func := "federation/federationlaw9.GroupMinor", spec := "groupMinor", unfollowed := true, recurses := true, apart := false }
def GroupMinorSaid : Prop := groupMinorRow.holds Try.pinned (OpenSpec.ofChange groupMinorSpec)

/-- ITS FALSE NEIGHBOUR: 'it returns false'. Refute it at one input. -/
def groupMinorWrong : ChangeSpec := { name := "groupMinor", fn := fun _ => fun
  | [d1, d2, d3] => { results := [.lit (.bool false)], args := [d1, d2, d3] }
  | _ => none }
def GroupMinorWrongFalsely : Prop := groupMinorRow.holds Try.pinned (OpenSpec.ofChange groupMinorWrong)

/-- 'federationlaw9.GroupOrder': WHATEVER THE INPUT: true; the input reads as it did. -/
def groupOrderSpec : ChangeSpec := { name := "groupOrder", fn := fun _ => fun
  | [d1, d2, d3] => { results := [.lit (.bool true)], args := [d1, d2, d3] }
  | _ => none }
def groupOrderRow : OpenClaim := { program := "ytnkmljdkokcdjaa", sum := "140452518ab0164c35ee85e54b4e363b21a2d8adaf055cb15976f0f00e2d892e", func := "federation/federationlaw9.GroupOrder", spec := "groupOrder", unfollowed := true, recurses := true, apart := false }
def GroupOrderSaid : Prop := groupOrderRow.holds Try.pinned (OpenSpec.ofChange groupOrderSpec)

/-- ITS FALSE NEIGHBOUR: 'it returns false'. Refute it at one input. -/
def groupOrderWrong : ChangeSpec := { name := "groupOrder", fn := fun _ => fun
  | [d1, d2, d3] => { results := [.lit (.bool false)], args := [d1, d2, d3] }
  | _ => none }
def GroupOrderWrongFalsely : Prop := groupOrderRow.holds Try.pinned (OpenSpec.ofChange groupOrderWrong)

/-- 'federationlaw9.GroupDown': WHATEVER THE INPUT: true; the input reads as it did. -/
def groupDownSpec : ChangeSpec := { name := "groupDown", fn := fun _ => fun
  | [d1, d2] => { results := [.lit (.bool true)], args := [d1, d2] }
  | _ => none }
def groupDownRow : OpenClaim := { program := "ytnkmljdkokcdjaa", sum := "140452518ab0164c35ee85e54b4e363b21a2d8adaf055cb15976f0f00e2d892e", func := "federation/federationlaw9.GroupDown", spec := "groupDown", unfollowed := true, recurses := true, apart := false }
def GroupDownSaid : Prop := groupDownRow.holds Try.pinned (OpenSpec.ofChange groupDownSpec)

/-- ITS FALSE NEIGHBOUR: 'it returns false'. Refute it at one input. -/
def groupDownWrong : ChangeSpec := { name := "groupDown", fn := fun _ => fun
  | [d1, d2] => { results := [.lit (.bool false)], args := [d1, d2] }
  | _ => none }
def GroupDownWrongFalsely : Prop := groupDownRow.holds Try.pinned (OpenSpec.ofChange groupDownWrong)

/-- 'federationlaw9.GroupApplied': WHATEVER THE INPUT: true; the input reads as it did. -/
def groupAppliedSpec : ChangeSpec := { name := "groupApplied", fn := fun _ => fun
  | [d1, d2] => { results := [.lit (.bool true)], args := [d1, d2] }
  | _ => none }
def groupAppliedRow : OpenClaim := { program := "ytnkmljdkokcdjaa", sum := "140452518ab0164c35ee85e54b4e363b21a2d8adaf055cb15976f0f00e2d892e", func := "federation/federationlaw9.GroupApplied", spec := "groupApplied", unfollowed := true, recurses := true, apart := false }
def GroupAppliedSaid : Prop := groupAppliedRow.holds Try.pinned (OpenSpec.ofChange groupAppliedSpec)

/-- ITS FALSE NEIGHBOUR: 'it returns false'. Refute it at one input. -/
def groupAppliedWrong : ChangeSpec := { name := "groupApplied", fn := fun _ => fun
  | [d1, d2] => { results := [.lit (.bool false)], args := [d1, d2] }
  | _ => none }
def GroupAppliedWrongFalsely : Prop := groupAppliedRow.holds Try.pinned (OpenSpec.ofChange groupAppliedWrong)

/-- 'federationlaw9.GroupFlight': WHATEVER THE INPUT: true; the input reads as it did. -/
def groupFlightSpec : ChangeSpec := { name := "groupFlight", fn := fun _ => fun
  | [d1, d2] => { results := [.lit (.bool true)], args := [d1, d2] }
  | _ => none }
def groupFlightRow : OpenClaim := { program := "ytnkmljdkokcdjaa", sum := "140452518ab0164c35ee85e54b4e363b21a2d8adaf055cb15976f0f00e2d892e", func := "federation/federationlaw9.GroupFlight", spec := "groupFlight", unfollowed := true, recurses := true, apart := false }
def GroupFlightSaid : Prop := groupFlightRow.holds Try.pinned (OpenSpec.ofChange groupFlightSpec)

/-- ITS FALSE NEIGHBOUR: 'it returns false'. Refute it at one input. -/
def groupFlightWrong : ChangeSpec := { name := "groupFlight", fn := fun _ => fun
  | [d1, d2] => { results := [.lit (.bool false)], args := [d1, d2] }
  | _ => none }
def GroupFlightWrongFalsely : Prop := groupFlightRow.holds Try.pinned (OpenSpec.ofChange groupFlightWrong)

/-- 'federationlaw9.GroupPlays': WHATEVER THE INPUT: true; the input reads as it did. -/
def groupPlaysSpec : ChangeSpec := { name := "groupPlays", fn := fun _ => fun
  | [d1, d2, d3] => { results := [.lit (.bool true)], args := [d1, d2, d3] }
  | _ => none }
def groupPlaysRow : OpenClaim := { program := "ytnkmljdkokcdjaa", sum := "140452518ab0164c35ee85e54b4e363b21a2d8adaf055cb15976f0f00e2d892e", func := "federation/federationlaw9.GroupPlays", spec := "groupPlays", unfollowed := true, recurses := true, apart := false }
def GroupPlaysSaid : Prop := groupPlaysRow.holds Try.pinned (OpenSpec.ofChange groupPlaysSpec)

/-- ITS FALSE NEIGHBOUR: 'it returns false'. Refute it at one input. -/
def groupPlaysWrong : ChangeSpec := { name := "groupPlays", fn := fun _ => fun
  | [d1, d2, d3] => { results := [.lit (.bool false)], args := [d1, d2, d3] }
  | _ => none }
def GroupPlaysWrongFalsely : Prop := groupPlaysRow.holds Try.pinned (OpenSpec.ofChange groupPlaysWrong)

/-- 'federationlaw9.GroupOne': WHATEVER THE INPUT: true; the input reads as it did. -/
def groupOneSpec : ChangeSpec := { name := "groupOne", fn := fun _ => fun
  | [d1, d2] => { results := [.lit (.bool true)], args := [d1, d2] }
  | _ => none }
def groupOneRow : OpenClaim := { program := "ytnkmljdkokcdjaa", sum := "140452518ab0164c35ee85e54b4e363b21a2d8adaf055cb15976f0f00e2d892e", func := "federation/federationlaw9.GroupOne", spec := "groupOne", unfollowed := true, recurses := true, apart := false }
def GroupOneSaid : Prop := groupOneRow.holds Try.pinned (OpenSpec.ofChange groupOneSpec)

/-- ITS FALSE NEIGHBOUR: 'it returns false'. Refute it at one input. -/
def groupOneWrong : ChangeSpec := { name := "groupOne", fn := fun _ => fun
  | [d1, d2] => { results := [.lit (.bool false)], args := [d1, d2] }
  | _ => none }
def GroupOneWrongFalsely : Prop := groupOneRow.holds Try.pinned (OpenSpec.ofChange groupOneWrong)

/-- 'federationlaw9.GroupRestarts': WHATEVER THE INPUT: true; the input reads as it did. -/
def groupRestartsSpec : ChangeSpec := { name := "groupRestarts", fn := fun _ => fun
  | [d1, d2, d3] => { results := [.lit (.bool true)], args := [d1, d2, d3] }
  | _ => none }
def groupRestartsRow : OpenClaim := { program := "ytnkmljdkokcdjaa", sum := "140452518ab0164c35ee85e54b4e363b21a2d8adaf055cb15976f0f00e2d892e", func := "federation/federationlaw9.GroupRestarts", spec := "groupRestarts", unfollowed := true, recurses := true, apart := false }
def GroupRestartsSaid : Prop := groupRestartsRow.holds Try.pinned (OpenSpec.ofChange groupRestartsSpec)

/-- ITS FALSE NEIGHBOUR: 'it returns false'. Refute it at one input. -/
def groupRestartsWrong : ChangeSpec := { name := "groupRestarts", fn := fun _ => fun
  | [d1, d2, d3] => { results := [.lit (.bool false)], args := [d1, d2, d3] }
  | _ => none }
def GroupRestartsWrongFalsely : Prop := groupRestartsRow.holds Try.pinned (OpenSpec.ofChange groupRestartsWrong)

/-- 'federationlaw9.GroupApart': WHATEVER THE INPUT: true; the input reads as it did. -/
def groupApartSpec : ChangeSpec := { name := "groupApart", fn := fun _ => fun
  | [d1, d2] => { results := [.lit (.bool true)], args := [d1, d2] }
  | _ => none }
def groupApartRow : OpenClaim := { program := "ytnkmljdkokcdjaa", sum := "140452518ab0164c35ee85e54b4e363b21a2d8adaf055cb15976f0f00e2d892e", func := "federation/federationlaw9.GroupApart", spec := "groupApart", unfollowed := true, recurses := true, apart := false }
def GroupApartSaid : Prop := groupApartRow.holds Try.pinned (OpenSpec.ofChange groupApartSpec)

/-- ITS FALSE NEIGHBOUR: 'it returns false'. Refute it at one input. -/
def groupApartWrong : ChangeSpec := { name := "groupApart", fn := fun _ => fun
  | [d1, d2] => { results := [.lit (.bool false)], args := [d1, d2] }
  | _ => none }
def GroupApartWrongFalsely : Prop := groupApartRow.holds Try.pinned (OpenSpec.ofChange groupApartWrong)

/- THE SECOND FORM. 'bulk': how many values and letters a reading holds, each counted each time it is reached (what is shared counts as often as it is met; a slice's spare places count too). A statement '..UptoSaid' is the law's where the arguments, and the package variables that the reading takes, are together of bulk at most 1048576: NARROWER than '..Said'. Prove '..Said' where nothing that the law and all that it calls make is longer than what came in: it says more and counts as full. Else prove '..UptoSaid'. A law counts once. -/
mutual
def uptoBulk {H : Type} : DataW H → Nat
  | .lit (.string bytes) => bytes.length + 1
  | .lit _ => 1
  | .nil => 1
  | .ptr d => uptoBulk d + 1
  | .slice elems spare => uptoBulkAll elems + uptoBulkAll spare + 1
  | .agg parts => uptoBulkAll parts + 1
  | .iface _ d => uptoBulk d + 1
  | .map entries => uptoBulkEntries entries + 1
  | .held _ => 1
def uptoBulkAll {H : Type} : List (DataW H) → Nat
  | [] => 0
  | d :: r => uptoBulk d + uptoBulkAll r
def uptoBulkEntries {H : Type} : List (Lit × DataW H) → Nat
  | [] => 0
  | x :: r => uptoBulkEntry x + uptoBulkEntries r
def uptoBulkEntry {H : Type} : Lit × DataW H → Nat
  | (.string bytes, d) => bytes.length + uptoBulk d + 1
  | (_, d) => uptoBulk d + 1
 end
def uptoSmall : (H : Type) → List (DataW H) → Bool := fun _ ds => decide (uptoBulkAll ds ≤ 1048576)
def OpenSpec.upto (s : _root_.Go.ChangeSpec) : _root_.Go.OpenSpec := { _root_.Go.OpenSpec.ofChange s with cond := some uptoSmall }

/-- 'federationlaw8.RaftTicks', WHERE WHAT IT READS IS OF BULK AT MOST 1048576: true; the input reads as it did. -/
def raftTicksUptoRow : OpenClaim := { program := "ytnkmljdkokcdjaa", sum := "140452518ab0164c35ee85e54b4e363b21a2d8adaf055cb15976f0f00e2d892e", func := "federation/federationlaw8.RaftTicks", spec := "raftTicks", unfollowed := true, recurses := true, apart := false, narrowed := true }
def RaftTicksUptoSaid : Prop := raftTicksUptoRow.holds Try.pinned (OpenSpec.upto raftTicksSpec)

/-- 'federationlaw8.RaftLeads', WHERE WHAT IT READS IS OF BULK AT MOST 1048576: true; the input reads as it did. -/
def raftLeadsUptoRow : OpenClaim := { program := "ytnkmljdkokcdjaa", sum := "140452518ab0164c35ee85e54b4e363b21a2d8adaf055cb15976f0f00e2d892e", func := "federation/federationlaw8.RaftLeads", spec := "raftLeads", unfollowed := true, recurses := true, apart := false, narrowed := true }
def RaftLeadsUptoSaid : Prop := raftLeadsUptoRow.holds Try.pinned (OpenSpec.upto raftLeadsSpec)

/-- 'federationlaw8.RaftCuts', WHERE WHAT IT READS IS OF BULK AT MOST 1048576: true; the input reads as it did. -/
def raftCutsUptoRow : OpenClaim := { program := "ytnkmljdkokcdjaa", sum := "140452518ab0164c35ee85e54b4e363b21a2d8adaf055cb15976f0f00e2d892e", func := "federation/federationlaw8.RaftCuts", spec := "raftCuts", unfollowed := true, recurses := true, apart := false, narrowed := true }
def RaftCutsUptoSaid : Prop := raftCutsUptoRow.holds Try.pinned (OpenSpec.upto raftCutsSpec)

/-- 'federationlaw8.RaftCommits', WHERE WHAT IT READS IS OF BULK AT MOST 1048576: true; the input reads as it did. -/
def raftCommitsUptoRow : OpenClaim := { program := "ytnkmljdkokcdjaa", sum := "140452518ab0164c35ee85e54b4e363b21a2d8adaf055cb15976f0f00e2d892e", func := "federation/federationlaw8.RaftCommits", spec := "raftCommits", unfollowed := true, recurses := true, apart := false, narrowed := true }
def RaftCommitsUptoSaid : Prop := raftCommitsUptoRow.holds Try.pinned (OpenSpec.upto raftCommitsSpec)

/-- 'federationlaw8.RaftPlays', WHERE WHAT IT READS IS OF BULK AT MOST 1048576: true; the input reads as it did. -/
def raftPlaysUptoRow : OpenClaim := { program := "ytnkmljdkokcdjaa", sum := "140452518ab0164c35ee85e54b4e363b21a2d8adaf055cb15976f0f00e2d892e", func := "federation/federationlaw8.RaftPlays", spec := "raftPlays", unfollowed := true, recurses := true, apart := false, narrowed := true }
def RaftPlaysUptoSaid : Prop := raftPlaysUptoRow.holds Try.pinned (OpenSpec.upto raftPlaysSpec)

/-- 'federationlaw8.RaftLogs', WHERE WHAT IT READS IS OF BULK AT MOST 1048576: true; the input reads as it did. -/
def raftLogsUptoRow : OpenClaim := { program := "ytnkmljdkokcdjaa", sum := "140452518ab0164c35ee85e54b4e363b21a2d8adaf055cb15976f0f00e2d892e", func := "federation/federationlaw8.RaftLogs", spec := "raftLogs", unfollowed := true, recurses := true, apart := false, narrowed := true }
def RaftLogsUptoSaid : Prop := raftLogsUptoRow.holds Try.pinned (OpenSpec.upto raftLogsSpec)

/-- 'federationlaw8.RaftVotes', WHERE WHAT IT READS IS OF BULK AT MOST 1048576: true; the input reads as it did. -/
def raftVotesUptoRow : OpenClaim := { program := "ytnkmljdkokcdjaa", sum := "140452518ab0164c35ee85e54b4e363b21a2d8adaf055cb15976f0f00e2d892e", func := "federation/federationlaw8.RaftVotes", spec := "raftVotes", unfollowed := true, recurses := true, apart := false, narrowed := true }
def RaftVotesUptoSaid : Prop := raftVotesUptoRow.holds Try.pinned (OpenSpec.upto raftVotesSpec)

/-- 'federationlaw8.RaftOwn', WHERE WHAT IT READS IS OF BULK AT MOST 1048576: true; the input reads as it did. -/
def raftOwnUptoRow : OpenClaim := { program := "ytnkmljdkokcdjaa", sum := "140452518ab0164c35ee85e54b4e363b21a2d8adaf055cb15976f0f00e2d892e", func := "federation/federationlaw8.RaftOwn", spec := "raftOwn", unfollowed := true, recurses := true, apart := false, narrowed := true }
def RaftOwnUptoSaid : Prop := raftOwnUptoRow.holds Try.pinned (OpenSpec.upto raftOwnSpec)

/-- 'federationlaw8.RaftOlder', WHERE WHAT IT READS IS OF BULK AT MOST 1048576: true; the input reads as it did. -/
def raftOlderUptoRow : OpenClaim := { program := "ytnkmljdkokcdjaa", sum := "140452518ab0164c35ee85e54b4e363b21a2d8adaf055cb15976f0f00e2d892e", func := "federation/federationlaw8.RaftOlder", spec := "raftOlder", unfollowed := true, recurses := true, apart := false, narrowed := true }
def RaftOlderUptoSaid : Prop := raftOlderUptoRow.holds Try.pinned (OpenSpec.upto raftOlderSpec)

/-- 'federationlaw9.GroupElects', WHERE WHAT IT READS IS OF BULK AT MOST 1048576: true; the input reads as it did. -/
def groupElectsUptoRow : OpenClaim := { program := "ytnkmljdkokcdjaa", sum := "140452518ab0164c35ee85e54b4e363b21a2d8adaf055cb15976f0f00e2d892e", func := "federation/federationlaw9.GroupElects", spec := "groupElects", unfollowed := true, recurses := true, apart := false, narrowed := true }
def GroupElectsUptoSaid : Prop := groupElectsUptoRow.holds Try.pinned (OpenSpec.upto groupElectsSpec)

/-- 'federationlaw9.GroupMinor', WHERE WHAT IT READS IS OF BULK AT MOST 1048576: true; the input reads as it did. -/
def groupMinorUptoRow : OpenClaim := { program := "ytnkmljdkokcdjaa", sum := "140452518ab0164c35ee85e54b4e363b21a2d8adaf055cb15976f0f00e2d892e", func := "federation/federationlaw9.GroupMinor", spec := "groupMinor", unfollowed := true, recurses := true, apart := false, narrowed := true }
def GroupMinorUptoSaid : Prop := groupMinorUptoRow.holds Try.pinned (OpenSpec.upto groupMinorSpec)

/-- 'federationlaw9.GroupOrder', WHERE WHAT IT READS IS OF BULK AT MOST 1048576: true; the input reads as it did. -/
def groupOrderUptoRow : OpenClaim := { program := "ytnkmljdkokcdjaa", sum := "140452518ab0164c35ee85e54b4e363b21a2d8adaf055cb15976f0f00e2d892e", func := "federation/federationlaw9.GroupOrder", spec := "groupOrder", unfollowed := true, recurses := true, apart := false, narrowed := true }
def GroupOrderUptoSaid : Prop := groupOrderUptoRow.holds Try.pinned (OpenSpec.upto groupOrderSpec)

/-- 'federationlaw9.GroupDown', WHERE WHAT IT READS IS OF BULK AT MOST 1048576: true; the input reads as it did. -/
def groupDownUptoRow : OpenClaim := { program := "ytnkmljdkokcdjaa", sum := "140452518ab0164c35ee85e54b4e363b21a2d8adaf055cb15976f0f00e2d892e", func := "federation/federationlaw9.GroupDown", spec := "groupDown", unfollowed := true, recurses := true, apart := false, narrowed := true }
def GroupDownUptoSaid : Prop := groupDownUptoRow.holds Try.pinned (OpenSpec.upto groupDownSpec)

/-- 'federationlaw9.GroupApplied', WHERE WHAT IT READS IS OF BULK AT MOST 1048576: true; the input reads as it did. -/
def groupAppliedUptoRow : OpenClaim := { program := "ytnkmljdkokcdjaa", sum := "140452518ab0164c35ee85e54b4e363b21a2d8adaf055cb15976f0f00e2d892e", func := "federation/federationlaw9.GroupApplied", spec := "groupApplied", unfollowed := true, recurses := true, apart := false, narrowed := true }
def GroupAppliedUptoSaid : Prop := groupAppliedUptoRow.holds Try.pinned (OpenSpec.upto groupAppliedSpec)

/-- 'federationlaw9.GroupFlight', WHERE WHAT IT READS IS OF BULK AT MOST 1048576: true; the input reads as it did. -/
def groupFlightUptoRow : OpenClaim := { program := "ytnkmljdkokcdjaa", sum := "140452518ab0164c35ee85e54b4e363b21a2d8adaf055cb15976f0f00e2d892e", func := "federation/federationlaw9.GroupFlight", spec := "groupFlight", unfollowed := true, recurses := true, apart := false, narrowed := true }
def GroupFlightUptoSaid : Prop := groupFlightUptoRow.holds Try.pinned (OpenSpec.upto groupFlightSpec)

/-- 'federationlaw9.GroupPlays', WHERE WHAT IT READS IS OF BULK AT MOST 1048576: true; the input reads as it did. -/
def groupPlaysUptoRow : OpenClaim := { program := "ytnkmljdkokcdjaa", sum := "140452518ab0164c35ee85e54b4e363b21a2d8adaf055cb15976f0f00e2d892e", func := "federation/federationlaw9.GroupPlays", spec := "groupPlays", unfollowed := true, recurses := true, apart := false, narrowed := true }
def GroupPlaysUptoSaid : Prop := groupPlaysUptoRow.holds Try.pinned (OpenSpec.upto groupPlaysSpec)

/-- 'federationlaw9.GroupOne', WHERE WHAT IT READS IS OF BULK AT MOST 1048576: true; the input reads as it did. -/
def groupOneUptoRow : OpenClaim := { program := "ytnkmljdkokcdjaa", sum := "140452518ab0164c35ee85e54b4e363b21a2d8adaf055cb15976f0f00e2d892e", func := "federation/federationlaw9.GroupOne", spec := "groupOne", unfollowed := true, recurses := true, apart := false, narrowed := true }
def GroupOneUptoSaid : Prop := groupOneUptoRow.holds Try.pinned (OpenSpec.upto groupOneSpec)

/-- 'federationlaw9.GroupRestarts', WHERE WHAT IT READS IS OF BULK AT MOST 1048576: true; the input reads as it did. -/
def groupRestartsUptoRow : OpenClaim := { program := "ytnkmljdkokcdjaa", sum := "140452518ab0164c35ee85e54b4e363b21a2d8adaf055cb15976f0f00e2d892e", func := "federation/federationlaw9.GroupRestarts", spec := "groupRestarts", unfollowed := true, recurses := true, apart := false, narrowed := true }
def GroupRestartsUptoSaid : Prop := groupRestartsUptoRow.holds Try.pinned (OpenSpec.upto groupRestartsSpec)

/-- 'federationlaw9.GroupApart', WHERE WHAT IT READS IS OF BULK AT MOST 1048576: true; the input reads as it did. -/
def groupApartUptoRow : OpenClaim := { program := "ytnkmljdkokcdjaa", sum := "140452518ab0164c35ee85e54b4e363b21a2d8adaf055cb15976f0f00e2d892e", func := "federation/federationlaw9.GroupApart", spec := "groupApart", unfollowed := true, recurses := true, apart := false, narrowed := true }
def GroupApartUptoSaid : Prop := groupApartUptoRow.holds Try.pinned (OpenSpec.upto groupApartSpec)

end Rows
end Go.Proofs.Ytnkmljdkokcdjaa
