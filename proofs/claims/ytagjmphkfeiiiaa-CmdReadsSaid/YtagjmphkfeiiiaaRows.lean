/-
  No cell of these rows narrows 'for every input' (looked for: loops, veiled, ifaces, maps, wideKeys, modest, calm, conditions, laid).
  DERIVED. THE GIVEN ROWS OF THIS SEAT. 10 by the template 'for every input the law returns true; each argument reads behind the call as it read before'; 0 by the template 'total and deterministic' (their statements: YtagjmphkfeiiiaaTotals.lean).
  GIVEN WITH THE SEED: the statements are not yours to turn. If you find one false, say at which input.
  Laid BY PROGRAM, IN A SANDBOX (cutbox-rows.mjs): the forced cells as the released guide's own fill.sh prints them over the translation 7e4ec1c458fc2a40… (all of the seat's roots in one cut). By AI agents, Wed Nov 11 2026. No macro, syntax, notation, axiom, sorry.
-/
import Derived.Test.YtagjmphkfeiiiaaChecked
import GoSem.Claim
import GoSem.ClaimJoined
import GoSem.ClaimMapViews
import Derived.JoinedTies
import Derived.KernelRfl
namespace Go.Proofs.Ytagjmphkfeiiiaa
/- THE CELL 'sum', in the pinned program and in every row, IS THE sha256 OF THE DUMP (.gsa) THAT YtagjmphkfeiiiaaProg.lean LOADS. Nothing in Lean hashes anything: it is a label: what it is worth is what the hold of that sum in a sandbox is worth. -/
noncomputable def Try.pinned : Pinned := { name := "ytagjmphkfeiiiaa", sum := "7e4ec1c458fc2a4027e61fbf7984e8fc6939d46961c3c1274b79bb212a420be9", checked := Try.checked }
namespace Rows
def none {H : Type} : Left H := { results := [], args := [] }

/-- 'federationlaw7.CmdBack': WHATEVER THE INPUT: true; the input reads as it did. -/
def cmdBackSpec : ChangeSpec := { name := "cmdBack", fn := fun _ => fun
  | [d1, d2, d3, d4, d5, d6] => { results := [.lit (.bool true)], args := [d1, d2, d3, d4, d5, d6] }
  | _ => none }
def cmdBackRow : OpenClaim := { program := "ytagjmphkfeiiiaa", sum := "7e4ec1c458fc2a4027e61fbf7984e8fc6939d46961c3c1274b79bb212a420be9", func := "federation/federationlaw7.CmdBack", spec := "cmdBack", unfollowed := true, recurses := true, apart := false }
def CmdBackSaid : Prop := cmdBackRow.holds Try.pinned (OpenSpec.ofChange cmdBackSpec)

/-- ITS FALSE NEIGHBOUR: 'it returns false'. Refute it at one input. -/
def cmdBackWrong : ChangeSpec := { name := "cmdBack", fn := fun _ => fun
  | [d1, d2, d3, d4, d5, d6] => { results := [.lit (.bool false)], args := [d1, d2, d3, d4, d5, d6] }
  | _ => none }
def CmdBackWrongFalsely : Prop := cmdBackRow.holds Try.pinned (OpenSpec.ofChange cmdBackWrong)

/-- 'federationlaw7.CmdReads': WHATEVER THE INPUT: true; the input reads as it did. -/
def cmdReadsSpec : ChangeSpec := { name := "cmdReads", fn := fun _ => fun
  | [d1, d2, d3, d4, d5, d6, d7, d8, d9, d10, d11] => { results := [.lit (.bool true)], args := [d1, d2, d3, d4, d5, d6, d7, d8, d9, d10, d11] }
  | _ => none }
def cmdReadsRow : OpenClaim := { program := "ytagjmphkfeiiiaa", sum := "7e4ec1c458fc2a4027e61fbf7984e8fc6939d46961c3c1274b79bb212a420be9", func := "federation/federationlaw7.CmdReads", spec := "cmdReads", unfollowed := true, recurses := true, apart := false }
def CmdReadsSaid : Prop := cmdReadsRow.holds Try.pinned (OpenSpec.ofChange cmdReadsSpec)

/-- ITS FALSE NEIGHBOUR: 'it returns false'. Refute it at one input. -/
def cmdReadsWrong : ChangeSpec := { name := "cmdReads", fn := fun _ => fun
  | [d1, d2, d3, d4, d5, d6, d7, d8, d9, d10, d11] => { results := [.lit (.bool false)], args := [d1, d2, d3, d4, d5, d6, d7, d8, d9, d10, d11] }
  | _ => none }
def CmdReadsWrongFalsely : Prop := cmdReadsRow.holds Try.pinned (OpenSpec.ofChange cmdReadsWrong)

/-- 'federationlaw7.CmdRight': WHATEVER THE INPUT: true; the input reads as it did. -/
def cmdRightSpec : ChangeSpec := { name := "cmdRight", fn := fun _ => fun
  | [d1, d2, d3, d4, d5, d6, d7, d8, d9] => { results := [.lit (.bool true)], args := [d1, d2, d3, d4, d5, d6, d7, d8, d9] }
  | _ => none }
def cmdRightRow : OpenClaim := { program := "ytagjmphkfeiiiaa", sum := "7e4ec1c458fc2a4027e61fbf7984e8fc6939d46961c3c1274b79bb212a420be9", func := "federation/federationlaw7.CmdRight", spec := "cmdRight", unfollowed := true, recurses := true, apart := false }
def CmdRightSaid : Prop := cmdRightRow.holds Try.pinned (OpenSpec.ofChange cmdRightSpec)

/-- ITS FALSE NEIGHBOUR: 'it returns false'. Refute it at one input. -/
def cmdRightWrong : ChangeSpec := { name := "cmdRight", fn := fun _ => fun
  | [d1, d2, d3, d4, d5, d6, d7, d8, d9] => { results := [.lit (.bool false)], args := [d1, d2, d3, d4, d5, d6, d7, d8, d9] }
  | _ => none }
def CmdRightWrongFalsely : Prop := cmdRightRow.holds Try.pinned (OpenSpec.ofChange cmdRightWrong)

/-- 'federationlaw7.CmdUp': WHATEVER THE INPUT: true; the input reads as it did. -/
def cmdUpSpec : ChangeSpec := { name := "cmdUp", fn := fun _ => fun
  | [d1, d2, d3, d4, d5] => { results := [.lit (.bool true)], args := [d1, d2, d3, d4, d5] }
  | _ => none }
def cmdUpRow : OpenClaim := { program := "ytagjmphkfeiiiaa", sum := "7e4ec1c458fc2a4027e61fbf7984e8fc6939d46961c3c1274b79bb212a420be9", func := "federation/federationlaw7.CmdUp", spec := "cmdUp", unfollowed := true, recurses := true, apart := false }
def CmdUpSaid : Prop := cmdUpRow.holds Try.pinned (OpenSpec.ofChange cmdUpSpec)

/-- ITS FALSE NEIGHBOUR: 'it returns false'. Refute it at one input. -/
def cmdUpWrong : ChangeSpec := { name := "cmdUp", fn := fun _ => fun
  | [d1, d2, d3, d4, d5] => { results := [.lit (.bool false)], args := [d1, d2, d3, d4, d5] }
  | _ => none }
def CmdUpWrongFalsely : Prop := cmdUpRow.holds Try.pinned (OpenSpec.ofChange cmdUpWrong)

/-- 'federationlaw7.CmdApart': WHATEVER THE INPUT: true; the input reads as it did. -/
def cmdApartSpec : ChangeSpec := { name := "cmdApart", fn := fun _ => fun
  | [d1, d2, d3, d4, d5, d6, d7, d8] => { results := [.lit (.bool true)], args := [d1, d2, d3, d4, d5, d6, d7, d8] }
  | _ => none }
def cmdApartRow : OpenClaim := { program := "ytagjmphkfeiiiaa", sum := "7e4ec1c458fc2a4027e61fbf7984e8fc6939d46961c3c1274b79bb212a420be9", func := "federation/federationlaw7.CmdApart", spec := "cmdApart", unfollowed := true, recurses := true, apart := false }
def CmdApartSaid : Prop := cmdApartRow.holds Try.pinned (OpenSpec.ofChange cmdApartSpec)

/-- ITS FALSE NEIGHBOUR: 'it returns false'. Refute it at one input. -/
def cmdApartWrong : ChangeSpec := { name := "cmdApart", fn := fun _ => fun
  | [d1, d2, d3, d4, d5, d6, d7, d8] => { results := [.lit (.bool false)], args := [d1, d2, d3, d4, d5, d6, d7, d8] }
  | _ => none }
def CmdApartWrongFalsely : Prop := cmdApartRow.holds Try.pinned (OpenSpec.ofChange cmdApartWrong)

/-- 'federationlaw7.CmdSizes': WHATEVER THE INPUT: true; the input reads as it did. -/
def cmdSizesSpec : ChangeSpec := { name := "cmdSizes", fn := fun _ => fun
  | [d1, d2, d3, d4, d5] => { results := [.lit (.bool true)], args := [d1, d2, d3, d4, d5] }
  | _ => none }
def cmdSizesRow : OpenClaim := { program := "ytagjmphkfeiiiaa", sum := "7e4ec1c458fc2a4027e61fbf7984e8fc6939d46961c3c1274b79bb212a420be9", func := "federation/federationlaw7.CmdSizes", spec := "cmdSizes", unfollowed := true, recurses := true, apart := false }
def CmdSizesSaid : Prop := cmdSizesRow.holds Try.pinned (OpenSpec.ofChange cmdSizesSpec)

/-- ITS FALSE NEIGHBOUR: 'it returns false'. Refute it at one input. -/
def cmdSizesWrong : ChangeSpec := { name := "cmdSizes", fn := fun _ => fun
  | [d1, d2, d3, d4, d5] => { results := [.lit (.bool false)], args := [d1, d2, d3, d4, d5] }
  | _ => none }
def CmdSizesWrongFalsely : Prop := cmdSizesRow.holds Try.pinned (OpenSpec.ofChange cmdSizesWrong)

/-- 'federationlaw7.CmdCut': WHATEVER THE INPUT: true; the input reads as it did. -/
def cmdCutSpec : ChangeSpec := { name := "cmdCut", fn := fun _ => fun
  | [d1, d2, d3, d4, d5, d6, d7, d8] => { results := [.lit (.bool true)], args := [d1, d2, d3, d4, d5, d6, d7, d8] }
  | _ => none }
def cmdCutRow : OpenClaim := { program := "ytagjmphkfeiiiaa", sum := "7e4ec1c458fc2a4027e61fbf7984e8fc6939d46961c3c1274b79bb212a420be9", func := "federation/federationlaw7.CmdCut", spec := "cmdCut", unfollowed := true, recurses := true, apart := false }
def CmdCutSaid : Prop := cmdCutRow.holds Try.pinned (OpenSpec.ofChange cmdCutSpec)

/-- ITS FALSE NEIGHBOUR: 'it returns false'. Refute it at one input. -/
def cmdCutWrong : ChangeSpec := { name := "cmdCut", fn := fun _ => fun
  | [d1, d2, d3, d4, d5, d6, d7, d8] => { results := [.lit (.bool false)], args := [d1, d2, d3, d4, d5, d6, d7, d8] }
  | _ => none }
def CmdCutWrongFalsely : Prop := cmdCutRow.holds Try.pinned (OpenSpec.ofChange cmdCutWrong)

/-- 'federationlaw7.CmdNumbers': WHATEVER THE INPUT: true; the input reads as it did. -/
def cmdNumbersSpec : ChangeSpec := { name := "cmdNumbers", fn := fun _ => fun
  | [d1, d2] => { results := [.lit (.bool true)], args := [d1, d2] }
  | _ => none }
def cmdNumbersRow : OpenClaim := { program := "ytagjmphkfeiiiaa", sum := "7e4ec1c458fc2a4027e61fbf7984e8fc6939d46961c3c1274b79bb212a420be9", func := "federation/federationlaw7.CmdNumbers", spec := "cmdNumbers", unfollowed := true, recurses := true, apart := false }
def CmdNumbersSaid : Prop := cmdNumbersRow.holds Try.pinned (OpenSpec.ofChange cmdNumbersSpec)

/-- ITS FALSE NEIGHBOUR: 'it returns false'. Refute it at one input. -/
def cmdNumbersWrong : ChangeSpec := { name := "cmdNumbers", fn := fun _ => fun
  | [d1, d2] => { results := [.lit (.bool false)], args := [d1, d2] }
  | _ => none }
def CmdNumbersWrongFalsely : Prop := cmdNumbersRow.holds Try.pinned (OpenSpec.ofChange cmdNumbersWrong)

/-- 'federationlaw7.CmdKinds': WHATEVER THE INPUT: true; the input reads as it did. -/
def cmdKindsSpec : ChangeSpec := { name := "cmdKinds", fn := fun _ => fun
  | [d1, d2] => { results := [.lit (.bool true)], args := [d1, d2] }
  | _ => none }
def cmdKindsRow : OpenClaim := { program := "ytagjmphkfeiiiaa", sum := "7e4ec1c458fc2a4027e61fbf7984e8fc6939d46961c3c1274b79bb212a420be9", func := "federation/federationlaw7.CmdKinds", spec := "cmdKinds", unfollowed := true, recurses := true, apart := false }
def CmdKindsSaid : Prop := cmdKindsRow.holds Try.pinned (OpenSpec.ofChange cmdKindsSpec)

/-- ITS FALSE NEIGHBOUR: 'it returns false'. Refute it at one input. -/
def cmdKindsWrong : ChangeSpec := { name := "cmdKinds", fn := fun _ => fun
  | [d1, d2] => { results := [.lit (.bool false)], args := [d1, d2] }
  | _ => none }
def CmdKindsWrongFalsely : Prop := cmdKindsRow.holds Try.pinned (OpenSpec.ofChange cmdKindsWrong)

/-- 'federationlaw7.CmdOwn': WHATEVER THE INPUT: true; the input reads as it did. -/
def cmdOwnSpec : ChangeSpec := { name := "cmdOwn", fn := fun _ => fun
  | [d1, d2, d3, d4, d5] => { results := [.lit (.bool true)], args := [d1, d2, d3, d4, d5] }
  | _ => none }
def cmdOwnRow : OpenClaim := { program := "ytagjmphkfeiiiaa", sum := "7e4ec1c458fc2a4027e61fbf7984e8fc6939d46961c3c1274b79bb212a420be9", func := "federation/federationlaw7.CmdOwn", spec := "cmdOwn", unfollowed := true, recurses := true, apart := false }
def CmdOwnSaid : Prop := cmdOwnRow.holds Try.pinned (OpenSpec.ofChange cmdOwnSpec)

/-- ITS FALSE NEIGHBOUR: 'it returns false'. Refute it at one input. -/
def cmdOwnWrong : ChangeSpec := { name := "cmdOwn", fn := fun _ => fun
  | [d1, d2, d3, d4, d5] => { results := [.lit (.bool false)], args := [d1, d2, d3, d4, d5] }
  | _ => none }
def CmdOwnWrongFalsely : Prop := cmdOwnRow.holds Try.pinned (OpenSpec.ofChange cmdOwnWrong)

/- THE SECOND FORM. 'bulk': how many values and letters a reading holds, each counted each time it is reached (what is shared counts as often as it is met; a slice's spare places count too). A statement '..UptoSaid' is the law's where the arguments, and the package variables that the reading takes, are together of bulk at most 1048576: NARROWER than '..Said'. Prove '..Said' where nothing that the law and all that it calls make is longer than what came in: it says more and counts as full. Else prove '..UptoSaid'. A law counts once. -/
mutual
def uptoBulk {H : Type} : DataW H → Nat
  | .lit (.string bytes) => bytes.length + 1
  | .lit _ => 1
  | .nil => 1
  | .ptr d => uptoBulk d + 1
  | .slice elems spare => uptoBulkAll elems + uptoBulkAll spare + 1
  | .agg parts => uptoBulkAll parts + 1
  | .iface _ d => uptoBulk d + 1
  | .map entries => uptoBulkEntries entries + 1
  | .held _ => 1
def uptoBulkAll {H : Type} : List (DataW H) → Nat
  | [] => 0
  | d :: r => uptoBulk d + uptoBulkAll r
def uptoBulkEntries {H : Type} : List (Lit × DataW H) → Nat
  | [] => 0
  | x :: r => uptoBulkEntry x + uptoBulkEntries r
def uptoBulkEntry {H : Type} : Lit × DataW H → Nat
  | (.string bytes, d) => bytes.length + uptoBulk d + 1
  | (_, d) => uptoBulk d + 1
 end
def uptoSmall : (H : Type) → List (DataW H) → Bool := fun _ ds => decide (uptoBulkAll ds ≤ 1048576)
def OpenSpec.upto (s : _root_.Go.ChangeSpec) : _root_.Go.OpenSpec := { _root_.Go.OpenSpec.ofChange s with cond := some uptoSmall }

/-- 'federationlaw7.CmdBack', WHERE WHAT IT READS IS OF BULK AT MOST 1048576: true; the input reads as it did. -/
def cmdBackUptoRow : OpenClaim := { program := "ytagjmphkfeiiiaa", sum := "7e4ec1c458fc2a4027e61fbf7984e8fc6939d46961c3c1274b79bb212a420be9", func := "federation/federationlaw7.CmdBack", spec := "cmdBack", unfollowed := true, recurses := true, apart := false, narrowed := true }
def CmdBackUptoSaid : Prop := cmdBackUptoRow.holds Try.pinned (OpenSpec.upto cmdBackSpec)

/-- 'federationlaw7.CmdReads', WHERE WHAT IT READS IS OF BULK AT MOST 1048576: true; the input reads as it did. -/
def cmdReadsUptoRow : OpenClaim := { program := "ytagjmphkfeiiiaa", sum := "7e4ec1c458fc2a4027e61fbf7984e8fc6939d46961c3c1274b79bb212a420be9", func := "federation/federationlaw7.CmdReads", spec := "cmdReads", unfollowed := true, recurses := true, apart := false, narrowed := true }
def CmdReadsUptoSaid : Prop := cmdReadsUptoRow.holds Try.pinned (OpenSpec.upto cmdReadsSpec)

/-- 'federationlaw7.CmdRight', WHERE WHAT IT READS IS OF BULK AT MOST 1048576: true; the input reads as it did. -/
def cmdRightUptoRow : OpenClaim := { program := "ytagjmphkfeiiiaa", sum := "7e4ec1c458fc2a4027e61fbf7984e8fc6939d46961c3c1274b79bb212a420be9", func := "federation/federationlaw7.CmdRight", spec := "cmdRight", unfollowed := true, recurses := true, apart := false, narrowed := true }
def CmdRightUptoSaid : Prop := cmdRightUptoRow.holds Try.pinned (OpenSpec.upto cmdRightSpec)

/-- 'federationlaw7.CmdUp', WHERE WHAT IT READS IS OF BULK AT MOST 1048576: true; the input reads as it did. -/
def cmdUpUptoRow : OpenClaim := { program := "ytagjmphkfeiiiaa", sum := "7e4ec1c458fc2a4027e61fbf7984e8fc6939d46961c3c1274b79bb212a420be9", func := "federation/federationlaw7.CmdUp", spec := "cmdUp", unfollowed := true, recurses := true, apart := false, narrowed := true }
def CmdUpUptoSaid : Prop := cmdUpUptoRow.holds Try.pinned (OpenSpec.upto cmdUpSpec)

/-- 'federationlaw7.CmdApart', WHERE WHAT IT READS IS OF BULK AT MOST 1048576: true; the input reads as it did. -/
def cmdApartUptoRow : OpenClaim := { program := "ytagjmphkfeiiiaa", sum := "7e4ec1c458fc2a4027e61fbf7984e8fc6939d46961c3c1274b79bb212a420be9", func := "federation/federationlaw7.CmdApart", spec := "cmdApart", unfollowed := true, recurses := true, apart := false, narrowed := true }
def CmdApartUptoSaid : Prop := cmdApartUptoRow.holds Try.pinned (OpenSpec.upto cmdApartSpec)

/-- 'federationlaw7.CmdSizes', WHERE WHAT IT READS IS OF BULK AT MOST 1048576: true; the input reads as it did. -/
def cmdSizesUptoRow : OpenClaim := { program := "ytagjmphkfeiiiaa", sum := "7e4ec1c458fc2a4027e61fbf7984e8fc6939d46961c3c1274b79bb212a420be9", func := "federation/federationlaw7.CmdSizes", spec := "cmdSizes", unfollowed := true, recurses := true, apart := false, narrowed := true }
def CmdSizesUptoSaid : Prop := cmdSizesUptoRow.holds Try.pinned (OpenSpec.upto cmdSizesSpec)

/-- 'federationlaw7.CmdCut', WHERE WHAT IT READS IS OF BULK AT MOST 1048576: true; the input reads as it did. -/
def cmdCutUptoRow : OpenClaim := { program := "ytagjmphkfeiiiaa", sum := "7e4ec1c458fc2a4027e61fbf7984e8fc6939d46961c3c1274b79bb212a420be9", func := "federation/federationlaw7.CmdCut", spec := "cmdCut", unfollowed := true, recurses := true, apart := false, narrowed := true }
def CmdCutUptoSaid : Prop := cmdCutUptoRow.holds Try.pinned (OpenSpec.upto cmdCutSpec)

/-- 'federationlaw7.CmdNumbers', WHERE WHAT IT READS IS OF BULK AT MOST 1048576: true; the input reads as it did. -/
def cmdNumbersUptoRow : OpenClaim := { program := "ytagjmphkfeiiiaa", sum := "7e4ec1c458fc2a4027e61fbf7984e8fc6939d46961c3c1274b79bb212a420be9", func := "federation/federationlaw7.CmdNumbers", spec := "cmdNumbers", unfollowed := true, recurses := true, apart := false, narrowed := true }
def CmdNumbersUptoSaid : Prop := cmdNumbersUptoRow.holds Try.pinned (OpenSpec.upto cmdNumbersSpec)

/-- 'federationlaw7.CmdKinds', WHERE WHAT IT READS IS OF BULK AT MOST 1048576: true; the input reads as it did. -/
def cmdKindsUptoRow : OpenClaim := { program := "ytagjmphkfeiiiaa", sum := "7e4ec1c458fc2a4027e61fbf7984e8fc6939d46961c3c1274b79bb212a420be9", func := "federation/federationlaw7.CmdKinds", spec := "cmdKinds", unfollowed := true, recurses := true, apart := false, narrowed := true }
def CmdKindsUptoSaid : Prop := cmdKindsUptoRow.holds Try.pinned (OpenSpec.upto cmdKindsSpec)

/-- 'federationlaw7.CmdOwn', WHERE WHAT IT READS IS OF BULK AT MOST 1048576: true; the input reads as it did. -/
def cmdOwnUptoRow : OpenClaim := { program := "ytagjmphkfeiiiaa", sum := "7e4ec1c458fc2a4027e61fbf7984e8fc6939d46961c3c1274b79bb212a420be9", func := "federation/federationlaw7.CmdOwn", spec := "cmdOwn", unfollowed := true, recurses := true, apart := false, narrowed := true }
def CmdOwnUptoSaid : Prop := cmdOwnUptoRow.holds Try.pinned (OpenSpec.upto cmdOwnSpec)

end Rows
end Go.Proofs.Ytagjmphkfeiiiaa
