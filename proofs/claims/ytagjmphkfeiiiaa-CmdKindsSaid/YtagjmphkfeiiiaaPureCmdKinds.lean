/-
  The law CmdKinds as its pure statement; conditions: none.
-/
import Derived.Test.YtagjmphkfeiiiaaQx12
import Derived.Test.YtagjmphkfeiiiaaYk
namespace Go.Proofs.Ytagjmphkfeiiiaa.Pure
open Go.RowKit Go.Proofs.Ytagjmphkfeiiiaa.Q Go.Proofs.YtagjmphkfeiiiaaW.PrintWords Go.Proofs.YtagjmphkfeiiiaaW.PrintLast
theorem CmdKinds : federationlaw7_CmdKinds.Pure := by
  intro a0 a1 _ _
  exact Ev.rounds (Go.Proofs.Ytagjmphkfeiiiaa.Yk.kinds_ev a0 a1)
end Go.Proofs.Ytagjmphkfeiiiaa.Pure
