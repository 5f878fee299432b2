/-
  The law CmdBack as its pure statement; conditions: none.
-/
import Derived.Test.YtagjmphkfeiiiaaYx
namespace Go.Proofs.Ytagjmphkfeiiiaa.Pure
open Go.RowKit Go.Proofs.Ytagjmphkfeiiiaa.Q Go.Proofs.YtagjmphkfeiiiaaW.PrintWords Go.Proofs.YtagjmphkfeiiiaaW.PrintLast
theorem CmdBack : federationlaw7_CmdBack.Pure := by
  intro a0 a1 a2 l3 a4 a5
  intros
  exact Ev.rounds (Go.Proofs.Ytagjmphkfeiiiaa.Yx.back_ev a0 a1 a2 l3 a4 a5)
end Go.Proofs.Ytagjmphkfeiiiaa.Pure
