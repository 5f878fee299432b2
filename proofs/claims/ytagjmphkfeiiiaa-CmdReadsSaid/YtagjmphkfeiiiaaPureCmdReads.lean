/-
  The law CmdReads as its pure statement; conditions: none.
-/
import Derived.Test.YtagjmphkfeiiiaaYl
namespace Go.Proofs.Ytagjmphkfeiiiaa.Pure
open Go.RowKit Go.Proofs.Ytagjmphkfeiiiaa.Q Go.Proofs.YtagjmphkfeiiiaaW.PrintWords Go.Proofs.YtagjmphkfeiiiaaW.PrintLast
theorem CmdReads : federationlaw7_CmdReads.Pure := by
  intro a0 a1 a2 l3 a4 a5 l6 l7 a8 a9 a10
  intros
  exact Ev.rounds (Go.Proofs.Ytagjmphkfeiiiaa.Yl.reads_ev a0 a1 a2 l3 a4 a5 l6 l7 a8 a9 a10)
end Go.Proofs.Ytagjmphkfeiiiaa.Pure
