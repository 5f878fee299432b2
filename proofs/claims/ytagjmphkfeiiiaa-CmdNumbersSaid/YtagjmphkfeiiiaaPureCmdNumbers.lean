/-
  The law CmdNumbers as its pure statement; conditions: none.
-/
import Derived.Test.YtagjmphkfeiiiaaYv
namespace Go.Proofs.Ytagjmphkfeiiiaa.Pure
open Go.RowKit Go.Proofs.Ytagjmphkfeiiiaa.Q Go.Proofs.YtagjmphkfeiiiaaW.PrintWords Go.Proofs.YtagjmphkfeiiiaaW.PrintLast
theorem CmdNumbers : federationlaw7_CmdNumbers.Pure := by
  intro a0 a1
  intros
  exact Ev.rounds (Go.Proofs.Ytagjmphkfeiiiaa.Yv.numbers_ev a0 a1)
end Go.Proofs.Ytagjmphkfeiiiaa.Pure
