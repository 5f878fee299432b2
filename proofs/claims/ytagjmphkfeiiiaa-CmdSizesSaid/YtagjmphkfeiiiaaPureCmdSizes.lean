/-
  The law CmdSizes as its pure statement; conditions: none.
-/
import Derived.Test.YtagjmphkfeiiiaaYs
namespace Go.Proofs.Ytagjmphkfeiiiaa.Pure
open Go.RowKit Go.Proofs.Ytagjmphkfeiiiaa.Q Go.Proofs.YtagjmphkfeiiiaaW.PrintWords Go.Proofs.YtagjmphkfeiiiaaW.PrintLast
theorem CmdSizes : federationlaw7_CmdSizes.Pure := by
  intro a0 a1 a2 l3 a4
  intros
  exact Ev.rounds (Go.Proofs.Ytagjmphkfeiiiaa.Ys.sizes_ev a0 a1 a2 l3 a4)
end Go.Proofs.Ytagjmphkfeiiiaa.Pure
