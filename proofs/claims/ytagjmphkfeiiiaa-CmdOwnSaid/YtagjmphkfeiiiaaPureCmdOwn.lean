/-
  The law CmdOwn as its pure statement; conditions: none.
-/
import Derived.Test.YtagjmphkfeiiiaaYo
namespace Go.Proofs.Ytagjmphkfeiiiaa.Pure
open Go.RowKit Go.Proofs.Ytagjmphkfeiiiaa.Q Go.Proofs.YtagjmphkfeiiiaaW.PrintWords Go.Proofs.YtagjmphkfeiiiaaW.PrintLast
theorem CmdOwn : federationlaw7_CmdOwn.Pure := by
  intro a0 a1 a2 l3 a4
  intros
  exact Ev.rounds (Go.Proofs.Ytagjmphkfeiiiaa.Yo.own_ev a0 a1 a2 l3 a4)
end Go.Proofs.Ytagjmphkfeiiiaa.Pure
