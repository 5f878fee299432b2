/-
  The law CmdCut as its pure statement; conditions: none.
-/
import Derived.Test.YtagjmphkfeiiiaaYt
namespace Go.Proofs.Ytagjmphkfeiiiaa.Pure
open Go.RowKit Go.Proofs.Ytagjmphkfeiiiaa.Q Go.Proofs.YtagjmphkfeiiiaaW.PrintWords Go.Proofs.YtagjmphkfeiiiaaW.PrintLast
theorem CmdCut : federationlaw7_CmdCut.Pure := by
  intro a0 a1 a2 l3 a4 a5 a6 a7
  intros
  exact Ev.rounds (Go.Proofs.Ytagjmphkfeiiiaa.Yt.cut_ev a0 a1 a2 l3 a4 a5 a6 a7)
end Go.Proofs.Ytagjmphkfeiiiaa.Pure
