/- Of all waits, the law ClockSets answers true: nothing is left to prove behind the walk. -/
import Derived.Test.YtccmelpnmjdclaaGoalClockSets
namespace Go.Proofs.Ytccmelpnmjdclaa.Pure
open Go.RowKit Go.Proofs.Ytccmelpnmjdclaa.A Go.Proofs.YtccmelpnmjdclaaW.PrintWords Go.Proofs.YtccmelpnmjdclaaW.PrintLast Go.Proofs.YtccmelpnmjdclaaW.PrintMore Go.Proofs.YtccmelpnmjdclaaO

/- YOURS -/
theorem ClockSets : Go.Proofs.Ytccmelpnmjdclaa.GClockSets.Pure := by
  intro l0 l1 a2 h0 h1 h2 h3 h4
  unfold greenscreenlaw04_ClockSets.f
  rw [if_pos h4]
end Go.Proofs.Ytccmelpnmjdclaa.Pure
