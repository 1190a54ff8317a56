/- Of all waits and steps the law ClockParts answers true: nothing is left to prove behind the walk. -/
import Derived.Test.YtccmelpnmjdclaaGoalClockParts
namespace Go.Proofs.Ytccmelpnmjdclaa.Pure
open Go.RowKit Go.Proofs.Ytccmelpnmjdclaa.A Go.Proofs.YtccmelpnmjdclaaW.PrintWords Go.Proofs.YtccmelpnmjdclaaW.PrintLast Go.Proofs.YtccmelpnmjdclaaW.PrintMore Go.Proofs.YtccmelpnmjdclaaO

/- YOURS -/
theorem ClockParts : Go.Proofs.Ytccmelpnmjdclaa.GClockParts.Pure := by
  intro _ _ _ _ _ _
  rfl
end Go.Proofs.Ytccmelpnmjdclaa.Pure
