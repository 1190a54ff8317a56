/- Of all rows of waits the law ClockNexts answers true: nothing is left to prove behind the walk. -/
import Derived.Test.YtccmelpnmjdclaaGoalClockNexts
namespace Go.Proofs.Ytccmelpnmjdclaa.Pure
open Go.RowKit Go.Proofs.Ytccmelpnmjdclaa.A Go.Proofs.YtccmelpnmjdclaaW.PrintWords Go.Proofs.YtccmelpnmjdclaaW.PrintLast Go.Proofs.YtccmelpnmjdclaaW.PrintMore Go.Proofs.YtccmelpnmjdclaaO

/- YOURS -/
theorem ClockNexts : Go.Proofs.Ytccmelpnmjdclaa.GClockNexts.Pure := by
  intro _ _ _
  rfl
end Go.Proofs.Ytccmelpnmjdclaa.Pure
