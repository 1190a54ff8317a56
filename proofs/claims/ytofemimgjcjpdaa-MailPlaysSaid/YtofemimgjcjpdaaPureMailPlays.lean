/- Of each two rooms and row of steps the law MailPlays answers true: nothing is left to prove behind the walk. -/
import Derived.Test.YtofemimgjcjpdaaGoalMailPlays
namespace Go.Proofs.Ytofemimgjcjpdaa.Pure
open Go.RowKit Go.Proofs.Ytofemimgjcjpdaa.A Go.Proofs.YtofemimgjcjpdaaW.PrintWords Go.Proofs.YtofemimgjcjpdaaW.PrintLast Go.Proofs.YtofemimgjcjpdaaW.PrintMore Go.Proofs.YtofemimgjcjpdaaO

/- YOURS -/
theorem MailPlays : Go.Proofs.Ytofemimgjcjpdaa.GMailPlays.Pure := by
  intro _ _ _ _ _ _
  rfl
end Go.Proofs.Ytofemimgjcjpdaa.Pure
