/- Of all rows of lists the law MailFirsts answers true: nothing is left to prove behind the walk. -/
import Derived.Test.YtofemimgjcjpdaaGoalMailFirsts
namespace Go.Proofs.Ytofemimgjcjpdaa.Pure
open Go.RowKit Go.Proofs.Ytofemimgjcjpdaa.A Go.Proofs.YtofemimgjcjpdaaW.PrintWords Go.Proofs.YtofemimgjcjpdaaW.PrintLast Go.Proofs.YtofemimgjcjpdaaW.PrintMore Go.Proofs.YtofemimgjcjpdaaO

/- YOURS -/
theorem MailFirsts : Go.Proofs.Ytofemimgjcjpdaa.GMailFirsts.Pure := by
  intro _ _
  rfl
end Go.Proofs.Ytofemimgjcjpdaa.Pure
