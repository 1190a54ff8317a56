/- Of each room and row of steps the law MailOrders answers true: nothing is left to prove behind the walk. -/
import Derived.Test.YtofemimgjcjpdaaGoalMailOrders
namespace Go.Proofs.Ytofemimgjcjpdaa.Pure
open Go.RowKit Go.Proofs.Ytofemimgjcjpdaa.A Go.Proofs.YtofemimgjcjpdaaW.PrintWords Go.Proofs.YtofemimgjcjpdaaW.PrintLast Go.Proofs.YtofemimgjcjpdaaW.PrintMore Go.Proofs.YtofemimgjcjpdaaO

/- YOURS -/
theorem MailOrders : Go.Proofs.Ytofemimgjcjpdaa.GMailOrders.Pure := by
  intro _ _ _ _
  rfl
end Go.Proofs.Ytofemimgjcjpdaa.Pure
