/- Of every two rooms and two lists the law MailPours answers true: nothing is left to prove behind the walk. -/
import Derived.Test.YtofemimgjcjpdaaGoalMailPours
namespace Go.Proofs.Ytofemimgjcjpdaa.Pure
open Go.RowKit Go.Proofs.Ytofemimgjcjpdaa.A Go.Proofs.YtofemimgjcjpdaaW.PrintWords Go.Proofs.YtofemimgjcjpdaaW.PrintLast Go.Proofs.YtofemimgjcjpdaaW.PrintMore Go.Proofs.YtofemimgjcjpdaaO

theorem MailPours : Go.Proofs.Ytofemimgjcjpdaa.GMailPours.Pure := by
  intro _ _ _ _ _ _ _ _ _ _
  rfl
end Go.Proofs.Ytofemimgjcjpdaa.Pure
