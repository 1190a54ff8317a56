/- Of every number of cells the law ReplyMost answers true: nothing is left to prove behind the walk. -/
import Derived.Test.YtnifkdcjphekpaaGoalReplyMost
namespace Go.Proofs.Ytnifkdcjphekpaa.Pure
open Go.RowKit Go.Proofs.Ytnifkdcjphekpaa.A Go.Proofs.YtnifkdcjphekpaaW.PrintWords Go.Proofs.YtnifkdcjphekpaaW.PrintLast Go.Proofs.YtnifkdcjphekpaaW.PrintMore Go.Proofs.YtnifkdcjphekpaaO

theorem ReplyMost : Go.Proofs.Ytnifkdcjphekpaa.GReplyMost.Pure := by
  intro _ _
  rfl
end Go.Proofs.Ytnifkdcjphekpaa.Pure
