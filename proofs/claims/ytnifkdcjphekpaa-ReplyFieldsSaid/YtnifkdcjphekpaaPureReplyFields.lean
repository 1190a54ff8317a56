/- Of every size, cells and place the law ReplyFields answers true: nothing is left to prove behind the walk. -/
import Derived.Test.YtnifkdcjphekpaaGoalReplyFields
namespace Go.Proofs.Ytnifkdcjphekpaa.Pure
open Go.RowKit Go.Proofs.Ytnifkdcjphekpaa.A Go.Proofs.YtnifkdcjphekpaaW.PrintWords Go.Proofs.YtnifkdcjphekpaaW.PrintLast Go.Proofs.YtnifkdcjphekpaaW.PrintMore Go.Proofs.YtnifkdcjphekpaaO

theorem ReplyFields : Go.Proofs.Ytnifkdcjphekpaa.GReplyFields.Pure := by
  intro _ _ _ _ _ _
  rfl
end Go.Proofs.Ytnifkdcjphekpaa.Pure
