/- Of every size, cells, place and key the law ReplyAlls answers true: nothing is left to prove behind the walk. -/
import Derived.Test.YtnifkdcjphekpaaGoalReplyAlls
namespace Go.Proofs.Ytnifkdcjphekpaa.Pure
open Go.RowKit Go.Proofs.Ytnifkdcjphekpaa.A Go.Proofs.YtnifkdcjphekpaaW.PrintWords Go.Proofs.YtnifkdcjphekpaaW.PrintLast Go.Proofs.YtnifkdcjphekpaaW.PrintMore Go.Proofs.YtnifkdcjphekpaaO

theorem ReplyAlls : Go.Proofs.Ytnifkdcjphekpaa.GReplyAlls.Pure := by
  intro _ _ _ _ _ _ _ _
  rfl
end Go.Proofs.Ytnifkdcjphekpaa.Pure
