import Derived.Test.YtnifkdcjphekpaaMostWalk
import Derived.Test.YtnifkdcjphekpaaOpen
import Derived.KernelRfl
namespace Go.Proofs.Ytnifkdcjphekpaa.GReplyMost
open Go.RowKit Go.Proofs.Ytnifkdcjphekpaa.A Go.Proofs.YtnifkdcjphekpaaW.PrintWords Go.Proofs.YtnifkdcjphekpaaW.PrintLast Go.Proofs.YtnifkdcjphekpaaW.PrintMore Go.Proofs.YtnifkdcjphekpaaO
set_option linter.unusedVariables false


/-- What is left of ReplyMost: a statement on numbers and lists. -/
def Pure : Prop := ∀ (a0 : Int), (Lit.int .i64 a0).wf = true → greenscreenlaw23_ReplyMost.f a0 = some true
end Go.Proofs.Ytnifkdcjphekpaa.GReplyMost
