import Derived.Test.YtnhogaelhggheaaPx12
import Derived.Test.YtnhogaelhggheaaOpen
import Derived.KernelRfl
namespace Go.Proofs.Ytnhogaelhggheaa.GHeaderRounds
open Go.RowKit Go.Proofs.Ytnhogaelhggheaa.P Go.Proofs.YtnhogaelhggheaaW.PrintWords Go.Proofs.YtnhogaelhggheaaW.PrintLast Go.Proofs.YtnhogaelhggheaaW.PrintMore Go.Proofs.YtnhogaelhggheaaO
set_option linter.unusedVariables false


/-- What is left of HeaderRounds: a statement on numbers and lists. -/
def Pure : Prop := ∀ (a0 : Int), (Lit.int .i64 a0).wf = true → ∃ k, greenscreenlaw09_HeaderRounds.f k a0 = some true
end Go.Proofs.Ytnhogaelhggheaa.GHeaderRounds
