import Derived.Test.YtnhogaelhggheaaPx11
import Derived.Test.YtnhogaelhggheaaOpen
import Derived.KernelRfl
namespace Go.Proofs.Ytnhogaelhggheaa.GHeaderCounts
open Go.RowKit Go.Proofs.Ytnhogaelhggheaa.P Go.Proofs.YtnhogaelhggheaaW.PrintWords Go.Proofs.YtnhogaelhggheaaW.PrintLast Go.Proofs.YtnhogaelhggheaaW.PrintMore Go.Proofs.YtnhogaelhggheaaO
set_option linter.unusedVariables false


/-- What is left of HeaderCounts: a statement on numbers and lists. -/
def Pure : Prop := ∀ (a0 : Int) (l1 : List Int), (Lit.int .i64 a0).wf = true → (l1.length ≤ maxLen ∧ ∀ y, y ∈ l1 → (Lit.int .i64 y).wf = true) → l1.length * 8 ≤ 140737488351232 → ∃ k, greenscreenlaw09_HeaderCounts.f k a0 l1 = some true
end Go.Proofs.Ytnhogaelhggheaa.GHeaderCounts
