import Derived.Test.YtccmelpnmjdclaaSets
import Derived.Test.YtccmelpnmjdclaaOpen
import Derived.KernelRfl
namespace Go.Proofs.Ytccmelpnmjdclaa.GClockSets
open Go.RowKit Go.Proofs.Ytccmelpnmjdclaa.A Go.Proofs.YtccmelpnmjdclaaW.PrintWords Go.Proofs.YtccmelpnmjdclaaW.PrintLast Go.Proofs.YtccmelpnmjdclaaW.PrintMore Go.Proofs.YtccmelpnmjdclaaO
set_option linter.unusedVariables false


/-- What is left of ClockSets: a statement on numbers and lists. -/
def Pure : Prop := ∀ (l0 : List Int) (l1 : List Int) (a2 : Int), (l0.length ≤ maxLen ∧ ∀ y, y ∈ l0 → (Lit.int .i64 y).wf = true) → l0.length * 8 ≤ 140737488351232 → (l1.length ≤ maxLen ∧ ∀ y, y ∈ l1 → (Lit.int .i64 y).wf = true) → l1.length * 8 ≤ 140737488351232 → (Lit.int .i64 a2).wf = true → greenscreenlaw04_ClockSets.f l0 l1 a2 = some true
end Go.Proofs.Ytccmelpnmjdclaa.GClockSets
