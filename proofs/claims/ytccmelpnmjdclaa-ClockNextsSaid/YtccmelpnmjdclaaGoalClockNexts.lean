import Derived.Test.YtccmelpnmjdclaaNexts
import Derived.Test.YtccmelpnmjdclaaOpen
import Derived.KernelRfl
namespace Go.Proofs.Ytccmelpnmjdclaa.GClockNexts
open Go.RowKit Go.Proofs.Ytccmelpnmjdclaa.A Go.Proofs.YtccmelpnmjdclaaW.PrintWords Go.Proofs.YtccmelpnmjdclaaW.PrintLast Go.Proofs.YtccmelpnmjdclaaW.PrintMore Go.Proofs.YtccmelpnmjdclaaO
set_option linter.unusedVariables false


/-- What is left of ClockNexts: a statement on numbers and lists. -/
def Pure : Prop := ∀ (l0 : List Int), (l0.length ≤ maxLen ∧ ∀ y, y ∈ l0 → (Lit.int .i64 y).wf = true) → l0.length * 8 ≤ 140737488351232 → greenscreenlaw04_ClockNexts.f l0 = some true
end Go.Proofs.Ytccmelpnmjdclaa.GClockNexts
