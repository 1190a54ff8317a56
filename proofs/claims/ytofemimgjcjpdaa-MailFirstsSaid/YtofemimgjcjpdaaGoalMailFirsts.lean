import Derived.Test.YtofemimgjcjpdaaFirstsWalk
import Derived.Test.YtofemimgjcjpdaaOpen
import Derived.KernelRfl
namespace Go.Proofs.Ytofemimgjcjpdaa.GMailFirsts
open Go.RowKit Go.Proofs.Ytofemimgjcjpdaa.A Go.Proofs.YtofemimgjcjpdaaW.PrintWords Go.Proofs.YtofemimgjcjpdaaW.PrintLast Go.Proofs.YtofemimgjcjpdaaW.PrintMore Go.Proofs.YtofemimgjcjpdaaO
set_option linter.unusedVariables false


/-- What is left of MailFirsts: a statement on numbers and lists. -/
def Pure : Prop := ∀ (l0 : List (List Int)), (l0.length ≤ maxLen ∧ ∀ y, y ∈ l0 → (y.length ≤ maxLen ∧ ∀ z, z ∈ y → (Lit.int .i64 z).wf = true)) → greenscreenlaw03_MailFirsts.f l0 = some true
end Go.Proofs.Ytofemimgjcjpdaa.GMailFirsts
