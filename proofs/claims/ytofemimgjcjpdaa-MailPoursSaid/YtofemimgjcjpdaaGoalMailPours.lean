import Derived.Test.YtofemimgjcjpdaaPoursWalk
import Derived.Test.YtofemimgjcjpdaaOpen
import Derived.KernelRfl
namespace Go.Proofs.Ytofemimgjcjpdaa.GMailPours
open Go.RowKit Go.Proofs.Ytofemimgjcjpdaa.A Go.Proofs.YtofemimgjcjpdaaW.PrintWords Go.Proofs.YtofemimgjcjpdaaW.PrintLast Go.Proofs.YtofemimgjcjpdaaW.PrintMore Go.Proofs.YtofemimgjcjpdaaO
set_option linter.unusedVariables false


/-- What is left of MailPours: a statement on numbers and lists. -/
def Pure : Prop := ∀ (a0 : Int) (a1 : Int) (l2 : List Int) (l3 : List Int), (Lit.int .i64 a0).wf = true → (Lit.int .i64 a1).wf = true → (l2.length ≤ maxLen ∧ ∀ y, y ∈ l2 → (Lit.int .i64 y).wf = true) → l2.length * 8 ≤ 140737488351232 → (l3.length ≤ maxLen ∧ ∀ y, y ∈ l3 → (Lit.int .i64 y).wf = true) → l3.length * 8 ≤ 140737488351232 → greenscreenlaw03_MailPours.f a0 a1 l2 l3 = some true
end Go.Proofs.Ytofemimgjcjpdaa.GMailPours
