import Derived.Test.YtddccpgbjlejhaaPx6
import Derived.Test.YtddccpgbjlejhaaOpen
import Derived.KernelRfl
namespace Go.Proofs.Ytddccpgbjlejhaa.GAddrBack
open Go.RowKit Go.Proofs.Ytddccpgbjlejhaa.P Go.Proofs.YtddccpgbjlejhaaW.PrintWords Go.Proofs.YtddccpgbjlejhaaW.PrintLast Go.Proofs.YtddccpgbjlejhaaW.PrintMore Go.Proofs.YtddccpgbjlejhaaO
set_option linter.unusedVariables false


/-- What is left of AddrBack: a statement on numbers and lists. -/
def Pure : Prop := ∀ (a0 : Int) (a1 : Int), (Lit.int .i64 a0).wf = true → (Lit.int .i64 a1).wf = true → ∃ k, greenscreenlaw02_AddrBack.f k a0 a1 = some true
end Go.Proofs.Ytddccpgbjlejhaa.GAddrBack
