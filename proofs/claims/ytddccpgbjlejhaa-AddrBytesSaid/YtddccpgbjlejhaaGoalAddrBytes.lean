import Derived.Test.YtddccpgbjlejhaaPx3
import Derived.Test.YtddccpgbjlejhaaOpen
import Derived.KernelRfl
namespace Go.Proofs.Ytddccpgbjlejhaa.GAddrBytes
open Go.RowKit Go.Proofs.Ytddccpgbjlejhaa.P Go.Proofs.YtddccpgbjlejhaaW.PrintWords Go.Proofs.YtddccpgbjlejhaaW.PrintLast Go.Proofs.YtddccpgbjlejhaaW.PrintMore Go.Proofs.YtddccpgbjlejhaaO
set_option linter.unusedVariables false


/-- What is left of AddrBytes: a statement on numbers and lists. -/
def Pure : Prop := ∀ (a0 : Int) (a1 : Int) (a2 : Int) (a3 : Int) (a4 : Int), (Lit.int .i64 a0).wf = true → (Lit.int .i64 a1).wf = true → (Lit.int .i64 a2).wf = true → (Lit.int .u8 a3).wf = true → (Lit.int .u8 a4).wf = true → ∃ k, greenscreenlaw02_AddrBytes.f k a0 a1 a2 a3 a4 = some true
end Go.Proofs.Ytddccpgbjlejhaa.GAddrBytes
