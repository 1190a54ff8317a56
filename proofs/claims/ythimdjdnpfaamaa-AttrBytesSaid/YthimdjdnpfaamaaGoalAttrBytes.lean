import Derived.Test.YthimdjdnpfaamaaPx4
import Derived.Test.YthimdjdnpfaamaaOpen
import Derived.KernelRfl
namespace Go.Proofs.Ythimdjdnpfaamaa.GAttrBytes
open Go.RowKit Go.Proofs.Ythimdjdnpfaamaa.P Go.Proofs.YthimdjdnpfaamaaW.PrintWords Go.Proofs.YthimdjdnpfaamaaW.PrintLast Go.Proofs.YthimdjdnpfaamaaW.PrintMore Go.Proofs.YthimdjdnpfaamaaO
set_option linter.unusedVariables false


/-- What is left of AttrBytes: a statement on numbers and lists. -/
def Pure : Prop := ∀ (a0 : Int) (a1 : Int) (a2 : Bool), (Lit.int .u8 a0).wf = true → (Lit.int .u8 a1).wf = true → ∃ k, greenscreenlaw11_AttrBytes.f k a0 a1 a2 = some true
end Go.Proofs.Ythimdjdnpfaamaa.GAttrBytes
