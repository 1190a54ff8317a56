import Derived.Test.YtpdihhfeekoplaaPx8c
import Derived.Test.YtpdihhfeekoplaaOpen
import Derived.KernelRfl
namespace Go.Proofs.Ytpdihhfeekoplaa.GQuerySizes
open Go.RowKit Go.Proofs.Ytpdihhfeekoplaa.P Go.Proofs.YtpdihhfeekoplaaW.PrintWords Go.Proofs.YtpdihhfeekoplaaW.PrintLast Go.Proofs.YtpdihhfeekoplaaW.PrintMore Go.Proofs.YtpdihhfeekoplaaO
set_option linter.unusedVariables false

def g23 (x : S23) : Prop := (Lit.int .i64 x.f0).wf = true ∧ (Lit.int .i64 x.f1).wf = true
theorem op23 : Opens Try.prog 23 k23 g23 :=
  Opens.imp (opens_iso (d := (Kd.pair (Kd.int .i64) (Kd.int .i64))) (f := fun x : S23 => (x.f0, x.f1)) (fun y => ⟨y.1, y.2⟩) (fun _ => rfl) (opens_struct Try.underlying23 (by kernel_rfl) (opensF_cons rfl (by kernel_rfl) (opens_int Try.underlying3) (opensF_one rfl (by kernel_rfl) (opens_int Try.underlying3))))) (fun _ h => h)
/-- What is left of QuerySizes: a statement on numbers and lists. -/
def Pure : Prop := ∀ (y0 : S23) (y1 : S23) (a2 : Int), g23 y0 → g23 y1 → (Lit.int .u8 a2).wf = true → ∃ k, greenscreenlaw24_QuerySizes.f k y0.f0 y0.f1 y1.f0 y1.f1 a2 = some true
end Go.Proofs.Ytpdihhfeekoplaa.GQuerySizes
