import Derived.Test.YtbgpmdoeghajcaaPx5
import Derived.Test.YtbgpmdoeghajcaaOpen
import Derived.KernelRfl
namespace Go.Proofs.Ytbgpmdoeghajcaa.GLockSends
open Go.RowKit Go.Proofs.Ytbgpmdoeghajcaa.P Go.Proofs.YtbgpmdoeghajcaaW.PrintWords Go.Proofs.YtbgpmdoeghajcaaW.PrintLast Go.Proofs.YtbgpmdoeghajcaaW.PrintMore Go.Proofs.YtbgpmdoeghajcaaO
set_option linter.unusedVariables false

def g30 (x : S30) : Prop := (Lit.int .i64 x.f0).wf = true ∧ (Lit.int .i64 x.f1).wf = true
theorem op30 : Opens Try.prog 30 k30 g30 :=
  Opens.imp (opens_iso (d := (Kd.pair (Kd.int .i64) (Kd.int .i64))) (f := fun x : S30 => (x.f0, x.f1)) (fun y => ⟨y.1, y.2⟩) (fun _ => rfl) (opens_struct Try.underlying30 (by kernel_rfl) (opensF_cons rfl (by kernel_rfl) (opens_int Try.underlying3) (opensF_one rfl (by kernel_rfl) (opens_int Try.underlying24))))) (fun _ h => h)
/-- What is left of LockSends: a statement on numbers and lists. -/
def Pure : Prop := ∀ (l0 : List S30), (l0.length ≤ maxLen ∧ ∀ y, y ∈ l0 → g30 y) → ∃ k, greenscreenlaw21_LockSends.f k l0 = some true
end Go.Proofs.Ytbgpmdoeghajcaa.GLockSends
