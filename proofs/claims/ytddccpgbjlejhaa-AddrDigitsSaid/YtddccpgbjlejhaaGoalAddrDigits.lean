import Derived.Test.YtddccpgbjlejhaaPx6
import Derived.Test.YtddccpgbjlejhaaOpen
import Derived.KernelRfl
namespace Go.Proofs.Ytddccpgbjlejhaa.GAddrDigits
open Go.RowKit Go.Proofs.Ytddccpgbjlejhaa.P Go.Proofs.YtddccpgbjlejhaaW.PrintWords Go.Proofs.YtddccpgbjlejhaaW.PrintLast Go.Proofs.YtddccpgbjlejhaaW.PrintMore Go.Proofs.YtddccpgbjlejhaaO
set_option linter.unusedVariables false

def g35 (x : S35) : Prop := (Lit.int .i64 x.f0).wf = true ∧ (Lit.int .i64 x.f1).wf = true
theorem op35 : Opens Try.prog 35 k35 g35 :=
  Opens.imp (opens_iso (d := (Kd.pair (Kd.int .i64) (Kd.int .i64))) (f := fun x : S35 => (x.f0, x.f1)) (fun y => ⟨y.1, y.2⟩) (fun _ => rfl) (opens_struct Try.underlying35 (by kernel_rfl) (opensF_cons rfl (by kernel_rfl) (opens_int Try.underlying3) (opensF_one rfl (by kernel_rfl) (opens_int Try.underlying3))))) (fun _ h => h)
/-- What is left of AddrDigits: a statement on numbers and lists. -/
def Pure : Prop := ∀ (a0 : Int) (a1 : Int) (y2 : S35) (a3 : Int), (Lit.int .i64 a0).wf = true → (Lit.int .i64 a1).wf = true → g35 y2 → (Lit.int .i64 a3).wf = true → ∃ k, greenscreenlaw02_AddrDigits.f k a0 a1 y2.f0 y2.f1 a3 = some true
end Go.Proofs.Ytddccpgbjlejhaa.GAddrDigits
