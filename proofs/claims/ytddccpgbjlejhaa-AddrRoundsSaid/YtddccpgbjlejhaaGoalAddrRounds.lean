import Derived.Test.YtddccpgbjlejhaaRoundsWalk
import Derived.Test.YtddccpgbjlejhaaOpen
import Derived.KernelRfl
namespace Go.Proofs.Ytddccpgbjlejhaa.GAddrRounds
open Go.RowKit Go.Proofs.Ytddccpgbjlejhaa.P Go.Proofs.YtddccpgbjlejhaaW.PrintWords Go.Proofs.YtddccpgbjlejhaaW.PrintLast Go.Proofs.YtddccpgbjlejhaaW.PrintMore Go.Proofs.YtddccpgbjlejhaaO
set_option linter.unusedVariables false

def g35 (x : S35) : Prop := (Lit.int .i64 x.f0).wf = true ∧ (Lit.int .i64 x.f1).wf = true
theorem op35 : Opens Try.prog 35 k35 g35 :=
  Opens.imp (opens_iso (d := (Kd.pair (Kd.int .i64) (Kd.int .i64))) (f := fun x : S35 => (x.f0, x.f1)) (fun y => ⟨y.1, y.2⟩) (fun _ => rfl) (opens_struct Try.underlying35 (by kernel_rfl) (opensF_cons rfl (by kernel_rfl) (opens_int Try.underlying3) (opensF_one rfl (by kernel_rfl) (opens_int Try.underlying3))))) (fun _ h => h)
/-- What is left of AddrRounds: a statement on numbers and lists. -/
def Pure : Prop := ∀ (y0 : S35) (a1 : Int) (a2 : Int) (a3 : Int) (a4 : Int), g35 y0 → (Lit.int .i64 a1).wf = true → (Lit.int .i64 a2).wf = true → (Lit.int .i64 a3).wf = true → (Lit.int .i64 a4).wf = true → greenscreenlaw02_AddrRounds.f y0.f0 y0.f1 a1 a2 a3 a4 = some true
end Go.Proofs.Ytddccpgbjlejhaa.GAddrRounds
