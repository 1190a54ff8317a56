import Derived.Test.YtccmelpnmjdclaaPlays
import Derived.Test.YtccmelpnmjdclaaOpen
import Derived.KernelRfl
namespace Go.Proofs.Ytccmelpnmjdclaa.GClockPlays
open Go.RowKit Go.Proofs.Ytccmelpnmjdclaa.A Go.Proofs.YtccmelpnmjdclaaW.PrintWords Go.Proofs.YtccmelpnmjdclaaW.PrintLast Go.Proofs.YtccmelpnmjdclaaW.PrintMore Go.Proofs.YtccmelpnmjdclaaO
set_option linter.unusedVariables false

def g32 (x : S32) : Prop := (Lit.int .i64 x.f0).wf = true ∧ (Lit.int .i64 x.f1).wf = true ∧ (Lit.int .i64 x.f2).wf = true
theorem op32 : Opens Try.prog 32 k32 g32 :=
  Opens.imp (opens_iso (d := (Kd.pair (Kd.int .i64) (Kd.pair (Kd.int .i64) (Kd.int .i64)))) (f := fun x : S32 => (x.f0, x.f1, x.f2)) (fun y => ⟨y.1, y.2.1, y.2.2⟩) (fun _ => rfl) (opens_struct Try.underlying32 (by kernel_rfl) (opensF_cons rfl (by kernel_rfl) (opens_int Try.underlying3) (opensF_cons rfl (by kernel_rfl) (opens_int Try.underlying3) (opensF_one rfl (by kernel_rfl) (opens_int Try.underlying2)))))) (fun _ h => h)
/-- What is left of ClockPlays: a statement on numbers and lists. -/
def Pure : Prop := ∀ (l0 : List S32) (a1 : Int), (l0.length ≤ maxLen ∧ ∀ y, y ∈ l0 → g32 y) → (Lit.int .i64 a1).wf = true → greenscreenlaw04_ClockPlays.f l0 a1 = some true
end Go.Proofs.Ytccmelpnmjdclaa.GClockPlays
