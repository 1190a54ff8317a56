import Derived.Test.YtofemimgjcjpdaaPlaysWalk
import Derived.Test.YtofemimgjcjpdaaOpen
import Derived.KernelRfl
namespace Go.Proofs.Ytofemimgjcjpdaa.GMailPlays
open Go.RowKit Go.Proofs.Ytofemimgjcjpdaa.A Go.Proofs.YtofemimgjcjpdaaW.PrintWords Go.Proofs.YtofemimgjcjpdaaW.PrintLast Go.Proofs.YtofemimgjcjpdaaW.PrintMore Go.Proofs.YtofemimgjcjpdaaO
set_option linter.unusedVariables false

def g33 (x : S33) : Prop := (Lit.int .i64 x.f0).wf = true ∧ (Lit.int .i64 x.f1).wf = true ∧ True
theorem op33 : Opens Try.prog 33 k33 g33 :=
  Opens.imp (opens_iso (d := (Kd.pair (Kd.int .i64) (Kd.pair (Kd.int .i64) Kd.bool))) (f := fun x : S33 => (x.f0, x.f1, x.f2)) (fun y => ⟨y.1, y.2.1, y.2.2⟩) (fun _ => rfl) (opens_struct Try.underlying33 (by kernel_rfl) (opensF_cons rfl (by kernel_rfl) (opens_int Try.underlying3) (opensF_cons rfl (by kernel_rfl) (opens_int Try.underlying3) (opensF_one rfl (by kernel_rfl) (opens_bool Try.underlying4)))))) (fun _ h => h)
/-- What is left of MailPlays: a statement on numbers and lists. -/
def Pure : Prop := ∀ (a0 : Int) (a1 : Int) (l2 : List S33), (Lit.int .i64 a0).wf = true → (Lit.int .i64 a1).wf = true → (l2.length ≤ maxLen ∧ ∀ y, y ∈ l2 → g33 y) → greenscreenlaw03_MailPlays.f a0 a1 l2 = some true
end Go.Proofs.Ytofemimgjcjpdaa.GMailPlays
