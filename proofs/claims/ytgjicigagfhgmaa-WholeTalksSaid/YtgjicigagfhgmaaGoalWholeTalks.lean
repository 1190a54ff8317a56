import Derived.Test.YtgjicigagfhgmaaTalks
import Derived.Test.YtgjicigagfhgmaaOpen
import Derived.KernelRfl
namespace Go.Proofs.Ytgjicigagfhgmaa.GWholeTalks
open Go.RowKit Go.Proofs.Ytgjicigagfhgmaa.A Go.Proofs.YtgjicigagfhgmaaW.PrintWords Go.Proofs.YtgjicigagfhgmaaW.PrintLast Go.Proofs.YtgjicigagfhgmaaW.PrintMore Go.Proofs.YtgjicigagfhgmaaO
set_option linter.unusedVariables false

def g28 (x : S28) : Prop := (Lit.int .u8 x.f0).wf = true ∧ (Lit.int .u8 x.f1).wf = true ∧ (Lit.int .u8 x.f2).wf = true ∧ (Lit.int .u16 x.f3).wf = true
theorem op28 : Opens Try.prog 28 k28 g28 :=
  Opens.imp (opens_iso (d := (Kd.pair (Kd.int .u8) (Kd.pair (Kd.int .u8) (Kd.pair (Kd.int .u8) (Kd.int .u16))))) (f := fun x : S28 => (x.f0, x.f1, x.f2, x.f3)) (fun y => ⟨y.1, y.2.1, y.2.2.1, y.2.2.2⟩) (fun _ => rfl) (opens_struct Try.underlying28 (by kernel_rfl) (opensF_cons rfl (by kernel_rfl) (opens_int Try.underlying5) (opensF_cons rfl (by kernel_rfl) (opens_int Try.underlying5) (opensF_cons rfl (by kernel_rfl) (opens_int Try.underlying5) (opensF_one rfl (by kernel_rfl) (opens_int Try.underlying26))))))) (fun _ h => h)
def g30 (x : S30) : Prop := g28 x.f0 ∧ (x.f1.length ≤ maxLen ∧ ∀ y, y ∈ x.f1 → (Lit.int .u8 y).wf = true) ∧ (Lit.int .u8 x.f2).wf = true ∧ (Lit.int .u8 x.f3).wf = true
theorem op30 : Opens Try.prog 30 k30 g30 :=
  Opens.imp (opens_iso (d := (Kd.pair k28 (Kd.pair (Kd.slice 5 (Kd.int .u8)) (Kd.pair (Kd.int .u8) (Kd.int .u8))))) (f := fun x : S30 => (x.f0, x.f1, x.f2, x.f3)) (fun y => ⟨y.1, y.2.1, y.2.2.1, y.2.2.2⟩) (fun _ => rfl) (opens_struct Try.underlying30 (by kernel_rfl) (opensF_cons rfl (by kernel_rfl) op28 (opensF_cons rfl (by kernel_rfl) (opens_slice (e := 5) Try.underlying25 (by kernel_rfl) (opens_int Try.underlying5)) (opensF_cons rfl (by kernel_rfl) (opens_int Try.underlying5) (opensF_one rfl (by kernel_rfl) (opens_int Try.underlying5))))))) (fun _ h => h)
/-- What is left of WholeTalks: a statement on numbers and lists. -/
def Pure : Prop := ∀ (a0 : Bool) (l1 : List Int) (l2 : List Int) (l3 : List S30), (l1.length ≤ maxLen ∧ ∀ y, y ∈ l1 → (Lit.int .u8 y).wf = true) → l1.length * 1 ≤ 140737488351232 → (l2.length ≤ maxLen ∧ ∀ y, y ∈ l2 → (Lit.int .u8 y).wf = true) → l2.length * 1 ≤ 140737488351232 → (l3.length ≤ maxLen ∧ ∀ y, y ∈ l3 → g30 y) → greenscreentop_WholeTalks.f a0 l1 l2 l3 = some true
end Go.Proofs.Ytgjicigagfhgmaa.GWholeTalks
