import Derived.Test.YtpdihhfeekoplaaPx9
import Derived.Test.YtpdihhfeekoplaaOpen
import Derived.KernelRfl
namespace Go.Proofs.Ytpdihhfeekoplaa.GQueryBytes
open Go.RowKit Go.Proofs.Ytpdihhfeekoplaa.P Go.Proofs.YtpdihhfeekoplaaW.PrintWords Go.Proofs.YtpdihhfeekoplaaW.PrintLast Go.Proofs.YtpdihhfeekoplaaW.PrintMore Go.Proofs.YtpdihhfeekoplaaO
set_option linter.unusedVariables false

def g23 (x : S23) : Prop := (Lit.int .i64 x.f0).wf = true ∧ (Lit.int .i64 x.f1).wf = true
theorem op23 : Opens Try.prog 23 k23 g23 :=
  Opens.imp (opens_iso (d := (Kd.pair (Kd.int .i64) (Kd.int .i64))) (f := fun x : S23 => (x.f0, x.f1)) (fun y => ⟨y.1, y.2⟩) (fun _ => rfl) (opens_struct Try.underlying23 (by kernel_rfl) (opensF_cons rfl (by kernel_rfl) (opens_int Try.underlying3) (opensF_one rfl (by kernel_rfl) (opens_int Try.underlying3))))) (fun _ h => h)
def g26 (x : S26) : Prop := g23 x.f0 ∧ g23 x.f1 ∧ (x.f2.length ≤ maxLen ∧ ∀ y, y ∈ x.f2 → (Lit.int .u8 y).wf = true) ∧ (x.f3.length ≤ maxLen ∧ ∀ y, y ∈ x.f3 → (Lit.int .u8 y).wf = true)
theorem op26 : Opens Try.prog 26 k26 g26 :=
  Opens.imp (opens_iso (d := (Kd.pair k23 (Kd.pair k23 (Kd.pair (Kd.slice 5 (Kd.int .u8)) (Kd.slice 5 (Kd.int .u8)))))) (f := fun x : S26 => (x.f0, x.f1, x.f2, x.f3)) (fun y => ⟨y.1, y.2.1, y.2.2.1, y.2.2.2⟩) (fun _ => rfl) (opens_struct Try.underlying26 (by kernel_rfl) (opensF_cons rfl (by kernel_rfl) op23 (opensF_cons rfl (by kernel_rfl) op23 (opensF_cons rfl (by kernel_rfl) (opens_slice (e := 5) Try.underlying24 (by kernel_rfl) (opens_int Try.underlying5)) (opensF_one rfl (by kernel_rfl) (opens_slice (e := 5) Try.underlying24 (by kernel_rfl) (opens_int Try.underlying5)))))))) (fun _ h => h)
/-- What is left of QueryBytes: a statement on numbers and lists. -/
def Pure : Prop := ∀ (y0 : S26) (l1 : List Int), g26 y0 → (l1.length ≤ maxLen ∧ ∀ y, y ∈ l1 → (Lit.int .u8 y).wf = true) → l1.length * 1 ≤ 140737488351232 → ∃ k, greenscreenlaw24_QueryBytes.f k y0.f0.f0 y0.f0.f1 y0.f1.f0 y0.f1.f1 y0.f2 y0.f3 l1 = some true
end Go.Proofs.Ytpdihhfeekoplaa.GQueryBytes
