import Derived.Test.YtnifkdcjphekpaaSendsWalk
import Derived.Test.YtnifkdcjphekpaaOpen
import Derived.KernelRfl
namespace Go.Proofs.Ytnifkdcjphekpaa.GReplySends
open Go.RowKit Go.Proofs.Ytnifkdcjphekpaa.A Go.Proofs.YtnifkdcjphekpaaW.PrintWords Go.Proofs.YtnifkdcjphekpaaW.PrintLast Go.Proofs.YtnifkdcjphekpaaW.PrintMore Go.Proofs.YtnifkdcjphekpaaO
set_option linter.unusedVariables false

structure S26 where
  f0 : Int
  f1 : Int
def k26 : Kd S26 := Kd.iso (Kd.pair (Kd.int .i64) (Kd.int .i64)) (fun x : S26 => (x.f0, x.f1))
theorem k26_open {w : World} {x : S26} {cs : List Value} (h : k26.K w x cs) : cs = [.int .i64 x.f0, .int .i64 x.f1] := by
  obtain ⟨_, _, rfl, h0, h⟩ := h
  obtain rfl := h0
  obtain rfl := h
  rfl
def g26 (x : S26) : Prop := (Lit.int .i64 x.f0).wf = true ∧ (Lit.int .i64 x.f1).wf = true
theorem op26 : Opens Try.prog 26 k26 g26 :=
  Opens.imp (opens_iso (d := (Kd.pair (Kd.int .i64) (Kd.int .i64))) (f := fun x : S26 => (x.f0, x.f1)) (fun y => ⟨y.1, y.2⟩) (fun _ => rfl) (opens_struct Try.underlying26 (by kernel_rfl) (opensF_cons rfl (by kernel_rfl) (opens_int Try.underlying3) (opensF_one rfl (by kernel_rfl) (opens_int Try.underlying3))))) (fun _ h => h)
def g34 (x : S34) : Prop := (Lit.int .u8 x.f0).wf = true ∧ True ∧ True ∧ (Lit.int .u8 x.f3).wf = true ∧ (Lit.int .u8 x.f4).wf = true
theorem op34 : Opens Try.prog 34 k34 g34 :=
  Opens.imp (opens_iso (d := (Kd.pair (Kd.int .u8) (Kd.pair Kd.bool (Kd.pair Kd.bool (Kd.pair (Kd.int .u8) (Kd.int .u8)))))) (f := fun x : S34 => (x.f0, x.f1, x.f2, x.f3, x.f4)) (fun y => ⟨y.1, y.2.1, y.2.2.1, y.2.2.2.1, y.2.2.2.2⟩) (fun _ => rfl) (opens_struct Try.underlying34 (by kernel_rfl) (opensF_cons rfl (by kernel_rfl) (opens_int Try.underlying5) (opensF_cons rfl (by kernel_rfl) (opens_bool Try.underlying4) (opensF_cons rfl (by kernel_rfl) (opens_bool Try.underlying4) (opensF_cons rfl (by kernel_rfl) (opens_int Try.underlying5) (opensF_one rfl (by kernel_rfl) (opens_int Try.underlying5)))))))) (fun _ h => h)
/-- What is left of ReplySends: a statement on numbers and lists. -/
def Pure : Prop := ∀ (y0 : S26) (l1 : List S34) (a2 : Int) (a3 : Int) (a4 : Int), g26 y0 → (l1.length ≤ maxLen ∧ ∀ y, y ∈ l1 → g34 y) → (Lit.int .i64 a2).wf = true → (Lit.int .u8 a3).wf = true → (Lit.int .u8 a4).wf = true → greenscreenlaw23_ReplySends.f y0.f0 y0.f1 l1 a2 a3 a4 = some true
end Go.Proofs.Ytnifkdcjphekpaa.GReplySends
