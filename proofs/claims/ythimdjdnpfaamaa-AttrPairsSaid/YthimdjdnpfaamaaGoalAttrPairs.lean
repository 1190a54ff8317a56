import Derived.Test.YthimdjdnpfaamaaPx6
import Derived.Test.YthimdjdnpfaamaaOpen
import Derived.KernelRfl
namespace Go.Proofs.Ythimdjdnpfaamaa.GAttrPairs
open Go.RowKit Go.Proofs.Ythimdjdnpfaamaa.P Go.Proofs.YthimdjdnpfaamaaW.PrintWords Go.Proofs.YthimdjdnpfaamaaW.PrintLast Go.Proofs.YthimdjdnpfaamaaW.PrintMore Go.Proofs.YthimdjdnpfaamaaO
set_option linter.unusedVariables false

structure S33 where
  f0 : Int
  f1 : Bool
  f2 : Bool
  f3 : Int
  f4 : Int
def k33 : Kd S33 := Kd.iso (Kd.pair (Kd.int .u8) (Kd.pair Kd.bool (Kd.pair Kd.bool (Kd.pair (Kd.int .u8) (Kd.int .u8))))) (fun x : S33 => (x.f0, x.f1, x.f2, x.f3, x.f4))
theorem k33_open {w : World} {x : S33} {cs : List Value} (h : k33.K w x cs) : cs = [.int .u8 x.f0, .bool x.f1, .bool x.f2, .int .u8 x.f3, .int .u8 x.f4] := by
  obtain ⟨_, _, rfl, h0, h⟩ := h
  obtain rfl := h0
  obtain ⟨_, _, rfl, h1, h⟩ := h
  obtain rfl := h1
  obtain ⟨_, _, rfl, h2, h⟩ := h
  obtain rfl := h2
  obtain ⟨_, _, rfl, h3, h⟩ := h
  obtain rfl := h3
  obtain rfl := h
  rfl
def g33 (x : S33) : Prop := (Lit.int .u8 x.f0).wf = true ∧ True ∧ True ∧ (Lit.int .u8 x.f3).wf = true ∧ (Lit.int .u8 x.f4).wf = true
theorem op33 : Opens Try.prog 33 k33 g33 :=
  Opens.imp (opens_iso (d := (Kd.pair (Kd.int .u8) (Kd.pair Kd.bool (Kd.pair Kd.bool (Kd.pair (Kd.int .u8) (Kd.int .u8)))))) (f := fun x : S33 => (x.f0, x.f1, x.f2, x.f3, x.f4)) (fun y => ⟨y.1, y.2.1, y.2.2.1, y.2.2.2.1, y.2.2.2.2⟩) (fun _ => rfl) (opens_struct Try.underlying33 (by kernel_rfl) (opensF_cons rfl (by kernel_rfl) (opens_int Try.underlying5) (opensF_cons rfl (by kernel_rfl) (opens_bool Try.underlying4) (opensF_cons rfl (by kernel_rfl) (opens_bool Try.underlying4) (opensF_cons rfl (by kernel_rfl) (opens_int Try.underlying5) (opensF_one rfl (by kernel_rfl) (opens_int Try.underlying5)))))))) (fun _ h => h)
def g36 (x : S36) : Prop := (Lit.int .u8 x.f0).wf = true ∧ (Lit.int .u8 x.f1).wf = true
theorem op36 : Opens Try.prog 36 k36 g36 :=
  Opens.imp (opens_iso (d := (Kd.pair (Kd.int .u8) (Kd.int .u8))) (f := fun x : S36 => (x.f0, x.f1)) (fun y => ⟨y.1, y.2⟩) (fun _ => rfl) (opens_struct Try.underlying36 (by kernel_rfl) (opensF_cons rfl (by kernel_rfl) (opens_int Try.underlying5) (opensF_one rfl (by kernel_rfl) (opens_int Try.underlying5))))) (fun _ h => h)
/-- What is left of AttrPairs: a statement on numbers and lists. -/
def Pure : Prop := ∀ (y0 : S33) (a1 : Int) (l2 : List S36), g33 y0 → (Lit.int .u8 a1).wf = true → (l2.length ≤ maxLen ∧ ∀ y, y ∈ l2 → g36 y) → ∃ k, greenscreenlaw11_AttrPairs.f k y0.f0 y0.f1 y0.f2 y0.f3 y0.f4 a1 l2 = some true
end Go.Proofs.Ythimdjdnpfaamaa.GAttrPairs
