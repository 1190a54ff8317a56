import Derived.Test.YthimdjdnpfaamaaPx8
import Derived.Test.YthimdjdnpfaamaaOpen
import Derived.KernelRfl
namespace Go.Proofs.Ythimdjdnpfaamaa.GAttrTexts
open Go.RowKit Go.Proofs.Ythimdjdnpfaamaa.P Go.Proofs.YthimdjdnpfaamaaW.PrintWords Go.Proofs.YthimdjdnpfaamaaW.PrintLast Go.Proofs.YthimdjdnpfaamaaW.PrintMore Go.Proofs.YthimdjdnpfaamaaO
set_option linter.unusedVariables false

structure S33 where
  f0 : Int
  f1 : Bool
  f2 : Bool
  f3 : Int
  f4 : Int
def k33 : Kd S33 := Kd.iso (Kd.pair (Kd.int .u8) (Kd.pair Kd.bool (Kd.pair Kd.bool (Kd.pair (Kd.int .u8) (Kd.int .u8))))) (fun x : S33 => (x.f0, x.f1, x.f2, x.f3, x.f4))
theorem k33_open {w : World} {x : S33} {cs : List Value} (h : k33.K w x cs) : cs = [.int .u8 x.f0, .bool x.f1, .bool x.f2, .int .u8 x.f3, .int .u8 x.f4] := by
  obtain ⟨_, _, rfl, h0, h⟩ := h
  obtain rfl := h0
  obtain ⟨_, _, rfl, h1, h⟩ := h
  obtain rfl := h1
  obtain ⟨_, _, rfl, h2, h⟩ := h
  obtain rfl := h2
  obtain ⟨_, _, rfl, h3, h⟩ := h
  obtain rfl := h3
  obtain rfl := h
  rfl
def g33 (x : S33) : Prop := (Lit.int .u8 x.f0).wf = true ∧ True ∧ True ∧ (Lit.int .u8 x.f3).wf = true ∧ (Lit.int .u8 x.f4).wf = true
theorem op33 : Opens Try.prog 33 k33 g33 :=
  Opens.imp (opens_iso (d := (Kd.pair (Kd.int .u8) (Kd.pair Kd.bool (Kd.pair Kd.bool (Kd.pair (Kd.int .u8) (Kd.int .u8)))))) (f := fun x : S33 => (x.f0, x.f1, x.f2, x.f3, x.f4)) (fun y => ⟨y.1, y.2.1, y.2.2.1, y.2.2.2.1, y.2.2.2.2⟩) (fun _ => rfl) (opens_struct Try.underlying33 (by kernel_rfl) (opensF_cons rfl (by kernel_rfl) (opens_int Try.underlying5) (opensF_cons rfl (by kernel_rfl) (opens_bool Try.underlying4) (opensF_cons rfl (by kernel_rfl) (opens_bool Try.underlying4) (opensF_cons rfl (by kernel_rfl) (opens_int Try.underlying5) (opensF_one rfl (by kernel_rfl) (opens_int Try.underlying5)))))))) (fun _ h => h)
def g36 (x : S36) : Prop := (Lit.int .u8 x.f0).wf = true ∧ (Lit.int .u8 x.f1).wf = true
theorem op36 : Opens Try.prog 36 k36 g36 :=
  Opens.imp (opens_iso (d := (Kd.pair (Kd.int .u8) (Kd.int .u8))) (f := fun x : S36 => (x.f0, x.f1)) (fun y => ⟨y.1, y.2⟩) (fun _ => rfl) (opens_struct Try.underlying36 (by kernel_rfl) (opensF_cons rfl (by kernel_rfl) (opens_int Try.underlying5) (opensF_one rfl (by kernel_rfl) (opens_int Try.underlying5))))) (fun _ h => h)
/-- What is left of AttrTexts: a statement on numbers and lists. -/
def Pure : Prop := ∀ (a0 : Int) (a1 : Int) (y2 : S33) (l3 : List S36), (Lit.int .u8 a0).wf = true → (Lit.int .u8 a1).wf = true → g33 y2 → (l3.length ≤ maxLen ∧ ∀ y, y ∈ l3 → g36 y) → ∃ k, greenscreenlaw11_AttrTexts.f k a0 a1 y2.f0 y2.f1 y2.f2 y2.f3 y2.f4 l3 = some true
end Go.Proofs.Ythimdjdnpfaamaa.GAttrTexts
