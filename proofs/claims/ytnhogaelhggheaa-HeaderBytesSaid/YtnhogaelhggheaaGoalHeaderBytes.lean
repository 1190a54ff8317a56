import Derived.Test.YtnhogaelhggheaaPx8
import Derived.Test.YtnhogaelhggheaaOpen
import Derived.KernelRfl
namespace Go.Proofs.Ytnhogaelhggheaa.GHeaderBytes
open Go.RowKit Go.Proofs.Ytnhogaelhggheaa.P Go.Proofs.YtnhogaelhggheaaW.PrintWords Go.Proofs.YtnhogaelhggheaaW.PrintLast Go.Proofs.YtnhogaelhggheaaW.PrintMore Go.Proofs.YtnhogaelhggheaaO
set_option linter.unusedVariables false

structure S25 where
  f0 : Int
  f1 : Int
  f2 : Int
  f3 : Int
def k25 : Kd S25 := Kd.iso (Kd.pair (Kd.int .u8) (Kd.pair (Kd.int .u8) (Kd.pair (Kd.int .u8) (Kd.int .u16)))) (fun x : S25 => (x.f0, x.f1, x.f2, x.f3))
theorem k25_open {w : World} {x : S25} {cs : List Value} (h : k25.K w x cs) : cs = [.int .u8 x.f0, .int .u8 x.f1, .int .u8 x.f2, .int .u16 x.f3] := by
  obtain ⟨_, _, rfl, h0, h⟩ := h
  obtain rfl := h0
  obtain ⟨_, _, rfl, h1, h⟩ := h
  obtain rfl := h1
  obtain ⟨_, _, rfl, h2, h⟩ := h
  obtain rfl := h2
  obtain rfl := h
  rfl
def g25 (x : S25) : Prop := (Lit.int .u8 x.f0).wf = true ∧ (Lit.int .u8 x.f1).wf = true ∧ (Lit.int .u8 x.f2).wf = true ∧ (Lit.int .u16 x.f3).wf = true
theorem op25 : Opens Try.prog 25 k25 g25 :=
  Opens.imp (opens_iso (d := (Kd.pair (Kd.int .u8) (Kd.pair (Kd.int .u8) (Kd.pair (Kd.int .u8) (Kd.int .u16))))) (f := fun x : S25 => (x.f0, x.f1, x.f2, x.f3)) (fun y => ⟨y.1, y.2.1, y.2.2.1, y.2.2.2⟩) (fun _ => rfl) (opens_struct Try.underlying25 (by kernel_rfl) (opensF_cons rfl (by kernel_rfl) (opens_int Try.underlying5) (opensF_cons rfl (by kernel_rfl) (opens_int Try.underlying5) (opensF_cons rfl (by kernel_rfl) (opens_int Try.underlying5) (opensF_one rfl (by kernel_rfl) (opens_int Try.underlying23))))))) (fun _ h => h)
/-- What is left of HeaderBytes: a statement on numbers and lists. -/
def Pure : Prop := ∀ (l0 : List Int) (y1 : S25) (a2 : Int) (l3 : List Int), (l0.length ≤ maxLen ∧ ∀ y, y ∈ l0 → (Lit.int .u8 y).wf = true) → l0.length * 1 ≤ 140737488351232 → g25 y1 → (Lit.int .i64 a2).wf = true → (l3.length ≤ maxLen ∧ ∀ y, y ∈ l3 → (Lit.int .u8 y).wf = true) → l3.length * 1 ≤ 140737488351232 → ∃ k, greenscreenlaw09_HeaderBytes.f k l0 y1.f0 y1.f1 y1.f2 y1.f3 a2 l3 = some true
end Go.Proofs.Ytnhogaelhggheaa.GHeaderBytes
