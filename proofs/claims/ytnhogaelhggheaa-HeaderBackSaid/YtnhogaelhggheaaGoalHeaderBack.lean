import Derived.Test.YtnhogaelhggheaaPx9
import Derived.Test.YtnhogaelhggheaaOpen
import Derived.KernelRfl
namespace Go.Proofs.Ytnhogaelhggheaa.GHeaderBack
open Go.RowKit Go.Proofs.Ytnhogaelhggheaa.P Go.Proofs.YtnhogaelhggheaaW.PrintWords Go.Proofs.YtnhogaelhggheaaW.PrintLast Go.Proofs.YtnhogaelhggheaaW.PrintMore Go.Proofs.YtnhogaelhggheaaO
set_option linter.unusedVariables false

structure S25 where
  f0 : Int
  f1 : Int
  f2 : Int
  f3 : Int
def k25 : Kd S25 := Kd.iso (Kd.pair (Kd.int .u8) (Kd.pair (Kd.int .u8) (Kd.pair (Kd.int .u8) (Kd.int .u16)))) (fun x : S25 => (x.f0, x.f1, x.f2, x.f3))
theorem k25_open {w : World} {x : S25} {cs : List Value} (h : k25.K w x cs) : cs = [.int .u8 x.f0, .int .u8 x.f1, .int .u8 x.f2, .int .u16 x.f3] := by
  obtain ⟨_, _, rfl, h0, h⟩ := h
  obtain rfl := h0
  obtain ⟨_, _, rfl, h1, h⟩ := h
  obtain rfl := h1
  obtain ⟨_, _, rfl, h2, h⟩ := h
  obtain rfl := h2
  obtain rfl := h
  rfl
def g25 (x : S25) : Prop := (Lit.int .u8 x.f0).wf = true ∧ (Lit.int .u8 x.f1).wf = true ∧ (Lit.int .u8 x.f2).wf = true ∧ (Lit.int .u16 x.f3).wf = true
theorem op25 : Opens Try.prog 25 k25 g25 :=
  Opens.imp (opens_iso (d := (Kd.pair (Kd.int .u8) (Kd.pair (Kd.int .u8) (Kd.pair (Kd.int .u8) (Kd.int .u16))))) (f := fun x : S25 => (x.f0, x.f1, x.f2, x.f3)) (fun y => ⟨y.1, y.2.1, y.2.2.1, y.2.2.2⟩) (fun _ => rfl) (opens_struct Try.underlying25 (by kernel_rfl) (opensF_cons rfl (by kernel_rfl) (opens_int Try.underlying5) (opensF_cons rfl (by kernel_rfl) (opens_int Try.underlying5) (opensF_cons rfl (by kernel_rfl) (opens_int Try.underlying5) (opensF_one rfl (by kernel_rfl) (opens_int Try.underlying23))))))) (fun _ h => h)
/-- What is left of HeaderBack: a statement on numbers and lists. -/
def Pure : Prop := ∀ (y0 : S25) (a1 : Int) (l2 : List Int), g25 y0 → (Lit.int .i64 a1).wf = true → (l2.length ≤ maxLen ∧ ∀ y, y ∈ l2 → (Lit.int .u8 y).wf = true) → l2.length * 1 ≤ 140737488351232 → ∃ k, greenscreenlaw09_HeaderBack.f k y0.f0 y0.f1 y0.f2 y0.f3 a1 l2 = some true
end Go.Proofs.Ytnhogaelhggheaa.GHeaderBack
