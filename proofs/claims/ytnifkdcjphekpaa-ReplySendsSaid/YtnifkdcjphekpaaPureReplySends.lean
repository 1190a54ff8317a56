/- Of every size, cells, place, key and command the law ReplySends answers true: what is left behind the walk is that bytes are bytes. -/
import Derived.Test.YtnifkdcjphekpaaGoalReplySends
namespace Go.Proofs.Ytnifkdcjphekpaa.Pure
open Go.RowKit Go.Proofs.Ytnifkdcjphekpaa.A Go.Proofs.YtnifkdcjphekpaaW.PrintWords Go.Proofs.YtnifkdcjphekpaaW.PrintLast Go.Proofs.YtnifkdcjphekpaaW.PrintMore Go.Proofs.YtnifkdcjphekpaaO

theorem byte_of {a : Int} (h : (Lit.int .u8 a).wf = true) : 0 ≤ a ∧ a < 256 := by
  have h1 : IntKind.u8.min = 0 := rfl
  have h2 : IntKind.u8.max = 255 := rfl
  have h3 : IntKind.u8.min ≤ a ∧ a ≤ IntKind.u8.max := by simpa [Lit.wf] using h
  omega
theorem ReplySends : Go.Proofs.Ytnifkdcjphekpaa.GReplySends.Pure := by
  intro y0 l1 a2 a3 a4 _ h1 _ h3 _
  unfold greenscreenlaw23_ReplySends.f
  exact if_pos ⟨fun x hx => byte_of (h1.2 x hx).1, byte_of h3⟩
end Go.Proofs.Ytnifkdcjphekpaa.Pure
