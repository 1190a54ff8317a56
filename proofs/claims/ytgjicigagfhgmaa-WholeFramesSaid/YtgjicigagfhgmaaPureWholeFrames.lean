/- Of all parts, cut in whatever way, the law WholeFrames answers true: what is left behind the walk is the range of the numbers. -/
import Derived.Test.YtgjicigagfhgmaaGoalWholeFrames
namespace Go.Proofs.Ytgjicigagfhgmaa.Pure
open Go.RowKit Go.Proofs.Ytgjicigagfhgmaa.A Go.Proofs.YtgjicigagfhgmaaW.PrintWords Go.Proofs.YtgjicigagfhgmaaW.PrintLast Go.Proofs.YtgjicigagfhgmaaW.PrintMore Go.Proofs.YtgjicigagfhgmaaO
theorem wf_u8 {v : Int} (h : (Lit.int .u8 v).wf = true) : 0 ≤ v ∧ v < 256 := by
  simp only [Lit.wf, Bool.and_eq_true, decide_eq_true_eq] at h
  exact ⟨h.1, Int.lt_of_le_of_lt h.2 (by decide)⟩
theorem wf_u16 {v : Int} (h : (Lit.int .u16 v).wf = true) : 0 ≤ v ∧ v < 65536 := by
  simp only [Lit.wf, Bool.and_eq_true, decide_eq_true_eq] at h
  exact ⟨h.1, Int.lt_of_le_of_lt h.2 (by decide)⟩
theorem WholeFrames : Go.Proofs.Ytgjicigagfhgmaa.GWholeFrames.Pure := by
  intro l0 l1 h0 _ _
  unfold greenscreentop_WholeFrames.f
  rw [if_pos]
  refine List.all_eq_true.2 (fun p hp => (H.okB_iff p).2 ?_)
  obtain ⟨⟨a0, _, _, a3⟩, _, a2, _⟩ := h0.2 p hp
  exact ⟨(wf_u8 a0).1, (wf_u8 a0).2, (wf_u16 a3).1, (wf_u16 a3).2, (wf_u8 a2).1, (wf_u8 a2).2⟩
end Go.Proofs.Ytgjicigagfhgmaa.Pure
