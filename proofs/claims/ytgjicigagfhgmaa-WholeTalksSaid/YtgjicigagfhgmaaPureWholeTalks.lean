/- Of all wishes, whatever may be on, the law WholeTalks answers true: what is left behind the walk is the range of the numbers. -/
import Derived.Test.YtgjicigagfhgmaaGoalWholeTalks
namespace Go.Proofs.Ytgjicigagfhgmaa.Pure
open Go.RowKit Go.Proofs.Ytgjicigagfhgmaa.A Go.Proofs.YtgjicigagfhgmaaW.PrintWords Go.Proofs.YtgjicigagfhgmaaW.PrintLast Go.Proofs.YtgjicigagfhgmaaW.PrintMore Go.Proofs.YtgjicigagfhgmaaO
theorem t_u8 {v : Int} (h : (Lit.int .u8 v).wf = true) : 0 ≤ v ∧ v < 256 := by
  simp only [Lit.wf, Bool.and_eq_true, decide_eq_true_eq] at h
  exact ⟨h.1, Int.lt_of_le_of_lt h.2 (by decide)⟩
theorem WholeTalks : Go.Proofs.Ytgjicigagfhgmaa.GWholeTalks.Pure := by
  intro a0 l1 l2 l3 h1 _ h2 _ h3
  unfold greenscreentop_WholeTalks.f
  rw [if_pos]
  simp only [Bool.and_eq_true]
  refine ⟨List.all_eq_true.2 (fun x hx => (H.okX_iff x).2 (t_u8 (h1.2 x hx))), List.all_eq_true.2 (fun x hx => (H.okX_iff x).2 (t_u8 (h2.2 x hx))), List.all_eq_true.2 (fun p hp => (H.okWB_iff p).2 ?_)⟩
  obtain ⟨_, _, a2, a3⟩ := h3.2 p hp
  exact ⟨(t_u8 a2).1, (t_u8 a2).2, (t_u8 a3).1, (t_u8 a3).2⟩
end Go.Proofs.Ytgjicigagfhgmaa.Pure
