/- Of all rows of steps the law ClockPlays answers true: what is left behind the walk. -/
import Derived.Test.YtccmelpnmjdclaaGoalClockPlays
namespace Go.Proofs.Ytccmelpnmjdclaa.Pure
open Go.RowKit Go.Proofs.Ytccmelpnmjdclaa.A Go.Proofs.YtccmelpnmjdclaaW.PrintWords Go.Proofs.YtccmelpnmjdclaaW.PrintLast Go.Proofs.YtccmelpnmjdclaaW.PrintMore Go.Proofs.YtccmelpnmjdclaaO

/- YOURS -/
theorem ClockPlays : Go.Proofs.Ytccmelpnmjdclaa.GClockPlays.Pure := by
  intro l0 a1 h0 h1
  unfold greenscreenlaw04_ClockPlays.f
  refine if_pos (List.all_eq_true.2 (fun x hx => decide_eq_true ?_))
  have := (h0.2 x hx).2.2
  exact (Go.Proofs.Ytccmelpnmjdclaa.H.wf_i64' this).2
end Go.Proofs.Ytccmelpnmjdclaa.Pure
