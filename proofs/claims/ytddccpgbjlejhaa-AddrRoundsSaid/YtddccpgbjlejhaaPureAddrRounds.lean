/- -/
import Derived.Test.YtddccpgbjlejhaaGoalAddrRounds
namespace Go.Proofs.Ytddccpgbjlejhaa.Pure
/- The law's answer was shown by the walk itself. -/
theorem AddrRounds : Go.Proofs.Ytddccpgbjlejhaa.GAddrRounds.Pure := by
  intro y0 a1 a2 a3 a4 _ _ _ _ _
  rfl
end Go.Proofs.Ytddccpgbjlejhaa.Pure
