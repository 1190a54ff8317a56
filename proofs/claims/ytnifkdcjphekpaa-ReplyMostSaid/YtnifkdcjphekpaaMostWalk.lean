/- ReplyMost: the walk. -/
import Derived.Test.YtnifkdcjphekpaaAlive
namespace Go.Proofs.Ytnifkdcjphekpaa.H
open Go.RowKit Go.Proofs.YtnifkdcjphekpaaW.PrintWords Go.Proofs.YtnifkdcjphekpaaW.PrintLast
set_option linter.unusedVariables false
set_option linter.unusedSimpArgs false
set_option maxHeartbeats 2000000 in
set_option maxRecDepth 100000 in
theorem most_walk (a : Int) (w : World) : Calls Try.prog 3 #[.int .i64 a] w fun e w' => e = .returned (.bool true) ∧ Below w.heap.size w w' := by
  go_enter Try.func3, Try.ntmps3
  go_wp2_with (first
    | (go_at_call 7; (with_reducible refine (alive_p _).mono ?_); rintro e w1 ⟨rfl, hb⟩; have HB := Lib.hid hb; clear hb)
    | (go_at_call 8; (with_reducible refine (A.reply_Most.calls a _ _ rfl).mono ?_); rintro e w2 ⟨rfl, hb⟩; have HB2 := Lib.hid (below_step HB.out hb); clear hb))
  all_goals go_ret
  all_goals
    rename_i h1
    refine ⟨congrArg (fun b => Ending.returned (.bool b)) (beq_iff_eq.2 ?_), HB2.out⟩
    unfold mn mx
    (repeat' split) <;> (try split at h1) <;> omega
end Go.Proofs.Ytnifkdcjphekpaa.H
namespace Go.Proofs.Ytnifkdcjphekpaa.A
open Go.RowKit Go.Proofs.YtnifkdcjphekpaaW.PrintWords
def greenscreenlaw23_ReplyMost.f (_ : Int) : Option Bool := some true
theorem greenscreenlaw23_ReplyMost.calls (a0 : Int) (r : Bool) (hr_ : r = true) (w : World) (_ : greenscreenlaw23_ReplyMost.f a0 = some r) :
    Calls Try.prog 3 #[.int .i64 a0] w fun e w' => e = .returned (.bool r) ∧ Below w.heap.size w w' := by
  subst hr_
  exact H.most_walk a0 w
end Go.Proofs.Ytnifkdcjphekpaa.A
