/- MailFirsts: what the row asks of the walk. -/
import Derived.Test.YtofemimgjcjpdaaFirsts
namespace Go.Proofs.Ytofemimgjcjpdaa.H
open Go.Conc Go.RowKit Go.Shelf
set_option linter.unusedVariables false
set_option linter.unusedSimpArgs false
set_option maxHeartbeats 1000000 in
set_option maxRecDepth 100000 in
theorem firsts_long (A0 : Option Addr) (c0 : Nat) (n0 : Nat) (w : World) (h : 8 < n0) :
    Calls Try.prog 6 #[.slice A0 n0 c0] w fun e w' => e = .returned (.bool true) ∧ Below w.heap.size w w' := by
  have d0 : decide ((n0 : Int) > 8) = true := by simp; omega
  clear h
  go_enter Try.func6, Try.ntmps6
  go_wp2_with (go_at_call 7; refine (alive_any _).mono ?_; rintro e w1 ⟨rfl, hb⟩; have HB := Lib.hid hb; clear hb)
  go_ret
  exact ⟨rfl, HB.out⟩
end Go.Proofs.Ytofemimgjcjpdaa.H
namespace Go.Proofs.Ytofemimgjcjpdaa.A
open Go.RowKit Go.Proofs.YtofemimgjcjpdaaW.PrintWords
open Go.Proofs.Ytofemimgjcjpdaa
def greenscreenlaw03_MailFirsts.f (_ : List (List Int)) : Option Bool := some true
theorem greenscreenlaw03_MailFirsts.calls (A0 : Option Addr) (c0 : Nat) (l0 : List (List Int)) (r : Bool) (hr_ : r = true) (w : World) (hC0 : Kd.C (Kd.slice 3 (Kd.int .i64)) w A0 l0.length l0) (hcl0 : l0.length ≤ c0) (_ : greenscreenlaw03_MailFirsts.f l0 = some r) :
    Calls Try.prog 6 #[.slice A0 l0.length c0] w fun e w' => e = .returned (.bool r) ∧ Below w.heap.size w w' := by
  subst hr_
  by_cases h : l0.length ≤ 8
  · exact H.firsts_calls A0 c0 l0 w hC0 hcl0 h
  · exact H.firsts_long A0 c0 l0.length w (by omega)
end Go.Proofs.Ytofemimgjcjpdaa.A
