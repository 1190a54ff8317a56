/- MailOrders: what the row asks of the walk. -/
import Derived.Test.YtofemimgjcjpdaaOrdersW
namespace Go.Proofs.Ytofemimgjcjpdaa.H
open Go.Conc Go.RowKit Go.Shelf
set_option linter.unusedVariables false
set_option linter.unusedSimpArgs false
set_option maxHeartbeats 1000000 in
set_option maxRecDepth 100000 in
theorem orders_long (a : Int) (A0 : Option Addr) (c0 : Nat) (n0 : Nat) (w : World) (h : 80 < n0) :
    Calls Try.prog 4 #[.int .i64 a, .slice A0 n0 c0] w fun e w' => e = .returned (.bool true) ∧ Below w.heap.size w w' := by
  have d0 : decide ((n0 : Int) > 80) = true := by simp; omega
  clear h
  go_enter Try.func4, Try.ntmps4
  go_wp2_with (go_at_call 7; refine (alive_any _).mono ?_; rintro e w1 ⟨rfl, hb⟩; have HB := Lib.hid hb; clear hb)
  go_ret
  exact ⟨rfl, HB.out⟩
end Go.Proofs.Ytofemimgjcjpdaa.H
namespace Go.Proofs.Ytofemimgjcjpdaa.A
open Go.RowKit Go.Proofs.YtofemimgjcjpdaaW.PrintWords
open Go.Proofs.Ytofemimgjcjpdaa
def greenscreenlaw03_MailOrders.f (_ : Int) (_ : List S33) : Option Bool := some true
theorem greenscreenlaw03_MailOrders.calls (a0 : Int) (A1 : Option Addr) (c1 : Nat) (l1 : List S33) (r : Bool) (hr_ : r = true) (w : World) (hC1 : Kd.C k33 w A1 l1.length l1) (hcl1 : l1.length ≤ c1) (_ : greenscreenlaw03_MailOrders.f a0 l1 = some r) :
    Calls Try.prog 4 #[.int .i64 a0, .slice A1 l1.length c1] w fun e w' => e = .returned (.bool r) ∧ Below w.heap.size w w' := by
  subst hr_
  by_cases h : l1.length ≤ 80
  · exact H.orders_calls a0 A1 c1 l1 w hC1 h
  · exact H.orders_long a0 A1 c1 l1.length w (by omega)
end Go.Proofs.Ytofemimgjcjpdaa.A
