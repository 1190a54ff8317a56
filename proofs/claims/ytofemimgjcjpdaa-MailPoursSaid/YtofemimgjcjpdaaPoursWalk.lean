/- MailPours: what the row asks of the walk. -/
import Derived.Test.YtofemimgjcjpdaaPours
namespace Go.Proofs.Ytofemimgjcjpdaa.H
open Go.Conc Go.RowKit Go.Shelf
set_option linter.unusedVariables false
set_option linter.unusedSimpArgs false
set_option maxHeartbeats 1000000 in
set_option maxRecDepth 100000 in
theorem pours_long (a b : Int) (A0 : Option Addr) (c0 : Nat) (n0 : Nat) (A1 : Option Addr) (c1 : Nat) (n1 : Nat) (w : World) (h : 50 < n0 ∨ 50 < n1) :
    Calls Try.prog 5 #[.int .i64 a, .int .i64 b, .slice A0 n0 c0, .slice A1 n1 c1] w fun e w' => e = .returned (.bool true) ∧ Below w.heap.size w w' := by
  by_cases h0 : 50 < n0
  · have d0 : decide ((n0 : Int) > 50) = true := by simp; omega
    clear h
    go_enter Try.func5, Try.ntmps5
    go_wp2_with (go_at_call 7; refine (alive_any _).mono ?_; rintro e w1 ⟨rfl, hb⟩; have HB := Lib.hid hb; clear hb)
    go_ret
    exact ⟨rfl, HB.out⟩
  · have h1 : 50 < n1 := by omega
    have d0 : decide ((n0 : Int) > 50) = false := by simp; omega
    have d1 : decide ((n1 : Int) > 50) = true := by simp; omega
    clear h
    go_enter Try.func5, Try.ntmps5
    go_wp2_with (go_at_call 7; refine (alive_any _).mono ?_; rintro e w1 ⟨rfl, hb⟩; have HB := Lib.hid hb; clear hb)
    go_ret
    exact ⟨rfl, HB.out⟩
end Go.Proofs.Ytofemimgjcjpdaa.H
namespace Go.Proofs.Ytofemimgjcjpdaa.A
open Go.RowKit Go.Proofs.YtofemimgjcjpdaaW.PrintWords
open Go.Proofs.Ytofemimgjcjpdaa
def greenscreenlaw03_MailPours.f (_ _ : Int) (_ _ : List Int) : Option Bool := some true
theorem greenscreenlaw03_MailPours.calls (a0 a1 : Int) (A2 : Option Addr) (c2 : Nat) (l2 : List Int) (A3 : Option Addr) (c3 : Nat) (l3 : List Int) (r : Bool) (hr_ : r = true) (w : World) (hC2 : Kd.C (Kd.int .i64) w A2 l2.length l2) (hcl2 : l2.length ≤ c2) (hC3 : Kd.C (Kd.int .i64) w A3 l3.length l3) (hcl3 : l3.length ≤ c3) (_ : greenscreenlaw03_MailPours.f a0 a1 l2 l3 = some r) :
    Calls Try.prog 5 #[.int .i64 a0, .int .i64 a1, .slice A2 l2.length c2, .slice A3 l3.length c3] w fun e w' => e = .returned (.bool r) ∧ Below w.heap.size w w' := by
  subst hr_
  by_cases h : l2.length ≤ 50 ∧ l3.length ≤ 50
  · exact H.pours_calls a0 a1 A2 c2 l2 A3 c3 l3 w (readsInt_of.2 (Kd.reads_of_C hC2)) hcl2 (readsInt_of.2 (Kd.reads_of_C hC3)) hcl3 h.1 h.2
  · exact H.pours_long a0 a1 A2 c2 l2.length A3 c3 l3.length w (by omega)
end Go.Proofs.Ytofemimgjcjpdaa.A
