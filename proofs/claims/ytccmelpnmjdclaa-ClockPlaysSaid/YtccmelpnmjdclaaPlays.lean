/- ClockPlays: what the row asks of the walk. -/
import Derived.Test.YtccmelpnmjdclaaPlaysWalk
namespace Go.Proofs.Ytccmelpnmjdclaa.H
open Go.RowKit Go.Proofs.YtccmelpnmjdclaaW.PrintWords Go.Proofs.YtccmelpnmjdclaaW.PrintLast
set_option linter.unusedVariables false
set_option linter.unusedSimpArgs false
theorem wf_i64' {v : Int} (h : (Lit.int .i64 v).wf = true) : -9223372036854775808 ≤ v ∧ v ≤ 9223372036854775807 := by
  simp only [Lit.wf, Bool.and_eq_true, decide_eq_true_eq] at h
  exact h
set_option maxHeartbeats 1000000 in
set_option maxRecDepth 100000 in
theorem plays_long (A0 : Option Addr) (c0 n0 : Nat) (ask : Int) (w : World) (h : 100 < n0) : Calls Try.prog 3 #[.slice A0 n0 c0, .int .i64 ask] w fun e w' => e = .returned (.bool true) ∧ Below w.heap.size w w' := by
  have d0 : (100 : Int) < (n0 : Int) := by omega
  clear h
  go_enter Try.func3, Try.ntmps3
  go_wp2_with (go_at_call 7; (with_reducible refine (alive_p _).mono ?_); rintro e w1 ⟨rfl, hb⟩; have HB := Lib.hid hb; clear hb)
  go_ret
  exact ⟨rfl, HB.out⟩
end Go.Proofs.Ytccmelpnmjdclaa.H
namespace Go.Proofs.Ytccmelpnmjdclaa.A
set_option linter.unusedVariables false
open Go.RowKit Go.Proofs.YtccmelpnmjdclaaW.PrintWords
open Go.Proofs.Ytccmelpnmjdclaa
def greenscreenlaw04_ClockPlays.f (l0 : List S32) (_ : Int) : Option Bool := if l0.all (fun x => decide (x.f2 ≤ 9223372036854775807)) = true then some true else none
theorem greenscreenlaw04_ClockPlays.calls (A0 : Option Addr) (c0 : Nat) (l0 : List S32) (a1 : Int) (r : Bool) (hr_ : r = true) (w : World) (hC0 : Kd.C k32 w A0 l0.length l0) (hcl0 : l0.length ≤ c0) (hf : greenscreenlaw04_ClockPlays.f l0 a1 = some r) :
    Calls Try.prog 3 #[.slice A0 l0.length c0, .int .i64 a1] w fun e w' => e = .returned (.bool r) ∧ Below w.heap.size w w' := by
  subst hr_
  by_cases h : l0.length ≤ 100
  · refine H.plays_p a1 w hC0 h ?_
    unfold greenscreenlaw04_ClockPlays.f at hf
    by_cases hd : l0.all (fun x => decide (x.f2 ≤ 9223372036854775807)) = true
    · intro x hx
      have := List.all_eq_true.1 hd x hx
      simpa using this
    · rw [if_neg hd] at hf
      cases hf
  · exact H.plays_long A0 c0 l0.length a1 w (by omega)
end Go.Proofs.Ytccmelpnmjdclaa.A
