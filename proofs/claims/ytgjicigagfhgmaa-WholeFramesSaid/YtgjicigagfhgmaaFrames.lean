/- WholeFrames: the law's contract. -/
import Derived.Test.YtgjicigagfhgmaaFrWalk
namespace Go.Proofs.Ytgjicigagfhgmaa.H
open Go.RowKit Go.Proofs.YtgjicigagfhgmaaW.PrintWords Go.Proofs.YtgjicigagfhgmaaW.PrintLast
set_option linter.unusedVariables false
set_option linter.unusedSimpArgs false
def okB (p : A.S30) : Bool := decide (0 ≤ p.f0.f0) && (decide (p.f0.f0 < 256) && (decide (0 ≤ p.f0.f3) && (decide (p.f0.f3 < 65536) && (decide (0 ≤ p.f2) && decide (p.f2 < 256)))))
theorem okB_iff (p : A.S30) : okB p = true ↔ okP p := by
  unfold okB okP
  simp only [Bool.and_eq_true, decide_eq_true_eq]
section
variable {w : World} {A0 A1 : Option Addr} {c0 c1 : Nat} {parts : List A.S30} {ms : List Int}
set_option maxHeartbeats 2000000 in
set_option maxRecDepth 100000 in
theorem frames_long (hl : ¬ (parts.length ≤ 20 ∧ ms.length ≤ 100)) : Calls Try.prog 3 #[.slice A0 parts.length c0, .slice A1 ms.length c1] w fun e' w' => e' = .returned (.bool true) ∧ Below w.heap.size w w' := by
  have hu25 := Try.underlying25
  have hu22 := Try.underlying22
  have hu23 := Try.underlying23
  by_cases h0 : parts.length ≤ 20
  · have h1 : 100 < ms.length := by omega
    go_enter Try.func3, Try.ntmps3
    go_wp2_with (go_at_call 5; (refine (sound_p w).mono ?_); rintro e w1 ⟨rfl, hb⟩; have HB1 := Lib.hid hb; clear hb)
    go_ret
    exact ⟨rfl, HB1.out⟩
  · have h1 : 20 < parts.length := by omega
    go_enter Try.func3, Try.ntmps3
    go_wp2_with (go_at_call 5; (refine (sound_p w).mono ?_); rintro e w1 ⟨rfl, hb⟩; have HB1 := Lib.hid hb; clear hb)
    go_ret
    exact ⟨rfl, HB1.out⟩
end
end Go.Proofs.Ytgjicigagfhgmaa.H
namespace Go.Proofs.Ytgjicigagfhgmaa.A
open Go.RowKit Go.Proofs.YtgjicigagfhgmaaW.PrintWords
set_option linter.unusedVariables false
def greenscreentop_WholeFrames.f (l0 : List S30) (_ : List Int) : Option Bool := if l0.all H.okB = true then some true else none
theorem greenscreentop_WholeFrames.calls (A0 : Option Addr) (c0 : Nat) (l0 : List S30) (A1 : Option Addr) (c1 : Nat) (l1 : List Int) (r : Bool) (hr_ : r = true) (w : World) (hC0 : Kd.C k30 w A0 l0.length l0) (hcl0 : l0.length ≤ c0) (hC1 : Kd.C (Kd.int .i64) w A1 l1.length l1) (hcl1 : l1.length ≤ c1) (h : greenscreentop_WholeFrames.f l0 l1 = some r) :
    Calls Try.prog 3 #[.slice A0 l0.length c0, .slice A1 l1.length c1] w fun e w' => e = .returned (.bool r) ∧ Below w.heap.size w w' := by
  subst hr_
  by_cases hl : l0.length ≤ 20 ∧ l1.length ≤ 100
  · refine H.frames_p hC0 hcl0 hC1 hcl1 (fun p hp => ?_) hl.1 hl.2
    unfold greenscreentop_WholeFrames.f at h
    by_cases ha : l0.all H.okB = true
    · exact (H.okB_iff p).1 (List.all_eq_true.1 ha p hp)
    · rw [if_neg ha] at h
      cases h
  · exact H.frames_long hl
end Go.Proofs.Ytgjicigagfhgmaa.A
