/- WholeTalks: the law's contract. -/
import Derived.Test.YtgjicigagfhgmaaTalksWalk
namespace Go.Proofs.Ytgjicigagfhgmaa.H
open Go.RowKit Go.Proofs.YtgjicigagfhgmaaW.PrintWords Go.Proofs.YtgjicigagfhgmaaW.PrintLast
set_option linter.unusedVariables false
set_option linter.unusedSimpArgs false
def okWB (p : A.S30) : Bool := decide (0 ≤ p.f2) && (decide (p.f2 < 256) && (decide (0 ≤ p.f3) && decide (p.f3 < 256)))
theorem okWB_iff (p : A.S30) : okWB p = true ↔ okW p := by
  unfold okWB okW
  simp only [Bool.and_eq_true, decide_eq_true_eq]
def okX (x : Int) : Bool := decide (0 ≤ x) && decide (x < 256)
theorem okX_iff (x : Int) : okX x = true ↔ 0 ≤ x ∧ x < 256 := by
  unfold okX
  simp only [Bool.and_eq_true, decide_eq_true_eq]
section
variable {w : World} {A1 A2 A3 : Option Addr} {c1 c2 c3 : Nat} {xs ys : List Int} {ws : List A.S30}
set_option maxHeartbeats 2000000 in
set_option maxRecDepth 100000 in
theorem talks_long (ext : Bool) (hl : ¬ (ws.length ≤ 30 ∧ xs.length ≤ 30 ∧ ys.length ≤ 30)) : Calls Try.prog 4 #[.bool ext, .slice A1 xs.length c1, .slice A2 ys.length c2, .slice A3 ws.length c3] w fun e' w' => e' = .returned (.bool true) ∧ Below w.heap.size w w' := by
  have hu25 := Try.underlying25
  have hu22 := Try.underlying22
  by_cases h0 : ws.length ≤ 30
  · by_cases h1 : xs.length ≤ 30
    · have h2 : 30 < ys.length := by omega
      go_enter Try.func4, Try.ntmps4
      go_wp2_with (go_at_call 5; (refine (sound_p w).mono ?_); rintro e w1 ⟨rfl, hb⟩; have HB1 := Lib.hid hb; clear hb)
      go_ret
      exact ⟨rfl, HB1.out⟩
    · have h2 : 30 < xs.length := by omega
      go_enter Try.func4, Try.ntmps4
      go_wp2_with (go_at_call 5; (refine (sound_p w).mono ?_); rintro e w1 ⟨rfl, hb⟩; have HB1 := Lib.hid hb; clear hb)
      go_ret
      exact ⟨rfl, HB1.out⟩
  · have h2 : 30 < ws.length := by omega
    go_enter Try.func4, Try.ntmps4
    go_wp2_with (go_at_call 5; (refine (sound_p w).mono ?_); rintro e w1 ⟨rfl, hb⟩; have HB1 := Lib.hid hb; clear hb)
    go_ret
    exact ⟨rfl, HB1.out⟩
end
end Go.Proofs.Ytgjicigagfhgmaa.H
namespace Go.Proofs.Ytgjicigagfhgmaa.A
open Go.RowKit Go.Proofs.YtgjicigagfhgmaaW.PrintWords
set_option linter.unusedVariables false
def greenscreentop_WholeTalks.f (_ : Bool) (l1 l2 : List Int) (l3 : List S30) : Option Bool := if (l1.all H.okX && (l2.all H.okX && l3.all H.okWB)) = true then some true else none
theorem greenscreentop_WholeTalks.calls (a0 : Bool) (A1 : Option Addr) (c1 : Nat) (l1 : List Int) (A2 : Option Addr) (c2 : Nat) (l2 : List Int) (A3 : Option Addr) (c3 : Nat) (l3 : List S30) (r : Bool) (hr_ : r = true) (w : World) (hC1 : Kd.C (Kd.int .u8) w A1 l1.length l1) (hcl1 : l1.length ≤ c1) (hC2 : Kd.C (Kd.int .u8) w A2 l2.length l2) (hcl2 : l2.length ≤ c2) (hC3 : Kd.C k30 w A3 l3.length l3) (hcl3 : l3.length ≤ c3) (h : greenscreentop_WholeTalks.f a0 l1 l2 l3 = some r) :
    Calls Try.prog 4 #[.bool a0, .slice A1 l1.length c1, .slice A2 l2.length c2, .slice A3 l3.length c3] w fun e w' => e = .returned (.bool r) ∧ Below w.heap.size w w' := by
  subst hr_
  by_cases hl : l3.length ≤ 30 ∧ l1.length ≤ 30 ∧ l2.length ≤ 30
  · unfold greenscreentop_WholeTalks.f at h
    by_cases ha : (l1.all H.okX && (l2.all H.okX && l3.all H.okWB)) = true
    · simp only [Bool.and_eq_true] at ha
      exact H.talks_p a0 hC1 hC2 hC3 (fun x hx => (H.okX_iff x).1 (List.all_eq_true.1 ha.1 x hx)) (fun x hx => (H.okX_iff x).1 (List.all_eq_true.1 ha.2.1 x hx)) (fun p hp => (H.okWB_iff p).1 (List.all_eq_true.1 ha.2.2 p hp)) hl.1 hl.2.1 hl.2.2
    · rw [if_neg ha] at h
      cases h
  · exact H.talks_long a0 hl
end Go.Proofs.Ytgjicigagfhgmaa.A
