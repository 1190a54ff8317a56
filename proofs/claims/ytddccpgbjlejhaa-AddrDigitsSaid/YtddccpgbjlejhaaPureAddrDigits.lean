/- -/
import Derived.Test.YtddccpgbjlejhaaGoalAddrDigits
import Derived.Test.YtddccpgbjlejhaaPlain
namespace Go.Proofs.Ytddccpgbjlejhaa.Pure
open Go.RowKit Go.Proofs.Ytddccpgbjlejhaa.P Go.Proofs.YtddccpgbjlejhaaW.PrintWords Go.Proofs.YtddccpgbjlejhaaW.PrintLast Go.Proofs.YtddccpgbjlejhaaW.PrintMore Go.Proofs.YtddccpgbjlejhaaO

open Go.Proofs.Ytddccpgbjlejhaa.Plain
/- YOURS -/
def digApart (i j : Nat) : Bool := (addr_Digit.f (i : Int) == addr_Digit.f (j : Int)) == (i == j)
theorem apart_all : ∀ i j : Fin 64, digApart i.val j.val = true := by decide +kernel
theorem digits_eq (v w : Int) : ∃ d e, addr_Digit.f v = some d ∧ addr_Digit.f w = some e ∧ ((d == e) != ((v % 64) == (w % 64))) = false := by
  obtain ⟨d, d1, -⟩ := dig_of (v % 64) (by omega) (by omega)
  obtain ⟨e, e1, -⟩ := dig_of (w % 64) (by omega) (by omega)
  refine ⟨d, e, by rw [dig_mod, d1], by rw [dig_mod, e1], ?_⟩
  have h := apart_all ⟨(v % 64).toNat, by omega⟩ ⟨(w % 64).toNat, by omega⟩
  have hv : (((v % 64).toNat : Nat) : Int) = v % 64 := by omega
  have hw : (((w % 64).toNat : Nat) : Int) = w % 64 := by omega
  simp only [digApart, hv, hw, d1, e1] at h
  have : ((v % 64).toNat == (w % 64).toNat) = ((v % 64) == (w % 64)) := by
    rw [Bool.eq_iff_iff]; simp only [beq_iff_eq]; omega
  rw [this] at h
  have h2 : (some d == some e) = (d == e) := rfl
  rw [h2] at h
  simpa using h
set_option linter.unusedVariables false in
theorem cells_fact {r c : Int} (hr : (Lit.int .i64 r).wf = true) (hc : (Lit.int .i64 c).wf = true) : ∃ n, addr_Cells.f r c = some n ∧ (n = 0 ∨ (1 ≤ r ∧ r ≤ 43 ∧ 1 ≤ c ∧ c ≤ 132 ∧ n = r * c ∧ n ≤ 4096)) := by
  simp only [addr_Cells.f]
  by_cases h1 : r < 1
  · rw [if_pos h1]; exact ⟨0, rfl, Or.inl rfl⟩
  rw [if_neg h1]
  by_cases h2 : r > 43
  · rw [if_pos h2]; exact ⟨0, rfl, Or.inl rfl⟩
  rw [if_neg h2]
  by_cases h3 : c < 1
  · rw [if_pos h3]; exact ⟨0, rfl, Or.inl rfl⟩
  rw [if_neg h3]
  by_cases h4 : c > 132
  · rw [if_pos h4]; exact ⟨0, rfl, Or.inl rfl⟩
  rw [if_neg h4]
  have b0 : 0 ≤ r * c := Int.mul_nonneg (by omega) (by omega)
  have b1 : r * c ≤ 43 * 132 := Int.mul_le_mul (by omega) (by omega) (by omega) (by omega)
  rw [wrap_id (by omega) (by omega)]
  by_cases h5 : r * c > 4096
  · rw [if_pos h5]; exact ⟨0, rfl, Or.inl rfl⟩
  rw [if_neg h5]
  exact ⟨_, rfl, Or.inr ⟨by omega, by omega, by omega, by omega, rfl, by omega⟩⟩
theorem AddrDigits : Go.Proofs.Ytddccpgbjlejhaa.GAddrDigits.Pure := by
  intro v w s at_ hv hw ⟨hr, hc⟩ ha
  suffices key : ∀ k, 6 ≤ k → greenscreenlaw02_AddrDigits.f k v w s.f0 s.f1 at_ = some true from ⟨_, key 6 (by omega)⟩
  intro k hk
  obtain ⟨d, e, d1, e1, hde⟩ := digits_eq v w
  obtain ⟨n, n1, n2⟩ := cells_fact hr hc
  generalize s.f0 = r at *
  generalize s.f1 = c at *
  rw [greenscreenlaw02_AddrDigits.f, alive_ok hk, Option.bind_some, if_pos rfl, d1, Option.bind_some, e1, Option.bind_some, i64_and63, i64_and63, hde, if_neg (by decide)]
  have hat : ∀ x y, ∃ z, addr_At.f r c x y = some z ∧ (n ≠ 0 → 0 ≤ x → x < r → 0 ≤ y → y < c → z = (wrap64 (wrap64 (x * c) + y), true)) := by
    intro x y
    simp only [addr_At.f, n1, Option.bind_some]
    by_cases h1 : n = 0
    · rw [if_pos h1]; exact ⟨_, rfl, by omega⟩
    rw [if_neg h1]
    by_cases h2 : x < 0
    · rw [if_pos h2]; exact ⟨_, rfl, by omega⟩
    rw [if_neg h2]
    by_cases h3 : x ≥ r
    · rw [if_pos h3]; exact ⟨_, rfl, by omega⟩
    rw [if_neg h3]
    by_cases h4 : y < 0
    · rw [if_pos h4]; exact ⟨_, rfl, by omega⟩
    rw [if_neg h4]
    by_cases h5 : y ≥ c
    · rw [if_pos h5]; exact ⟨_, rfl, by omega⟩
    rw [if_neg h5]
    exact ⟨_, rfl, fun _ _ _ _ _ => rfl⟩
  simp only [addr_Split.f, n1, Option.bind_some]
  by_cases h1 : at_ < 0
  · rw [if_pos h1, Option.bind_some]
    obtain ⟨z, hz, -⟩ := hat 0 0
    simp only [hz, Option.bind_some]
    rw [if_neg (by decide)]
  rw [if_neg h1]
  by_cases h2 : at_ ≥ n
  · rw [if_pos h2, Option.bind_some]
    obtain ⟨z, hz, -⟩ := hat 0 0
    simp only [hz, Option.bind_some]
    rw [if_neg (by decide)]
  rw [if_neg h2]
  obtain h3 | ⟨r1, r2, c1, c2, hn, h4⟩ := n2
  · omega
  rw [if_neg (by omega), Option.bind_some]
  have q0 : Int.tdiv at_ c = at_ / c := Int.tdiv_eq_ediv_of_nonneg (by omega)
  have q1 : Int.tmod at_ c = at_ % c := Int.tmod_eq_emod_of_nonneg (by omega)
  have q2 : 0 ≤ at_ / c := Int.ediv_nonneg (by omega) (by omega)
  have q3 : at_ / c < r := Int.ediv_lt_of_lt_mul (by omega) (by omega)
  have q4 := Int.emod_nonneg at_ (by omega : c ≠ 0)
  have q5 := Int.emod_lt_of_pos at_ (by omega : 0 < c)
  have q6 := Int.mul_ediv_add_emod at_ c
  rw [q0, q1, wrap_id (by omega) (by omega)]
  obtain ⟨z, hz, hz2⟩ := hat (at_ / c) (at_ % c)
  have hz3 := hz2 (by omega) q2 q3 q4 q5
  have q7 : at_ / c * c + at_ % c = at_ := by rw [Int.mul_comm]; exact q6
  have q8 : 0 ≤ at_ / c * c := Int.mul_nonneg q2 (by omega)
  rw [wrap_id (a := at_ / c * c) (by omega) (by omega), q7, wrap_id (by omega) (by omega)] at hz3
  subst hz3
  simp only [hz, Option.bind_some]
  rw [if_pos trivial, if_pos trivial, if_pos trivial, if_pos q2, if_pos q3, if_pos q4, decide_eq_true q5]
end Go.Proofs.Ytddccpgbjlejhaa.Pure
