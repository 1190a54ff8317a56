/- -/
import Derived.Test.YtddccpgbjlejhaaGoalAddrBack
import Derived.Test.YtddccpgbjlejhaaPlain
namespace Go.Proofs.Ytddccpgbjlejhaa.Pure
open Go.RowKit Go.Proofs.Ytddccpgbjlejhaa.P Go.Proofs.YtddccpgbjlejhaaW.PrintWords Go.Proofs.YtddccpgbjlejhaaW.PrintLast Go.Proofs.YtddccpgbjlejhaaW.PrintMore Go.Proofs.YtddccpgbjlejhaaO

open Go.Proofs.Ytddccpgbjlejhaa.Plain
/- YOURS -/
theorem back_in (k : Nat) (x0 x1 a b : Int) (hx : 4096 < x1 ∨ 64 ≤ a) : greenscreenlaw02_AddrBack.j0 (k + 1) x0 x1 false a b = some true := by
  obtain ⟨d, d1, d2, d3, d4, d5, d6⟩ := dig_of (x0 % 64) (by omega) (by omega)
  rw [greenscreenlaw02_AddrBack.j0, if_neg (by decide), i64_and63, d1, Option.bind_some, d5, Option.bind_some, if_pos rfl, Option.bind_some, if_pos d3, Option.bind_some, if_neg (by omega)]
  by_cases h : x1 > 4096
  · rw [if_pos h]
  · rw [if_neg h, decide_eq_true (by omega : a ≥ 64)]
theorem AddrBack : Go.Proofs.Ytddccpgbjlejhaa.GAddrBack.Pure := by
  intro a0 a1 h0 h1
  suffices key : ∀ k, 6 ≤ k + 1 → greenscreenlaw02_AddrBack.f (k + 1) a0 a1 = some true from ⟨_, key 6 (by omega)⟩
  intro k hk
  simp only [greenscreenlaw02_AddrBack.f, alive_ok hk, Option.bind_some, if_true, i64_and16383]
  have hw : wrap64 (1 + a1 % 16384) = 1 + a1 % 16384 := wrap_id (by omega) (by omega)
  have hm : Int.tmod (a0 % 16384) (1 + a1 % 16384) = a0 % 16384 % (1 + a1 % 16384) := Int.tmod_eq_emod_of_nonneg (by omega)
  rw [hw, hm, if_neg (by omega)]
  have hp : 0 < 1 + a1 % 16384 := by omega
  have m0 := Int.emod_nonneg (a0 % 16384) (Int.ne_of_gt hp)
  have m1 := Int.emod_lt_of_pos (a0 % 16384) hp
  have hc : 1 + a1 % 16384 ≤ 16384 := by omega
  have hc1 : 1 ≤ 1 + a1 % 16384 := by omega
  generalize 1 + a1 % 16384 = cells at *
  generalize a0 % 16384 % cells = at_ at *
  have hwf : (Lit.int .i64 at_).wf = true := by
    have h1 : IntKind.i64.min = -9223372036854775808 := rfl
    have h2 : IntKind.i64.max = 9223372036854775807 := rfl
    simp [Lit.wf, h1, h2]
    omega
  obtain ⟨⟨b0, b1, er⟩, e1, -, e3⟩ := encode_of (k := k + 1) (by omega) (cells := cells) hwf
  obtain ⟨g0, ⟨a, b, ga, gb, gp⟩, g3⟩ := e3 m0 m1 hc1 hc
  simp only at g0 ga gb g3
  subst g0 ga gb
  rw [e1, Option.bind_some, if_pos rfl]
  simp only
  rw [decode_all, Option.bind_some, gp, bne_self_eq_false]
  exact back_in k at_ cells _ _ (by omega)
end Go.Proofs.Ytddccpgbjlejhaa.Pure
