/- -/
import Derived.Test.YtddccpgbjlejhaaGoalAddrBytes
import Derived.Test.YtddccpgbjlejhaaPlain
namespace Go.Proofs.Ytddccpgbjlejhaa.Pure
open Go.RowKit Go.Proofs.Ytddccpgbjlejhaa.P Go.Proofs.YtddccpgbjlejhaaW.PrintWords Go.Proofs.YtddccpgbjlejhaaW.PrintLast Go.Proofs.YtddccpgbjlejhaaW.PrintMore Go.Proofs.YtddccpgbjlejhaaO

open Go.Proofs.Ytddccpgbjlejhaa.Plain
/- YOURS -/
theorem AddrBytes : Go.Proofs.Ytddccpgbjlejhaa.GAddrBytes.Pure := by
  intro v at_ cells a b hv ha hc ba bb
  refine ⟨6, ?_⟩
  obtain ⟨x, e1, e2, -⟩ := encode_of (k := 6) (by decide) (cells := cells) ha
  obtain ⟨a, rfl⟩ := byte_of ba
  obtain ⟨b, rfl⟩ := byte_of bb
  obtain ⟨d, d1, d2, -⟩ := dig_of (v % 64) (by omega) (by omega)
  have ht : Int.tmod (a.val : Int) 64 = (a.val : Int) % 64 := Int.tmod_eq_emod_of_nonneg (by omega)
  simp only [greenscreenlaw02_AddrBytes.f, alive_ok (Nat.le_refl 6), Option.bind_some, if_true, e1, e2, dig_mod v, d1, low_of hv, d2, value_all, ht, decode_all, ref_decode, wrap_id (a := (a.val : Int) % 64) (by omega) (by omega), beq_self_eq_true]
end Go.Proofs.Ytddccpgbjlejhaa.Pure
