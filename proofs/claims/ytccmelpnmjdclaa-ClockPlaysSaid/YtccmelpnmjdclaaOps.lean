/- The steps of the law, as they are read. -/
import Derived.Test.YtccmelpnmjdclaaMir
namespace Go.Proofs.Ytccmelpnmjdclaa.A
set_option linter.unusedVariables false
open Go.RowKit Go.Proofs.YtccmelpnmjdclaaW.PrintWords
structure S32 where
  f0 : Int
  f1 : Int
  f2 : Int
def k32 : Kd S32 := Kd.iso (Kd.pair (Kd.int .i64) (Kd.pair (Kd.int .i64) (Kd.int .i64))) (fun x : S32 => (x.f0, x.f1, x.f2))
theorem k32_open {w : World} {x : S32} {cs : List Value} (h : k32.K w x cs) : cs = [.int .i64 x.f0, .int .i64 x.f1, .int .i64 x.f2] := by
  obtain ⟨_, _, rfl, h0, h⟩ := h
  obtain rfl := h0
  obtain ⟨_, _, rfl, h1, h⟩ := h
  obtain rfl := h1
  obtain rfl := h
  rfl
theorem add_next (ad : Addr) (k j : Nat) (hj : 0 < j) : ad.add (k + j) = ⟨(ad.add k).block, (ad.add k).off + j, none⟩ := by
  unfold Addr.add
  by_cases h : k = 0
  · subst h
    rw [if_neg (by omega), if_pos rfl, Nat.zero_add]
  · rw [if_neg (by omega), if_neg h, Nat.add_assoc]
/-- Step k's cells. -/
theorem ops_at {w : World} {A : Option Addr} {ops : List S32} (h : Kd.C k32 w A ops.length ops) (k : Nat) (hk : k < ops.length) :
    ∃ ad, A = some ad ∧ w.cell? (ad.add (k * 3)) = some (.int .i64 (ops[k]).f0) ∧ w.cell? ⟨(ad.add (k * 3)).block, (ad.add (k * 3)).off + 1, none⟩ = some (.int .i64 (ops[k]).f1) ∧ w.cell? ⟨(ad.add (k * 3)).block, (ad.add (k * 3)).off + 2, none⟩ = some (.int .i64 (ops[k]).f2) := by
  obtain ⟨ad, e, hc⟩ := h.2.2 (by omega)
  obtain ⟨c, hl, hK, hcell⟩ := hc k _ (List.getElem?_eq_getElem hk)
  obtain rfl := k32_open hK
  refine ⟨ad, e, hcell 0 _ rfl, ?_, ?_⟩
  · rw [← add_next ad (k * 3) 1 (by omega)]; exact hcell 1 _ rfl
  · rw [← add_next ad (k * 3) 2 (by omega)]; exact hcell 2 _ rfl
end Go.Proofs.Ytccmelpnmjdclaa.A
