/- The parts that are sent, as they are read. -/
import Derived.Test.YtgjicigagfhgmaaSound
namespace Go.Proofs.Ytgjicigagfhgmaa.A
set_option linter.unusedVariables false
open Go.RowKit Go.Proofs.YtgjicigagfhgmaaW.PrintWords
structure S28 where
  f0 : Int
  f1 : Int
  f2 : Int
  f3 : Int
def k28 : Kd S28 := Kd.iso (Kd.pair (Kd.int .u8) (Kd.pair (Kd.int .u8) (Kd.pair (Kd.int .u8) (Kd.int .u16)))) (fun x : S28 => (x.f0, x.f1, x.f2, x.f3))
theorem k28_open {w : World} {x : S28} {cs : List Value} (h : k28.K w x cs) : cs = [.int .u8 x.f0, .int .u8 x.f1, .int .u8 x.f2, .int .u16 x.f3] := by
  obtain ⟨_, _, rfl, h0, h⟩ := h
  obtain rfl := h0
  obtain ⟨_, _, rfl, h1, h⟩ := h
  obtain rfl := h1
  obtain ⟨_, _, rfl, h2, h⟩ := h
  obtain rfl := h2
  obtain rfl := h
  rfl
structure S30 where
  f0 : S28
  f1 : List Int
  f2 : Int
  f3 : Int
def k30 : Kd S30 := Kd.iso (Kd.pair k28 (Kd.pair (Kd.slice 5 (Kd.int .u8)) (Kd.pair (Kd.int .u8) (Kd.int .u8)))) (fun x : S30 => (x.f0, x.f1, x.f2, x.f3))
theorem k30_open {w : World} {x : S30} {cs : List Value} (h : k30.K w x cs) : ∃ (A1 : Option Addr) (c1 : Nat), cs = [.int .u8 x.f0.f0, .int .u8 x.f0.f1, .int .u8 x.f0.f2, .int .u16 x.f0.f3, .slice A1 x.f1.length c1, .int .u8 x.f2, .int .u8 x.f3] ∧ x.f1.length ≤ c1 ∧ (Kd.int .u8).C w A1 x.f1.length x.f1 := by
  obtain ⟨_, _, rfl, h0, h⟩ := h
  obtain rfl := k28_open h0
  obtain ⟨_, _, rfl, h1, h⟩ := h
  obtain ⟨A1, c1, rfl, l1, r1⟩ := h1
  obtain ⟨_, _, rfl, h2, h⟩ := h
  obtain rfl := h2
  obtain rfl := h
  exact ⟨A1, c1, rfl, l1, r1⟩
theorem add_next (ad : Addr) (k j : Nat) (hj : 0 < j) : ad.add (k + j) = ⟨(ad.add k).block, (ad.add k).off + j, none⟩ := by
  unfold Addr.add
  by_cases h : k = 0
  · subst h
    rw [if_neg (by omega), if_pos rfl, Nat.zero_add]
  · rw [if_neg (by omega), if_neg h, Nat.add_assoc]
/-- A part's cells. -/
structure Cl (w : World) (ad : Addr) (x : S30) (A : Option Addr) (c : Nat) : Prop where
  c0 : w.cell? ad = some (.int .u8 x.f0.f0)
  c1 : w.cell? ⟨ad.block, ad.off + 1, none⟩ = some (.int .u8 x.f0.f1)
  c2 : w.cell? ⟨ad.block, ad.off + 2, none⟩ = some (.int .u8 x.f0.f2)
  c3 : w.cell? ⟨ad.block, ad.off + 3, none⟩ = some (.int .u16 x.f0.f3)
  c4 : w.cell? ⟨ad.block, ad.off + 4, none⟩ = some (.slice A x.f1.length c)
  c5 : w.cell? ⟨ad.block, ad.off + 5, none⟩ = some (.int .u8 x.f2)
  c6 : w.cell? ⟨ad.block, ad.off + 6, none⟩ = some (.int .u8 x.f3)
  l : x.f1.length ≤ c
  r : (Kd.int .u8).C w A x.f1.length x.f1
theorem ops_at {w : World} {A : Option Addr} {ops : List S30} (h : Kd.C k30 w A ops.length ops) (k : Nat) (hk : k < ops.length) : ∃ ad A1 c1, A = some ad ∧ Cl w (ad.add (k * 7)) ops[k] A1 c1 := by
  obtain ⟨ad, e, hc⟩ := h.2.2 (by omega)
  obtain ⟨c, hl, hK, hcell⟩ := hc k _ (List.getElem?_eq_getElem hk)
  obtain ⟨A1, c1, rfl, hl1, hr1⟩ := k30_open hK
  refine ⟨ad, A1, c1, e, ⟨hcell 0 _ rfl, ?_, ?_, ?_, ?_, ?_, ?_, hl1, hr1⟩⟩
  · rw [← add_next ad (k * 7) 1 (by omega)]; exact hcell 1 _ rfl
  · rw [← add_next ad (k * 7) 2 (by omega)]; exact hcell 2 _ rfl
  · rw [← add_next ad (k * 7) 3 (by omega)]; exact hcell 3 _ rfl
  · rw [← add_next ad (k * 7) 4 (by omega)]; exact hcell 4 _ rfl
  · rw [← add_next ad (k * 7) 5 (by omega)]; exact hcell 5 _ rfl
  · rw [← add_next ad (k * 7) 6 (by omega)]; exact hcell 6 _ rfl
end Go.Proofs.Ytgjicigagfhgmaa.A
