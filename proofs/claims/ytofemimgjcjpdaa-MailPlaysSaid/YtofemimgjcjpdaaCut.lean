/- A queue of the document's, cut. -/
import Derived.Test.YtofemimgjcjpdaaLaid
namespace Go.Proofs.Ytofemimgjcjpdaa.H
open Go.Conc Go.RowKit Go.Shelf
open Go.Proofs.YtofemimgjcjpdaaW.PrintWords (ReadsInt readsInt_of)
set_option linter.unusedVariables false
set_option linter.unusedSimpArgs false

theorem Rd.cut {W : World} {A : Option Addr} {l c : Nat} {xs : List Int} (h : Rd W (.slice A l c) xs) (m : Nat) (hm : m ≤ l) :
    ∃ A', (∀ W : World, (Instr.slice 27 (.slice A l c) (some (.int .i64 (m : Int))) none none).run Try.prog W = .ok (.slice A' (l - m) (c - m)) W) ∧ Rd W (.slice A' (l - m) (c - m)) (xs.drop m) := by
  obtain ⟨A1, c1, e, hc, hr, hty⟩ := h
  injection e with e1 e2 e3
  subst e1 e2 e3
  obtain ⟨i0, hi, hz0, hz1, hz2⟩ := info_parts info3'
  refine ⟨if c = m then A else A.map (·.add m), fun W => ?_, _, c - m, by rw [List.length_drop], by rw [List.length_drop]; omega, by rw [List.length_drop]; exact hr.drop_ m hm hc, ?_⟩
  · have hel : Try.prog.elem 27 = 3 := by simp [Program.elem, Try.underlying27]
    have hu : Try.prog.underlying 27 = some (.slice (Try.prog.elem 27)) := by rw [hel]; exact Try.underlying27
    rw [run_slice_l W 27 A xs.length c hu .i64 (m : Int) (Int.natCast_nonneg _) (by omega), hel]
    simp [sizeOf, typeInfo, hi, hz1, sliced, Result.andThen]
  · intro ad e
    cases A with
    | none => split at e <;> cases e
    | some a =>
      obtain ⟨cells, fr, hb⟩ := hty a rfl
      refine ⟨cells, fr, ?_⟩
      split at e
      · injection e with e
        rw [← e]
        exact hb
      · simp only [Option.map_some] at e
        injection e with e
        rw [← e, add_block']
        exact hb
theorem Rd.upto {W : World} {A : Option Addr} {l c : Nat} {xs : List Int} (h : Rd W (.slice A l c) xs) (m : Nat) (hm : m ≤ l) :
    (∀ W : World, (Instr.slice 27 (.slice A l c) none (some (.int .i64 (m : Int))) none).run Try.prog W = .ok (.slice A m c) W) ∧ Rd W (.slice A m c) (xs.take m) := by
  obtain ⟨A1, c1, e, hc, hr, hty⟩ := h
  injection e with e1 e2 e3
  subst e1 e2 e3
  obtain ⟨i0, hi, hz0, hz1, hz2⟩ := info_parts info3'
  have hl : (xs.take m).length = m := by rw [List.length_take]; omega
  refine ⟨fun W => ?_, A, c, by rw [hl], by omega, by rw [hl]; exact hr.take_ m hm, hty⟩
  have hel : Try.prog.elem 27 = 3 := by simp [Program.elem, Try.underlying27]
  have hu : Try.prog.underlying 27 = some (.slice (Try.prog.elem 27)) := by rw [hel]; exact Try.underlying27
  rw [run_slice_h W 27 A xs.length c hu .i64 (m : Int) (Int.natCast_nonneg _) (by omega), hel]
  cases A <;> simp [sizeOf, typeInfo, hi, hz1, sliced, Result.andThen, Addr.add]
theorem wrap_small (k : Nat) (hk : k ≤ 8) : wrap64 (k : Int) = (k : Int) := by
  unfold wrap64
  omega
theorem and_le_bv (a b : BitVec 64) : (a &&& b).toNat ≤ b.toNat := by
  rw [BitVec.toNat_and]
  exact Nat.and_le_right
theorem seven_bv : (BitVec.ofInt 64 7).toNat = 7 := by decide
theorem and7 (z : Int) : ∃ k : Nat, k ≤ 7 ∧ bits BinOp.and IntKind.i64 z 7 = (k : Int) := by
  have hl := and_le_bv (BitVec.ofInt 64 z) (BitVec.ofInt 64 7)
  rw [seven_bv] at hl
  refine ⟨_, hl, ?_⟩
  unfold bits
  simp only [IntKind.bits]
  rw [IntKind.wrap_i64]
  have key : ∀ n : Nat, n ≤ 7 → ((n : Int) + 9223372036854775808) % 18446744073709551616 - 9223372036854775808 = n := by intro n hn; omega
  exact key _ hl
theorem most7 (z : Int) : ∃ k : Nat, 1 ≤ k ∧ k ≤ 8 ∧ wrap64 (1 + bits BinOp.and IntKind.i64 z 7) = (k : Int) := by
  obtain ⟨k, hk, e⟩ := and7 z
  refine ⟨1 + k, by omega, by omega, ?_⟩
  rw [e, show (1 + (k : Int)) = ((1 + k : Nat) : Int) by omega]
  exact wrap_small _ (by omega)
theorem Rd.cap {W : World} {A : Option Addr} {l c : Nat} {xs : List Int} (h : Rd W (.slice A l c) xs) : l ≤ c := by
  obtain ⟨_, _, e, hc, _⟩ := h
  injection e with e1 e2 e3
  omega
theorem bdrn {n : Nat} {W : World} (k : Nat) : Below n W (W.drewN k) := ⟨rfl, rfl, rfl, Nat.le_refl _, fun _ _ => rfl⟩
end Go.Proofs.Ytofemimgjcjpdaa.H
