/- AttrBytes, the plain part: of each byte what the program answers is what the document's functions answer. -/
import Derived.Test.YthimdjdnpfaamaaGoalAttrBytes
import Derived.Test.YthimdjdnpfaamaaPlain
namespace Go.Proofs.Ythimdjdnpfaamaa.Pure
open Go.RowKit Go.Proofs.Ythimdjdnpfaamaa.P Go.Proofs.YthimdjdnpfaamaaW.PrintWords Go.Proofs.YthimdjdnpfaamaaW.PrintLast Go.Proofs.YthimdjdnpfaamaaW.PrintMore Go.Proofs.YthimdjdnpfaamaaO Go.Proofs.Ythimdjdnpfaamaa.Plain
set_option linter.unusedSimpArgs false

theorem same_byte : ∀ a b : Fin 256, attr_Same.f (a.val : Int) (b.val : Int) = some (Int.tmod (a.val : Int) 64 == Int.tmod (b.val : Int) 64) := by decide +kernel
theorem bytes_one : ∀ n : Fin 256, attr_Protected.f (n.val : Int) = greenscreenref11_Bit.f (n.val : Int) 32 ∧ attr_Numeric.f (n.val : Int) = greenscreenref11_Bit.f (n.val : Int) 16 ∧
    attr_Skip.f (n.val : Int) = (greenscreenref11_Bit.f (n.val : Int) 32).bind (fun p => (greenscreenref11_Bit.f (n.val : Int) 16).bind fun q => some (p && q)) ∧
    attr_Shown.f (n.val : Int) = greenscreenref11_Shown.f (n.val : Int) ∧ attr_Modified.f (n.val : Int) = greenscreenref11_Bit.f (n.val : Int) 1 ∧
    attr_Modify.f (n.val : Int) true = greenscreenref11_Modify.f (n.val : Int) true ∧ attr_Modify.f (n.val : Int) false = greenscreenref11_Modify.f (n.val : Int) false ∧
    attr_Byte.f (n.val : Int) = greenscreenref02_Digit.f (wrap64 (Int.tmod (n.val : Int) 64)) ∧
    (attr_Text.f 3 (n.val : Int)).map (·.toList) = (greenscreenref11_Text.f 3 (n.val : Int)).map (·.toList) ∧ (attr_Text.f 3 (n.val : Int)).isSome = true ∧
    (greenscreenref11_Bit.f (n.val : Int) 32).isSome = true ∧ (greenscreenref11_Bit.f (n.val : Int) 16).isSome = true ∧ (greenscreenref11_Bit.f (n.val : Int) 1).isSome = true ∧ (greenscreenref11_Shown.f (n.val : Int)).isSome = true ∧
    (greenscreenref11_Modify.f (n.val : Int) true).isSome = true ∧ (greenscreenref11_Modify.f (n.val : Int) false).isSome = true ∧ (greenscreenref02_Digit.f (wrap64 (Int.tmod (n.val : Int) 64))).isSome = true := by decide +kernel
theorem text_more {k : Nat} (hk : 3 ≤ k) (n : Int) (r : ByteArray) (h : attr_Text.f 3 n = some r) : attr_Text.f k n = some r := by
  obtain ⟨k, rfl⟩ : ∃ m, k = m + 3 := ⟨k - 3, by omega⟩
  clear hk
  induction k with
  | zero => exact h
  | succ k ih => exact attr_Text.mono n (k + 3) _ ih
theorem ref_more {k : Nat} (hk : 3 ≤ k) (n : Int) (r : ByteArray) (h : greenscreenref11_Text.f 3 n = some r) : greenscreenref11_Text.f k n = some r := by
  obtain ⟨k, rfl⟩ : ∃ m, k = m + 3 := ⟨k - 3, by omega⟩
  clear hk
  induction k with
  | zero => exact h
  | succ k ih => exact greenscreenref11_Text.mono n (k + 3) _ ih

theorem AttrBytes : Go.Proofs.Ythimdjdnpfaamaa.GAttrBytes.Pure := by
  intro a b on ha hb
  obtain ⟨n, rfl⟩ := byte_of ha
  obtain ⟨m, rfl⟩ := byte_of hb
  obtain ⟨k, hk⟩ : ∃ k, 200 ≤ k := ⟨200, Nat.le_refl _⟩
  refine ⟨k, ?_⟩
  have A := alive_ok (show 6 ≤ k by omega)
  have S := same_byte n m
  obtain ⟨h1, h2, h3, h4, h5, h6, h7, h8, h9, i0, i1, i2, i3, i4, i5, i6, i7⟩ := bytes_one n
  obtain ⟨t, ht⟩ := Option.isSome_iff_exists.1 i0
  obtain ⟨p, hp⟩ := Option.isSome_iff_exists.1 i1
  obtain ⟨q, hq⟩ := Option.isSome_iff_exists.1 i2
  obtain ⟨r, hr⟩ := Option.isSome_iff_exists.1 i3
  obtain ⟨s, hs⟩ := Option.isSome_iff_exists.1 i4
  obtain ⟨u, hu⟩ := Option.isSome_iff_exists.1 i5
  obtain ⟨v, hv⟩ := Option.isSome_iff_exists.1 i6
  obtain ⟨x, hx⟩ := Option.isSome_iff_exists.1 i7
  rw [ht] at h9
  obtain ⟨t', ht', e⟩ := Option.map_eq_some_iff.1 h9.symm
  have T := text_more (show 3 ≤ k by omega) _ _ ht
  have T' := ref_more (show 3 ≤ k by omega) _ _ ht'
  rw [hp] at h1 h3
  rw [hq] at h2 h3
  rw [hr] at h5
  rw [hs] at h4
  rw [hu] at h6
  rw [hv] at h7
  rw [hx] at h8
  unfold greenscreenlaw11_AttrBytes.f
  cases on <;> cases p <;> cases q <;> simp [A, S, T, T', e, h1, h2, h3, h4, h5, h6, h7, h8, hp, hq, hr, hs, hu, hv, hx]
end Go.Proofs.Ythimdjdnpfaamaa.Pure
