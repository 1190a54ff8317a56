/- AttrPairs, the plain part: the program checks and lays each pair as the document does. -/
import Derived.Test.YthimdjdnpfaamaaGoalAttrPairs
import Derived.Test.YthimdjdnpfaamaaPlain
namespace Go.Proofs.Ythimdjdnpfaamaa.Pure
open Go.RowKit Go.Proofs.Ythimdjdnpfaamaa.P Go.Proofs.YthimdjdnpfaamaaW.PrintWords Go.Proofs.YthimdjdnpfaamaaW.PrintLast Go.Proofs.YthimdjdnpfaamaaW.PrintMore Go.Proofs.YthimdjdnpfaamaaO Go.Proofs.Ythimdjdnpfaamaa.Plain Go.Proofs.Ythimdjdnpfaamaa.GAttrPairs
set_option linter.unusedSimpArgs false

theorem check_ok {k : Nat} (hk : 3 ≤ k) (x t v : Int) : ∃ e b, attr_Check.f k x t v = some e ∧ greenscreenref11_Check.f x t v = some b ∧ (e == 0) = b ∧ (e = 0 ∨ e = 33) := by
  obtain ⟨k, rfl⟩ : ∃ m, k = m + 2 := ⟨k - 2, by omega⟩
  simp only [attr_Check.f, attr_Check.j0, attr_Check.j1, greenscreenref11_Check.f]
  by_cases h1 : x = 41
  · subst h1
    by_cases h4 : t = 65
    · subst h4; exact ⟨0, true, by simp, by simp, by simp, .inl rfl⟩
    by_cases h5 : t = 66
    · subst h5; exact ⟨0, true, by simp, by simp, by simp, .inl rfl⟩
    by_cases h6 : t = 192
    · subst h6; exact ⟨0, true, by simp, by simp, by simp, .inl rfl⟩
    · exact ⟨33, false, by simp [h4, h5, h6], by simp [h4, h5, h6], by simp, .inr rfl⟩
  by_cases h2 : x = 44
  · subst h2
    by_cases h4 : t = 65
    · subst h4; exact ⟨0, true, by simp, by simp, by simp, .inl rfl⟩
    by_cases h5 : t = 66
    · subst h5; exact ⟨0, true, by simp, by simp, by simp, .inl rfl⟩
    by_cases h6 : t = 192
    · subst h6; exact ⟨0, true, by simp, by simp, by simp, .inl rfl⟩
    · exact ⟨33, false, by simp [h4, h5, h6], by simp [h4, h5, h6], by simp, .inr rfl⟩
  by_cases h3 : x = 40
  · subst h3
    by_cases h4 : t = 65
    · subst h4; exact ⟨0, true, by simp, by simp, by simp, .inl rfl⟩
    by_cases h5 : t = 66
    · subst h5; exact ⟨0, true, by simp, by simp, by simp, .inl rfl⟩
    by_cases h6 : t = 0
    · subst h6
      by_cases h7 : v = 0
      · subst h7; exact ⟨0, true, by simp, by simp, by simp, .inl rfl⟩
      · exact ⟨33, false, by simp [h7], by simp [h7], by simp, .inr rfl⟩
    · exact ⟨33, false, by simp [h4, h5, h6], by simp [h4, h5, h6], by simp, .inr rfl⟩
  · refine ⟨33, false, ?_, by simp [h1, h2, h3], by simp, .inr rfl⟩
    by_cases h4 : t = 65 <;> simp [h1, h2, h3, h4]

theorem and_mod : ∀ n : Fin 256, Int.tmod (n.val : Int) 64 = Go.bits .and .u8 (n.val : Int) 63 := by decide +kernel

theorem ref_l0 (l : List S36) (hl : l.length ≤ 9223372036854775807) (hb : ∀ y, y ∈ l → g36 y) (d : Nat) : ∀ (k : Nat) (i : Int) (c : Cell), 0 ≤ i → i + d = l.length → 3 * d < k →
    greenscreenref11_Dress.l0 k l i c.1 c.2.1 c.2.2.1 c.2.2.2.1 c.2.2.2.2 = some (dfold c (l.drop i.toNat)) := by
  induction d with
  | zero =>
    intro k i c h0 hd hk
    obtain ⟨k, rfl⟩ : ∃ m, k = m + 1 := ⟨k - 1, by omega⟩
    simp only [greenscreenref11_Dress.l0]
    rw [if_neg (by omega), List.drop_of_length_le (by omega)]
    rfl
  | succ d ih =>
    intro k i c h0 hd hk
    obtain ⟨k, rfl⟩ : ∃ m, k = m + 3 := ⟨k - 3, by omega⟩
    have hi : i < (l.length : Int) := by omega
    have hw := wrap_next h0 hi hl
    have hs : dfold c (l.drop i.toNat) = dfold (dstep c (rd_T36 l i)) (l.drop (i + 1).toNat) := by rw [drop_at l i h0 (by omega)]; rfl
    have H := ih k (i + 1) (dstep c (rd_T36 l i)) (by omega) (by omega) (by omega)
    have hm : rd_T36 l i ∈ l := List.mem_of_mem_drop (i := i.toNat) (by rw [drop_at l i h0 hi]; exact List.mem_cons_self)
    obtain ⟨n, hn⟩ := byte_of (hb _ hm).2
    have hv : Int.tmod (rd_T36 l i).f1 64 = Go.bits .and .u8 (rd_T36 l i).f1 63 := by rw [hn]; exact and_mod n
    rw [hs, ← H]
    simp only [greenscreenref11_Dress.l0, greenscreenref11_Dress.j1, greenscreenref11_Dress.j2, if_pos hi, if_pos h0, hw, hv]
    generalize rd_T36 l i = p at *
    unfold dstep
    by_cases e1 : p.f0 = 192
    · simp [e1]
    by_cases e2 : p.f0 = 65
    · simp [e2]
    by_cases e3 : p.f0 = 66
    · simp [e3]
    by_cases e4 : p.f0 = 0
    · simp [e4]
    · simp [e1, e2, e3, e4]

theorem ref_f (l : List S36) (hl : l.length ≤ 100) (hb : ∀ y, y ∈ l → g36 y) (k : Nat) (hk : 301 < k) (c : Cell) : greenscreenref11_Dress.f k c.1 c.2.1 c.2.2.1 c.2.2.2.1 c.2.2.2.2 l = some (dfold c l) := by
  have := ref_l0 l (by omega) hb l.length k 0 c (by omega) (by omega) (by omega)
  simpa [greenscreenref11_Dress.f] using this

theorem pairs_l0 (x : Int) (l : List S36) (hl : l.length ≤ 100) (hb : ∀ y, y ∈ l → g36 y) (c : Cell) (d : Nat) : ∀ (k : Nat) (i : Int), 0 ≤ i → i + d = l.length → d + 400 < k →
    greenscreenlaw11_AttrPairs.l0 k x l l (l.length : Int) i c.1 c.2.1 c.2.2.1 c.2.2.2.1 c.2.2.2.2 = some true := by
  induction d with
  | zero =>
    intro k i h0 hd hk
    obtain ⟨k, rfl⟩ : ∃ m, k = m + 1 := ⟨k - 1, by omega⟩
    simp only [greenscreenlaw11_AttrPairs.l0]
    rw [if_neg (by omega), dress_f l (by omega) k (by omega) c]
    simp only [Option.bind_some]
    rw [ref_f l hl hb k (by omega) c]
    simp
  | succ d ih =>
    intro k i h0 hd hk
    obtain ⟨k, rfl⟩ : ∃ m, k = m + 1 := ⟨k - 1, by omega⟩
    have hw := wrap_next h0 (show i < (l.length : Int) by omega) (by omega)
    have H := ih k (i + 1) (by omega) (by omega) (by omega)
    obtain ⟨e, b, h1, h2, h3, h4⟩ := check_ok (show 3 ≤ k by omega) x (rd_T36 l i).f0 (rd_T36 l i).f1
    simp only [greenscreenlaw11_AttrPairs.l0]
    rw [if_pos (by omega), if_pos h0, if_pos (by omega), h1]
    simp only [Option.bind_some]
    rw [h2]
    simp only [Option.bind_some, h3, bne_self_eq_false, Bool.false_eq_true, if_false, hw]
    rcases h4 with rfl | rfl
    · simpa using H
    · simpa using H

theorem AttrPairs : Go.Proofs.Ythimdjdnpfaamaa.GAttrPairs.Pure := by
  intro y x l hy hx hl
  obtain ⟨k, hk⟩ : ∃ k, 600 ≤ k := ⟨600, Nat.le_refl _⟩
  refine ⟨k, ?_⟩
  have A := alive_ok (show 6 ≤ k by omega)
  unfold greenscreenlaw11_AttrPairs.f
  rw [A]
  simp only [Option.bind_some, if_true]
  split
  · rfl
  · exact pairs_l0 x l (by omega) hl.2 (y.f0, y.f1, y.f2, y.f3, y.f4) l.length k 0 (by omega) (by omega) (by omega)
end Go.Proofs.Ythimdjdnpfaamaa.Pure
