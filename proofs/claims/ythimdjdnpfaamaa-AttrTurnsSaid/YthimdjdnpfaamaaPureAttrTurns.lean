/- AttrTurns, the plain part: modified or not turns one bit alone, and pairs laid one after the other are those laid at once. -/
import Derived.Test.YthimdjdnpfaamaaGoalAttrTurns
import Derived.Test.YthimdjdnpfaamaaPlain
namespace Go.Proofs.Ythimdjdnpfaamaa.Pure
open Go.RowKit Go.Proofs.Ythimdjdnpfaamaa.P Go.Proofs.YthimdjdnpfaamaaW.PrintWords Go.Proofs.YthimdjdnpfaamaaW.PrintLast Go.Proofs.YthimdjdnpfaamaaW.PrintMore Go.Proofs.YthimdjdnpfaamaaO Go.Proofs.Ythimdjdnpfaamaa.Plain
set_option linter.unusedSimpArgs false

theorem turns_j0 (l : List S36) (hl : l.length ≤ 100) (x : Int) (c : Cell) (k : Nat) (hk : 102 < k) :
    greenscreenlaw11_AttrTurns.j0 k l x false c.1 c.2.1 c.2.2.1 c.2.2.2.1 c.2.2.2.2 = some true := by
  obtain ⟨k, rfl⟩ : ∃ m, k = m + 1 := ⟨k - 1, by omega⟩
  have hw : wrap64 ((l.length : Int) + 1) = (l.length : Int) + 1 := by unfold wrap64; omega
  have h0 : 0 ≤ Int.tmod (x % 1024) ((l.length : Int) + 1) := Int.tmod_nonneg _ (by omega)
  have h1 : Int.tmod (x % 1024) ((l.length : Int) + 1) < (l.length : Int) + 1 := Int.tmod_lt_of_pos _ (by omega)
  simp only [greenscreenlaw11_AttrTurns.j0, i64_and1023, hw]
  generalize Int.tmod (x % 1024) ((l.length : Int) + 1) = m at *
  have D := dress_f l (by omega) k (by omega) c
  have D1 := dress_f (l.take m.toNat) (by simp; omega) k (by simp; omega) c
  have D2 := dress_f (l.drop m.toNat) (by simp; omega) k (by simp; omega) (dfold c (l.take m.toNat))
  have e : dfold (dfold c (l.take m.toNat)) (l.drop m.toNat) = dfold c l := by rw [← dfold_append, List.take_append_drop]
  have s := dfold_same l c
  rw [e] at D2
  rw [if_neg (by decide), if_neg (by omega), D]
  simp only [Option.bind_some]
  rw [if_pos h0, if_pos (by omega), D1]
  simp only [Option.bind_some]
  rw [D2]
  simp [s.1, s.2]

theorem AttrTurns : Go.Proofs.Ythimdjdnpfaamaa.GAttrTurns.Pure := by
  intro a y l x ha hy hl hx
  obtain ⟨n, rfl⟩ := byte_of ha
  obtain ⟨m, u, b, h1, h2, h3, h4, h5, h6, h7, h8, h9, h10, h11⟩ := turns_byte n
  obtain ⟨k, hk⟩ : ∃ k, 200 ≤ k := ⟨200, Nat.le_refl _⟩
  refine ⟨k, ?_⟩
  have A := alive_ok (show 6 ≤ k by omega)
  unfold greenscreenlaw11_AttrTurns.f
  rw [A]
  simp only [Option.bind_some, if_true]
  split
  · rfl
  · have J := turns_j0 l (by omega) x (y.f0, y.f1, y.f2, y.f3, y.f4) k (by omega)
    obtain ⟨p, hp⟩ : ∃ p, attr_Protected.f (n.val : Int) = some p := ⟨_, rfl⟩
    obtain ⟨q, hq⟩ : ∃ q, attr_Numeric.f (n.val : Int) = some q := ⟨_, rfl⟩
    obtain ⟨r, hr⟩ : ∃ r, attr_Shown.f u = some r := ⟨_, rfl⟩
    rw [hp] at h6
    rw [hq] at h7
    rw [hr] at h8
    simp only [h1, h2, h3, h4, h5, h6, h7, h8, h9, h10, h11, hp, hq, hr, Option.bind_some, if_true, Bool.false_eq_true, if_false, bne_self_eq_false]
    exact J
end Go.Proofs.Ythimdjdnpfaamaa.Pure
