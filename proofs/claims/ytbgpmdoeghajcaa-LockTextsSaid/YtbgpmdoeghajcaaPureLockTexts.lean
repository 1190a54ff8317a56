/- LockTexts, the plain part: over every row of steps the lock is ready just if nothing is said, and has an error just if it is wrong. -/
import Derived.Test.YtbgpmdoeghajcaaGoalLockTexts
namespace Go.Proofs.Ytbgpmdoeghajcaa.Pure
open Go.RowKit Go.Proofs.Ytbgpmdoeghajcaa.P Go.Proofs.YtbgpmdoeghajcaaW.PrintWords Go.Proofs.YtbgpmdoeghajcaaW.PrintLast Go.Proofs.YtbgpmdoeghajcaaW.PrintMore Go.Proofs.YtbgpmdoeghajcaaO
set_option linter.unusedSimpArgs false

def TInv (s y : Int) : Prop := (s = 0 ∧ y = 0) ∨ (s = 1 ∧ y = 0) ∨ (s = 2 ∧ y = 0) ∨ (s = 3 ∧ y ≠ 0)

theorem alive_ok : greenscreenlaw21_alive.f = some true := by decide +kernel

theorem wrong_ok (y : Int) : ∃ b, lock_wrong.f y = some b ∧ ¬ b.toList = [] := by
  unfold lock_wrong.f
  split
  · exact ⟨_, rfl, by decide +kernel⟩
  split
  · exact ⟨_, rfl, by decide +kernel⟩
  split
  · exact ⟨_, rfl, by decide +kernel⟩
  · exact ⟨_, rfl, by decide +kernel⟩

theorem e0 : ((⟨#[]⟩ : ByteArray).toList == ([] : List UInt8)) = true := by decide +kernel
theorem e1 : ((⟨#[88]⟩ : ByteArray).toList == ([] : List UInt8)) = false := by decide +kernel
theorem e2 : ((⟨#[88, 32, 83, 89, 83, 84, 69, 77]⟩ : ByteArray).toList == ([] : List UInt8)) = false := by decide +kernel

theorem t_j2 (k : Nat) (a : Int) (l : List S30) (n i s y t : Int) (hI : TInv s y) (h : ∀ t, greenscreenlaw21_LockTexts.l0 k a l n (wrap64 (i + 1)) s y t = some true) :
    greenscreenlaw21_LockTexts.j2 (k + 1) a l n i s y t = some true := by
  simp only [greenscreenlaw21_LockTexts.j2]
  rcases hI with ⟨rfl, rfl⟩ | ⟨rfl, rfl⟩ | ⟨rfl, rfl⟩ | ⟨rfl, hy⟩
  · simp [lock_Lock_Text.f, lock_Lock_May.f, lock_Lock_Why.f, lock_Lock_State.f, e1, h]
  · simp [lock_Lock_Text.f, lock_Lock_May.f, lock_Lock_Why.f, lock_Lock_State.f, e0, h]
  · simp [lock_Lock_Text.f, lock_Lock_May.f, lock_Lock_Why.f, lock_Lock_State.f, e2, h]
  · obtain ⟨b, hb, he⟩ := wrong_ok y
    simp [lock_Lock_Text.f, lock_Lock_May.f, lock_Lock_Why.f, lock_Lock_State.f, hb, he, hy, h]

theorem t_j1 (k : Nat) (a : Int) (l : List S30) (n i : Int) (c : Int) (b : Bool) (s y t o e : Int) (hI : TInv s y) (h : ∀ s y t, TInv s y → greenscreenlaw21_LockTexts.j2 k a l n i s y t = some true) :
    greenscreenlaw21_LockTexts.j1 (k + 1) a l n i c b s y t o e = some true := by
  have H1 := fun t => h 1 0 t (.inr (.inl ⟨rfl, rfl⟩))
  have H2 := fun t => h 2 0 t (.inr (.inr (.inl ⟨rfl, rfl⟩)))
  have H3 := fun t => h s y t hI
  simp only [greenscreenlaw21_LockTexts.j1]
  split
  · rcases hI with ⟨rfl, rfl⟩ | ⟨rfl, rfl⟩ | ⟨rfl, rfl⟩ | ⟨rfl, hy⟩ <;> simp [lock_Lock_Send.f, lock_Lock_May.f, lock_Lock_turn.f, H1, H2, H3]
  split
  · by_cases he : e = 0
    · subst he
      rcases hI with ⟨rfl, rfl⟩ | ⟨rfl, rfl⟩ | ⟨rfl, rfl⟩ | ⟨rfl, hy⟩ <;> simp [lock_Lock_Fail.f, lock_Lock_May.f, lock_Lock_turn.f, H3]
    · have H4 := fun t => h 3 e t (.inr (.inr (.inr ⟨rfl, he⟩)))
      rcases hI with ⟨rfl, rfl⟩ | ⟨rfl, rfl⟩ | ⟨rfl, rfl⟩ | ⟨rfl, hy⟩ <;> simp [lock_Lock_Fail.f, lock_Lock_May.f, lock_Lock_turn.f, he, H3, H4]
  split
  · rcases hI with ⟨rfl, rfl⟩ | ⟨rfl, rfl⟩ | ⟨rfl, rfl⟩ | ⟨rfl, hy⟩ <;> simp [lock_Lock_Reset.f, lock_Lock_Open.f, lock_Lock_turn.f, H1, H3]
  split
  · rcases hI with ⟨rfl, rfl⟩ | ⟨rfl, rfl⟩ | ⟨rfl, rfl⟩ | ⟨rfl, hy⟩ <;> simp [lock_Lock_Restore.f, lock_Lock_Open.f, lock_Lock_turn.f, H1, H3]
  · exact H3 t

theorem t_j3 (k : Nat) (t : Int) : greenscreenlaw21_LockTexts.j3 (k + 1) false 1 0 t = some true := by
  simp [greenscreenlaw21_LockTexts.j3, lock_Lock_State.f, lock_Lock_Send.f, lock_Lock_May.f, lock_Lock_turn.f, lock_Lock_Reset.f, lock_Lock_Restore.f, lock_Lock_Open.f]

theorem wrap_next {i : Int} (h0 : 0 ≤ i) (h : i < 1000) : wrap64 (i + 1) = i + 1 := by unfold wrap64; omega

theorem t_end (k : Nat) (a : Int) (l : List S30) (n i s y t : Int) (hI : TInv s y) (h : ¬ i < n) : greenscreenlaw21_LockTexts.l0 (k + 2) a l n i s y t = some true := by
  simp only [greenscreenlaw21_LockTexts.l0]
  rw [if_neg h]
  have H := t_j3 k
  by_cases ha : a = 0
  · subst ha
    rcases hI with ⟨rfl, rfl⟩ | ⟨rfl, rfl⟩ | ⟨rfl, rfl⟩ | ⟨rfl, hy⟩ <;> simp [lock_Lock_Open.f, lock_Lock_turn.f, lock_Lock_May.f, lock_Lock_Fail.f, lock_Lock_State.f, lock_Lock_Reset.f, H]
  · have hb : (a != 0) = true := by simpa using ha
    rcases hI with ⟨rfl, rfl⟩ | ⟨rfl, rfl⟩ | ⟨rfl, rfl⟩ | ⟨rfl, hy⟩ <;> simp [lock_Lock_Open.f, lock_Lock_turn.f, lock_Lock_May.f, lock_Lock_Fail.f, lock_Lock_State.f, lock_Lock_Reset.f, ha, hb, H]

theorem t_l0 (a : Int) (l : List S30) (hl : l.length ≤ 100) (d : Nat) : ∀ (k : Nat) (i s y t : Int), 0 ≤ i → i + d = l.length → TInv s y → 3 * d + 2 ≤ k →
    greenscreenlaw21_LockTexts.l0 k a l (l.length : Int) i s y t = some true := by
  induction d with
  | zero =>
    intro k i s y t h0 hd hI hk
    obtain ⟨k, rfl⟩ : ∃ m, k = m + 2 := ⟨k - 2, by omega⟩
    exact t_end k a l _ i s y t hI (by omega)
  | succ d ih =>
    intro k i s y t h0 hd hI hk
    obtain ⟨k, rfl⟩ : ∃ m, k = m + 3 := ⟨k - 3, by omega⟩
    have hw := wrap_next h0 (show i < 1000 by omega)
    have H2 : ∀ m, m = k ∨ m = k + 1 → ∀ s y t, TInv s y → greenscreenlaw21_LockTexts.j2 (m + 1) a l (l.length : Int) i s y t = some true := fun m hm s y t hI =>
      t_j2 m a l _ i s y t hI (fun t => by rw [hw]; exact ih m (i + 1) s y t (by omega) (by omega) hI (by omega))
    have H1 := t_j1 (k + 1) a l (l.length : Int) i ((rd_T30 l i).f0)
    simp only [greenscreenlaw21_LockTexts.l0]
    rw [if_pos (by omega), if_pos h0, if_pos (by omega)]
    split
    · have := fun t => H2 (k + 1) (.inr rfl) 1 0 t (.inr (.inl ⟨rfl, rfl⟩))
      simp only [lock_Lock_Open.f, lock_Lock_turn.f]
      split <;> simp [this]
    split
    · have := fun t => H2 (k + 1) (.inr rfl) 0 0 t (.inl ⟨rfl, rfl⟩)
      simp only [lock_Lock_Shut.f, lock_Lock_turn.f]
      split <;> simp [this]
    split
    · exact H1 _ s y t _ _ hI (H2 k (.inl rfl))
    · exact H1 _ s y t _ _ hI (H2 k (.inl rfl))

theorem LockTexts : Go.Proofs.Ytbgpmdoeghajcaa.GLockTexts.Pure := by
  intro l a hg _
  refine ⟨400, ?_⟩
  unfold greenscreenlaw21_LockTexts.f
  rw [alive_ok]
  simp only [Option.bind_some, if_true]
  split
  · rfl
  · exact t_l0 a l (by omega) l.length 400 0 0 0 0 (by omega) (by omega) (.inl ⟨rfl, rfl⟩) (by omega)
end Go.Proofs.Ytbgpmdoeghajcaa.Pure
