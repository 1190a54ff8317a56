/- LockPlays, the plain part: the program's lock and the document's go through the same states, step by step. -/
import Derived.Test.YtbgpmdoeghajcaaGoalLockPlays
namespace Go.Proofs.Ytbgpmdoeghajcaa.Pure
open Go.RowKit Go.Proofs.Ytbgpmdoeghajcaa.P Go.Proofs.YtbgpmdoeghajcaaW.PrintWords Go.Proofs.YtbgpmdoeghajcaaW.PrintLast Go.Proofs.YtbgpmdoeghajcaaW.PrintMore Go.Proofs.YtbgpmdoeghajcaaO
set_option linter.unusedSimpArgs false

def PInv (s : Int) : Prop := s = 0 ∨ s = 1 ∨ s = 2 ∨ s = 3

theorem alive_ok : greenscreenlaw21_alive.f = some true := by decide +kernel

theorem wrong_ok (y : Int) : ∃ b, lock_wrong.f y = some b ∧ ∀ t, greenscreenref21_Text.f 3 y t = some b := by
  unfold lock_wrong.f
  simp only [greenscreenref21_Text.f]
  split
  · exact ⟨_, rfl, fun t => by simp⟩
  split
  · exact ⟨_, rfl, fun t => by simp⟩
  split
  · exact ⟨_, rfl, fun t => by simp⟩
  · exact ⟨_, rfl, fun t => by simp⟩

theorem p_j3 (k : Nat) (l : List S30) (n i s y t : Int) (hI : PInv s) (h : greenscreenlaw21_LockPlays.l0 k l n (wrap64 (i + 1)) s y t s y t = some true) :
    greenscreenlaw21_LockPlays.j3 (k + 1) l n i s y t s y t = some true := by
  simp only [greenscreenlaw21_LockPlays.j3]
  rcases hI with rfl | rfl | rfl | rfl
  · simp [lock_Lock_Text.f, lock_Lock_May.f, lock_Lock_Why.f, lock_Lock_State.f, lock_Lock_Turns.f, greenscreenref21_Text.f, h]
  · simp [lock_Lock_Text.f, lock_Lock_May.f, lock_Lock_Why.f, lock_Lock_State.f, lock_Lock_Turns.f, greenscreenref21_Text.f, h]
  · simp [lock_Lock_Text.f, lock_Lock_May.f, lock_Lock_Why.f, lock_Lock_State.f, lock_Lock_Turns.f, greenscreenref21_Text.f, h]
  · obtain ⟨b, hb, he⟩ := wrong_ok y
    simp [lock_Lock_Text.f, lock_Lock_May.f, lock_Lock_Why.f, lock_Lock_State.f, lock_Lock_Turns.f, hb, he, h]

theorem p_j1 (k : Nat) (l : List S30) (n i : Int) (c : Int) (b : Bool) (s y t o e : Int) (hI : PInv s)
    (h : ∀ m, m = k ∨ m + 1 = k → ∀ s y t, PInv s → greenscreenlaw21_LockPlays.j3 m l n i s y t s y t = some true) (hk : 1 ≤ k) :
    greenscreenlaw21_LockPlays.j1 (k + 1) s l n i c b s y t s y t o e = some true := by
  obtain ⟨k, rfl⟩ : ∃ m, k = m + 1 := ⟨k - 1, by omega⟩
  have G : ∀ s y t, PInv s → greenscreenlaw21_LockPlays.j3 k l n i s y t s y t = some true := h k (.inr rfl)
  have H1 := fun y t => h (k + 1) (.inl rfl) 1 y t (.inr (.inl rfl))
  have H2 := fun y t => h (k + 1) (.inl rfl) 2 y t (.inr (.inr (.inl rfl)))
  have H0 := fun y t => h (k + 1) (.inl rfl) 3 y t (.inr (.inr (.inr rfl)))
  have H3 := h (k + 1) (.inl rfl) s y t hI
  have G2 := fun y t => G 2 y t (.inr (.inr (.inl rfl)))
  have G3 := G s y t hI
  simp only [greenscreenlaw21_LockPlays.j1]
  split
  · rcases hI with rfl | rfl | rfl | rfl <;> simp [lock_Lock_Send.f, lock_Lock_May.f, lock_Lock_turn.f, greenscreenlaw21_LockPlays.j2, greenscreenref21_Turn.f, G2, G3]
  split
  · by_cases he : e = 0
    · subst he
      rcases hI with rfl | rfl | rfl | rfl <;> simp [lock_Lock_Fail.f, lock_Lock_May.f, lock_Lock_turn.f, greenscreenref21_Fail.f, greenscreenref21_Turn.f, H3]
    · rcases hI with rfl | rfl | rfl | rfl <;> simp [lock_Lock_Fail.f, lock_Lock_May.f, lock_Lock_turn.f, greenscreenref21_Fail.f, greenscreenref21_Turn.f, he, H3, H0]
  split
  · rcases hI with rfl | rfl | rfl | rfl <;> simp [lock_Lock_Reset.f, lock_Lock_Open.f, lock_Lock_turn.f, greenscreenref21_Turn.f, H1, H3]
  split
  · rcases hI with rfl | rfl | rfl | rfl <;> simp [lock_Lock_Restore.f, lock_Lock_Open.f, lock_Lock_turn.f, greenscreenref21_Turn.f, H1, H3]
  · exact H3

theorem wrap_next {i : Int} (h0 : 0 ≤ i) (h : i < 1000) : wrap64 (i + 1) = i + 1 := by unfold wrap64; omega

theorem p_l0 (l : List S30) (hl : l.length ≤ 100) (d : Nat) : ∀ (k : Nat) (i s y t : Int), 0 ≤ i → i + d = l.length → PInv s → 4 * d + 1 ≤ k →
    greenscreenlaw21_LockPlays.l0 k l (l.length : Int) i s y t s y t = some true := by
  induction d with
  | zero =>
    intro k i s y t h0 hd hI hk
    obtain ⟨k, rfl⟩ : ∃ m, k = m + 1 := ⟨k - 1, by omega⟩
    simp only [greenscreenlaw21_LockPlays.l0]
    rw [if_neg (by omega)]
  | succ d ih =>
    intro k i s y t h0 hd hI hk
    obtain ⟨k, rfl⟩ : ∃ m, k = m + 4 := ⟨k - 4, by omega⟩
    have hw := wrap_next h0 (show i < 1000 by omega)
    have H3 : ∀ m, k ≤ m → ∀ s y t, PInv s → greenscreenlaw21_LockPlays.j3 (m + 1) l (l.length : Int) i s y t s y t = some true := fun m hm s y t hI =>
      p_j3 m l _ i s y t hI (by rw [hw]; exact ih m (i + 1) s y t (by omega) (by omega) hI (by omega))
    have H1 := fun c b o e => p_j1 (k + 2) l (l.length : Int) i c b s y t o e hI (fun m hm s y t hI => by
      obtain ⟨m, rfl⟩ : ∃ q, m = q + 1 := ⟨m - 1, by omega⟩
      exact H3 m (by omega) s y t hI) (by omega)
    simp only [greenscreenlaw21_LockPlays.l0]
    rw [if_pos (by omega), if_pos h0, if_pos (by omega)]
    split
    · have := fun y t => H3 (k + 2) (by omega) 1 y t (.inr (.inl rfl))
      rcases hI with rfl | rfl | rfl | rfl <;> simp [lock_Lock_Open.f, lock_Lock_turn.f, greenscreenref21_Turn.f, this]
    split
    · have := fun y t => H3 (k + 2) (by omega) 0 y t (.inl rfl)
      rcases hI with rfl | rfl | rfl | rfl <;> simp [lock_Lock_Shut.f, lock_Lock_turn.f, greenscreenref21_Turn.f, this]
    split
    · exact H1 _ _ _ _
    · exact H1 _ _ _ _

theorem LockPlays : Go.Proofs.Ytbgpmdoeghajcaa.GLockPlays.Pure := by
  intro l hg
  refine ⟨500, ?_⟩
  unfold greenscreenlaw21_LockPlays.f
  rw [alive_ok]
  simp only [Option.bind_some, if_true]
  split
  · rfl
  · exact p_l0 l (by omega) l.length 500 0 0 0 0 (by omega) (by omega) (.inl rfl) (by omega)
end Go.Proofs.Ytbgpmdoeghajcaa.Pure
