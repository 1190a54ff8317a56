/- LockSends, the plain part: what is sent was ready before, and what is locked turns nothing. -/
import Derived.Test.YtbgpmdoeghajcaaGoalLockSends
namespace Go.Proofs.Ytbgpmdoeghajcaa.Pure
open Go.RowKit Go.Proofs.Ytbgpmdoeghajcaa.P Go.Proofs.YtbgpmdoeghajcaaW.PrintWords Go.Proofs.YtbgpmdoeghajcaaW.PrintLast Go.Proofs.YtbgpmdoeghajcaaW.PrintMore Go.Proofs.YtbgpmdoeghajcaaO
set_option linter.unusedSimpArgs false

def SInv (f : Bool) (s : Int) : Prop := s = 0 ∨ (s = 1 ∧ f = true) ∨ s = 2 ∨ (s = 3 ∧ f = true)

theorem alive_ok : greenscreenlaw21_alive.f = some true := by decide +kernel

theorem wrap_next {i : Int} (h0 : 0 ≤ i) (h : i < 1000) : wrap64 (i + 1) = i + 1 := by unfold wrap64; omega

theorem s_j2 (k : Nat) (f : Bool) (s y t e : Int) (l : List S30) (n i s' y' t' o0 o1 : Int) (h0 : 0 ≤ t) (ht : t < 1000) (h1 : t ≤ t') (h2 : t' ≤ t + 1) (he : e = 40 → o0 = 4 ∨ (s' = s ∧ y' = y ∧ t' = t))
    (h : greenscreenlaw21_LockSends.l0 k f l n (wrap64 (i + 1)) s' y' t' = some true) :
    greenscreenlaw21_LockSends.j2 (k + 1) f s y t e l n i s' y' t' o0 o1 = some true := by
  have hw := wrap_next h0 ht
  have a1 : ¬ t' < t := by omega
  have a2 : ¬ t' > t + 1 := by omega
  simp only [greenscreenlaw21_LockSends.j2, lock_Lock_Turns.f, lock_Lock_State.f, lock_Lock_Why.f, Option.bind_some, hw, if_neg a1, if_neg a2]
  split
  · exact h
  · rename_i h4
    split
    · rename_i h40
      rcases he h40 with h5 | ⟨rfl, rfl, rfl⟩
      · exact absurd h5 h4
      · simp only [if_true]; exact h
    · exact h

theorem s_j1 (k : Nat) (f : Bool) (s y t : Int) (l : List S30) (n i c : Int) (b : Bool) (o1 : Int) (h0 : 0 ≤ t) (ht : t < 1000) (hI : SInv f s)
    (h : ∀ f' s' y' t', SInv f' s' → t ≤ t' → t' ≤ t + 1 → greenscreenlaw21_LockSends.l0 k f' l n (wrap64 (i + 1)) s' y' t' = some true) :
    greenscreenlaw21_LockSends.j1 (k + 2) f s y t 0 l n i c b s y t c o1 = some true := by
  have hw := wrap_next h0 ht
  have J := fun f' e s' y' t' hI' h1 h2 he => s_j2 k f' s y t e l n i s' y' t' c o1 h0 ht h1 h2 he (h f' s' y' t' hI' h1 h2)
  simp only [greenscreenlaw21_LockSends.j1]
  split
  · rcases hI with rfl | ⟨rfl, rfl⟩ | rfl | ⟨rfl, rfl⟩
    · simp [lock_Lock_Send.f, lock_Lock_May.f]
      split
      · exact J _ _ _ _ _ (.inl rfl) (by omega) (by omega) (fun _ => .inr ⟨rfl, rfl, rfl⟩)
      · exact J _ _ _ _ _ (.inl rfl) (by omega) (by omega) (fun _ => .inr ⟨rfl, rfl, rfl⟩)
    · simp [lock_Lock_Send.f, lock_Lock_May.f, lock_Lock_turn.f, hw]
      exact J _ _ _ _ _ (.inr (.inr (.inl rfl))) (by omega) (by omega) (fun h => by omega)
    · simp [lock_Lock_Send.f, lock_Lock_May.f]
      split
      · exact J _ _ _ _ _ (.inr (.inr (.inl rfl))) (by omega) (by omega) (fun _ => .inr ⟨rfl, rfl, rfl⟩)
      · exact J _ _ _ _ _ (.inr (.inr (.inl rfl))) (by omega) (by omega) (fun _ => .inr ⟨rfl, rfl, rfl⟩)
    · simp [lock_Lock_Send.f, lock_Lock_May.f]
      exact J _ _ _ _ _ (.inr (.inr (.inr ⟨rfl, rfl⟩))) (by omega) (by omega) (fun _ => .inr ⟨rfl, rfl, rfl⟩)
  split
  · rename_i h4
    by_cases he : o1 = 0
    · subst he
      have J4 := fun e => J f e s y t hI (by omega) (by omega) (fun _ => .inl h4)
      rcases hI with rfl | ⟨rfl, rfl⟩ | rfl | ⟨rfl, rfl⟩ <;> simp [lock_Lock_Fail.f, lock_Lock_May.f, J4]
    · have J4 := fun e => J f e s y t hI (by omega) (by omega) (fun _ => .inl h4)
      have J5 := fun hf => J f o1 3 o1 (t + 1) (.inr (.inr (.inr ⟨rfl, hf⟩))) (by omega) (by omega) (fun _ => .inl h4)
      rcases hI with rfl | ⟨rfl, rfl⟩ | rfl | ⟨rfl, rfl⟩ <;> simp [lock_Lock_Fail.f, lock_Lock_May.f, lock_Lock_turn.f, he, hw, J4, J5]
  split
  · have J6 := J f 0 s y t hI (by omega) (by omega) (fun h => by omega)
    have J7 := fun hf => J f 0 1 0 (t + 1) (.inr (.inl ⟨rfl, hf⟩)) (by omega) (by omega) (fun h => by omega)
    rcases hI with rfl | ⟨rfl, rfl⟩ | rfl | ⟨rfl, rfl⟩
    · simp [lock_Lock_Reset.f, J6]
    · simp [lock_Lock_Reset.f, J6]
    · simp [lock_Lock_Reset.f, J6]
    · simp [lock_Lock_Reset.f, lock_Lock_Open.f, lock_Lock_turn.f, hw, J7 rfl]
  split
  · have J6 := J f 0 s y t hI (by omega) (by omega) (fun h => by omega)
    have J7 := J true 0 1 0 (t + 1) (.inr (.inl ⟨rfl, rfl⟩)) (by omega) (by omega) (fun h => by omega)
    rcases hI with rfl | ⟨rfl, rfl⟩ | rfl | ⟨rfl, rfl⟩ <;> simp [lock_Lock_Restore.f, lock_Lock_Open.f, lock_Lock_turn.f, hw, J6, J7]
  · exact J f 0 s y t hI (by omega) (by omega) (fun h => by omega)

theorem s_l0 (l : List S30) (hl : l.length ≤ 100) (d : Nat) : ∀ (k : Nat) (f : Bool) (i s y t : Int), 0 ≤ i → i + d = l.length → SInv f s → 0 ≤ t → t ≤ i → 3 * d + 1 ≤ k →
    greenscreenlaw21_LockSends.l0 k f l (l.length : Int) i s y t = some true := by
  induction d with
  | zero =>
    intro k f i s y t h0 hd hI ht0 ht hk
    obtain ⟨k, rfl⟩ : ∃ m, k = m + 1 := ⟨k - 1, by omega⟩
    simp only [greenscreenlaw21_LockSends.l0]
    rw [if_neg (by omega)]
  | succ d ih =>
    intro k f i s y t h0 hd hI ht0 ht hk
    obtain ⟨k, rfl⟩ : ∃ m, k = m + 3 := ⟨k - 3, by omega⟩
    have hw := wrap_next h0 (show i < 1000 by omega)
    have hw2 := wrap_next ht0 (show t < 1000 by omega)
    have H : ∀ m, k ≤ m → ∀ f' s' y' t', SInv f' s' → t ≤ t' → t' ≤ t + 1 → greenscreenlaw21_LockSends.l0 m f' l (l.length : Int) (wrap64 (i + 1)) s' y' t' = some true := fun m hm f' s' y' t' hI' h1 h2 => by
      rw [hw]; exact ih m f' (i + 1) s' y' t' (by omega) (by omega) hI' (by omega) (by omega) (by omega)
    have H1 := fun c b o1 => s_j1 k f s y t l (l.length : Int) i c b o1 ht0 (by omega) hI (H k (by omega))
    have J := fun f' s' y' t' c o1 hI' h1 h2 => s_j2 (k + 1) f' s y t 0 l (l.length : Int) i s' y' t' c o1 ht0 (by omega) h1 h2 (fun h => by omega) (H (k + 1) (by omega) f' s' y' t' hI' h1 h2)
    simp only [greenscreenlaw21_LockSends.l0, lock_Lock_Turns.f, lock_Lock_State.f, lock_Lock_Why.f, Option.bind_some]
    rw [if_pos (by omega), if_pos h0, if_pos (by omega)]
    split
    · have A := fun c o1 => J true 1 0 t c o1 (.inr (.inl ⟨rfl, rfl⟩)) (by omega) (by omega)
      have B := fun c o1 => J true 1 0 (t + 1) c o1 (.inr (.inl ⟨rfl, rfl⟩)) (by omega) (by omega)
      simp only [lock_Lock_Open.f, lock_Lock_turn.f, hw2]
      split <;> simp [A, B]
    split
    · have A := fun c o1 => J f 0 0 t c o1 (.inl rfl) (by omega) (by omega)
      have B := fun c o1 => J f 0 0 (t + 1) c o1 (.inl rfl) (by omega) (by omega)
      simp only [lock_Lock_Shut.f, lock_Lock_turn.f, hw2]
      split <;> simp [A, B]
    split
    · exact H1 _ _ _
    · exact H1 _ _ _

theorem LockSends : Go.Proofs.Ytbgpmdoeghajcaa.GLockSends.Pure := by
  intro l hg
  refine ⟨400, ?_⟩
  unfold greenscreenlaw21_LockSends.f
  rw [alive_ok]
  simp only [Option.bind_some, if_true]
  split
  · rfl
  · exact s_l0 l (by omega) l.length 400 false 0 0 0 0 (by omega) (by omega) (.inl rfl) (by omega) (by omega) (by omega)
end Go.Proofs.Ytbgpmdoeghajcaa.Pure
