/- -/
import Derived.Test.YtnhogaelhggheaaGoalHeaderRounds
import Derived.Test.YtnhogaelhggheaaPlain
namespace Go.Proofs.Ytnhogaelhggheaa.Pure
open Go.RowKit Go.Proofs.Ytnhogaelhggheaa.P Go.Proofs.YtnhogaelhggheaaW.PrintWords Go.Proofs.YtnhogaelhggheaaW.PrintLast Go.Proofs.YtnhogaelhggheaaW.PrintMore Go.Proofs.YtnhogaelhggheaaO
open Go.Proofs.Ytnhogaelhggheaa.Plain
set_option linter.unusedVariables false
/- YOURS -/
/-- The number that is given in round j. -/
def res (j : Nat) : Int := ((j % 32768 : Nat) : Int)
/-- What waits ahead of round i: the numbers of the rounds js. -/
structure Inv (i : Nat) (ws : List Int) (js : List Nat) : Prop where
  eq : ws = js.map res
  len : js.length ≤ 64
  lt : ∀ t (h : t < js.length), js[t] < i
  age : ∀ t (h : t < js.length), i + (if i % 1000 = 1 then 0 else 1) ≤ js[t] + 2 * (js.length - t)

theorem next_eq {i : Nat} {ws : List Int} {js : List Nat} (h : Inv i ws js) : Hand.next (res i) ws = (res i, res (i + 1), (js.drop (js.length + 1 - 64) ++ [i]).map res) := by
  have hl := h.len
  have e1 : IntKind.u16.wrap (res i + 1) = ((i % 32768 + 1 : Nat) : Int) := by
    rw [u16_id (by unfold res; omega) (by unfold res; omega)]
    unfold res; omega
  have e2 : ((ws.length : Int) + 1 - 64).toNat = js.length + 1 - 64 := by rw [h.eq, List.length_map]; omega
  unfold Hand.next
  rw [e1, u16_mask _ (by omega), e2, ← List.drop_append_of_le_length (by omega), List.map_drop, List.map_append, ← h.eq]
  have e3 : (((i % 32768 + 1) % 32768 : Nat) : Int) = res (i + 1) := by unfold res; omega
  rw [e3]
  rfl
theorem new_of {i : Nat} {ws : List Int} {js : List Nat} (h : Inv i ws js) : res i ∉ (js.drop (js.length + 1 - 64)).map res := by
  intro hm
  obtain ⟨j, hj, he⟩ := List.mem_map.1 hm
  have hj := List.mem_of_mem_drop hj
  obtain ⟨t, ht, rfl⟩ := List.mem_iff_getElem.1 hj
  have h1 := h.lt t ht
  have h2 := h.age t ht
  have h3 := h.len
  unfold res at he
  split at h2 <;> omega
theorem more_of {i : Nat} {ws : List Int} {js : List Nat} (h : Inv i ws js) (hi : ¬ i % 1000 = 0) : Inv (i + 1) ((js.drop (js.length + 1 - 64) ++ [i]).map res) (js.drop (js.length + 1 - 64) ++ [i]) := by
  have hl := h.len
  have hk : (js.drop (js.length + 1 - 64)).length = js.length - (js.length + 1 - 64) := List.length_drop
  refine ⟨rfl, by rw [List.length_append, hk]; simp; omega, fun t ht => ?_, fun t ht => ?_⟩
  · by_cases e : t < (js.drop (js.length + 1 - 64)).length
    · rw [List.getElem_append_left e, List.getElem_drop]
      have := h.lt (js.length + 1 - 64 + t) (by omega)
      omega
    · rw [List.getElem_append_right (by omega)]
      simp
  · have hlk : (js.drop (js.length + 1 - 64) ++ [i]).length = js.length - (js.length + 1 - 64) + 1 := by rw [List.length_append, hk]; rfl
    rw [hlk]
    by_cases e : t < (js.drop (js.length + 1 - 64)).length
    · rw [List.getElem_append_left e, List.getElem_drop]
      have := h.age (js.length + 1 - 64 + t) (by omega)
      split at this <;> split <;> omega
    · rw [List.getElem_append_right (by omega)]
      simp only [List.getElem_singleton]
      rw [hlk] at ht
      split <;> omega
theorem less_of {i : Nat} {ws : List Int} {js : List Nat} (h : Inv i ws js) (hi : i % 1000 = 0) : Inv (i + 1) ((js.drop (js.length + 1 - 64)).map res) (js.drop (js.length + 1 - 64)) := by
  have hl := h.len
  have hk : (js.drop (js.length + 1 - 64)).length = js.length - (js.length + 1 - 64) := List.length_drop
  refine ⟨rfl, by omega, fun t ht => ?_, fun t ht => ?_⟩
  · rw [List.getElem_drop]
    have := h.lt (js.length + 1 - 64 + t) (by omega)
    omega
  · rw [List.getElem_drop]
    have := h.age (js.length + 1 - 64 + t) (by omega)
    rw [if_neg (by omega)] at this
    rw [if_pos (by omega)]
    omega
theorem rounds_loop (N : Nat) (hN : N < 65536) : ∀ (m k i : Nat) (ws : List Int) (js : List Nat), i + m = N → m < k → Inv i ws js → greenscreenlaw09_HeaderRounds.l0 k (N : Int) (i : Int) (res i) ws = some true := by
  intro m
  induction m with
  | zero =>
    intro k i ws js hi hk h
    obtain ⟨k, rfl⟩ : ∃ j, k = j + 1 := ⟨k - 1, by omega⟩
    have hl := h.len
    rw [greenscreenlaw09_HeaderRounds.l0, if_neg (by omega), header_Counter_Pending.f, Option.bind_some, decide_eq_true (by rw [h.eq, List.length_map]; omega)]
  | succ m ih =>
    intro k i ws js hi hk h
    obtain ⟨k, rfl⟩ : ∃ j, k = j + 1 := ⟨k - 1, by omega⟩
    have hl := h.len
    have hwl : ws.length ≤ 64 := by rw [h.eq, List.length_map]; exact hl
    have hkl : (js.drop (js.length + 1 - 64)).length ≤ 64 := by rw [List.length_drop]; omega
    have e1 : wrap64 (res i) = res i := by unfold res; exact wrap_id (by omega) (by omega)
    have e2 : Int.tmod (i : Int) 32768 = res i := by rw [Int.tmod_eq_emod_of_nonneg (by omega)]; unfold res; omega
    have e3 : Int.tmod (i : Int) 1000 = ((i % 1000 : Nat) : Int) := by rw [Int.tmod_eq_emod_of_nonneg (by omega)]; omega
    have e4 : wrap64 ((i : Int) + 1) = ((i + 1 : Nat) : Int) := by rw [wrap_id (by omega) (by omega)]; omega
    rw [greenscreenlaw09_HeaderRounds.l0, if_pos (by omega), header_Counter_Next.f, if_pos (by omega), next_eq h, Option.bind_some]
    dsimp only
    rw [e1, e2, if_pos rfl, e3]
    by_cases hz : i % 1000 = 0
    · have hnew := new_of h
      generalize hks : js.drop (js.length + 1 - 64) = ks at *
      have hg1 : Hand.got (res (i + 1)) ((ks ++ [i]).map res) (res i) = (true, res (i + 1), ks.map res) := by
        unfold Hand.got
        rw [List.map_append, List.map_singleton, decide_eq_true (by simp), List.erase_append_right _ hnew]
        simp
      have hg2 : Hand.got (res (i + 1)) (ks.map res) (res i) = (false, res (i + 1), ks.map res) := by
        unfold Hand.got
        rw [decide_eq_false hnew, List.erase_of_not_mem hnew]
      rw [if_pos (show ((i % 1000 : Nat) : Int) = 0 by rw [hz]; rfl), header_Counter_Got.f, if_pos (by simp; omega), hg1, Option.bind_some]
      dsimp only
      rw [if_pos rfl, header_Counter_Got.f, if_pos (by simp; omega), hg2, Option.bind_some]
      dsimp only
      rw [if_neg (by decide), e4]
      have := less_of h hz
      rw [hks] at this
      exact ih k (i + 1) _ _ (by omega) (by omega) this
    · rw [if_neg (show ¬ ((i % 1000 : Nat) : Int) = 0 from fun h => hz (by exact_mod_cast h)), e4]
      exact ih k (i + 1) _ _ (by omega) (by omega) (more_of h hz)
theorem HeaderRounds : Go.Proofs.Ytnhogaelhggheaa.GHeaderRounds.Pure := by
  intro a0 _
  have e : bits .and .i64 a0 65535 = (((a0 % 65536).toNat : Nat) : Int) := by rw [i64_and65535]; omega
  refine ⟨(a0 % 65536).toNat + 20, ?_⟩
  rw [greenscreenlaw09_HeaderRounds.f, alive_ok (by omega), Option.bind_some, if_pos rfl, e]
  exact rounds_loop _ (by omega) (a0 % 65536).toNat _ 0 [] [] (by omega) (by omega) ⟨rfl, by simp, fun t h => by simp at h, fun t h => by simp at h⟩
end Go.Proofs.Ytnhogaelhggheaa.Pure
