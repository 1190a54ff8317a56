/- -/
import Derived.Test.YtnhogaelhggheaaGoalHeaderCounts
import Derived.Test.YtnhogaelhggheaaPlain
namespace Go.Proofs.Ytnhogaelhggheaa.Pure
open Go.RowKit Go.Proofs.Ytnhogaelhggheaa.P Go.Proofs.YtnhogaelhggheaaW.PrintWords Go.Proofs.YtnhogaelhggheaaW.PrintLast Go.Proofs.YtnhogaelhggheaaW.PrintMore Go.Proofs.YtnhogaelhggheaaO
open Go.Proofs.Ytnhogaelhggheaa.Plain
set_option linter.unusedVariables false
set_option linter.unusedSimpArgs false
/- YOURS -/
theorem next_of (n : Nat) (hn : n < 32768) (ws : List Int) : Hand.next (n : Int) ws = ((n : Int), (((n + 1) % 32768 : Nat) : Int), (ws ++ [(n : Int)]).drop (ws.length + 1 - 64)) := by
  have e1 : IntKind.u16.wrap ((n : Int) + 1) = ((n + 1 : Nat) : Int) := by
    rw [u16_id (by omega) (by omega)]
    omega
  have e2 : ((ws.length : Int) + 1 - 64).toNat = ws.length + 1 - 64 := by omega
  unfold Hand.next
  rw [e1, u16_mask _ (by omega), e2]
theorem give_of (n : Nat) (hn : n < 32768) (ws : List Int) (hl : ws.length ≤ 64) : greenscreenref09_Give.f (n : Int) ws = some ((((n + 1) % 32768 : Nat) : Int), (ws ++ [(n : Int)]).drop (ws.length + 1 - 64), (n : Int)) := by
  have e1 : Int.tmod (wrap64 ((n : Int) + 1)) 32768 = (((n + 1) % 32768 : Nat) : Int) := by
    rw [wrap_id (by omega) (by omega), Int.tmod_eq_emod_of_nonneg (by omega)]
    omega
  have hlen : (([] : List Int) ++ ws ++ [(n : Int)]).length = ws.length + 1 := by simp
  rw [greenscreenref09_Give.f, Option.bind_some, if_pos (by simp; omega), Option.bind_some, if_pos (by simp; omega), Option.bind_some, hlen, e1]
  by_cases h : ws.length = 64
  · rw [if_pos (by omega), if_pos (by omega), h]
    rfl
  · rw [if_neg (by omega), show ws.length + 1 - 64 = 0 by omega]
    rfl
theorem got_loop (a n : Int) (ws : List Int) (hl : ws.length ≤ 64) : ∀ (m k i : Nat) (acc : List Int) (found : Bool), i + m = ws.length → m < k → acc.length ≤ i →
    greenscreenref09_Got.l0 k a acc found (i : Int) n ws = some (n, acc ++ (if found = true then ws.drop i else (ws.drop i).erase a), found || decide (a ∈ ws.drop i)) := by
  intro m
  induction m with
  | zero =>
    intro k i acc found hi hk ha
    obtain ⟨k, rfl⟩ : ∃ j, k = j + 1 := ⟨k - 1, by omega⟩
    rw [greenscreenref09_Got.l0, if_neg (by omega), List.drop_of_length_le (by omega)]
    cases found <;> simp
  | succ m ih =>
    intro k i acc found hi hk ha
    obtain ⟨k, rfl⟩ : ∃ j, k = j + 1 := ⟨k - 1, by omega⟩
    have hlt : i < ws.length := by omega
    have e4 : wrap64 ((i : Int) + 1) = ((i + 1 : Nat) : Int) := by rw [wrap_id (by omega) (by omega)]; omega
    have hrd : rd ws (i : Int) = ws[i] := by simp [rd, List.getD, hlt]
    have hd : ws.drop i = ws[i] :: ws.drop (i + 1) := List.drop_eq_getElem_cons hlt
    rw [greenscreenref09_Got.l0, if_pos (by omega), if_pos (by omega), hrd, e4, hd]
    have i1 := ih k (i + 1) (acc ++ [ws[i]]) found (by omega) (by omega) (by simp; omega)
    have i2 := ih k (i + 1) acc true (by omega) (by omega) (by omega)
    clear hd hrd ih
    generalize ws[i] = x at i1 ⊢
    generalize ws.drop (i + 1) = r at i1 i2 ⊢
    by_cases h : x = a
    · rw [if_pos h]
      cases found
      · rw [if_neg (by decide), i2, h]
        simp
      · rw [if_pos rfl, if_pos (by omega), i1]
        simp
    · rw [if_neg h, if_pos (by omega), i1]
      cases found
      · simp [h, List.erase_cons, Ne.symm h]
      · simp
theorem got_of (a n : Int) (ws : List Int) (hl : ws.length ≤ 64) {k : Nat} (hk : 70 ≤ k) : greenscreenref09_Got.f k n ws a = some (n, ws.erase a, decide (a ∈ ws)) := by
  have h := got_loop a n ws hl ws.length k 0 [] false (by omega) (by omega) (by simp)
  rw [greenscreenref09_Got.f]
  simpa using h
theorem steps_loop (xs : List Int) (hx : xs.length ≤ 200) : ∀ (m k i n : Nat) (ws : List Int), i + m = xs.length → m + 80 < k → n < 32768 → ws.length ≤ 64 →
    greenscreenlaw09_HeaderCounts.l1 k xs (xs.length : Int) (i : Int) (n : Int) ws (n : Int) ws = some true := by
  intro m
  induction m with
  | zero =>
    intro k i n ws hi hk hn hl
    obtain ⟨k, rfl⟩ : ∃ j, k = j + 1 := ⟨k - 1, by omega⟩
    rw [greenscreenlaw09_HeaderCounts.l1, if_neg (by omega)]
  | succ m ih =>
    intro k i n ws hi hk hn hl
    obtain ⟨k, rfl⟩ : ∃ j, k = j + 1 := ⟨k - 1, by omega⟩
    have e1 : wrap64 (n : Int) = (n : Int) := wrap_id (by omega) (by omega)
    have e4 : wrap64 ((i : Int) + 1) = ((i + 1 : Nat) : Int) := by rw [wrap_id (by omega) (by omega)]; omega
    have hw : ws.length < 100000 := by omega
    rw [greenscreenlaw09_HeaderCounts.l1, if_pos (by omega), if_pos (by omega), if_pos (by omega)]
    generalize rd xs (i : Int) = s
    by_cases hs : s < 0
    · have hl2 : ((ws ++ [(n : Int)]).drop (ws.length + 1 - 64)).length ≤ 64 := by simp; omega
      rw [if_pos hs, header_Counter_Next.f, if_pos hw, next_of n hn, Option.bind_some, give_of n hn ws hl, Option.bind_some]
      dsimp only
      rw [e1, if_pos rfl, header_Counter_Pending.f, Option.bind_some]
      dsimp only
      rw [if_pos rfl, e4]
      exact ih k (i + 1) _ _ (by omega) (by omega) (Nat.mod_lt _ (by decide)) hl2
    · have hl2 : (ws.erase (s % 65536)).length ≤ 64 := Nat.le_trans List.length_erase_le hl
      rw [if_neg hs, header_Counter_Got.f, if_pos hw, Option.bind_some, u16_mod, i64_and65535, got_of _ _ ws hl (by omega), Option.bind_some]
      unfold Hand.got
      dsimp only
      rw [bne_self_eq_false, if_neg (by decide), header_Counter_Pending.f, Option.bind_some]
      dsimp only
      rw [if_pos rfl, e4]
      exact ih k (i + 1) n _ (by omega) (by omega) hn hl2
theorem first_loop (xs : List Int) (hx : xs.length ≤ 200) (N : Nat) (hN : N < 128) : ∀ (m k i n : Nat) (ws : List Int), i + m = N → m + 300 < k → n < 32768 → ws.length ≤ 64 →
    greenscreenlaw09_HeaderCounts.l0 k xs (N : Int) (i : Int) (n : Int) ws (n : Int) ws = some true := by
  intro m
  induction m with
  | zero =>
    intro k i n ws hi hk hn hl
    obtain ⟨k, rfl⟩ : ∃ j, k = j + 1 := ⟨k - 1, by omega⟩
    rw [greenscreenlaw09_HeaderCounts.l0, if_neg (by omega)]
    exact steps_loop xs hx xs.length k 0 n ws (by omega) (by omega) hn hl
  | succ m ih =>
    intro k i n ws hi hk hn hl
    obtain ⟨k, rfl⟩ : ∃ j, k = j + 1 := ⟨k - 1, by omega⟩
    have e4 : wrap64 ((i : Int) + 1) = ((i + 1 : Nat) : Int) := by rw [wrap_id (by omega) (by omega)]; omega
    have hw : ws.length < 100000 := by omega
    have hl2 : ((ws ++ [(n : Int)]).drop (ws.length + 1 - 64)).length ≤ 64 := by simp; omega
    rw [greenscreenlaw09_HeaderCounts.l0, if_pos (by omega), header_Counter_Next.f, if_pos hw, next_of n hn, Option.bind_some, give_of n hn ws hl, Option.bind_some]
    dsimp only
    rw [e4]
    exact ih k (i + 1) _ _ (by omega) (by omega) (Nat.mod_lt _ (by decide)) hl2
theorem HeaderCounts : Go.Proofs.Ytnhogaelhggheaa.GHeaderCounts.Pure := by
  intro a0 l1 _ _ _
  have e : bits .and .i64 a0 127 = (((a0 % 128).toNat : Nat) : Int) := by rw [i64_and127]; omega
  refine ⟨1000, ?_⟩
  rw [greenscreenlaw09_HeaderCounts.f, alive_ok (by omega), Option.bind_some, if_pos rfl]
  by_cases h : (l1.length : Int) > 200
  · rw [if_pos h]
  · rw [if_neg h, e]
    exact first_loop l1 (by omega) _ (by omega) (a0 % 128).toNat 1000 0 0 [] (by omega) (by omega) (by omega) (by simp)
end Go.Proofs.Ytnhogaelhggheaa.Pure
