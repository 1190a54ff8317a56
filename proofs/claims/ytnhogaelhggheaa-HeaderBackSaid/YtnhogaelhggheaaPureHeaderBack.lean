/- -/
import Derived.Test.YtnhogaelhggheaaGoalHeaderBack
import Derived.Test.YtnhogaelhggheaaPlain2
namespace Go.Proofs.Ytnhogaelhggheaa.Pure
open Go.RowKit Go.Proofs.Ytnhogaelhggheaa.P Go.Proofs.YtnhogaelhggheaaW.PrintWords Go.Proofs.YtnhogaelhggheaaW.PrintLast Go.Proofs.YtnhogaelhggheaaW.PrintMore Go.Proofs.YtnhogaelhggheaaO
open Go.Proofs.Ytnhogaelhggheaa.Plain
set_option linter.unusedVariables false
set_option linter.unusedSimpArgs false
/- YOURS -/
theorem parsed_head (a b c s : Int) (l : List Int) (h0 : 0 ≤ s) (h1 : s < 65536) : parsed (head a b c s ++ l) = if a > 8 then (0, 0, 0, 0, [], 21) else (a, b, c, s, l, 0) := by
  unfold parsed
  rw [if_neg (by rw [List.length_append, head_len]; omega)]
  have e0 : rd (head a b c s ++ l) 0 = a := rfl
  have e1 : rd (head a b c s ++ l) 1 = b := rfl
  have e2 : rd (head a b c s ++ l) 2 = c := rfl
  have e3 : rd (head a b c s ++ l) 3 = (s / 256) % 256 := rfl
  have e4 : rd (head a b c s ++ l) 4 = s % 256 := rfl
  have e5 : (head a b c s ++ l).drop 5 = l := rfl
  rw [e0, e1, e2, e3, e4, e5, seq_of s h0 h1]
theorem bytes_head {a b c s : Int} {l : List Int} (ha : 0 ≤ a ∧ a < 256) (hb : 0 ≤ b ∧ b < 256) (hc : 0 ≤ c ∧ c < 256) (hl : ∀ y, y ∈ l → 0 ≤ y ∧ y < 256) : ∀ y, y ∈ head a b c s ++ l → 0 ≤ y ∧ y < 256 := by
  intro y hy
  rcases List.mem_append.1 hy with h | h
  · simp only [head, List.mem_cons, List.not_mem_nil, or_false] at h
    rcases h with rfl | rfl | rfl | rfl | rfl
    · exact ha
    · exact hb
    · exact hc
    · omega
    · omega
  · exact hl y h
theorem j0_ok (a b c s e : Int) (h0 : 0 ≤ s) (h1 : s < 65536) {k : Nat} (hk : 10 ≤ k) : greenscreenlaw09_HeaderBack.j0 (k + 1) e false a b c s = some true := by
  rw [greenscreenlaw09_HeaderBack.j0, if_neg (by decide), answer_of a b c s e (by omega), Option.bind_some]
  have hcode : 0 ≤ codeOf e ∧ codeOf e < 256 := by unfold codeOf; split <;> omega
  have key : ∀ r q : Int, 0 ≤ r → r ≤ 1 → 0 ≤ q ∧ q < 256 → ((r != 1) == (e == 0)) = true → ((r != 1) = true → q = 0) → ((r != 1) = false → q = codeOf e) →
      ((header_Parse.f (head 2 0 r s ++ [q])).bind fun bt331 => ((header_Sense.f bt331.1 bt331.2.1 bt331.2.2.1 bt331.2.2.2.1 bt331.2.2.2.2.1).bind fun bt340 => (if bt331.2.2.2.2.2 = 0 then (if bt340.2.2 = true then (if bt331.2.2.2.1 = s then (if (bt340.2.1 == (e == 0)) = true then (if bt340.2.1 = true then (if bt340.1 = 0 then (some (((head 2 0 r s ++ [q]).length : Int) == 6)) else (some false)) else ((header_Code.f e).bind fun t343 => (if bt340.1 = t343 then (some (((head 2 0 r s ++ [q]).length : Int) == 6)) else (some false)))) else (some false)) else (some false)) else (some false)) else (some false)))) = some true := by
    intro r q hr0 hr1 hq hw hz hn
    rw [parse_of _ (by simp [head]) (bytes_head (by omega) (by omega) (by omega) (by simpa using hq)), parsed_head _ _ _ _ _ h0 h1, if_neg (by omega), Option.bind_some]
    dsimp only
    rw [header_Sense.f, if_pos rfl, if_neg (by omega), if_pos (by simp), if_pos (by simp), Option.bind_some]
    dsimp only
    have hrd : rd [q] 0 = q := rfl
    rw [if_pos rfl, if_pos rfl, if_pos rfl, if_pos hw, hrd]
    cases hx : (r != 1)
    · rw [if_neg (by decide), code_of, Option.bind_some, if_pos (hn hx)]
      rfl
    · rw [if_pos rfl, if_pos (hz hx)]
      rfl
  unfold answer
  by_cases ha : a = 0 ∨ a = 1
  · rw [if_pos ha]
    by_cases he : e = 0
    · rw [if_pos he]
      by_cases hc : c = 2
      · rw [if_pos hc]
        dsimp only
        rw [if_pos rfl]
        exact key 0 0 (by omega) (by omega) (by omega) (by rw [he]; decide) (fun _ => rfl) (fun h => absurd h (by decide))
      · rw [if_neg hc]
        dsimp only
        rw [if_neg (by decide)]
        rfl
    · rw [if_neg he]
      by_cases hc : c = 1 ∨ c = 2
      · rw [if_pos hc]
        dsimp only
        rw [if_pos rfl]
        exact key 1 (codeOf e) (by omega) (by omega) hcode (by rw [show (e == 0) = false by simpa using he]; decide) (fun h => absurd h (by decide)) (fun _ => rfl)
      · rw [if_neg hc]
        dsimp only
        rw [if_neg (by decide)]
        rfl
  · rw [if_neg ha]
    dsimp only
    rw [if_neg (by decide)]
    rfl
theorem HeaderBack : Go.Proofs.Ytnhogaelhggheaa.GHeaderBack.Pure := by
  intro y0 e l2 hg _ hl _
  obtain ⟨ha, hb, hc, hs⟩ := hg
  have ha := byte_of ha
  have hb := byte_of hb
  have hc := byte_of hc
  have hs := word_of hs
  have hb2 : ∀ y, y ∈ l2 → 0 ≤ y ∧ y < 256 := fun y hy => byte_of (hl.2 y hy)
  generalize y0.f0 = a at *
  generalize y0.f1 = b at *
  generalize y0.f2 = c at *
  generalize y0.f3 = s at *
  refine ⟨400 + 1, ?_⟩
  have J := j0_ok a b c s e hs.1 hs.2 (k := 400) (by omega)
  rw [greenscreenlaw09_HeaderBack.f, alive_ok (by omega), Option.bind_some, if_pos rfl]
  by_cases h3 : (l2.length : Int) > 300
  · rw [if_pos h3]
  · rw [if_neg h3, write_of _ _ _ _ _ (by omega), Option.bind_some, parse_of _ (by rw [List.length_append, head_len]; omega) (bytes_head ha hb hc hb2), Option.bind_some, parsed_head _ _ _ _ _ hs.1 hs.2]
    by_cases h8 : a ≤ 8
    · have hn : ¬ a > 8 := by omega
      have hp : (if a > 8 then ((0 : Int), (0 : Int), (0 : Int), (0 : Int), ([] : List Int), (21 : Int)) else (a, b, c, s, l2, 0)) = (a, b, c, s, l2, 0) := if_neg hn
      rw [hp, if_pos h8]
      dsimp only
      rw [if_pos rfl, if_neg (by simp), same_self _ (by omega) (by omega), Option.bind_some, if_pos rfl, if_neg hn, J]
    · have hn : a > 8 := by omega
      have hp : (if a > 8 then ((0 : Int), (0 : Int), (0 : Int), (0 : Int), ([] : List Int), (21 : Int)) else (a, b, c, s, l2, 0)) = (0, 0, 0, 0, [], 21) := if_pos hn
      rw [hp, if_neg h8, if_pos hn]
      exact J
end Go.Proofs.Ytnhogaelhggheaa.Pure
