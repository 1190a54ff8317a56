/- -/
import Derived.Test.YtnhogaelhggheaaGoalHeaderBytes
import Derived.Test.YtnhogaelhggheaaPlain2
namespace Go.Proofs.Ytnhogaelhggheaa.Pure
open Go.RowKit Go.Proofs.Ytnhogaelhggheaa.P Go.Proofs.YtnhogaelhggheaaW.PrintWords Go.Proofs.YtnhogaelhggheaaW.PrintLast Go.Proofs.YtnhogaelhggheaaW.PrintMore Go.Proofs.YtnhogaelhggheaaO
open Go.Proofs.Ytnhogaelhggheaa.Plain
set_option linter.unusedVariables false
set_option linter.unusedSimpArgs false
/- YOURS -/
theorem answer_len (a c s e : Int) : (answer a c s e).1.length ≤ 6 := by
  unfold answer
  split
  · split
    · split <;> simp [head]
    · split <;> simp [head]
  · simp
theorem parsed_len (l : List Int) : (parsed l).2.2.2.2.1.length ≤ l.length := by
  unfold parsed
  split
  · simp
  · split <;> simp
theorem parsed_seq (l : List Int) (hb : ∀ y, y ∈ l → 0 ≤ y ∧ y < 256) : 0 ≤ (parsed l).2.2.2.1 ∧ (parsed l).2.2.2.1 < 65536 := by
  have h3 := rd_byte hb 3
  have h4 := rd_byte hb 4
  unfold parsed
  split
  · decide
  · split
    · decide
    · dsimp only
      omega
theorem j2_ok (e : Int) (rest : List Int) (hr : rest.length ≤ 300) (tl : List Int) (htl : tl.length ≤ 300) (f : Int) (as_ : List Int) (has : as_.length ≤ 6) (ok : Bool) (a b c s p0 p1 p2 p3 : Int) (h0 : 0 ≤ s) (h1 : s < 65536) (q0 : 0 ≤ p3) (q1 : p3 < 65536) {k : Nat} (hk : 500 ≤ k) :
    greenscreenlaw09_HeaderBytes.j2 (k + 1) e rest tl f tl f as_ ok as_ ok false a b c s p0 p1 p2 p3 p0 p1 p2 p3 = some true := by
  rw [greenscreenlaw09_HeaderBytes.j2, if_neg (by decide), if_pos rfl, as_of _ _ _ _ q0 q1, Option.bind_some]
  dsimp only
  rw [if_pos (by simp), same_self _ (by omega) (by omega), Option.bind_some, if_pos rfl, if_pos (by simp), same_self _ (by omega) (by omega), Option.bind_some, if_pos rfl, code_of, Option.bind_some, refcode_of, Option.bind_some, if_pos rfl, write_of _ _ _ _ _ (by omega), Option.bind_some, as_of _ _ _ _ h0 h1, Option.bind_some]
  dsimp only
  rw [refwrite_of _ _ _ _ h0 h1 _ (by omega) (by omega), Option.bind_some, same_self _ (by rw [List.length_append, head_len]; omega) (by rw [List.length_append, head_len]; omega), Option.bind_some]
theorem HeaderBytes : Go.Proofs.Ytnhogaelhggheaa.GHeaderBytes.Pure := by
  intro l0 y1 e l3 hl0 _ hg _ hl3 _
  obtain ⟨ha, hb, hc, hs⟩ := hg
  have ha := byte_of ha
  have hc := byte_of hc
  have hs := word_of hs
  have hb0 : ∀ y, y ∈ l0 → 0 ≤ y ∧ y < 256 := fun y hy => byte_of (hl0.2 y hy)
  clear hl0 hl3 hb
  generalize y1.f0 = a at *
  generalize y1.f1 = b at *
  generalize y1.f2 = c at *
  generalize y1.f3 = s at *
  refine ⟨600 + 3, ?_⟩
  rw [greenscreenlaw09_HeaderBytes.f, alive_ok (by omega), Option.bind_some, if_pos rfl]
  by_cases h1 : (l0.length : Int) > 300
  · rw [if_pos h1, greenscreenlaw09_HeaderBytes.j0, if_pos rfl]
  by_cases h2 : (l3.length : Int) > 300
  · rw [if_neg h1, decide_eq_true h2, greenscreenlaw09_HeaderBytes.j0, if_pos rfl]
  have pl := parsed_len l0
  have ps := parsed_seq l0 hb0
  have al := answer_len a c s e
  have J : ∀ k, 500 ≤ k → greenscreenlaw09_HeaderBytes.j2 (k + 1) e l3 (parsed l0).2.2.2.2.1 (parsed l0).2.2.2.2.2 (parsed l0).2.2.2.2.1 (parsed l0).2.2.2.2.2 (answer a c s e).1 (answer a c s e).2 (answer a c s e).1 (answer a c s e).2 false a b c s (parsed l0).1 (parsed l0).2.1 (parsed l0).2.2.1 (parsed l0).2.2.2.1 (parsed l0).1 (parsed l0).2.1 (parsed l0).2.2.1 (parsed l0).2.2.2.1 = some true :=
    fun k hk => j2_ok e l3 (by omega) _ (by omega) _ _ al _ a b c s _ _ _ _ hs.1 hs.2 ps.1 ps.2 hk
  rw [if_neg h1, decide_eq_false h2, greenscreenlaw09_HeaderBytes.j0, if_neg (by decide), parse_of _ (by omega) hb0, Option.bind_some, refparse_of _ hb0, Option.bind_some, answer_of _ _ _ _ _ (by omega), Option.bind_some, as_of _ _ _ _ hs.1 hs.2, Option.bind_some]
  dsimp only
  rw [refanswer_of _ _ _ _ _ ha.1 hs.1 hs.2 (by omega), Option.bind_some, header_Sense.f]
  by_cases t2 : a = 2
  · rw [if_pos t2]
    by_cases t3 : c < 2
    · rw [if_neg (show ¬ c > 1 by omega)]
      by_cases t4 : (l3.length : Int) = 1
      · rw [if_pos t4, if_pos (by omega), Option.bind_some, if_pos t2, if_pos t3, show ((l3.length : Int) == 1) = true by simpa using t4]
        dsimp only
        rw [greenscreenlaw09_HeaderBytes.j1, if_neg (by decide), if_pos rfl, if_pos (by omega), if_pos rfl]
        have hcc : ((c != 1) != (c == 0)) = false := by
          obtain rfl | rfl : c = 0 ∨ c = 1 := by omega
          · decide
          · decide
        rw [hcc, if_neg (by decide)]
        exact J _ (by omega)
      · rw [if_neg t4, Option.bind_some, if_pos t2, if_pos t3, show ((l3.length : Int) == 1) = false by simpa using t4]
        dsimp only
        rw [greenscreenlaw09_HeaderBytes.j1, if_neg (by decide), if_neg (by decide), if_pos rfl]
        exact J _ (by omega)
    · rw [if_pos (show c > 1 by omega), Option.bind_some, if_pos t2, if_neg t3]
      dsimp only
      rw [greenscreenlaw09_HeaderBytes.j1, if_neg (by decide), if_neg (by decide), if_pos rfl]
      exact J _ (by omega)
  · rw [if_neg t2, Option.bind_some, if_neg t2]
    dsimp only
    rw [greenscreenlaw09_HeaderBytes.j1, if_neg (by decide), if_neg (by decide), if_pos rfl]
    exact J _ (by omega)
end Go.Proofs.Ytnhogaelhggheaa.Pure
