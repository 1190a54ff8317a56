/- Headers, the plain part, second: what is written, parsed and answered. -/
import Derived.Test.YtnhogaelhggheaaPlain
namespace Go.Proofs.Ytnhogaelhggheaa.Plain
open Go.RowKit Go.Proofs.Ytnhogaelhggheaa.P Go.Proofs.YtnhogaelhggheaaW.PrintWords Go.Proofs.YtnhogaelhggheaaW.PrintLast Go.Proofs.YtnhogaelhggheaaW.PrintMore
set_option linter.unusedSimpArgs false
set_option linter.unusedVariables false

theorem same_loop (l : List Int) (hl : l.length < 9223372036854775807) : ∀ (m k i : Nat), i + m = l.length → m < k → greenscreenref01_Same.l0 k l l (i : Int) = some true := by
  intro m
  induction m with
  | zero =>
    intro k i hi hk
    obtain ⟨k, rfl⟩ : ∃ j, k = j + 1 := ⟨k - 1, by omega⟩
    rw [greenscreenref01_Same.l0, if_neg (by omega)]
  | succ m ih =>
    intro k i hi hk
    obtain ⟨k, rfl⟩ : ∃ j, k = j + 1 := ⟨k - 1, by omega⟩
    rw [greenscreenref01_Same.l0, if_pos (by omega), if_pos (by omega), if_pos (by omega), if_pos rfl, wrap_id (by omega) (by omega)]
    exact ih k (i + 1) (by omega) (by omega)
theorem same_self (l : List Int) (hl : l.length < 9223372036854775807) {k : Nat} (hk : l.length < k) : greenscreenref01_Same.f k l l = some true := by
  rw [greenscreenref01_Same.f, if_pos rfl]
  exact same_loop l hl l.length k 0 (by omega) hk

/-- A header's bytes. -/
def head (a b c s : Int) : List Int := [a, b, c, (s / 256) % 256, s % 256]
theorem head_len (a b c s : Int) : (head a b c s).length = 5 := rfl
theorem write_of (a b c s : Int) (l : List Int) (hl : l.length < 100000) : header_Write.f a b c s l = some (head a b c s ++ l) := by
  rw [header_Write.f, Option.bind_some, if_pos (by simp; omega)]
  rfl
theorem seq_of (s : Int) (h0 : 0 ≤ s) (h1 : s < 65536) : 256 * ((s / 256) % 256) + s % 256 = s := by omega
theorem or_of {a b : Int} (ha : 0 ≤ a ∧ a < 256) (hb : 0 ≤ b ∧ b < 256) : bits .or .u16 (IntKind.u16.wrap ((IntKind.u16.wrap a) * 256)) (IntKind.u16.wrap b) = 256 * a + b := by
  rw [u16_id (a := a) (by omega) (by omega), u16_id (a := b) (by omega) (by omega), u16_id (by omega) (by omega)]
  obtain ⟨x, rfl⟩ : ∃ x : Nat, a = x := ⟨a.toNat, by omega⟩
  obtain ⟨y, rfl⟩ : ∃ y : Nat, b = y := ⟨b.toNat, by omega⟩
  exact u16_or x y (by omega) (by omega)
/-- Parsed: the header, what stands behind it, the error. -/
def parsed (l : List Int) : Int × Int × Int × Int × List Int × Int :=
  if l.length < 5 then (0, 0, 0, 0, [], 20) else if rd l 0 > 8 then (0, 0, 0, 0, [], 21) else (rd l 0, rd l 1, rd l 2, 256 * rd l 3 + rd l 4, l.drop 5, 0)
theorem rd_byte {l : List Int} (hb : ∀ y, y ∈ l → 0 ≤ y ∧ y < 256) (i : Int) : 0 ≤ rd l i ∧ rd l i < 256 := by
  unfold rd
  rw [List.getD_eq_getElem?_getD]
  rcases h : l[i.toNat]? with _ | y
  · simp
  · exact hb y (List.mem_of_getElem? h)
theorem parse_of (l : List Int) (hl : l.length < 100000) (hb : ∀ y, y ∈ l → 0 ≤ y ∧ y < 256) : header_Parse.f l = some (parsed l) := by
  unfold parsed
  rw [header_Parse.f]
  by_cases h : l.length < 5
  · rw [if_pos (by omega), if_pos h]
  · rw [if_neg (by omega), if_neg h, if_pos (by omega)]
    by_cases h2 : rd l 0 > 8
    · rw [if_pos h2, if_pos h2]
    · rw [if_neg h2, if_neg h2, if_pos (by omega), if_pos (by omega), if_pos (by omega), if_pos (by omega), if_pos (by omega), slices_Clone_byte_byte.f, if_pos (by simp; omega), Option.bind_some, or_of (rd_byte hb 3) (rd_byte hb 4)]
theorem refparse_of (l : List Int) (hb : ∀ y, y ∈ l → 0 ≤ y ∧ y < 256) : greenscreenref09_Parse.f l = some (parsed l) := by
  unfold parsed
  rw [greenscreenref09_Parse.f]
  by_cases h : l.length < 5
  · rw [if_pos (by omega), if_pos h]
  · rw [if_neg (by omega), if_neg h, if_pos (by omega)]
    by_cases h2 : rd l 0 > 8
    · rw [if_pos h2, if_pos h2]
    · have h3 := rd_byte hb 3
      have h4 := rd_byte hb 4
      rw [if_neg h2, if_neg h2, if_pos (by omega), if_pos (by omega), if_pos (by omega), if_pos (by omega), if_pos (by omega)]
      rw [wrap_id (a := rd l 3) (by omega) (by omega), wrap_id (a := rd l 4) (by omega) (by omega), wrap_id (a := 256 * rd l 3) (by omega) (by omega), wrap_id (by omega) (by omega)]
/-- An error's byte. -/
def codeOf (e : Int) : Int := if e = 30 then 0 else 2
theorem code_of (e : Int) : header_Code.f e = some (codeOf e) := by
  rw [header_Code.f]; unfold codeOf; split <;> rfl
theorem refcode_of (e : Int) : greenscreenref09_Code.f e = some (codeOf e) := by
  rw [greenscreenref09_Code.f]; unfold codeOf; split <;> rfl
/-- The answer. -/
def answer (a c s e : Int) : List Int × Bool :=
  if a = 0 ∨ a = 1 then (if e = 0 then (if c = 2 then (head 2 0 0 s ++ [0], true) else ([], false)) else (if c = 1 ∨ c = 2 then (head 2 0 1 s ++ [codeOf e], true) else ([], false))) else ([], false)
theorem answer_of (a b c s e : Int) {k : Nat} (hk : 3 ≤ k) : header_Answer.f k a b c s e = some (answer a c s e) := by
  obtain ⟨k, rfl⟩ : ∃ j, k = j + 3 := ⟨k - 3, by omega⟩
  have key : header_Answer.j0 (k + 3) e false a b c s = some (if e = 0 then (if c = 2 then (head 2 0 0 s ++ [0], true) else ([], false)) else (if c = 1 ∨ c = 2 then (head 2 0 1 s ++ [codeOf e], true) else ([], false))) := by
    rw [header_Answer.j0, if_neg (by decide)]
    by_cases he : e = 0
    · rw [if_pos he, if_pos he, header_Answer.j1]
      by_cases hc : c = 2
      · rw [if_pos (by simp [hc]), if_pos hc, write_of _ _ _ _ _ (by simp), Option.bind_some]
      · rw [if_neg (by simp [hc]), if_neg hc, if_pos he, header_Answer.j2, if_neg (by decide)]
    · rw [if_neg he, if_neg he, header_Answer.j1, if_neg (by decide), if_neg he]
      by_cases h1 : c = 1
      · rw [if_pos h1, if_pos (.inl h1), header_Answer.j2, if_pos rfl, code_of, Option.bind_some, write_of _ _ _ _ _ (by simp), Option.bind_some]
      · rw [if_neg h1, header_Answer.j2]
        by_cases hc : c = 2
        · rw [if_pos (by simp [hc]), if_pos (.inr hc), code_of, Option.bind_some, write_of _ _ _ _ _ (by simp), Option.bind_some]
        · rw [if_neg (by simp [hc]), if_neg (by omega)]
  unfold answer
  rw [header_Answer.f]
  by_cases h0 : a = 0
  · rw [if_pos h0, if_pos (.inl h0), key]
  · rw [if_neg h0]
    by_cases h1 : a = 1
    · rw [if_pos (.inr h1), show (a != 1) = false by simp [h1], key]
    · rw [if_neg (by omega), show (a != 1) = true by simp [h1], header_Answer.j0, if_pos rfl]
theorem join_row (x y : List Int) (hx : x.length + y.length < 100000) : ∀ (m k i : Nat) (acc : List Int) (r : List Int) (q : Nat), q < 2 → rd_L1 [x, y] (q : Int) = r → i + m = r.length → acc.length + m < 100000 → m + 5 < k →
    ∃ k', k ≤ k' + m + 1 ∧ greenscreenref01_Join.l1 k [x, y] acc (q : Int) (i : Int) = greenscreenref01_Join.l0 k' [x, y] (acc ++ r.drop i) (wrap64 ((q : Int) + 1)) := by
  intro m
  induction m with
  | zero =>
    intro k i acc r q hq hr hi ha hk
    obtain ⟨k, rfl⟩ : ∃ j, k = j + 1 := ⟨k - 1, by omega⟩
    refine ⟨k, by omega, ?_⟩
    rw [greenscreenref01_Join.l1, if_pos (by omega), if_pos (by simp; omega), hr, if_neg (by omega), List.drop_of_length_le (by omega), List.append_nil]
  | succ m ih =>
    intro k i acc r q hq hr hi ha hk
    obtain ⟨k, rfl⟩ : ∃ j, k = j + 1 := ⟨k - 1, by omega⟩
    have hlt : i < r.length := by omega
    obtain ⟨k', h1, h2⟩ := ih k (i + 1) (acc ++ [r[i]]) r q hq hr (by omega) (by simp; omega) (by omega)
    refine ⟨k', by omega, ?_⟩
    have hrl : r.length < 100000 := by
      rcases q with _ | _ | q
      · have : rd_L1 [x, y] ((0 : Nat) : Int) = x := rfl
        rw [← hr, this]; omega
      · have : rd_L1 [x, y] ((1 : Nat) : Int) = y := rfl
        rw [← hr, show ((0 + 1 : Nat) : Int) = ((1 : Nat) : Int) from rfl, this]; omega
      · omega
    have hrd : rd r (i : Int) = r[i] := by simp [rd, List.getD, hlt]
    rw [greenscreenref01_Join.l1, if_pos (by omega), if_pos (by simp; omega), hr, if_pos (by omega), if_pos (by omega), if_pos (by omega), hrd, wrap_id (by omega) (by omega)]
    rw [show ((i : Int) + 1) = ((i + 1 : Nat) : Int) by omega, h2, List.append_assoc, List.singleton_append, ← List.drop_eq_getElem_cons hlt]
theorem join_of (x y : List Int) (hx : x.length + y.length < 100000) {k : Nat} (hk : x.length + y.length + 20 ≤ k) : greenscreenref01_Join.f k [x, y] = some (x ++ y) := by
  rw [greenscreenref01_Join.f]
  obtain ⟨k, rfl⟩ : ∃ j, k = j + 1 := ⟨k - 1, by omega⟩
  rw [greenscreenref01_Join.l0, if_pos (by simp)]
  obtain ⟨k1, h1, h2⟩ := join_row x y hx x.length k 0 [] x 0 (by omega) rfl (by omega) (by simp; omega) (by omega)
  have h2' : greenscreenref01_Join.l1 k [x, y] [] 0 0 = _ := h2
  rw [h2']
  obtain ⟨k1, rfl⟩ : ∃ j, k1 = j + 1 := ⟨k1 - 1, by omega⟩
  rw [show wrap64 (((0 : Nat) : Int) + 1) = ((1 : Nat) : Int) from wrap_id (by decide) (by decide), greenscreenref01_Join.l0, if_pos (by simp)]
  obtain ⟨k2, h3, h4⟩ := join_row x y hx y.length k1 0 ([] ++ x.drop 0) y 1 (by omega) rfl (by omega) (by simp; omega) (by omega)
  have h4' : greenscreenref01_Join.l1 k1 [x, y] ([] ++ x.drop 0) ((1 : Nat) : Int) 0 = _ := h4
  rw [h4']
  obtain ⟨k2, rfl⟩ : ∃ j, k2 = j + 1 := ⟨k2 - 1, by omega⟩
  rw [show wrap64 (((1 : Nat) : Int) + 1) = 2 from wrap_id (by decide) (by decide), greenscreenref01_Join.l0, if_neg (by simp)]
  simp
theorem refwrite_of (a b c s : Int) (h0 : 0 ≤ s) (h1 : s < 65536) (l : List Int) (hl : l.length < 90000) {k : Nat} (hk : l.length + 40 ≤ k) : greenscreenref09_Write.f k a b c s l = some (head a b c s ++ l) := by
  have e : ([a, b, c, (wrap64 (Int.tdiv s 256)) % 256, (Int.tmod s 256) % 256] : List Int) = head a b c s := by
    unfold head
    rw [Int.tdiv_eq_ediv_of_nonneg h0, Int.tmod_eq_emod_of_nonneg h0, wrap_id (by omega) (by omega)]
    rw [show s % 256 % 256 = s % 256 by omega]
  rw [greenscreenref09_Write.f, e, join_of _ _ (by rw [head_len]; omega) (by rw [head_len]; omega), Option.bind_some]
theorem refanswer_of (a b c s e : Int) (ha : 0 ≤ a) (h0 : 0 ≤ s) (h1 : s < 65536) {k : Nat} (hk : 100 ≤ k) : greenscreenref09_Answer.f k a b c s e = some (answer a c s e) := by
  obtain ⟨k, rfl⟩ : ∃ j, k = j + 3 := ⟨k - 3, by omega⟩
  unfold answer
  rw [greenscreenref09_Answer.f]
  by_cases h : a > 1
  · rw [if_pos h, if_neg (by omega)]
  · rw [if_neg h, if_pos (show a = 0 ∨ a = 1 by omega)]
    by_cases he : e = 0
    · rw [if_pos he, if_pos he, greenscreenref09_Answer.j0]
      by_cases hc : c = 2
      · rw [if_pos (by simp [hc]), if_pos hc, refwrite_of _ _ _ _ h0 h1 _ (by simp) (by simp; omega), Option.bind_some]
      · rw [if_neg (by simp [hc]), if_neg hc, if_pos he, greenscreenref09_Answer.j1, if_neg (by decide)]
    · rw [if_neg he, if_neg he, greenscreenref09_Answer.j0, if_neg (by decide), if_neg he]
      by_cases h1' : c = 1
      · rw [if_pos h1', if_pos (.inl h1'), greenscreenref09_Answer.j1, if_pos rfl, refcode_of, Option.bind_some, refwrite_of _ _ _ _ h0 h1 _ (by simp) (by simp; omega), Option.bind_some]
      · rw [if_neg h1', greenscreenref09_Answer.j1]
        by_cases hc : c = 2
        · rw [if_pos (by simp [hc]), if_pos (.inr hc), refcode_of, Option.bind_some, refwrite_of _ _ _ _ h0 h1 _ (by simp) (by simp; omega), Option.bind_some]
        · rw [if_neg (by simp [hc]), if_neg (by omega)]
theorem as_of (a b c s : Int) (h0 : 0 ≤ s) (h1 : s < 65536) : greenscreenlaw09_as.f a b c s = some (a, b, c, s) := by
  rw [greenscreenlaw09_as.f, wrap_id (by omega) (by omega)]
end Go.Proofs.Ytnhogaelhggheaa.Plain
