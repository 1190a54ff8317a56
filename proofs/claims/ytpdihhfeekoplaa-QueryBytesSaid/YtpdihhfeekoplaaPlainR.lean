/- What the document's Write and Same compute, in plain Lean. -/
import Derived.Test.YtpdihhfeekoplaaPlainP
import Derived.Test.YtpdihhfeekoplaaBx4
import Derived.Test.YtpdihhfeekoplaaBx3
set_option linter.unusedVariables false
set_option linter.unusedSimpArgs false
namespace Go.Proofs.Ytpdihhfeekoplaa.Plain
open Go.RowKit Go.Proofs.YtpdihhfeekoplaaW.PrintWords Go.Proofs.YtpdihhfeekoplaaW.PrintLast Go.Proofs.YtpdihhfeekoplaaW.PrintMore
open Go.Proofs.Ytpdihhfeekoplaa.P Go.Proofs.Ytpdihhfeekoplaa.B

theorem refSame_loop (a b : List Int) (hl : a.length = b.length) (hs : a.length < 9223372036854775807) : ∀ (j k i : Nat), a.length - i ≤ j → i ≤ a.length → j < k →
    greenscreenref01_Same.l0 k a b (i : Int) = some (decide (a.drop i = b.drop i)) := by
  intro j
  induction j with
  | zero =>
    intro k i h1 h2 h3
    obtain ⟨k, rfl⟩ : ∃ m, k = m + 1 := ⟨k - 1, by omega⟩
    rw [greenscreenref01_Same.l0, if_neg (by omega), List.drop_of_length_le (by omega), List.drop_of_length_le (by omega)]
    simp
  | succ j ih =>
    intro k i h1 h2 h3
    obtain ⟨k, rfl⟩ : ∃ m, k = m + 1 := ⟨k - 1, by omega⟩
    by_cases hi : i < a.length
    · rw [greenscreenref01_Same.l0, if_pos (by omega), if_pos (by omega), if_pos (by omega)]
      have ea : a.drop i = rd a (i : Int) :: a.drop (i + 1) := by
        rw [List.drop_eq_getElem_cons hi]; simp [rd, List.getD, List.getElem?_eq_getElem hi]
      have eb : b.drop i = rd b (i : Int) :: b.drop (i + 1) := by
        rw [List.drop_eq_getElem_cons (show i < b.length by omega)]; simp [rd, List.getD, List.getElem?_eq_getElem (show i < b.length by omega)]
      rw [ea, eb]
      by_cases he : rd a (i : Int) = rd b (i : Int)
      · rw [if_pos he, wrap_id (by omega) (by omega), show (i : Int) + 1 = ((i + 1 : Nat) : Int) from by omega, ih k (i + 1) (by omega) (by omega) (by omega), he]
        simp
      · rw [if_neg he]
        simp [he]
    · rw [greenscreenref01_Same.l0, if_neg (by omega), List.drop_of_length_le (by omega), List.drop_of_length_le (by omega)]
      simp
theorem refSame_f (a b : List Int) (hs : a.length < 100000) (k : Nat) (hk : a.length < k) : greenscreenref01_Same.f k a b = some (decide (a = b)) := by
  unfold greenscreenref01_Same.f
  by_cases hl : a.length = b.length
  · rw [if_pos (by omega)]
    have := refSame_loop a b hl (by omega) a.length k 0 (by omega) (by omega) hk
    simpa using this
  · rw [if_neg (by omega), decide_eq_false (fun e => hl (by rw [e]))]

theorem join_inner (ll : List (List Int)) (i : Nat) (hi : i < ll.length) (hs : ll.length < 1000) (hr : (rd_L1 ll (i : Int)).length < 100000) : ∀ (m j k : Nat) (out : List Int), j + m = (rd_L1 ll (i : Int)).length → out.length + m < 100000 → m < k →
    greenscreenref01_Join.l1 k ll out (i : Int) (j : Int) = greenscreenref01_Join.l0 (k - m - 1) ll (out ++ (rd_L1 ll (i : Int)).drop j) ((i + 1 : Nat) : Int) := by
  intro m
  induction m with
  | zero =>
    intro j k out h1 h2 h3
    obtain ⟨k, rfl⟩ : ∃ q, k = q + 1 := ⟨k - 1, by omega⟩
    rw [greenscreenref01_Join.l1, if_pos (by omega), if_pos (by omega), if_neg (by omega), wrap_id (by omega) (by omega), List.drop_of_length_le (by omega), List.append_nil]
    rfl
  | succ m ih =>
    intro j k out h1 h2 h3
    obtain ⟨k, rfl⟩ : ∃ q, k = q + 1 := ⟨k - 1, by omega⟩
    have hj : j < (rd_L1 ll (i : Int)).length := by omega
    have ea : (rd_L1 ll (i : Int)).drop j = rd (rd_L1 ll (i : Int)) (j : Int) :: (rd_L1 ll (i : Int)).drop (j + 1) := by
      rw [List.drop_eq_getElem_cons hj]; simp [rd, List.getD, List.getElem?_eq_getElem hj]
    rw [greenscreenref01_Join.l1, if_pos (by omega), if_pos (by omega), if_pos (by omega), if_pos (by omega), if_pos (by omega), wrap_id (by omega) (by omega), show (j : Int) + 1 = ((j + 1 : Nat) : Int) from by omega, ih (j + 1) k _ (by omega) (by rw [List.length_append]; simp; omega) (by omega), ea, List.append_assoc, show k + 1 - (m + 1) - 1 = k - m - 1 from by omega]
    rfl
theorem join_outer (ll : List (List Int)) (hs : ll.length < 1000) : ∀ (m i k : Nat) (out : List Int), i + m = ll.length → out.length + (ll.drop i).flatten.length < 100000 → (ll.drop i).flatten.length + 2 * m < k →
    greenscreenref01_Join.l0 k ll out (i : Int) = some (out ++ (ll.drop i).flatten) := by
  intro m
  induction m with
  | zero =>
    intro i k out h1 h2 h3
    obtain ⟨k, rfl⟩ : ∃ q, k = q + 1 := ⟨k - 1, by omega⟩
    rw [greenscreenref01_Join.l0, if_neg (by omega), List.drop_of_length_le (by omega)]
    simp
  | succ m ih =>
    intro i k out h1 h2 h3
    obtain ⟨k, rfl⟩ : ∃ q, k = q + 1 := ⟨k - 1, by omega⟩
    have hi : i < ll.length := by omega
    have ea : ll.drop i = rd_L1 ll (i : Int) :: ll.drop (i + 1) := by
      rw [List.drop_eq_getElem_cons hi]; simp [rd_L1, List.getD, List.getElem?_eq_getElem hi]
    rw [ea, List.flatten_cons, List.length_append] at h2 h3
    rw [greenscreenref01_Join.l0, if_pos (by omega)]
    have := join_inner ll i hi hs (by omega) (rd_L1 ll (i : Int)).length 0 k out (by omega) (by omega) (by omega)
    rw [show ((0 : Nat) : Int) = 0 from rfl] at this
    rw [this, List.drop_zero, ih (i + 1) _ _ (by omega) (by rw [List.length_append]; omega) (by omega), ea, List.flatten_cons, List.append_assoc]
theorem join_f (ll : List (List Int)) (hs : ll.length < 1000) (hf : ll.flatten.length < 100000) (k : Nat) (hk : ll.flatten.length + 2 * ll.length < k) : greenscreenref01_Join.f k ll = some ll.flatten := by
  unfold greenscreenref01_Join.f
  have := join_outer ll hs ll.length 0 k [] (by omega) (by simpa using hf) (by simpa using hk)
  simpa using this
theorem two_f (n : Int) (h0 : 0 ≤ n) (h1 : n < 1000000) : greenscreenref24_two.f n = some (wordL n) := by
  unfold greenscreenref24_two.f wordL
  rw [Int.tdiv_eq_ediv_of_nonneg h0, Int.tmod_eq_emod_of_nonneg h0, wrap_id (by omega) (by omega), show n % 256 % 256 = n % 256 from by omega]
theorem field_f (k : Nat) (kind : Int) (b : List Int) (hb : b.length ≤ 1000) (hk : 1100 ≤ k) : greenscreenref24_field.f k kind b = some (fld kind b) := by
  unfold greenscreenref24_field.f
  rw [wrap_id (by omega) (by omega), two_f _ (by omega) (by omega), Option.bind_some, join_f _ (by simp) (by simp [wordL]; omega) _ (by simp [wordL]; omega), Option.bind_some]
  simp [fld]
theorem rsize_f (k : Nat) (r c : Int) (h : okS r c) (hk : 100 ≤ k) : greenscreenref24_size.f k r c = some (sizeL r c) := by
  unfold greenscreenref24_size.f
  have h1 := okS_small h
  rw [two_f _ (by omega) (by omega), Option.bind_some, two_f _ (by omega) (by omega), Option.bind_some, join_f _ (by simp) (by simp [wordL]) _ (by simp [wordL]; omega), Option.bind_some]
  simp [sizeL]
theorem rcells (r c : Int) : greenscreenref02_Cells.f r c = Go.Proofs.Ytpdihhfeekoplaa.A.addr_Cells.f r c := rfl
theorem rj2 (t : Ter) (h : okT t) (hf : few t) (q0 q1 : Int) (hq : okS q0 q1) (hg : greatL t = sizeL q0 q1) (k : Nat) (hk : 2000 ≤ k) : greenscreenref24_Write.j2 (k + 1) t.1 t.2.1 t.2.2.1 t.2.2.2.1 t.2.2.2.2.1 t.2.2.2.2.2 q0 q1 = some (writeL t, 0) := by
  have f1 := hf.1
  have f2 := hf.2
  have hl := write_len t hf
  rw [greenscreenref24_Write.j2, field_f k 128 _ (by simp) (by omega), Option.bind_some, rsize_f k _ _ hq (by omega), Option.bind_some, field_f k 129 _ (by simp [sizeL, wordL]) (by omega), Option.bind_some]
  rw [join_f _ (by simp) (by simp; omega) _ (by simp; omega), Option.bind_some, field_f k 134 _ (by simp; omega) (by omega), Option.bind_some]
  rw [join_f _ (by simp) (by simp; omega) _ (by simp; omega), Option.bind_some, field_f k 135 _ (by simp; omega) (by omega), Option.bind_some]
  rw [rsize_f k _ _ h.1 (by omega), Option.bind_some, rsize_f k _ _ h.2 (by omega), Option.bind_some, join_f _ (by simp) (by simp [sizeL, wordL]) _ (by simp [sizeL, wordL]; omega), Option.bind_some, field_f k 166 _ (by simp [sizeL, wordL]) (by omega), Option.bind_some]
  have e : ([[136], fld 128 [128, 129, 134, 135, 166], fld 129 (sizeL q0 q1), fld 134 [[(t.2.2.2.2.1.length : Int) % 256], t.2.2.2.2.1].flatten, fld 135 [[(t.2.2.2.2.2.length : Int) % 256], t.2.2.2.2.2].flatten, fld 166 [sizeL t.1 t.2.1, sizeL t.2.2.1 t.2.2.2.1].flatten] : List (List Int)).flatten = writeL t := by
    rw [← hg]
    simp [writeL, flds, K5, bodyL, listL]
  rw [join_f _ (by simp) (by rw [e]; omega) _ (by rw [e]; simp; omega), Option.bind_some, e]
theorem refW_ok (t : Ter) (h : okT t) (hf : few t) (k : Nat) (hk : 2003 ≤ k) : greenscreenref24_Write.f k t.1 t.2.1 t.2.2.1 t.2.2.2.1 t.2.2.2.2.1 t.2.2.2.2.2 = some (writeL t, 0) := by
  obtain ⟨k, rfl⟩ : ∃ q, k = q + 3 := ⟨k - 3, by omega⟩
  obtain ⟨e1, n1⟩ := cells_pos h.1
  obtain ⟨e2, n2⟩ := cells_pos h.2
  have f1 := hf.1
  have f2 := hf.2
  unfold greenscreenref24_Write.f
  rw [rcells, rcells, e1, Option.bind_some, e2, Option.bind_some, if_neg (by omega), show ((t.2.2.1 * t.2.2.2.1 == 0) = false) from beq_eq_false_iff_ne.mpr (by omega)]
  rw [greenscreenref24_Write.j0, if_neg Bool.false_ne_true, if_neg (by omega), decide_eq_false (by omega), greenscreenref24_Write.j1, if_neg Bool.false_ne_true]
  split
  · rename_i hc
    exact rj2 t h hf _ _ h.2 (by unfold greatL; exact if_pos hc) k (by omega)
  · rename_i hc
    exact rj2 t h hf _ _ h.1 (by unfold greatL; exact if_neg hc) k (by omega)
theorem refW_arg (t : Ter) (h : ¬ okT t) (k : Nat) (hk : 3 ≤ k) : greenscreenref24_Write.f k t.1 t.2.1 t.2.2.1 t.2.2.2.1 t.2.2.2.2.1 t.2.2.2.2.2 = some ([], 1) := by
  obtain ⟨k, rfl⟩ : ∃ q, k = q + 3 := ⟨k - 3, by omega⟩
  unfold greenscreenref24_Write.f
  by_cases h1 : okS t.1 t.2.1
  · obtain ⟨e1, n1⟩ := cells_pos h1
    have h2 : ¬ okS t.2.2.1 t.2.2.2.1 := fun h2 => h ⟨h1, h2⟩
    rw [rcells, rcells, e1, Option.bind_some, cells_zero h2, Option.bind_some, if_neg (by omega), greenscreenref24_Write.j0]
    rfl
  · by_cases h2 : okS t.2.2.1 t.2.2.2.1
    · obtain ⟨e2, n2⟩ := cells_pos h2
      rw [rcells, rcells, cells_zero h1, Option.bind_some, e2, Option.bind_some, if_pos rfl, greenscreenref24_Write.j0]
      rfl
    · rw [rcells, rcells, cells_zero h1, Option.bind_some, cells_zero h2, Option.bind_some, if_pos rfl, greenscreenref24_Write.j0]
      rfl
theorem refW_many (t : Ter) (h : okT t) (hf : ¬ few t) (k : Nat) (hk : 3 ≤ k) : greenscreenref24_Write.f k t.1 t.2.1 t.2.2.1 t.2.2.2.1 t.2.2.2.2.1 t.2.2.2.2.2 = some ([], 3) := by
  obtain ⟨k, rfl⟩ : ∃ q, k = q + 3 := ⟨k - 3, by omega⟩
  obtain ⟨e1, n1⟩ := cells_pos h.1
  obtain ⟨e2, n2⟩ := cells_pos h.2
  unfold greenscreenref24_Write.f
  rw [rcells, rcells, e1, Option.bind_some, e2, Option.bind_some, if_neg (by omega), show ((t.2.2.1 * t.2.2.2.1 == 0) = false) from beq_eq_false_iff_ne.mpr (by omega)]
  rw [greenscreenref24_Write.j0, if_neg Bool.false_ne_true]
  by_cases h3 : (t.2.2.2.2.1.length : Int) > 64
  · rw [if_pos h3, greenscreenref24_Write.j1, if_pos rfl]
  · rw [if_neg h3, decide_eq_true (by unfold few at hf; omega), greenscreenref24_Write.j1, if_pos rfl]
end Go.Proofs.Ytpdihhfeekoplaa.Plain
