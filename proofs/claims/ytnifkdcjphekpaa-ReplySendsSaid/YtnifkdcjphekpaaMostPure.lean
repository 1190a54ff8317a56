/- No reply is longer than may be. -/
import Derived.Test.YtnifkdcjphekpaaSends
import Derived.Test.YtnifkdcjphekpaaAllsPure
namespace Go.Proofs.Ytnifkdcjphekpaa.H
open Go.RowKit Go.Proofs.YtnifkdcjphekpaaW.PrintWords Go.Proofs.YtnifkdcjphekpaaW.PrintLast
set_option linter.unusedVariables false
set_option linter.unusedSimpArgs false
theorem fldOut_most (cs : List A.S34) (x : Int) : (fldOut cs x).length ≤ 3 + 2 * fldMany cs (fldLen cs x) := by
  unfold fldOut
  split
  · have h1 := flat_le (cellOut cs) 2 (fun q => cellOut_le cs q) (placesTo cs x (fldMany cs (fldLen cs x)))
    rw [placesTo_len] at h1
    simp only [List.length_append, List.length_cons, List.length_nil]
    omega
  · simp
theorem fields_most {cs : List A.S34} {ys : List Int} (hys : startsTo cs cs.length = ys) : ∀ (m i : Nat), i + m = ys.length → 0 < ys.length → ((((ys.drop i).flatMap (fldOut cs)).length : Nat) : Int) ≤ 5 * (if i < ys.length then rd ys ((0 : Nat) : Int) + cs.length - rd ys (i : Int) else 0) := by
  have hst : ∀ x, x ∈ ys ↔ 0 ≤ x ∧ x < cs.length ∧ (A.rd_T34 cs x).f2 = true := fun x => by rw [← hys]; exact starts_mem
  intro m
  induction m with
  | zero =>
    intro i hi hp
    rw [List.drop_of_length_le (by omega), if_neg (by omega)]
    simp
  | succ m ih =>
    intro i hi hp
    have hil : i < ys.length := by omega
    have hd : ys.drop i = rd ys (i : Int) :: ys.drop (i + 1) := by rw [rd_get hil]; exact List.drop_eq_getElem_cons hil
    obtain ⟨x0, x1, xf⟩ := (hst _).1 (rd_in hil)
    have hg := next_gap hys i hil
    obtain ⟨j, hj, _, _, _, hlen, hmany⟩ := gap_spec cs _ x0 x1 xf
    have hm := fldOut_most cs (rd ys (i : Int))
    have hi2 := ih (i + 1) (by omega) hp
    rw [hmany] at hm
    rw [hlen] at hg
    rw [hd, List.flatMap_cons, List.length_append, if_pos hil]
    by_cases hnx : i + 1 < ys.length
    · rw [if_pos hnx] at hg hi2
      omega
    · rw [if_neg hnx] at hg hi2
      omega
theorem fieldsL_most (cs : List A.S34) : (fieldsL cs).length ≤ 5 * cs.length := by
  obtain ⟨ys, hys⟩ : ∃ ys, startsTo cs cs.length = ys := ⟨_, rfl⟩
  unfold fieldsL
  rw [hys]
  rcases Nat.eq_zero_or_pos ys.length with h | h
  · rw [List.eq_nil_of_length_eq_zero h]
    simp
  · have := fields_most hys ys.length 0 (by omega) h
    rw [if_pos h, List.drop_zero] at this
    omega
theorem forL_most (cs : List A.S34) (p aid op : Int) : (forL cs p aid op).length ≤ 3 + 5 * cs.length := by
  have h1 := fieldsL_most cs
  have h2 := whole_le cs cs.length
  have h3 := buf_le cs cs.length
  have h4 := (read_cases cs p aid).1
  have h5 : (allL cs p aid).length ≤ 3 + 5 * cs.length := by
    unfold allL
    rw [List.length_append]
    split <;> simp [headL] <;> omega
  unfold forL
  split
  · rw [List.length_append]
    simp [headL]
    omega
  · split
    · omega
    · split
      · exact h5
      · simp
theorem most_n {cs : List A.S34} (h1 : 1 ≤ cs.length) (h : cs.length ≤ 120) : A.reply_Most.f (cs.length : Int) = some (3 + 5 * (cs.length : Int)) := by
  unfold A.reply_Most.f mn mx
  rw [if_neg (show ¬ ((cs.length : Int) < 0) by omega), if_neg (by omega)]
theorem wf_made {cs xs : List A.S34} (hw : ∀ x, x ∈ xs → 0 ≤ x.f0 ∧ x.f0 < 256) (hm : ∀ x, x ∈ cs → x = z34 ∨ x ∈ xs) : wfB cs := by
  intro q
  unfold A.rd_T34
  rw [List.getD_eq_getElem?_getD]
  rcases Nat.lt_or_ge q.toNat cs.length with h | h
  · rw [List.getElem?_eq_getElem h, Option.getD_some]
    rcases hm _ (List.getElem_mem h) with h2 | h2
    · rw [h2]
      exact ⟨by decide, by decide⟩
    · exact hw _ h2
  · rw [List.getElem?_eq_none h, Option.getD_none]
    exact ⟨by decide, by decide⟩
end Go.Proofs.Ytnifkdcjphekpaa.H
