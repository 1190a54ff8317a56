/- How long replies are. -/
import Derived.Test.YtnifkdcjphekpaaReplies
namespace Go.Proofs.Ytnifkdcjphekpaa.H
open Go.RowKit Go.Proofs.YtnifkdcjphekpaaW.PrintWords Go.Proofs.YtnifkdcjphekpaaW.PrintLast
set_option linter.unusedVariables false
set_option linter.unusedSimpArgs false
theorem bytes_count (x : A.S34) : ∃ r, A.reply_bytes.f 10 x.f0 x.f1 x.f2 x.f3 x.f4 = some r ∧ r.length = if x.f1 = true then 2 else 1 := by
  unfold A.reply_bytes.f
  simp only [A.reply_bytes.j0, A.order_Plain.f]
  cases h1 : x.f1
  · rw [if_neg (by decide)]
    repeat (first | exact ⟨_, rfl, by simp⟩ | split | simp only [Option.bind_some])
    all_goals contradiction
  · rw [if_pos rfl]
    repeat (first | exact ⟨_, rfl, by simp⟩ | split | simp only [Option.bind_some])
    all_goals contradiction
theorem bytes_len (x : A.S34) : (bytesL x).length = if x.f1 = true then 2 else 1 := by
  obtain ⟨r, h, hl⟩ := bytes_count x
  rw [bytes_f] at h
  obtain rfl := Option.some.inj h
  exact hl
def cntTo (cs : List A.S34) : Nat → Nat
  | 0 => 0
  | k + 1 => cntTo cs k + (if (A.rd_T34 cs (k : Int)).f2 = true then 1 else if (A.rd_T34 cs (k : Int)).f1 = true then 1 else 0)
theorem cnt_le (cs : List A.S34) : ∀ k, cntTo cs k ≤ k
  | 0 => Nat.le_refl _
  | k + 1 => by
    have := cnt_le cs k
    unfold cntTo
    split
    · omega
    · split <;> omega
theorem buf_len (cs : List A.S34) : ∀ k, (bufTo cs k).length = k + cntTo cs k
  | 0 => rfl
  | k + 1 => by
    rw [buf_succ, List.length_append, buf_len cs k, cntTo, bufOut]
    split
    · simp; omega
    · rw [bytes_len]
      split <;> omega
theorem read_cases (cs : List A.S34) (cur aid : Int) : (readL cs cur aid).length ≤ (allL cs cur aid).length ∧ (allL cs cur aid).take (readL cs cur aid).length = readL cs cur aid ∧ ((readL cs cur aid).length = 1 ∨ (readL cs cur aid).length = (allL cs cur aid).length) ∧ 3 ≤ (allL cs cur aid).length := by
  unfold readL
  split
  · refine ⟨?_, ?_, .inl rfl, ?_⟩ <;> simp [allL, headL]
  · refine ⟨Nat.le_refl _, List.take_length, .inr rfl, ?_⟩
    simp [allL, headL]
theorem all_size (cs : List A.S34) (cur aid : Int) (h : cs.length ≤ 4096) : (allL cs cur aid).length ≤ 40000000 := by
  have h1 := fieldsL_le cs h
  have h2 := whole_le cs cs.length
  unfold allL
  split <;> simp [headL] <;> omega
end Go.Proofs.Ytnifkdcjphekpaa.H
