/- The document's answers of layer 23, in plain lists. -/
import Derived.Test.YtnifkdcjphekpaaRefP
namespace Go.Proofs.Ytnifkdcjphekpaa.H
open Go.RowKit Go.Proofs.YtnifkdcjphekpaaW.PrintWords Go.Proofs.YtnifkdcjphekpaaW.PrintLast
set_option linter.unusedVariables false
set_option linter.unusedSimpArgs false
def wfB (cs : List A.S34) : Prop := ∀ q : Int, 0 ≤ (A.rd_T34 cs q).f0 ∧ (A.rd_T34 cs q).f0 < 256
theorem fin_plain : ∀ q : Fin 256, A.greenscreenref12_Plain.f 20 ((q.val : Nat) : Int) = A.order_Plain.f ((q.val : Nat) : Int) := by decide +kernel
theorem fin_short : ∀ q : Fin 256, A.greenscreenref23_Short.f ((q.val : Nat) : Int) = A.keyboard_Short.f ((q.val : Nat) : Int) := by decide +kernel
theorem fin_bit : ∀ q : Fin 64, A.greenscreenref11_Bit.f ((q.val : Nat) : Int) 1 = some (modB ((q.val : Nat) : Int)) := by decide +kernel
theorem ref_short (a : Int) (h0 : 0 ≤ a) (h : a < 256) : A.greenscreenref23_Short.f a = A.keyboard_Short.f a := by
  have := fin_short ⟨a.toNat, by omega⟩
  rw [show ((a.toNat : Nat) : Int) = a by omega] at this
  exact this
theorem ref_bit (a : Int) (h0 : 0 ≤ a) (h : a < 64) : A.greenscreenref11_Bit.f a 1 = some (modB a) := by
  have := fin_bit ⟨a.toNat, by omega⟩
  rw [show ((a.toNat : Nat) : Int) = a by omega] at this
  exact this
theorem plain_some (b : Int) : ∃ t, A.order_Plain.f b = some t := by
  unfold A.order_Plain.f
  (repeat' split) <;> exact ⟨_, rfl⟩
theorem plain_up (b : Int) (h0 : 0 ≤ b) (h : b < 256) : ∀ d : Nat, A.greenscreenref12_Plain.f (20 + d) b = A.order_Plain.f b
  | 0 => by
    have := fin_plain ⟨b.toNat, by omega⟩
    rw [show ((b.toNat : Nat) : Int) = b by omega] at this
    exact this
  | d + 1 => by
    have ih := plain_up b h0 h d
    obtain ⟨t, ht⟩ := plain_some b
    rw [ht] at ih ⊢
    exact A.greenscreenref12_Plain.mono _ _ _ ih
theorem ref_bytes (x : A.S34) (h0 : 0 ≤ x.f0) (h : x.f0 < 256) (k : Nat) (hk : 20 ≤ k) : A.greenscreenref23_Bytes.f k x.f0 x.f1 x.f2 x.f3 x.f4 = some (bytesL x) := by
  rw [← bytes_f x]
  unfold A.greenscreenref23_Bytes.f A.reply_bytes.f
  cases h1 : x.f1
  · rw [if_neg Bool.false_ne_true, if_neg Bool.false_ne_true]
    simp only [A.reply_bytes.j0]
    rw [if_neg Bool.false_ne_true, if_neg Bool.false_ne_true, show k = 20 + (k - 20) by omega, plain_up x.f0 h0 h]
  · rw [if_pos rfl, if_pos rfl]
    simp only [A.reply_bytes.j0]
    by_cases hb : x.f0 < 64
    · rw [if_pos hb, if_pos (decide_eq_true hb)]
    · rw [if_neg hb, if_neg (by rw [decide_eq_false hb]; decide), if_pos trivial]
theorem ref_empty (x : A.S34) : A.greenscreenref20_Empty.f x.f0 x.f1 x.f2 x.f3 x.f4 = some (emptyB x) := by
  unfold A.greenscreenref20_Empty.f emptyB
  split <;> rfl
theorem wrap_sc {k : Nat} (h : k ≤ 100000) : wrap64 ((k : Int) + 1) = ((k + 1 : Nat) : Int) := by
  rw [wrap_of (by omega) (by omega)]
  omega
section
variable {cs : List A.S34} {r c cur : Int}
theorem full_loop (hw : wfB cs) (l : List Int) (hl : l.length ≤ 4096) (hin : ∀ q ∈ l, 0 ≤ q ∧ q < cs.length) : ∀ (m k i : Nat) (out : List Int), i + m = l.length → m + 20 < k → out.length ≤ 2 * i → A.greenscreenref23_full.l0 k l out (i : Int) r c cs cur = some (out ++ (l.drop i).flatMap (cellOut cs)) := by
  intro m
  induction m with
  | zero =>
    intro k i out hi hk ho
    obtain ⟨k, rfl⟩ : ∃ j, k = j + 1 := ⟨k - 1, by omega⟩
    rw [A.greenscreenref23_full.l0, if_neg (by omega), List.drop_of_length_le (by omega), List.flatMap_nil, List.append_nil]
  | succ m ih =>
    intro k i out hi hk ho
    obtain ⟨k, rfl⟩ : ∃ j, k = j + 1 := ⟨k - 1, by omega⟩
    have hil : i < l.length := by omega
    have hrd : rd l (i : Int) = l[i] := by simp [rd, List.getD, List.getElem?_eq_getElem hil]
    have hd : l.drop i = l[i] :: l.drop (i + 1) := (List.drop_eq_getElem_cons hil)
    obtain ⟨q0, q1⟩ := hin l[i] (List.getElem_mem hil)
    rw [A.greenscreenref23_full.l0, if_pos (by omega), if_pos (by omega), hrd, if_pos q0, if_pos q1, ref_empty, Option.bind_some, hd, List.flatMap_cons]
    obtain ⟨w0, w1⟩ := hw l[i]
    by_cases he : emptyB (A.rd_T34 cs l[i]) = true
    · rw [if_pos he, wrap_sc (by omega), ih k (i + 1) out (by omega) (by omega) (by omega), cellOut, if_pos he, List.nil_append]
    · have hb := bytes_le (A.rd_T34 cs l[i])
      rw [if_neg he, ref_bytes _ w0 w1 k (by omega), Option.bind_some, if_pos (by omega), wrap_sc (by omega), ih k (i + 1) _ (by omega) (by omega) (by rw [List.length_append]; omega), cellOut, if_neg he, List.append_assoc]
theorem full_f (hw : wfB cs) (l : List Int) (hl : l.length ≤ 4096) (hin : ∀ q ∈ l, 0 ≤ q ∧ q < cs.length) : A.greenscreenref23_full.f 5000 r c cs cur l = some (l.flatMap (cellOut cs)) := by
  have := full_loop (r := r) (c := c) (cur := cur) hw l hl hin l.length 5000 0 [] (by omega) (by omega) (by simp)
  rw [List.drop_zero, List.nil_append] at this
  exact this
theorem starts_loop (hn : cs.length ≤ 4096) : ∀ (m k i : Nat), i + m = cs.length → m < k → A.greenscreenref15_Starts.l0 k (startsTo cs i) (i : Int) r c cs cur = some (startsTo cs cs.length) := by
  intro m
  induction m with
  | zero =>
    intro k i hi hk
    obtain ⟨k, rfl⟩ : ∃ j, k = j + 1 := ⟨k - 1, by omega⟩
    rw [A.greenscreenref15_Starts.l0, if_neg (by omega), show i = cs.length by omega]
  | succ m ih =>
    intro k i hi hk
    obtain ⟨k, rfl⟩ : ∃ j, k = j + 1 := ⟨k - 1, by omega⟩
    have hs := starts_succ cs i
    have hl := starts_len cs i
    rw [A.greenscreenref15_Starts.l0, if_pos (by omega), if_pos (by omega), wrap_sc (by omega)]
    cases hf : (A.rd_T34 cs (i : Int)).f2
    · rw [hf, if_neg Bool.false_ne_true, List.append_nil] at hs
      rw [if_neg Bool.false_ne_true, ← hs]
      exact ih k (i + 1) (by omega) (by omega)
    · rw [hf, if_pos rfl] at hs
      rw [if_pos rfl, if_pos (by omega), ← hs]
      exact ih k (i + 1) (by omega) (by omega)
theorem starts_f (hn : cs.length ≤ 4096) (k : Nat) (hk : 4096 < k) : A.greenscreenref15_Starts.f k r c cs cur = some (startsTo cs cs.length) := starts_loop (r := r) (c := c) (cur := cur) hn cs.length k 0 (by omega) (by omega)
theorem rd_get {ys : List Int} {i : Nat} (h : i < ys.length) : rd ys (i : Int) = ys[i] := by simp [rd, List.getD, List.getElem?_eq_getElem h]
theorem sorted_rd {ys : List Int} (hs : ys.Pairwise (· < ·)) {i j : Nat} (h : i < j) (hj : j < ys.length) : rd ys (i : Int) < rd ys (j : Int) := by
  rw [rd_get (by omega), rd_get hj]
  exact List.pairwise_iff_getElem.1 hs i j (by omega) hj h
theorem mem_rd {ys : List Int} {x : Int} (h : x ∈ ys) : ∃ m : Nat, m < ys.length ∧ x = rd ys (m : Int) := by
  obtain ⟨m, hm, rfl⟩ := List.mem_iff_getElem.1 h
  exact ⟨m, hm, (rd_get hm).symm⟩
theorem rd_in {ys : List Int} {i : Nat} (h : i < ys.length) : rd ys (i : Int) ∈ ys := by
  rw [rd_get h]
  exact List.getElem_mem h
/-- Up to the next field. -/
theorem next_gap {ys : List Int} (hys : startsTo cs cs.length = ys) (i : Nat) (hi : i < ys.length) : fldLen cs (rd ys (i : Int)) = (if i + 1 < ys.length then rd ys ((i + 1 : Nat) : Int) else rd ys ((0 : Nat) : Int) + cs.length) - rd ys (i : Int) - 1 := by
  have hs : ys.Pairwise (· < ·) := by rw [← hys]; exact starts_sorted _ _
  have hst : ∀ x, x ∈ ys ↔ 0 ≤ x ∧ x < cs.length ∧ (A.rd_T34 cs x).f2 = true := fun x => by rw [← hys]; exact starts_mem
  obtain ⟨x0, x1, xf⟩ := (hst _).1 (rd_in hi)
  obtain ⟨j, hj, hf, hno, _, hlen, _⟩ := gap_spec cs _ x0 x1 xf
  rw [hlen]
  have hbet : ∀ z, z ∈ ys → rd ys (i : Int) < z → i + 1 < ys.length ∧ rd ys ((i + 1 : Nat) : Int) ≤ z := by
    intro z hz hlt
    obtain ⟨m, hm, rfl⟩ := mem_rd hz
    have him : i < m := by
      rcases Nat.lt_or_ge i m with h | h
      · exact h
      · exfalso
        rcases Nat.lt_or_ge m i with h2 | h2
        · have := sorted_rd hs h2 hi; omega
        · obtain rfl : m = i := by omega
          omega
    refine ⟨by omega, ?_⟩
    rcases Nat.lt_or_ge (i + 1) m with h | h
    · have := sorted_rd hs h hm; omega
    · obtain rfl : m = i + 1 := by omega
      omega
  have hfirst : ∀ z, z ∈ ys → rd ys ((0 : Nat) : Int) ≤ z := by
    intro z hz
    obtain ⟨m, hm, rfl⟩ := mem_rd hz
    rcases Nat.eq_zero_or_pos m with h | h
    · subst h; omega
    · have := sorted_rd hs h hm; omega
  have hlt : i + 1 < ys.length → rd ys (i : Int) < rd ys ((i + 1 : Nat) : Int) := fun h => sorted_rd hs (Nat.lt_succ_self i) h
  generalize rd ys (i : Int) = x at *
  split
  · rename_i h
    obtain ⟨y0, y1, yf⟩ := (hst _).1 (rd_in h)
    have hxy := hlt h
    generalize rd ys ((i + 1 : Nat) : Int) = y at *
    rcases Int.lt_trichotomy j (y - x - 1) with h1 | h1 | h1
    · exfalso
      rw [Int.emod_eq_of_lt (by omega) (by omega)] at hf
      have := (hbet (x + 1 + j) ((hst _).2 ⟨by omega, by omega, hf⟩) (by omega)).2
      omega
    · exact h1
    · exfalso
      have := hno (y - x - 1).toNat (by omega)
      rw [show x + 1 + ((y - x - 1).toNat : Int) = y by omega, Int.emod_eq_of_lt y0 y1, yf] at this
      exact absurd this (by decide)
  · rename_i h
    have hy := rd_in (ys := ys) (i := 0) (by omega)
    obtain ⟨y0, y1, yf⟩ := (hst _).1 hy
    have hle := hfirst x ((hst _).2 ⟨x0, x1, xf⟩)
    generalize rd ys ((0 : Nat) : Int) = y at *
    rcases Int.lt_trichotomy j (y + cs.length - x - 1) with h1 | h1 | h1
    · exfalso
      rcases Int.lt_or_le (x + 1 + j) cs.length with h2 | h2
      · rw [Int.emod_eq_of_lt (by omega) h2] at hf
        exact h (hbet (x + 1 + j) ((hst _).2 ⟨by omega, by omega, hf⟩) (by omega)).1
      · have e : (x + 1 + j) % cs.length = x + 1 + j - cs.length := by
          rw [← Int.sub_emod_right, Int.emod_eq_of_lt (by omega) (by omega)]
        rw [e] at hf
        have := hfirst _ ((hst _).2 ⟨by omega, by omega, hf⟩)
        omega
    · exact h1
    · exfalso
      have := hno (y + cs.length - x - 1).toNat (by omega)
      rw [show x + 1 + ((y + cs.length - x - 1).toNat : Int) = y + cs.length by omega, Int.add_emod_right, Int.emod_eq_of_lt y0 y1, yf] at this
      exact absurd this (by decide)
def fldR (cs : List A.S34) (x : Int) : A.S73 := ⟨x, fldLen cs x, (A.rd_T34 cs x).f0 % 64⟩
theorem all_loop (hw : wfB cs) (hn : cs.length ≤ 4096) {ys : List Int} (hys : startsTo cs cs.length = ys) : ∀ (m k i : Nat), i + m = ys.length → m < k → A.greenscreenref15_All.l0 k ((ys.take i).map (fldR cs)) ys (i : Int) r c cs cur = some (ys.map (fldR cs)) := by
  have hyl : ys.length ≤ 4096 := by rw [← hys]; exact Nat.le_trans (starts_len _ _) hn
  have hst : ∀ x, x ∈ ys ↔ 0 ≤ x ∧ x < cs.length ∧ (A.rd_T34 cs x).f2 = true := fun x => by rw [← hys]; exact starts_mem
  intro m
  induction m with
  | zero =>
    intro k i hi hk
    obtain ⟨k, rfl⟩ : ∃ j, k = j + 1 := ⟨k - 1, by omega⟩
    rw [A.greenscreenref15_All.l0, if_neg (by omega), List.take_of_length_le (by omega)]
  | succ m ih =>
    intro k i hi hk
    obtain ⟨k, rfl⟩ : ∃ j, k = j + 1 := ⟨k - 1, by omega⟩
    have hil : i < ys.length := by omega
    obtain ⟨x0, x1, xf⟩ := (hst _).1 (rd_in hil)
    have hg := next_gap hys i hil
    obtain ⟨b0, b1⟩ := hw (rd ys (i : Int))
    have hb : Int.tmod (A.rd_T34 cs (rd ys (i : Int))).f0 64 = (A.rd_T34 cs (rd ys (i : Int))).f0 % 64 := Int.tmod_eq_emod_of_nonneg b0
    have htk : (ys.take (i + 1)).map (fldR cs) = (ys.take i).map (fldR cs) ++ [fldR cs (rd ys (i : Int))] := by
      have e : ys.take (i + 1) = ys.take i ++ [rd ys (i : Int)] := by
        rw [List.take_add_one]
        simp [rd, List.getD, List.getElem?_eq_getElem hil]
      rw [e, List.map_append]
      rfl
    have hl : ((ys.take i).map (fldR cs)).length < 5864062014805 := by rw [List.length_map, List.length_take]; omega
    have hgl : 0 ≤ fldLen cs (rd ys (i : Int)) ∧ fldLen cs (rd ys (i : Int)) < cs.length := by
      obtain ⟨j, hj, _, _, _, hlen, _⟩ := gap_spec cs _ x0 x1 xf
      omega
    rw [A.greenscreenref15_All.l0, if_pos (by omega), if_pos (by omega), wrap_sc (by omega)]
    by_cases hnx : i + 1 < ys.length
    · rw [if_pos hnx] at hg
      obtain ⟨z0, z1, _⟩ := (hst _).1 (rd_in hnx)
      rw [if_pos (by omega), if_pos (by omega), if_pos (by omega), if_pos x0, if_pos x1, if_pos hl, wrap_of (a := rd ys ((i + 1 : Nat) : Int) - rd ys (i : Int)) (by omega) (by omega), wrap_of (by omega) (by omega), ← hg, hb]
      have := ih k (i + 1) (by omega) (by omega)
      rw [htk] at this
      exact this
    · rw [if_neg hnx] at hg
      obtain ⟨z0, z1, _⟩ := (hst _).1 (rd_in (ys := ys) (i := 0) (by omega))
      have e0 : rd ys 0 = rd ys ((0 : Nat) : Int) := rfl
      rw [if_neg (by omega), if_pos (by omega), if_pos x0, if_pos x1, if_pos hl, e0, wrap_of (a := rd ys ((0 : Nat) : Int) + cs.length) (by omega) (by omega), wrap_of (a := rd ys ((0 : Nat) : Int) + cs.length - rd ys (i : Int)) (by omega) (by omega), wrap_of (by omega) (by omega), ← hg, hb]
      have := ih k (i + 1) (by omega) (by omega)
      rw [htk] at this
      exact this
theorem all_f (hw : wfB cs) (hn : cs.length ≤ 4096) : A.greenscreenref15_All.f 5000 r c cs cur = some ((startsTo cs cs.length).map (fldR cs)) := by
  unfold A.greenscreenref15_All.f
  rw [starts_f hn 5000 (by omega), Option.bind_some]
  have hl := starts_len cs cs.length
  exact all_loop (r := r) (c := c) (cur := cur) hw hn rfl (startsTo cs cs.length).length 5000 0 (by omega) (by omega)
theorem places_loop (x : Int) (h0 : 0 ≤ x) (h1 : x < cs.length) (hn : cs.length ≤ 4096) (ln at_ : Int) (t : Nat) (ht : t ≤ 4096) : ∀ (m k i : Nat), i + m = t → m < k → A.greenscreenref15_Places.l0 k (placesTo cs x i) (t : Int) ((i + 1 : Nat) : Int) r c cs cur x ln at_ = some (placesTo cs x t) := by
  intro m
  induction m with
  | zero =>
    intro k i hi hk
    obtain ⟨k, rfl⟩ : ∃ j, k = j + 1 := ⟨k - 1, by omega⟩
    rw [A.greenscreenref15_Places.l0, if_neg (by omega), show i = t by omega]
  | succ m ih =>
    intro k i hi hk
    obtain ⟨k, rfl⟩ : ∃ j, k = j + 1 := ⟨k - 1, by omega⟩
    have hp := places_succ cs x i
    have hl := placesTo_len cs x i
    rw [A.greenscreenref15_Places.l0, if_pos (by omega), if_neg (by omega), if_pos (by omega), wrap_sc (by omega), wrap_of (a := x + ((i + 1 : Nat) : Int)) (by omega) (by omega), Int.tmod_eq_emod_of_nonneg (by omega), show x + ((i + 1 : Nat) : Int) = x + ((i : Int) + 1) by omega, ← hp]
    exact ih k (i + 1) (by omega) (by omega)
theorem places_f (x : Int) (h0 : 0 ≤ x) (h1 : x < cs.length) (hn : cs.length ≤ 4096) (ln at_ : Int) : A.greenscreenref15_Places.f 5000 r c cs cur x ln at_ = some (placesTo cs x (fldMany cs ln)) := by
  unfold A.greenscreenref15_Places.f A.greenscreenref14_Has.f
  rw [Option.bind_some, if_pos h0, Option.bind_some, if_pos (decide_eq_true h1)]
  have hm := fldMany_le cs ln
  have e : A.greenscreenref01_Held.f ln 0 (cs.length : Int) = some ((fldMany cs ln : Nat) : Int) := by
    unfold A.greenscreenref01_Held.f fldMany
    (repeat' split) <;> first | (exfalso; omega) | (refine congrArg some ?_; omega)
  rw [e, Option.bind_some]
  exact places_loop (r := r) (c := c) (cur := cur) x h0 h1 hn ln at_ (fldMany cs ln) (by omega) (fldMany cs ln) 5000 0 (by omega) (by omega)
end
end Go.Proofs.Ytnifkdcjphekpaa.H
