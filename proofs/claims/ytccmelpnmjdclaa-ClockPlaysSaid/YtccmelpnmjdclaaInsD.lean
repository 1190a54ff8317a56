/- slices.Insert of one alarm, within the row. -/
import Derived.Test.YtccmelpnmjdclaaInsA
namespace Go.Proofs.Ytccmelpnmjdclaa.H
open Go.RowKit Go.Proofs.YtccmelpnmjdclaaW.PrintWords Go.Proofs.YtccmelpnmjdclaaW.PrintLast
set_option linter.unusedVariables false
set_option linter.unusedSimpArgs false
section
variable {w : World} {R off cap vb : Nat} {pre post : List Value} {xs : List A.S62} {x : A.S62}
set_option maxHeartbeats 2000000 in
set_option maxRecDepth 100000 in
/-- Within, with room. -/
theorem insert_d (hb : w.heap[R]? = some (.cells (pre ++ (flatA xs ++ post)).toArray 62 (0, 0))) (ho : pre.length = off) (hp : (cap - xs.length) * 2 ≤ post.length) (hc : xs.length + 1 ≤ cap) (hl : xs.length ≤ 64) (hv : w.heap[vb]? = some (.cells #[.int .i64 x.f0, .int .i64 x.f1] 62 (0, 0))) (hne : vb ≠ R) (i : Nat) (hi : i < xs.length) :
    Calls Try.prog 24 #[.slice (some ⟨R, off, none⟩) xs.length cap, .int .i64 i, .slice (some ⟨vb, 0, none⟩) 1 1] w fun e w' => e = .returned (.slice (some ⟨R, off, none⟩) (xs.length + 1) cap) ∧ Rw w' (.slice (some ⟨R, off, none⟩) (xs.length + 1) cap) (xs.take i ++ x :: xs.drop i) ∧ w.grownBy w' (some R) := by
  obtain ⟨a, ha⟩ : ∃ a, xs.take i = a := ⟨_, rfl⟩
  obtain ⟨b, hbb⟩ : ∃ b, xs.drop i = b := ⟨_, rfl⟩
  have hxs : xs = a ++ b := by rw [← ha, ← hbb, List.take_append_drop]
  have hal : a.length = i := by rw [← ha, List.length_take]; omega
  have hbl : b.length = xs.length - i := by rw [← hbb, List.length_drop]
  have hfl : flatA xs = flatA a ++ flatA b := by rw [hxs, flatA_append]
  have hfa : (flatA a).length = i * 2 := by rw [flatA_length, hal]
  have hfb : (flatA b).length = (xs.length - i) * 2 := by rw [flatA_length, hbl]
  have hx2 : (al x).length = 2 := rfl
  rw [ha, hbb]
  have hov := fun lb cb => ov31 hv hb hne (by simp only [List.size_toArray, List.length_append, flatA_length]; omega) (off + (i + 1) * 2) lb cb
  rw [hfl] at hb
  obtain ⟨h1, g1⟩ := put_cells (W := w.drew) hb (off + (i + 1) * 2) (flatA b) (by simp only [List.length_append, hfa, hfb, ho]; omega)
  have hz1 := ins_one (P := pre) (A := flatA a) (B := flatA b) (Q := post)
  rw [ho, hfa, show off + i * 2 + 2 = off + (i + 1) * 2 by omega] at hz1
  rw [hz1] at h1
  have hT : ((flatA b ++ post).take 2).length = 2 := by rw [List.length_take, List.length_append, hfb]; omega
  obtain ⟨h2, g2⟩ := put_cells h1 (off + i * 2) (al x) (by simp only [List.length_append, hfa, hfb, ho, hT, hx2]; omega)
  have hpa : (pre ++ flatA a).length = off + i * 2 := by rw [List.length_append, ho, hfa]
  have hz2 := ins_two (PA := pre ++ flatA a) (B := flatA b) (Q := post.drop 2) (X := al x) hT
  rw [hpa] at hz2
  rw [hx2, hz2] at h2
  have hcp1 : ∀ ty dl dc sl sc, Nat.min sl dl = xs.length - i → (Builtin.copy_ #[25, 25] ty #[.slice (some ⟨R, off + (i + 1) * 2, none⟩) dl dc, .slice (some ⟨R, off + i * 2, none⟩) sl sc]).run Try.prog w.drew = .ok (goInt ((xs.length - i : Nat) : Int)) (w.drew.setCells R (off + (i + 1) * 2) (flatA b)) := fun ty dl dc sl sc hn =>
    run_copy2 (R := R) (o := off + (i + 1) * 2) (cs := flatA b) (a := ⟨R, off + i * 2, none⟩) hn.symm (by rw [hfb]) (fun j u hj => by
      have hjl := (List.getElem?_eq_some_iff.1 hj).1
      rw [addr_at]
      show w.cell? _ = _
      rw [blk_cell hb]
      simp only [List.getElem?_toArray]
      rw [List.getElem?_append_right (by omega), List.getElem?_append_left (by simp only [List.length_append, hfa, hfb]; omega), List.getElem?_append_right (by omega), hfa, ho]
      rw [show off + i * 2 + j - off - i * 2 = j by omega]
      exact hj) (W := w.drew) hb (by simp only [List.length_append, hfa, hfb, ho]; omega) (flatA_one b)
  have hv1 : (w.drew.setCells R (off + (i + 1) * 2) (flatA b)).heap[vb]? = some (.cells #[.int .i64 x.f0, .int .i64 x.f1] 62 (0, 0)) := blk_grown (w := w.drew) hv g1 (by simpa using hne)
  have hcp2 : ∀ ty dl dc, 0 < dl → (Builtin.copy_ #[25, 25] ty #[.slice (some ⟨R, off + i * 2, none⟩) dl dc, .slice (some ⟨vb, 0, none⟩) 1 1]).run Try.prog (w.drew.setCells R (off + (i + 1) * 2) (flatA b)) = .ok (goInt 1) ((w.drew.setCells R (off + (i + 1) * 2) (flatA b)).setCells R (off + i * 2) (al x)) := fun ty dl dc hn =>
    run_copy2 (n := 1) (R := R) (o := off + i * 2) (cs := al x) (a := ⟨vb, 0, none⟩) (by simp only [Nat.min_def]; split <;> omega) hx2 (xcells hv1) h1 (by simp only [List.length_append, hfa, hfb, ho, hT, hx2]; omega) al_one
  have HFIN := Lib.hid (show Rw ((w.drew.setCells R (off + (i + 1) * 2) (flatA b)).setCells R (off + i * 2) (al x)) (.slice (some ⟨R, off, none⟩) (xs.length + 1) cap) (a ++ x :: b) from by
    refine .inr ⟨R, off, cap, pre, post.drop 2, ?_, ?_, ho, ?_, ?_⟩
    · rw [List.length_append, List.length_cons, hal, hbl]
      congr 1
      omega
    · rw [flatA_append, show flatA (x :: b) = al x ++ flatA b from rfl]
      rw [h2]
      simp
    · rw [List.length_append, List.length_cons, hal, hbl, List.length_drop]
      omega
    · rw [List.length_append, List.length_cons, hal, hbl]
      omega)
  have HG := Lib.hid (show w.grownBy ((w.drew.setCells R (off + (i + 1) * 2) (flatA b)).setCells R (off + i * 2) (al x)) (some R) from ⟨g2.os.trans g1.os, g2.tape.trans g1.tape, g2.output.trans g1.output, Nat.le_trans g1.size g2.size, fun k hk hne => (g2.block k (Nat.lt_of_lt_of_le hk g1.size) hne).trans (g1.block k hk hne)⟩)
  have HCP1 := Lib.hid hcp1
  have HCP2 := Lib.hid hcp2
  obtain ⟨W2, hW2⟩ : ∃ W2, w.drew.setCells R (off + (i + 1) * 2) (flatA b) = W2 := ⟨_, rfl⟩
  rw [hW2] at HCP1 HCP2 HFIN HG
  obtain ⟨W3, hW3⟩ : ∃ W3, W2.setCells R (off + i * 2) (al x) = W3 := ⟨_, rfl⟩
  rw [hW3] at HCP2 HFIN HG
  have HI := Lib.hid hi
  have HC := Lib.hid hc
  clear hb hz1 hz2 h1 h2 g1 g2 hcp1 hcp2 hW2 hW3 hfl hxs hfa hfb hx2 hT hpa hv1 ha hbb hal hbl hv
  have hz4 : ¬ ((i : Int) = (xs.length : Int)) := by omega
  have hz5 : ((i : Int) == (xs.length : Int)) = false := beq_eq_false_iff_ne.2 hz4
  have hz3 : ¬ ((cap : Int) < (xs.length : Int) + 1) := by omega
  have hw1 : wrap64 ((i : Int) + 1) = (i : Int) + 1 := by unfold wrap64; omega
  have hw2 : wrap64 ((xs.length : Int) + 1) = (xs.length : Int) + 1 := by unfold wrap64; omega
  have q1 : (i : Int) ≤ cap := by omega
  have q1b : (i : Int) ≤ (xs.length : Int) := by omega
  have q4 : (i : Int) ≤ (xs.length : Int) + 1 := by omega
  have q2 : ¬ cap - i = 0 := by omega
  have q3 : ¬ cap = i := by omega
  have q5 : ¬ cap - (i + 1) = 0 := by omega
  have q6 : ¬ cap = i + 1 := by omega
  have q7 : 0 ≤ (i : Int) + 1 ∧ (i : Int) + 1 ≤ (xs.length : Int) + 1 := by omega
  have q8 : 0 ≤ (xs.length : Int) + 1 ∧ (xs.length : Int) + 1 ≤ cap := by omega
  have q9 : i ≤ xs.length := by omega
  have q10 : ((i : Int) + 1).toNat = i + 1 := by omega
  have q11 : ((xs.length : Int) + 1).toNat = xs.length + 1 := by omega
  go_enter Try.func24, Try.ntmps24
  go_wp2_with (simp only [hov])
  refine start_ (n := 9) (S := fun _ => True) (ds := []) #[false, false, false, false, false, false, false, false, false] (by kernel_rfl) rfl rfl trivial (fun hHeld => ?_)
  refine pure_ (i := 0) (N := some 69) (v := ?_) (a' := ?_) #[true, false, false, false, false, false, false, false, false] rfl rfl (by kernel_rfl) (fun _ _ _ h => h) (Or.inl ⟨by rfl, ?_⟩) ?_ ?_
  rotate_left
  · intro w'
    go_simp
    with_reducible rfl
  rotate_left
  · simp only [Act.put, List.setIfInBounds_toArray, List.set_cons_zero, List.set_cons_succ, i64_w, i32_w]
    try rfl
  refine pure_ (i := 1) (N := some 70) (v := ?_) (a' := ?_) #[true, true, false, false, false, false, false, false, false] rfl rfl (by kernel_rfl) (fun _ _ _ h => h) (Or.inl ⟨by rfl, ?_⟩) ?_ ?_
  rotate_left
  · intro w'
    go_simp
    with_reducible rfl
  rotate_left
  · simp only [Act.put, List.setIfInBounds_toArray, List.set_cons_zero, List.set_cons_succ, i64_w, i32_w]
    try rfl
  refine pure_ (i := 2) (N := some 71) (v := ?_) (a' := ?_) #[true, true, true, false, false, false, false, false, false] rfl rfl (by kernel_rfl) (fun _ _ _ h => h) (Or.inl ⟨by rfl, ?_⟩) ?_ ?_
  rotate_left
  · intro w'
    go_simp
    with_reducible rfl
  rotate_left
  · simp only [Act.put, List.setIfInBounds_toArray, List.set_cons_zero, List.set_cons_succ, i64_w, i32_w]
    try rfl
  refine pure_ (i := 3) (N := some 72) (v := ?_) (a' := ?_) #[true, true, true, true, false, false, false, false, false] rfl rfl (by kernel_rfl) (fun _ _ _ h => h) (Or.inl ⟨by rfl, ?_⟩) ?_ ?_
  rotate_left
  · intro w'
    go_simp
    with_reducible rfl
  rotate_left
  · simp only [Act.put, List.setIfInBounds_toArray, List.set_cons_zero, List.set_cons_succ, i64_w, i32_w]
    try rfl
  refine pure_ (i := 4) (N := some 73) (v := ?_) (a' := ?_) #[true, true, true, true, true, false, false, false, false] rfl rfl (by kernel_rfl) (fun _ _ _ h => h) (Or.inl ⟨by rfl, ?_⟩) ?_ ?_
  rotate_left
  · intro w'
    go_simp
    with_reducible rfl
  rotate_left
  · simp only [Act.put, List.setIfInBounds_toArray, List.set_cons_zero, List.set_cons_succ, i64_w, i32_w]
    try rfl
  refine pure_ (i := 5) (N := some 74) (v := ?_) (a' := ?_) #[true, true, true, true, true, true, false, false, false] rfl rfl (by kernel_rfl) (fun _ _ _ h => h) (Or.inl ⟨by rfl, ?_⟩) ?_ ?_
  rotate_left
  · intro w'
    go_simp
    with_reducible rfl
  rotate_left
  · simp only [Act.put, List.setIfInBounds_toArray, List.set_cons_zero, List.set_cons_succ, i64_w, i32_w]
    try rfl
  refine pure_ (i := 6) (N := some 75) (v := ?_) (a' := ?_) #[true, true, true, true, true, true, true, false, false] rfl rfl (by kernel_rfl) (fun _ _ _ h => h) (Or.inl ⟨by rfl, ?_⟩) ?_ ?_
  rotate_left
  · intro w'
    go_simp
    with_reducible rfl
  rotate_left
  · simp only [Act.put, List.setIfInBounds_toArray, List.set_cons_zero, List.set_cons_succ, i64_w, i32_w]
    try rfl
  refine pure_ (i := 7) (N := some 76) (v := ?_) (a' := ?_) #[true, true, true, true, true, true, true, true, false] rfl rfl (by kernel_rfl) (fun _ _ _ h => h) (Or.inl ⟨by rfl, ?_⟩) ?_ ?_
  rotate_left
  · intro w'
    go_simp
    with_reducible rfl
  rotate_left
  · simp only [Act.put, List.setIfInBounds_toArray, List.set_cons_zero, List.set_cons_succ, i64_w, i32_w]
    try rfl
  refine one_ (i := 8) (N := some 77) #[true, true, true, true, true, true, true, true, true] rfl rfl (by kernel_rfl) (by decide) (fun K hK => ?_)
  refine step_copy2 (by rfl) (.tmp 73) (.tmp 76) 25 25 rfl _ _ rfl rfl _ (HCP1.out _ _ _ _ _ (by have := HI.out; simp only [Nat.min_def]; split <;> omega)) ?_
  refine hK.out _ _ trivial (fun hHeld => ?_)
  clear hK K
  refine norm_ (a' := ?_) ?_ ?_
  rotate_left
  · show Act.put _ (some 77) _ = _
    simp only [Act.put, List.setIfInBounds_toArray, List.set_cons_zero, List.set_cons_succ, i64_w, i32_w]
    try rfl
  refine done_ (by kernel_rfl) ?_
  go_wp2_with (refine list_copy2 rfl (.tmp 80) (.tmp 81) 25 25 rfl _ _ rfl rfl _ (HCP2.out _ _ _ (by have := HI.out; omega)) ?_)
  go_ret
  exact ⟨rfl, HFIN.out, HG.out⟩
end
end Go.Proofs.Ytccmelpnmjdclaa.H
