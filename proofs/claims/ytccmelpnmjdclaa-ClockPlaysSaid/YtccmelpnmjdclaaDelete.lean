/- slices.Delete of one alarm. -/
import Derived.Test.YtccmelpnmjdclaaFind
namespace Go.Proofs.Ytccmelpnmjdclaa.H
open Go.RowKit Go.Proofs.YtccmelpnmjdclaaW.PrintWords Go.Proofs.YtccmelpnmjdclaaW.PrintLast
set_option linter.unusedVariables false
set_option linter.unusedSimpArgs false
theorem del_one {P A X B Q : List Value} (hX : X.length = 2) : (P ++ ((A ++ (X ++ B)) ++ Q)).take (P.length + A.length) ++ B ++ (P ++ ((A ++ (X ++ B)) ++ Q)).drop (P.length + A.length + B.length) = P ++ (A ++ (B ++ (X ++ (B ++ Q)).drop B.length)) := by
  have e1 : P ++ ((A ++ (X ++ B)) ++ Q) = (P ++ A) ++ (X ++ (B ++ Q)) := by simp
  rw [e1, ← List.length_append, List.take_left, ← List.drop_drop, List.drop_left]
  simp
theorem del_two {P A X B Q zs : List Value} (hX : X.length = 2) : (P ++ (A ++ (B ++ (X ++ (B ++ Q)).drop B.length))).take (P.length + A.length + B.length) ++ zs ++ (P ++ (A ++ (B ++ (X ++ (B ++ Q)).drop B.length))).drop (P.length + A.length + B.length + 2) = P ++ ((A ++ B) ++ (zs ++ Q)) := by
  have e1 : P ++ (A ++ (B ++ (X ++ (B ++ Q)).drop B.length)) = (P ++ A ++ B) ++ (X ++ (B ++ Q)).drop B.length := by simp
  have e2 : P.length + A.length + B.length = (P ++ A ++ B).length := by simp [Nat.add_assoc]
  have e3 : ((X ++ (B ++ Q)).drop B.length).drop 2 = Q := by
    rw [List.drop_drop, Nat.add_comm, ← List.drop_drop, ← hX, List.drop_left, List.drop_left]
  rw [e1, e2, List.take_left, ← List.drop_drop, List.drop_left, e3]
  simp
section
variable {w : World} {R off cap : Nat} {pre post : List Value} {xs : List A.S62}
set_option maxHeartbeats 2000000 in
set_option maxRecDepth 100000 in
theorem delete_p (hb : w.heap[R]? = some (.cells (pre ++ (flatA xs ++ post)).toArray 62 (0, 0))) (ho : pre.length = off) (hp : (cap - xs.length) * 2 ≤ post.length) (hc : xs.length ≤ cap) (hl : xs.length ≤ 64) (i : Nat) (hi : i < xs.length) :
    Calls Try.prog 25 #[.slice (some ⟨R, off, none⟩) xs.length cap, .int .i64 i, .int .i64 ((i : Int) + 1)] w fun e w' => e = .returned (.slice (some ⟨R, off, none⟩) (xs.length - 1) cap) ∧ Rw w' (.slice (some ⟨R, off, none⟩) (xs.length - 1) cap) (xs.eraseIdx i) ∧ w.grownBy w' (some R) := by
  have e1 : ((i : Int) == (i : Int) + 1) = false := beq_eq_false_iff_ne.2 (by omega)
  -- the row in three parts
  obtain ⟨a, ha⟩ : ∃ a, xs.take i = a := ⟨_, rfl⟩
  obtain ⟨b, hbb⟩ : ∃ b, xs.drop (i + 1) = b := ⟨_, rfl⟩
  obtain ⟨x, hx⟩ : ∃ x, xs[i] = x := ⟨_, rfl⟩
  have hxs : xs = a ++ (x :: b) := by rw [← ha, ← hbb, ← hx, ← List.drop_eq_getElem_cons hi, List.take_append_drop]
  have hal : a.length = i := by rw [← ha, List.length_take]; omega
  have hbl : b.length = xs.length - (i + 1) := by rw [← hbb, List.length_drop]
  have her : xs.eraseIdx i = a ++ b := by rw [List.eraseIdx_eq_take_drop_succ, ha, hbb]
  have hfl : flatA xs = flatA a ++ (al x ++ flatA b) := by rw [hxs, flatA_append]; rfl
  rw [hfl] at hb
  have hfa : (flatA a).length = i * 2 := by rw [flatA_length, hal]
  have hfb : (flatA b).length = (xs.length - (i + 1)) * 2 := by rw [flatA_length, hbl]
  have hd1 := put_cells (W := w.drew) hb (off + i * 2) (flatA b) (by simp only [List.length_append, hfa, hfb, ho]; omega)
  have hz1 := del_one (P := pre) (A := flatA a) (X := al x) (B := flatA b) (Q := post) rfl
  rw [ho, hfa] at hz1
  rw [hz1, hfb] at hd1
  obtain ⟨h1, g1⟩ := hd1
  have hd2 := put_cells h1 (off + (xs.length - 1) * 2) (Builtin.zeroCells #[.int .i64 0, .int .i64 0] 1).toList (by
    simp only [List.length_append, hfa, hfb, ho, List.length_drop, Array.length_toList, size_zeroCells]
    have : (al x).length = 2 := rfl
    simp
    omega)
  have hz2 := del_two (P := pre) (A := flatA a) (X := al x) (B := flatA b) (Q := post) (zs := (Builtin.zeroCells #[.int .i64 0, .int .i64 0] 1).toList) rfl
  have hle : off + i * 2 + (xs.length - (i + 1)) * 2 = off + (xs.length - 1) * 2 := by omega
  rw [ho, hfa, hfb, hle] at hz2
  have hzl : (Builtin.zeroCells #[.int .i64 0, .int .i64 0] 1).toList.length = 2 := by simp [Builtin.zeroCells]
  rw [hzl, hz2] at hd2
  obtain ⟨h2, g2⟩ := hd2
  obtain ⟨i0, hi0, hz0, hs0, hb0⟩ := info_parts info62
  have hclr := run_clear2 (W := w.drew.setCells R (off + i * 2) (flatA b)) (R := R) (o := off + (xs.length - 1) * 2) (n := 1) (c := cap - (xs.length - 1)) (ty := 0) (by decide) h1 (by
    simp only [List.length_append, hfa, hfb, ho, List.length_drop]
    have : (al x).length = 2 := rfl
    omega)
  have happ : ∀ (A' : Addr) (c' : Nat), (0 < xs.length - (i + 1) → A' = ⟨R, off + (i + 1) * 2, none⟩) → (Builtin.append_ #[25, 25] 25 #[.slice (some ⟨R, off, none⟩) i cap, .slice (some A') (xs.length - (i + 1)) c']).run Try.prog w.drew = .ok (.slice (some ⟨R, off, none⟩) (xs.length - 1) cap) (w.drew.setCells R (off + i * 2) (flatA b)) := by
    intro A' c' hA
    have h := run_append_room_cells (P := Try.prog) w.drew 25 25 62 i0 Try.underlying25 hi0 R off i cap A' (xs.length - (i + 1)) c' (flatA b) (by rw [hs0, hfb]) (fun j u hj => by
        have hjl := (List.getElem?_eq_some_iff.1 hj).1
        rw [hfb] at hjl
        rw [hA (by omega), addr_at]
        show w.cell? _ = _
        rw [blk_cell hb]
        simp only [List.getElem?_toArray]
        rw [List.getElem?_append_right (by omega), List.getElem?_append_left (by simp only [List.length_append, hfa, hfb]; have : (al x).length = 2 := rfl; omega), List.getElem?_append_right (by omega), List.getElem?_append_right (by have : (al x).length = 2 := rfl; omega), hfa, ho]
        have : (al x).length = 2 := rfl
        rw [show off + (i + 1) * 2 + j - off - i * 2 - (al x).length = j by omega]
        exact hj) (flatA_one b) (by omega)
      (fun j hj => by
        have hz : (w.drew).heap[R]? = some (.cells (pre ++ (flatA a ++ (al x ++ flatA b) ++ post)).toArray 62 (0, 0)) := hb
        rw [hs0]
        refine cells_there hz _ ?_
        rw [hfb] at hj
        simp only [List.length_append, hfa, hfb, ho]
        omega)
      (fun j hj => by
        have hz : (w.drew).heap[R]? = some (.cells (pre ++ (flatA a ++ (al x ++ flatA b) ++ post)).toArray 62 (0, 0)) := hb
        exact blk_frozen hz _)
    rw [hs0, show i + (xs.length - (i + 1)) = xs.length - 1 by omega] at h
    exact h
  have hfin : Rw ((w.drew.setCells R (off + i * 2) (flatA b)).setCells R (off + (xs.length - 1) * 2) (Builtin.zeroCells #[.int .i64 0, .int .i64 0] 1).toList) (.slice (some ⟨R, off, none⟩) (xs.length - 1) cap) (xs.eraseIdx i) := by
    refine .inr ⟨R, off, cap, pre, (Builtin.zeroCells #[.int .i64 0, .int .i64 0] 1).toList ++ post, ?_, ?_, ho, ?_, ?_⟩
    · rw [List.length_eraseIdx_of_lt hi]
    · rw [her, flatA_append]
      exact h2
    · rw [List.length_eraseIdx_of_lt hi, List.length_append, hzl]
      omega
    · rw [List.length_eraseIdx_of_lt hi]
      omega
  have HFIN := Lib.hid hfin
  have HG := Lib.hid (show w.grownBy ((w.drew.setCells R (off + i * 2) (flatA b)).setCells R (off + (xs.length - 1) * 2) (Builtin.zeroCells #[.int .i64 0, .int .i64 0] 1).toList) (some R) from ⟨g2.os.trans g1.os, g2.tape.trans g1.tape, g2.output.trans g1.output, Nat.le_trans g1.size g2.size, fun k hk hne => (g2.block k (Nat.lt_of_lt_of_le hk g1.size) hne).trans (g1.block k hk hne)⟩)
  have HAPP := Lib.hid happ
  obtain ⟨W2, hW2⟩ : ∃ W2, w.drew.setCells R (off + i * 2) (flatA b) = W2 := ⟨_, rfl⟩
  obtain ⟨W3, hW3⟩ : ∃ W3, W2.setCells R (off + (xs.length - 1) * 2) (Builtin.zeroCells #[.int .i64 0, .int .i64 0] 1).toList = W3 := ⟨_, rfl⟩
  rw [hW2] at hclr HAPP
  rw [hW2, hW3] at HFIN HG
  rw [hW3] at hclr
  clear hb hz1 hz2 h1 h2 g1 g2 happ hfin hW2 hW3 hfl hxs her hfa hfb hle hzl hi0 hz0 hs0 hb0 ha hbb hx hal hbl
  have hm1 : xs.length - 1 < cap := by omega
  have hm2 : xs.length - 1 + 1 = xs.length := by omega
  have hm3 : xs.length - (xs.length - 1) = 1 := by omega
  by_cases hcap : cap = i + 1
  · have hci : cap - (i + 1) = 0 := by omega
    have q1 : (i : Int) ≤ cap := by omega
    have q2 : 0 ≤ (i : Int) + 1 ∧ (i : Int) + 1 ≤ xs.length := by omega
    have HCAP := Lib.hid hcap
    have hcap2 := eq_true hcap
    clear hcap
    go_enter Try.func25, Try.ntmps25
    go_wp2_with fail
    refine start_ (n := 8) (S := fun _ => True) (ds := []) #[false, false, false, false, false, false, false, false] (by kernel_rfl) rfl rfl trivial (fun hHeld => ?_)
    refine pure_ (i := 0) (N := some 20) (v := ?_) (a' := ?_) #[true, false, false, false, false, false, false, false] rfl rfl (by kernel_rfl) (fun _ _ _ h => h) (Or.inl ⟨by rfl, ?_⟩) ?_ ?_
    rotate_left
    · intro w'
      go_simp
      with_reducible rfl
    rotate_left
    · simp only [Act.put, List.setIfInBounds_toArray, List.set_cons_zero, List.set_cons_succ, i64_w, i32_w]
      try rfl
    refine pure_ (i := 1) (N := some 21) (v := ?_) (a' := ?_) #[true, true, false, false, false, false, false, false] rfl rfl (by kernel_rfl) (fun _ _ _ h => h) (Or.inl ⟨by rfl, ?_⟩) ?_ ?_
    rotate_left
    · intro w'
      go_simp
      with_reducible rfl
    rotate_left
    · simp only [Act.put, List.setIfInBounds_toArray, List.set_cons_zero, List.set_cons_succ, i64_w, i32_w]
      try rfl
    refine pure_ (i := 2) (N := some 22) (v := ?_) (a' := ?_) #[true, true, true, false, false, false, false, false] rfl rfl (by kernel_rfl) (fun _ _ _ h => h) (Or.inl ⟨by rfl, ?_⟩) ?_ ?_
    rotate_left
    · intro w'
      go_simp
      with_reducible rfl
    rotate_left
    · simp only [Act.put, List.setIfInBounds_toArray, List.set_cons_zero, List.set_cons_succ, i64_w, i32_w]
      try rfl
    refine pure_ (i := 3) (N := some 23) (v := ?_) (a' := ?_) #[true, true, true, true, false, false, false, false] rfl rfl (by kernel_rfl) (fun _ _ _ h => h) (Or.inl ⟨by rfl, ?_⟩) ?_ ?_
    rotate_left
    · intro w'
      go_simp
      with_reducible rfl
    rotate_left
    · simp only [Act.put, List.setIfInBounds_toArray, List.set_cons_zero, List.set_cons_succ, i64_w, i32_w]
      try rfl
    refine pure_ (i := 4) (N := some 24) (v := ?_) (a' := ?_) #[true, true, true, true, true, false, false, false] rfl rfl (by kernel_rfl) (fun _ _ _ h => h) (Or.inl ⟨by rfl, ?_⟩) ?_ ?_
    rotate_left
    · intro w'
      go_simp
      with_reducible rfl
    rotate_left
    · simp only [Act.put, List.setIfInBounds_toArray, List.set_cons_zero, List.set_cons_succ, i64_w, i32_w]
      try rfl
    refine pure_ (i := 5) (N := some 25) (v := ?_) (a' := ?_) #[true, true, true, true, true, true, false, false] rfl rfl (by kernel_rfl) (fun _ _ _ h => h) (Or.inl ⟨by rfl, ?_⟩) ?_ ?_
    rotate_left
    · intro w'
      go_simp
      with_reducible rfl
    rotate_left
    · simp only [Act.put, List.setIfInBounds_toArray, List.set_cons_zero, List.set_cons_succ, i64_w, i32_w]
      try rfl
    have happ := HAPP.out ⟨R, off, none⟩ (0) (fun h => absurd h (by have := HCAP.out; omega))
    refine one_ (i := 6) (N := some 26) #[true, true, true, true, true, true, true, false] rfl rfl (by kernel_rfl) (by decide) (fun K hK => ?_)
    refine step_append2 (by rfl) (.tmp 22) (.tmp 25) 25 25 rfl _ _ rfl rfl _ happ ?_
    refine hK.out _ _ trivial (fun hHeld => ?_)
    clear hK K
    refine norm_ (a' := ?_) ?_ ?_
    rotate_left
    · show Act.put _ (some 26) _ = _
      simp only [Act.put, List.setIfInBounds_toArray, List.set_cons_zero, List.set_cons_succ, i64_w, i32_w]
      try rfl
    refine pure_ (i := 7) (N := some 0) (v := ?_) (a' := ?_) #[true, true, true, true, true, true, true, true] rfl rfl (by kernel_rfl) (fun _ _ _ h => h) (Or.inl ⟨by rfl, ?_⟩) ?_ ?_
    rotate_left
    · intro w'
      go_simp
      with_reducible rfl
    rotate_left
    · simp only [Act.put, List.setIfInBounds_toArray, List.set_cons_zero, List.set_cons_succ, i64_w, i32_w]
      try rfl
    refine done_ (by kernel_rfl) ?_
    clear happ
    go_wp2_with (refine list_clear2 rfl (.tmp 31) 25 rfl _ rfl _ hclr ?_)
    go_ret
    exact ⟨rfl, HFIN.out, HG.out⟩
  · have hci : ¬ cap - (i + 1) = 0 := by omega
    have q1 : (i : Int) ≤ cap := by omega
    have q2 : 0 ≤ (i : Int) + 1 ∧ (i : Int) + 1 ≤ xs.length := by omega
    have HCAP := Lib.hid hcap
    skip
    go_enter Try.func25, Try.ntmps25
    go_wp2_with fail
    refine start_ (n := 8) (S := fun _ => True) (ds := []) #[false, false, false, false, false, false, false, false] (by kernel_rfl) rfl rfl trivial (fun hHeld => ?_)
    refine pure_ (i := 0) (N := some 20) (v := ?_) (a' := ?_) #[true, false, false, false, false, false, false, false] rfl rfl (by kernel_rfl) (fun _ _ _ h => h) (Or.inl ⟨by rfl, ?_⟩) ?_ ?_
    rotate_left
    · intro w'
      go_simp
      with_reducible rfl
    rotate_left
    · simp only [Act.put, List.setIfInBounds_toArray, List.set_cons_zero, List.set_cons_succ, i64_w, i32_w]
      try rfl
    refine pure_ (i := 1) (N := some 21) (v := ?_) (a' := ?_) #[true, true, false, false, false, false, false, false] rfl rfl (by kernel_rfl) (fun _ _ _ h => h) (Or.inl ⟨by rfl, ?_⟩) ?_ ?_
    rotate_left
    · intro w'
      go_simp
      with_reducible rfl
    rotate_left
    · simp only [Act.put, List.setIfInBounds_toArray, List.set_cons_zero, List.set_cons_succ, i64_w, i32_w]
      try rfl
    refine pure_ (i := 2) (N := some 22) (v := ?_) (a' := ?_) #[true, true, true, false, false, false, false, false] rfl rfl (by kernel_rfl) (fun _ _ _ h => h) (Or.inl ⟨by rfl, ?_⟩) ?_ ?_
    rotate_left
    · intro w'
      go_simp
      with_reducible rfl
    rotate_left
    · simp only [Act.put, List.setIfInBounds_toArray, List.set_cons_zero, List.set_cons_succ, i64_w, i32_w]
      try rfl
    refine pure_ (i := 3) (N := some 23) (v := ?_) (a' := ?_) #[true, true, true, true, false, false, false, false] rfl rfl (by kernel_rfl) (fun _ _ _ h => h) (Or.inl ⟨by rfl, ?_⟩) ?_ ?_
    rotate_left
    · intro w'
      go_simp
      with_reducible rfl
    rotate_left
    · simp only [Act.put, List.setIfInBounds_toArray, List.set_cons_zero, List.set_cons_succ, i64_w, i32_w]
      try rfl
    refine pure_ (i := 4) (N := some 24) (v := ?_) (a' := ?_) #[true, true, true, true, true, false, false, false] rfl rfl (by kernel_rfl) (fun _ _ _ h => h) (Or.inl ⟨by rfl, ?_⟩) ?_ ?_
    rotate_left
    · intro w'
      go_simp
      with_reducible rfl
    rotate_left
    · simp only [Act.put, List.setIfInBounds_toArray, List.set_cons_zero, List.set_cons_succ, i64_w, i32_w]
      try rfl
    refine pure_ (i := 5) (N := some 25) (v := ?_) (a' := ?_) #[true, true, true, true, true, true, false, false] rfl rfl (by kernel_rfl) (fun _ _ _ h => h) (Or.inl ⟨by rfl, ?_⟩) ?_ ?_
    rotate_left
    · intro w'
      go_simp
      with_reducible rfl
    rotate_left
    · simp only [Act.put, List.setIfInBounds_toArray, List.set_cons_zero, List.set_cons_succ, i64_w, i32_w]
      try rfl
    have happ := HAPP.out ⟨R, off + (i + 1) * 2, none⟩ (cap - (i + 1)) (fun h => rfl)
    refine one_ (i := 6) (N := some 26) #[true, true, true, true, true, true, true, false] rfl rfl (by kernel_rfl) (by decide) (fun K hK => ?_)
    refine step_append2 (by rfl) (.tmp 22) (.tmp 25) 25 25 rfl _ _ rfl rfl _ happ ?_
    refine hK.out _ _ trivial (fun hHeld => ?_)
    clear hK K
    refine norm_ (a' := ?_) ?_ ?_
    rotate_left
    · show Act.put _ (some 26) _ = _
      simp only [Act.put, List.setIfInBounds_toArray, List.set_cons_zero, List.set_cons_succ, i64_w, i32_w]
      try rfl
    refine pure_ (i := 7) (N := some 0) (v := ?_) (a' := ?_) #[true, true, true, true, true, true, true, true] rfl rfl (by kernel_rfl) (fun _ _ _ h => h) (Or.inl ⟨by rfl, ?_⟩) ?_ ?_
    rotate_left
    · intro w'
      go_simp
      with_reducible rfl
    rotate_left
    · simp only [Act.put, List.setIfInBounds_toArray, List.set_cons_zero, List.set_cons_succ, i64_w, i32_w]
      try rfl
    refine done_ (by kernel_rfl) ?_
    clear happ
    go_wp2_with (refine list_clear2 rfl (.tmp 31) 25 rfl _ rfl _ hclr ?_)
    go_ret
    exact ⟨rfl, HFIN.out, HG.out⟩
end
end Go.Proofs.Ytccmelpnmjdclaa.H
