/- slices.Insert of one alarm, within, into a new row; of all ways. -/
import Derived.Test.YtccmelpnmjdclaaInsD
namespace Go.Proofs.Ytccmelpnmjdclaa.H
open Go.RowKit Go.Proofs.YtccmelpnmjdclaaW.PrintWords Go.Proofs.YtccmelpnmjdclaaW.PrintLast
set_option linter.unusedVariables false
set_option linter.unusedSimpArgs false
section
variable {w : World} {R off cap vb : Nat} {pre post : List Value} {xs : List A.S62} {x : A.S62}
set_option maxHeartbeats 2000000 in
set_option maxRecDepth 100000 in
/-- Within, without room. -/
theorem insert_c (hb : w.heap[R]? = some (.cells (pre ++ (flatA xs ++ post)).toArray 62 (0, 0))) (ho : pre.length = off) (hc : cap = xs.length) (hl : xs.length ≤ 64) (hv : w.heap[vb]? = some (.cells #[.int .i64 x.f0, .int .i64 x.f1] 62 (0, 0))) (i : Nat) (hi : i < xs.length) :
    Calls Try.prog 24 #[.slice (some ⟨R, off, none⟩) xs.length cap, .int .i64 i, .slice (some ⟨vb, 0, none⟩) 1 1] w fun e w' => ∃ G, e = .returned (.slice (some ⟨w.heap.size, 0, none⟩) (xs.length + 1) G) ∧ Rw w' (.slice (some ⟨w.heap.size, 0, none⟩) (xs.length + 1) G) (xs.take i ++ x :: xs.drop i) ∧ Below w.heap.size w w' := by
  obtain ⟨i0, hi0, hz0, hs0, hb0⟩ := info_parts info62
  obtain ⟨a, ha⟩ : ∃ a, xs.take i = a := ⟨_, rfl⟩
  obtain ⟨b, hbb⟩ : ∃ b, xs.drop i = b := ⟨_, rfl⟩
  have hxs : xs = a ++ b := by rw [← ha, ← hbb, List.take_append_drop]
  have hal : a.length = i := by rw [← ha, List.length_take]; omega
  have hbl : b.length = xs.length - i := by rw [← hbb, List.length_drop]
  have hfl : flatA xs = flatA a ++ flatA b := by rw [hxs, flatA_append]
  have hfa : (flatA a).length = i * 2 := by rw [flatA_length, hal]
  have hfb : (flatA b).length = (xs.length - i) * 2 := by rw [flatA_length, hbl]
  have hx2 : (al x).length = 2 := rfl
  rw [ha, hbb]
  have hcs := xs_cells hb ho
  rw [hfl] at hcs
  have hold : (Builtin.firstCells i0.size i (.slice (some ⟨R, off, none⟩) i cap)).run Try.prog w.drew = .ok (flatA a).toArray w.drew := by
    rw [hs0]
    exact run_firstCells_some w.drew 2 i ⟨R, off, none⟩ i cap (flatA a) hfa (fun j u hj => by
      rw [addr_at]
      exact hcs j u (by rw [List.getElem?_append_left (List.getElem?_eq_some_iff.1 hj).1]; exact hj))
  have hik : i + (xs.length + 1 - i) = xs.length + 1 := by omega
  have hkk : (xs.length : Int) + 1 - (i : Int) = ((xs.length + 1 - i : Nat) : Int) := by omega
  have hge := grownCap_ge w (xs.length + 1) cap 62
  have hrz : ∀ ty, (Builtin.append_ #[25, 3] ty #[.slice (some ⟨R, off, none⟩) i cap, .int .i64 ((xs.length : Int) + 1 - (i : Int))]).run Try.prog w = .ok (.slice (some ⟨w.heap.size, 0, none⟩) (xs.length + 1) (grownCap w (xs.length + 1) cap 62)) (w.drew.alloc (.cells ((flatA a).toArray ++ Builtin.zeroCells (Value.agg #[.int .i64 0, .int .i64 0]).cells (xs.length + 1 - i) ++ Builtin.zeroCells (Value.agg #[.int .i64 0, .int .i64 0]).cells (grownCap w (xs.length + 1) cap 62 - (xs.length + 1))) 62)) := fun ty => by
    have h := Lib.run_append_grow_zeros w 25 3 ty 62 i0 _ .i64 .i64 Try.underlying25 Try.underlying3 hi0 hz0 (some ⟨R, off, none⟩) i cap (flatA a) hold (xs.length + 1 - i) (by omega) (by omega) (by omega) (by omega) (by rw [hb0]; omega) (by rw [hb0, hik]; exact growslice_fits (by omega) (by omega))
    rw [hik] at h
    rw [hkk]
    exact h
  obtain ⟨G, hG⟩ : ∃ G, grownCap w (xs.length + 1) cap 62 = G := ⟨_, rfl⟩
  rw [hG] at hrz hge
  obtain ⟨Z1, hZ1⟩ : ∃ Z1, (Builtin.zeroCells (Value.agg #[.int .i64 0, .int .i64 0]).cells (xs.length + 1 - i)).toList = Z1 := ⟨_, rfl⟩
  obtain ⟨Z2, hZ2⟩ : ∃ Z2, (Builtin.zeroCells (Value.agg #[.int .i64 0, .int .i64 0]).cells (G - (xs.length + 1))).toList = Z2 := ⟨_, rfl⟩
  have hZ1l : Z1.length = 2 + (flatA b).length := by rw [← hZ1, hfb]; exact (zeros62 _).trans (by omega)
  have hZ2l : Z2.length = (G - (xs.length + 1)) * 2 := by rw [← hZ2]; exact zeros62 _
  have hrow : (flatA a).toArray ++ Builtin.zeroCells (Value.agg #[.int .i64 0, .int .i64 0]).cells (xs.length + 1 - i) ++ Builtin.zeroCells (Value.agg #[.int .i64 0, .int .i64 0]).cells (G - (xs.length + 1)) = (flatA a ++ Z1 ++ Z2).toArray := by
    apply Array.ext'
    rw [← hZ1, ← hZ2]
    simp
  have hrz2 : ∀ ty, (Builtin.append_ #[25, 3] ty #[.slice (some ⟨R, off, none⟩) i cap, .int .i64 ((xs.length : Int) + 1 - (i : Int))]).run Try.prog w = .ok (.slice (some ⟨w.heap.size, 0, none⟩) (xs.length + 1) G) (w.drew.alloc (.cells (flatA a ++ Z1 ++ Z2).toArray 62)) := fun ty => by
    rw [← hrow]
    exact hrz ty
  have hn0 := heap_alloc_new w.drew (.cells (flatA a ++ Z1 ++ Z2).toArray 62)
  have hB0 : Below w.heap.size w (w.drew.alloc (.cells (flatA a ++ Z1 ++ Z2).toArray 62)) := below_alloc (below_drew (Below.refl _ _)) _
  obtain ⟨W1, hW1⟩ : ∃ W1, w.drew.alloc (.cells (flatA a ++ Z1 ++ Z2).toArray 62) = W1 := ⟨_, rfl⟩
  rw [hW1] at hrz2 hn0 hB0
  have hn : W1.heap[w.heap.size]? = some (.cells (flatA a ++ Z1 ++ Z2).toArray 62 (0, 0)) := hn0
  obtain ⟨h1, g1⟩ := put_cells hn (i * 2) (al x) (by simp only [List.length_append, hfa, hx2, hZ1l]; omega)
  have hB1 := hB0.grown g1 hB0.size (fun k hk => by cases hk; exact Nat.le_refl _)
  have hv1 := blk_below hv hB0
  have hcp1 : ∀ ty dl dc, 0 < dl → (Builtin.copy_ #[25, 25] ty #[.slice (some ⟨w.heap.size, i * 2, none⟩) dl dc, .slice (some ⟨vb, 0, none⟩) 1 1]).run Try.prog W1 = .ok (goInt 1) (W1.setCells w.heap.size (i * 2) (al x)) := fun ty dl dc hdl =>
    run_copy2 (n := 1) (R := w.heap.size) (o := i * 2) (cs := al x) (a := ⟨vb, 0, none⟩) (by simp only [Nat.min_def]; split <;> omega) hx2 (xcells hv1) hn (by simp only [List.length_append, hfa, hx2, hZ1l]; omega) al_one
  obtain ⟨W2, hW2⟩ : ∃ W2, W1.setCells w.heap.size (i * 2) (al x) = W2 := ⟨_, rfl⟩
  rw [hW2] at hcp1 hB1 h1 g1
  have hlen2 : (List.take (i * 2) (flatA a ++ Z1 ++ Z2) ++ al x ++ List.drop (i * 2 + (al x).length) (flatA a ++ Z1 ++ Z2)).length = i * 2 + 2 + (flatA b).length + Z2.length := by
    simp only [List.length_append, List.length_take, List.length_drop, hfa, hx2, hZ1l]
    omega
  obtain ⟨h2, g2⟩ := put_cells (W := W2.drew) h1 ((i + 1) * 2) (flatA b) (by rw [hlen2]; omega)
  have hB2 := (below_drew hB1).grown g2 hB1.size (fun k hk => by cases hk; exact Nat.le_refl _)
  have hz := ins_fresh (A := flatA a) (Z1 := Z1) (Z2 := Z2) (X := al x) (B := flatA b) hZ1l rfl
  rw [hfa, show i * 2 + 2 = (i + 1) * 2 by omega] at hz
  rw [hx2, show i * 2 + 2 = (i + 1) * 2 by omega, hz] at h2
  have hcp2 : ∀ ty dl dc sl sc, Nat.min sl dl = xs.length - i → (Builtin.copy_ #[25, 25] ty #[.slice (some ⟨w.heap.size, (i + 1) * 2, none⟩) dl dc, .slice (some ⟨R, off + i * 2, none⟩) sl sc]).run Try.prog W2.drew = .ok (goInt ((xs.length - i : Nat) : Int)) (W2.drew.setCells w.heap.size ((i + 1) * 2) (flatA b)) := fun ty dl dc sl sc hn' =>
    run_copy2 (R := w.heap.size) (o := (i + 1) * 2) (cs := flatA b) (a := ⟨R, off + i * 2, none⟩) hn'.symm (by rw [hfb]) (fun j u hj => by
      have hjl := (List.getElem?_eq_some_iff.1 hj).1
      rw [addr_at]
      show W2.cell? _ = _
      refine pw_cell_below hB1 ?_
      rw [Nat.add_assoc]
      refine hcs (i * 2 + j) u ?_
      rw [List.getElem?_append_right (by omega), hfa, show i * 2 + j - i * 2 = j by omega]
      exact hj) (W := W2.drew) h1 (by rw [hlen2]; omega) (flatA_one b)
  have HFIN := Lib.hid (show Rw (W2.drew.setCells w.heap.size ((i + 1) * 2) (flatA b)) (.slice (some ⟨w.heap.size, 0, none⟩) (xs.length + 1) G) (a ++ x :: b) from rw_new (by rw [List.length_append, List.length_cons, hal, hbl]; omega) hge hZ2l (by
    rw [flatA_append, show flatA (x :: b) = al x ++ flatA b from rfl]
    exact h2))
  have HB := Lib.hid hB2
  have HRZ := Lib.hid hrz2
  have HCP1 := Lib.hid hcp1
  have HCP2 := Lib.hid hcp2
  obtain ⟨W3, hW3⟩ : ∃ W3, W2.drew.setCells w.heap.size ((i + 1) * 2) (flatA b) = W3 := ⟨_, rfl⟩
  rw [hW3] at HCP2 HFIN HB
  have HI := Lib.hid hi
  have hc2 : xs.length < cap + 1 := by omega
  have hG1 : ¬ G = i := by omega
  have hG2 : ¬ G - i = 0 := by omega
  have hG3 : ¬ G = i + 1 := by omega
  have hG4 : ¬ G - (i + 1) = 0 := by omega
  clear hb hz h1 h2 g1 g2 hcp1 hcp2 hW1 hW2 hW3 hfl hxs hfa hfb hx2 ha hbb hal hbl hv hv1 hrz hrz2 hrow hZ1 hZ2 hZ1l hZ2l hn hn0 hB0 hB1 hB2 hlen2 hcs hold hik hkk hi0 hz0 hs0 hb0 hG hge
  have hz4 : ¬ ((i : Int) = (xs.length : Int)) := by omega
  have hz5 : ((i : Int) == (xs.length : Int)) = false := beq_eq_false_iff_ne.2 hz4
  have hz3 : ((cap : Int) < (xs.length : Int) + 1) := by omega
  have hw1 : wrap64 ((i : Int) + 1) = (i : Int) + 1 := by unfold wrap64; omega
  have hw2 : wrap64 ((xs.length : Int) + 1) = (xs.length : Int) + 1 := by unfold wrap64; omega
  have hw3 : wrap64 ((xs.length : Int) + 1 - (i : Int)) = (xs.length : Int) + 1 - (i : Int) := by unfold wrap64; omega
  have q1 : (i : Int) ≤ cap := by omega
  have q1b : (i : Int) ≤ (xs.length : Int) := by omega
  have q4 : (i : Int) ≤ (xs.length : Int) + 1 := by omega
  have q2 : ¬ cap - i = 0 := by omega
  have q3 : ¬ cap = i := by omega
  have q7 : 0 ≤ (i : Int) + 1 ∧ (i : Int) + 1 ≤ (xs.length : Int) + 1 := by omega
  have q9 : i ≤ xs.length := by omega
  have q10 : ((i : Int) + 1).toNat = i + 1 := by omega
  have hcx := eq_true hc
  clear hc
  go_enter Try.func24, Try.ntmps24
  go_wp2_with (first
    | (at_builtin; refine list_append2 rfl (.tmp 34) (.tmp 39) 25 3 rfl _ _ rfl rfl _ (HRZ.out _) ?_)
    | (refine list_copy2 rfl (.tmp 43) (.tmp 44) 25 25 rfl _ _ rfl rfl _ (HCP1.out _ _ _ (by have := HI.out; omega)) ?_))
  refine start_ (n := 9) (S := fun _ => True) (ds := []) #[false, false, false, false, false, false, false, false, false] (by kernel_rfl) rfl rfl trivial (fun hHeld => ?_)
  refine pure_ (i := 0) (N := some 46) (v := ?_) (a' := ?_) #[true, false, false, false, false, false, false, false, false] rfl rfl (by kernel_rfl) (fun _ _ _ h => h) (Or.inl ⟨by rfl, ?_⟩) ?_ ?_
  rotate_left
  · intro w'
    go_simp
    with_reducible rfl
  rotate_left
  · simp only [Act.put, List.setIfInBounds_toArray, List.set_cons_zero, List.set_cons_succ, i64_w, i32_w]
    try rfl
  refine pure_ (i := 1) (N := some 47) (v := ?_) (a' := ?_) #[true, true, false, false, false, false, false, false, false] rfl rfl (by kernel_rfl) (fun _ _ _ h => h) (Or.inl ⟨by rfl, ?_⟩) ?_ ?_
  rotate_left
  · intro w'
    go_simp
    with_reducible rfl
  rotate_left
  · simp only [Act.put, List.setIfInBounds_toArray, List.set_cons_zero, List.set_cons_succ, i64_w, i32_w]
    try rfl
  refine pure_ (i := 2) (N := some 48) (v := ?_) (a' := ?_) #[true, true, true, false, false, false, false, false, false] rfl rfl (by kernel_rfl) (fun _ _ _ h => h) (Or.inl ⟨by rfl, ?_⟩) ?_ ?_
  rotate_left
  · intro w'
    go_simp
    with_reducible rfl
  rotate_left
  · simp only [Act.put, List.setIfInBounds_toArray, List.set_cons_zero, List.set_cons_succ, i64_w, i32_w]
    try rfl
  refine pure_ (i := 3) (N := some 49) (v := ?_) (a' := ?_) #[true, true, true, true, false, false, false, false, false] rfl rfl (by kernel_rfl) (fun _ _ _ h => h) (Or.inl ⟨by rfl, ?_⟩) ?_ ?_
  rotate_left
  · intro w'
    go_simp
    with_reducible rfl
  rotate_left
  · simp only [Act.put, List.setIfInBounds_toArray, List.set_cons_zero, List.set_cons_succ, i64_w, i32_w]
    try rfl
  refine pure_ (i := 4) (N := some 50) (v := ?_) (a' := ?_) #[true, true, true, true, true, false, false, false, false] rfl rfl (by kernel_rfl) (fun _ _ _ h => h) (Or.inl ⟨by rfl, ?_⟩) ?_ ?_
  rotate_left
  · intro w'
    go_simp
    with_reducible rfl
  rotate_left
  · simp only [Act.put, List.setIfInBounds_toArray, List.set_cons_zero, List.set_cons_succ, i64_w, i32_w]
    try rfl
  refine pure_ (i := 5) (N := some 51) (v := ?_) (a' := ?_) #[true, true, true, true, true, true, false, false, false] rfl rfl (by kernel_rfl) (fun _ _ _ h => h) (Or.inl ⟨by rfl, ?_⟩) ?_ ?_
  rotate_left
  · intro w'
    go_simp
    with_reducible rfl
  rotate_left
  · simp only [Act.put, List.setIfInBounds_toArray, List.set_cons_zero, List.set_cons_succ, i64_w, i32_w]
    try rfl
  refine pure_ (i := 6) (N := some 52) (v := ?_) (a' := ?_) #[true, true, true, true, true, true, true, false, false] rfl rfl (by kernel_rfl) (fun _ _ _ h => h) (Or.inl ⟨by rfl, ?_⟩) ?_ ?_
  rotate_left
  · intro w'
    go_simp
    with_reducible rfl
  rotate_left
  · simp only [Act.put, List.setIfInBounds_toArray, List.set_cons_zero, List.set_cons_succ, i64_w, i32_w]
    try rfl
  refine pure_ (i := 7) (N := some 53) (v := ?_) (a' := ?_) #[true, true, true, true, true, true, true, true, false] rfl rfl (by kernel_rfl) (fun _ _ _ h => h) (Or.inl ⟨by rfl, ?_⟩) ?_ ?_
  rotate_left
  · intro w'
    go_simp
    with_reducible rfl
  rotate_left
  · simp only [Act.put, List.setIfInBounds_toArray, List.set_cons_zero, List.set_cons_succ, i64_w, i32_w]
    try rfl
  refine one_ (i := 8) (N := some 54) #[true, true, true, true, true, true, true, true, true] rfl rfl (by kernel_rfl) (by decide) (fun K hK => ?_)
  refine step_copy2 (by rfl) (.tmp 50) (.tmp 53) 25 25 rfl _ _ rfl rfl _ (HCP2.out _ _ _ _ _ (by have := HI.out; simp only [Nat.min_def]; split <;> omega)) ?_
  refine hK.out _ _ trivial (fun hHeld => ?_)
  clear hK K
  refine norm_ (a' := ?_) ?_ ?_
  rotate_left
  · show Act.put _ (some 54) _ = _
    simp only [Act.put, List.setIfInBounds_toArray, List.set_cons_zero, List.set_cons_succ, i64_w, i32_w]
    try rfl
  refine done_ (by kernel_rfl) ?_
  go_wp2
  go_ret
  exact ⟨_, rfl, HFIN.out, HB.out⟩
end
section
variable {w : World} {v : Value} {vb : Nat} {xs : List A.S62} {x : A.S62}
/-- All ways. -/
theorem insert_p (hr : Rw w v xs) (hl : xs.length ≤ 64) (hv : w.heap[vb]? = some (.cells #[.int .i64 x.f0, .int .i64 x.f1] 62 (0, 0))) (hne : some vb ≠ v.ownBlock) (i : Nat) (hi : i ≤ xs.length) :
    Calls Try.prog 24 #[v, .int .i64 i, .slice (some ⟨vb, 0, none⟩) 1 1] w fun e w' => ∃ v', e = .returned v' ∧ Rw w' v' (xs.take i ++ x :: xs.drop i) ∧ w.grownBy w' v.ownBlock ∧ (v'.ownBlock = v.ownBlock ∨ v'.ownBlock = some w.heap.size) := by
  have hend : i = xs.length → xs.take i ++ x :: xs.drop i = xs ++ [x] := fun h => by rw [h, List.take_length, List.drop_length]
  rcases hr with ⟨rfl, rfl⟩ | ⟨R, off, cap, pre, post, rfl, hb, ho, hp, hc⟩
  · obtain rfl : i = 0 := by simpa using hi
    refine (insert_b (A0 := none) (xs := []) (cap := 0) (x := x) (fun j u hj => by simp [flatA] at hj) (fun _ => rfl) (fun ad h => by simp at h) rfl (by simp) hv).mono ?_
    rintro e w' ⟨G, rfl, h1, h2⟩
    exact ⟨_, rfl, h1, ⟨h2.os, h2.tape, h2.output, h2.size, fun k hk _ => h2.block k hk⟩, .inr rfl⟩
  · by_cases he : i = xs.length
    · rw [hend he]
      subst he
      by_cases hroom : xs.length + 1 ≤ cap
      · refine (insert_a (x := x) hb ho hp hroom hl hv).mono ?_
        rintro e w' ⟨rfl, h1, h2⟩
        exact ⟨_, rfl, h1, h2, .inl rfl⟩
      · refine (insert_b (A0 := some ⟨R, off, none⟩) (x := x) (fun j u hj => ⟨_, rfl, by rw [addr_at]; exact xs_cells hb ho j u hj⟩) (fun h => by simp at h) (fun ad h => by cases h; rfl) (by omega) hl hv).mono ?_
        rintro e w' ⟨G, rfl, h1, h2⟩
        exact ⟨_, rfl, h1, ⟨h2.os, h2.tape, h2.output, h2.size, fun k hk _ => h2.block k hk⟩, .inr rfl⟩
    · by_cases hroom : xs.length + 1 ≤ cap
      · refine (insert_d (x := x) hb ho hp hroom hl hv (fun h => hne (by rw [h]; rfl)) i (by omega)).mono ?_
        rintro e w' ⟨rfl, h1, h2⟩
        exact ⟨_, rfl, h1, h2, .inl rfl⟩
      · refine (insert_c (x := x) hb ho (by omega) hl hv i (by omega)).mono ?_
        rintro e w' ⟨G, rfl, h1, h2⟩
        exact ⟨_, rfl, h1, ⟨h2.os, h2.tape, h2.output, h2.size, fun k hk _ => h2.block k hk⟩, .inr rfl⟩
end
end Go.Proofs.Ytccmelpnmjdclaa.H
