/- slices.Insert of one alarm. -/
import Derived.Test.YtccmelpnmjdclaaSearch
import Derived.Lib.AppendZerosOnto
namespace Go.Proofs.Ytccmelpnmjdclaa.H
open Go.RowKit Go.Proofs.YtccmelpnmjdclaaW.PrintWords Go.Proofs.YtccmelpnmjdclaaW.PrintLast
set_option linter.unusedVariables false
set_option linter.unusedSimpArgs false
theorem ins_end {P A Q X : List Value} (hX : X.length = 2) : (P ++ (A ++ Q)).take (P.length + A.length) ++ X ++ (P ++ (A ++ Q)).drop (P.length + A.length + 2) = P ++ ((A ++ X) ++ Q.drop 2) := by
  rw [← List.append_assoc P A Q, ← List.length_append, List.take_left, ← List.drop_drop, List.drop_left]
  simp
theorem ins_one {P A B Q : List Value} : (P ++ ((A ++ B) ++ Q)).take (P.length + A.length + 2) ++ B ++ (P ++ ((A ++ B) ++ Q)).drop (P.length + A.length + 2 + B.length) = (P ++ A) ++ ((B ++ Q).take 2 ++ (B ++ Q.drop 2)) := by
  have e1 : P ++ ((A ++ B) ++ Q) = (P ++ A) ++ (B ++ Q) := by simp
  rw [e1, ← List.length_append, show (P ++ A).length + 2 + B.length = (P ++ A).length + (B.length + 2) by omega, List.take_length_add_append, List.drop_length_add_append, List.drop_length_add_append]
  simp
theorem ins_two {PA T B Q X : List Value} (hT : T.length = 2) : (PA ++ (T ++ (B ++ Q))).take PA.length ++ X ++ (PA ++ (T ++ (B ++ Q))).drop (PA.length + 2) = PA ++ (X ++ (B ++ Q)) := by
  rw [List.take_left, List.drop_length_add_append, ← hT, List.drop_left]
  simp
theorem ins_fresh {A Z1 Z2 X B : List Value} (hZ : Z1.length = 2 + B.length) (hX : X.length = 2) : ((A ++ Z1 ++ Z2).take A.length ++ X ++ (A ++ Z1 ++ Z2).drop (A.length + 2)).take (A.length + 2) ++ B ++ ((A ++ Z1 ++ Z2).take A.length ++ X ++ (A ++ Z1 ++ Z2).drop (A.length + 2)).drop (A.length + 2 + B.length) = A ++ (X ++ B) ++ Z2 := by
  rw [List.append_assoc A Z1 Z2, List.take_left, List.drop_length_add_append, ← hX, ← List.length_append, List.take_left, List.drop_length_add_append, hX, List.drop_drop, ← hZ, List.drop_left]
  simp
theorem ov31 {w : World} {vb R : Nat} {a b : Array Value} (hv : w.heap[vb]? = some (.cells a 62 (0, 0))) (hb : w.heap[R]? = some (.cells b 62 (0, 0))) (hne : vb ≠ R) (hsz : b.size ≠ 0) (off lb cb : Nat) :
    (callFunc 31 #[.slice (some ⟨vb, 0, none⟩) 1 1, .slice (some ⟨R, off, none⟩) lb cb]).run Try.prog w = .ok (.value (.bool false)) w := by
  have hz : ∀ w, (Go.sizeOf 62).run Try.prog w = .ok 2 w := fun w => by
    obtain ⟨i, hi, hz, hs, _⟩ := info_parts info62
    simp [sizeOf, typeInfo, hi, hs]
  have hs1 : w.shape? vb = some (62, a.size) := by simp [World.shape?, hv]
  have hs2 : w.shape? R = some (62, b.size) := by simp [World.shape?, hb]
  rw [run_callFunc_extern Try.func31 (by kernel_rfl) (by kernel_rfl) (by kernel_rfl) (e := Extern.SlicesOverlaps.overlaps #[25, 25] #[4]) (by kernel_rfl),
    Lib.run_overlaps_apart w 25 4 62 Try.underlying25 2 hz ⟨vb, 0, none⟩ ⟨R, off, none⟩ 1 1 lb cb hne 62 62 _ _ hs1 hs2 hsz (blk_frozen hv 0) (blk_frozen hv _)]
  rfl
section
variable {w : World} {R off cap vb : Nat} {pre post : List Value} {xs : List A.S62} {x : A.S62}
theorem xcells (hv : w.heap[vb]? = some (.cells #[.int .i64 x.f0, .int .i64 x.f1] 62 (0, 0))) : ∀ j u, (al x)[j]? = some u → w.cell? ((⟨vb, 0, none⟩ : Addr).add j) = some u := by
  intro j u hj
  have hlt : j < 2 := (List.getElem?_eq_some_iff.1 hj).1
  rw [addr_at, Nat.zero_add, blk_cell hv]
  obtain rfl | rfl : j = 0 ∨ j = 1 := by omega
  · exact hj
  · exact hj
theorem al_one : ∀ u ∈ al x, u.oneCell' = true := by
  intro u hu
  simp only [al, List.mem_cons, List.not_mem_nil, or_false] at hu
  rcases hu with rfl | rfl <;> rfl
theorem xsrc (hv : w.heap[vb]? = some (.cells #[.int .i64 x.f0, .int .i64 x.f1] 62 (0, 0))) : Src Try.prog 2 25 (.slice (some ⟨vb, 0, none⟩) 1 1) 1 (al x) w :=
  Src.ofSlice w Try.underlying25 ⟨vb, 0, none⟩ 1 1 (al x) rfl (xcells hv) al_one
theorem xs_cells (hb : w.heap[R]? = some (.cells (pre ++ (flatA xs ++ post)).toArray 62 (0, 0))) (ho : pre.length = off) : ∀ j u, (flatA xs)[j]? = some u → w.cell? ⟨R, off + j, none⟩ = some u := by
  intro j u hj
  have hlt := (List.getElem?_eq_some_iff.1 hj).1
  rw [blk_cell hb]
  simp only [List.getElem?_toArray]
  rw [List.getElem?_append_right (by omega), show off + j - pre.length = j by omega, List.getElem?_append_left hlt]
  exact hj
set_option maxHeartbeats 2000000 in
set_option maxRecDepth 100000 in
/-- At the end, with room. -/
theorem insert_a (hb : w.heap[R]? = some (.cells (pre ++ (flatA xs ++ post)).toArray 62 (0, 0))) (ho : pre.length = off) (hp : (cap - xs.length) * 2 ≤ post.length) (hc : xs.length + 1 ≤ cap) (hl : xs.length ≤ 64) (hv : w.heap[vb]? = some (.cells #[.int .i64 x.f0, .int .i64 x.f1] 62 (0, 0))) :
    Calls Try.prog 24 #[.slice (some ⟨R, off, none⟩) xs.length cap, .int .i64 xs.length, .slice (some ⟨vb, 0, none⟩) 1 1] w fun e w' => e = .returned (.slice (some ⟨R, off, none⟩) (xs.length + 1) cap) ∧ Rw w' (.slice (some ⟨R, off, none⟩) (xs.length + 1) cap) (xs ++ [x]) ∧ w.grownBy w' (some R) := by
  obtain ⟨i0, hi0, hz0, hs0, hb0⟩ := info_parts info62
  have hfx := flatA_length xs
  have hx2 : (al x).length = 2 := rfl
  obtain ⟨h1, g1⟩ := put_cells hb (off + xs.length * 2) (al x) (by simp only [List.length_append, hfx, hx2, ho]; omega)
  have hz := ins_end (P := pre) (A := flatA xs) (Q := post) (X := al x) rfl
  rw [ho, hfx] at hz
  rw [hx2, hz] at h1
  have happ : ∀ ty, (Builtin.append_ #[25, 25] ty #[.slice (some ⟨R, off, none⟩) xs.length cap, .slice (some ⟨vb, 0, none⟩) 1 1]).run Try.prog w = .ok (.slice (some ⟨R, off, none⟩) (xs.length + 1) cap) (w.setCells R (off + xs.length * 2) (al x)) := fun ty => by
    have h := run_append_room_cells (P := Try.prog) w 25 ty 62 i0 Try.underlying25 hi0 R off xs.length cap ⟨vb, 0, none⟩ 1 1 (al x) (by rw [hs0]; rfl) (xcells hv) al_one hc
      (fun j hj => by
        rw [hs0]
        refine cells_there hb _ ?_
        rw [hx2] at hj
        simp only [List.length_append, hfx, ho]
        omega)
      (fun j hj => blk_frozen hb _)
    rw [hs0] at h
    exact h
  have HFIN := Lib.hid (show Rw (w.setCells R (off + xs.length * 2) (al x)) (.slice (some ⟨R, off, none⟩) (xs.length + 1) cap) (xs ++ [x]) from .inr ⟨R, off, cap, pre, post.drop 2, by simp, by rw [flatA_append]; exact h1, ho, by simp only [List.length_append, List.length_cons, List.length_nil, List.length_drop]; omega, by simp only [List.length_append, List.length_cons, List.length_nil]; omega⟩)
  have HG := Lib.hid g1
  have HAPP := Lib.hid happ
  obtain ⟨W2, hW2⟩ : ∃ W2, w.setCells R (off + xs.length * 2) (al x) = W2 := ⟨_, rfl⟩
  rw [hW2] at HAPP HFIN HG
  clear hb hz h1 g1 happ hW2 hi0 hz0 hs0 hb0 hfx hx2 hv
  have q1 : (xs.length : Int) ≤ cap := by omega
  have q2 : ¬ cap - xs.length = 0 := by omega
  have q3 : ¬ cap = xs.length := by omega
  go_enter Try.func24, Try.ntmps24
  go_wp2_with (refine list_append2 rfl (.tmp 23) (.tmp 24) 25 25 rfl _ _ rfl rfl _ (HAPP.out _) ?_)
  go_ret
  exact ⟨rfl, HFIN.out, HG.out⟩
/-- A row made anew. -/
theorem rw_new {W0 : World} {ys : List A.S62} {m G : Nat} (hm : ys.length = m) (hG : m ≤ G) {Z : List Value} (hZ : Z.length = (G - m) * 2) {N : Nat} (h : W0.heap[N]? = some (.cells (flatA ys ++ Z).toArray 62 (0, 0))) : Rw W0 (.slice (some ⟨N, 0, none⟩) m G) ys :=
  .inr ⟨N, 0, G, [], Z, by rw [hm], h, rfl, by rw [hm, hZ]; exact Nat.le_refl _, by omega⟩
theorem zeros62 (n : Nat) : (Builtin.zeroCells #[.int .i64 0, .int .i64 0] n).toList.length = n * 2 := by simp [Builtin.zeroCells]
set_option maxHeartbeats 2000000 in
set_option maxRecDepth 100000 in
/-- At the end, without room. -/
theorem insert_b {A0 : Option Addr} (hC : ∀ j u, (flatA xs)[j]? = some u → ∃ ad, A0 = some ad ∧ w.cell? (ad.add j) = some u) (hnil : A0 = none → xs = []) (hsp : ∀ ad, A0 = some ad → ad = ⟨ad.block, ad.off, none⟩) (hc : cap = xs.length) (hl : xs.length ≤ 64) (hv : w.heap[vb]? = some (.cells #[.int .i64 x.f0, .int .i64 x.f1] 62 (0, 0))) :
    Calls Try.prog 24 #[.slice A0 xs.length cap, .int .i64 xs.length, .slice (some ⟨vb, 0, none⟩) 1 1] w fun e w' => ∃ G, e = .returned (.slice (some ⟨w.heap.size, 0, none⟩) (xs.length + 1) G) ∧ Rw w' (.slice (some ⟨w.heap.size, 0, none⟩) (xs.length + 1) G) (xs ++ [x]) ∧ Below w.heap.size w w' := by
  obtain ⟨i0, hi0, hz0, hs0, hb0⟩ := info_parts info62
  have hfx := flatA_length xs
  have hold : (Builtin.firstCells i0.size xs.length (.slice A0 xs.length cap)).run Try.prog w.drew = .ok (flatA xs).toArray w.drew := by
    rw [hs0]
    cases A0 with
    | none =>
      rw [hnil rfl]
      exact run_firstCells_none w.drew 2 0 0 cap
    | some ad => exact run_firstCells_some w.drew 2 xs.length ad xs.length cap (flatA xs) hfx (fun j u hj => by
        obtain ⟨ad', e, h⟩ := hC j u hj
        obtain rfl : ad = ad' := by simpa using e
        exact h)
  have hsrc : Src Try.prog i0.size 25 (.slice (some ⟨vb, 0, none⟩) 1 1) 1 (al x) w := by rw [hs0]; exact xsrc hv
  have hrun : ∀ ty, (Builtin.append_ #[25, 25] ty #[.slice A0 xs.length cap, .slice (some ⟨vb, 0, none⟩) 1 1]).run Try.prog w = _ := fun ty =>
    run_append_grow_src w 25 25 ty 62 i0 _ Try.underlying25 hi0 hz0 A0 xs.length cap (flatA xs) hold _ 1 (al x) hsrc (by omega) (by omega) (by rw [hb0]; exact growslice_fits (by omega) (by omega))
  have hge := grownCap_ge w (xs.length + 1) cap 62
  obtain ⟨G, hG⟩ : ∃ G, grownCap w (xs.length + 1) cap 62 = G := ⟨_, rfl⟩
  rw [hG] at hrun hge
  have HR := Lib.hid hrun
  have hnw := heap_alloc_new w.drew (.cells ((flatA xs ++ al x).toArray ++ Builtin.zeroCells (Value.agg #[.int .i64 0, .int .i64 0]).cells (G - (xs.length + 1))) 62)
  have HFIN := Lib.hid (show Rw (w.drew.alloc (.cells ((flatA xs ++ al x).toArray ++ Builtin.zeroCells (Value.agg #[.int .i64 0, .int .i64 0]).cells (G - (xs.length + 1))) 62)) (.slice (some ⟨w.heap.size, 0, none⟩) (xs.length + 1) G) (xs ++ [x]) from rw_new (by simp) hge (zeros62 _) (by
    rw [flatA_append]
    refine hnw.trans ?_
    congr 2
    apply Array.ext'
    simp [Value.cells, flatA, al]))
  have HB := Lib.hid (show Below w.heap.size w (w.drew.alloc (.cells ((flatA xs ++ al x).toArray ++ Builtin.zeroCells (Value.agg #[.int .i64 0, .int .i64 0]).cells (G - (xs.length + 1))) 62)) from below_alloc (below_drew (Below.refl _ _)) _)
  clear hrun hnw hsrc hold hC hi0 hz0 hs0 hb0 hfx hv hge hG
  have q1 : (xs.length : Int) ≤ cap := by omega
  have q2 : cap - xs.length = 0 := by omega
  go_enter Try.func24, Try.ntmps24
  cases A0 with
  | none =>
    have hx := hnil rfl
    subst hx
    go_wp2_with (refine list_append2 rfl (.tmp 23) (.tmp 24) 25 25 rfl _ _ rfl rfl _ (HR.out _) ?_)
    go_ret
    exact ⟨_, rfl, HFIN.out, HB.out⟩
  | some ad =>
    have hs := hsp ad rfl
    obtain ⟨a1, a2, a3⟩ := ad
    have ha3 : a3 = none := by simpa using hs
    subst ha3
    have hcx := eq_true hc
    clear hs hsp hnil hc
    go_wp2_with (refine list_append2 rfl (.tmp 23) (.tmp 24) 25 25 rfl _ _ rfl rfl _ (HR.out _) ?_)
    go_ret
    exact ⟨_, rfl, HFIN.out, HB.out⟩
end
end Go.Proofs.Ytccmelpnmjdclaa.H
