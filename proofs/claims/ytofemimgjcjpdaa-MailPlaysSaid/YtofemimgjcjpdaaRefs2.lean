/- The document's Pour of chapter 3: what it does. -/
import Derived.Test.YtofemimgjcjpdaaRefs
namespace Go.Proofs.Ytofemimgjcjpdaa.H
open Go.Conc Go.RowKit Go.Shelf
open Go.Proofs.YtofemimgjcjpdaaW.PrintWords (ReadsInt below_alloc pw_cell_below below_step)
set_option linter.unusedVariables false
set_option linter.unusedSimpArgs false

/-- What the document's Pour hands back. -/
def RPour (W : World) (k1 k2 : Nat) (xs ys : List Int) (s1 s2 : Bool) (n : Nat) (e : Ending) (w' : World) : Prop :=
  ∃ v1 v2, e = .returned (.tuple #[.agg #[v1, .int .i64 k1, .bool s1], .agg #[v2, .int .i64 k2, .bool s2], .int .i64 n]) ∧ Rd w' v1 (xs.drop n) ∧ Rd w' v2 (ys ++ xs.take n) ∧ Below W.heap.size W w'
/-- Between two rounds. -/
structure PI (W : World) (k1 k2 : Nat) (xs ys : List Int) (s1 s2 : Bool) (k j : Nat) (v1 v2 : Value) (wr : World) : Prop where
  b0 : wr.heap[W.heap.size]? = some (Obj.cells #[v1, .int .i64 k1, .bool s1] 29 (0, 0))
  b1 : wr.heap[W.heap.size + 1]? = some (Obj.cells #[v2, .int .i64 k2, .bool s2] 29 (0, 0))
  b2 : wr.heap[W.heap.size + 1 + 1]? = some (Obj.cells #[.slice none 0 0, .int .i64 0, .bool false] 29 (0, 0))
  b3 : wr.heap[W.heap.size + 1 + 1 + 1]? = some (Obj.cells #[.slice none 0 0, .int .i64 0, .bool false] 29 (0, 0))
  r1 : Rd wr v1 (xs.drop k)
  r2 : Rd wr v2 (ys ++ xs.take j)
  b : Below W.heap.size W wr
theorem PI.later {W wr w' : World} {k1 k2 : Nat} {xs ys : List Int} {s1 s2 : Bool} {k j : Nat} {v1 v2 : Value} (h : PI W k1 k2 xs ys s1 s2 k j v1 v2 wr) (hb : Below wr.heap.size wr w') : PI W k1 k2 xs ys s1 s2 k j v1 v2 w' := by
  have hk : ∀ {i o}, wr.heap[i]? = some o → w'.heap[i]? = some o := fun {i o} h => (hb.block i (Array.getElem?_eq_some_iff.1 h).1).trans h
  exact ⟨hk h.b0, hk h.b1, hk h.b2, hk h.b3, h.r1.stay (Stay.of_below hb), h.r2.stay (Stay.of_below hb), h.b.trans (hb.mono h.b.size)⟩
theorem PI.set0 {W wr : World} {k1 k2 : Nat} {xs ys : List Int} {s1 s2 : Bool} {k j : Nat} {v1 v2 : Value} (h : PI W k1 k2 xs ys s1 s2 k j v1 v2 wr) {u : Value} {i : Nat} (hr : Rd wr u (xs.drop i)) : PI W k1 k2 xs ys s1 s2 i j u v2 (wr.setCell ⟨W.heap.size, 0, none⟩ u) := by
  have hs : Stay wr (wr.setCell ⟨W.heap.size, 0, none⟩ u) := stay_set (no3_of h.b0 (by decide))
  exact ⟨blk_put0 h.b0 0 u, (Below.heap_setCell _ _ _ _ (by simp)).trans h.b1, (Below.heap_setCell _ _ _ _ (by simp; omega)).trans h.b2, (Below.heap_setCell _ _ _ _ (by simp; omega)).trans h.b3, hr.stay hs, h.r2.stay hs, Below.setCell h.b (p := ⟨W.heap.size, 0, none⟩) (Nat.le_refl _) u⟩
theorem PI.set1 {W wr : World} {k1 k2 : Nat} {xs ys : List Int} {s1 s2 : Bool} {k j : Nat} {v1 v2 : Value} (h : PI W k1 k2 xs ys s1 s2 k j v1 v2 wr) {u : Value} {i : Nat} (hr : Rd wr u (ys ++ xs.take i)) :
    PI W k1 k2 xs ys s1 s2 k i v1 u (((wr.setCell ⟨W.heap.size + 1, 0, none⟩ u).setCell ⟨W.heap.size + 1, 1, none⟩ (.int .i64 k2)).setCell ⟨W.heap.size + 1, 2, none⟩ (.bool s2)) := by
  have d1 := blk_put0 h.b1 0 u
  have d2 := blk_put0 d1 1 (.int .i64 k2)
  have d3 := blk_put0 d2 2 (.bool s2)
  have hs := (stay_set (u := u) (no3_of h.b1 (by decide) : ∀ cells fr, wr.heap[(⟨W.heap.size + 1, 0, none⟩ : Addr).block]? ≠ some (Obj.cells cells 3 fr))).trans ((stay_set (u := .int .i64 k2) (no3_of d1 (by decide) : ∀ cells fr, _ ≠ some (Obj.cells cells 3 fr)) (a := ⟨W.heap.size + 1, 1, none⟩)).trans (stay_set (u := .bool s2) (no3_of d2 (by decide) : ∀ cells fr, _ ≠ some (Obj.cells cells 3 fr)) (a := ⟨W.heap.size + 1, 2, none⟩)))
  have ho : ∀ i, i ≠ W.heap.size + 1 → (((wr.setCell ⟨W.heap.size + 1, 0, none⟩ u).setCell ⟨W.heap.size + 1, 1, none⟩ (.int .i64 k2)).setCell ⟨W.heap.size + 1, 2, none⟩ (.bool s2)).heap[i]? = wr.heap[i]? := fun i hi => by
    rw [Below.heap_setCell _ _ _ _ hi, Below.heap_setCell _ _ _ _ hi, Below.heap_setCell _ _ _ _ hi]
  exact ⟨(ho _ (by omega)).trans h.b0, d3, (ho _ (by omega)).trans h.b2, (ho _ (by omega)).trans h.b3, h.r1.stay hs, hr.stay hs, Below.setCell (Below.setCell (Below.setCell h.b (p := ⟨W.heap.size + 1, 0, none⟩) (Nat.le_succ _) u) (p := ⟨W.heap.size + 1, 1, none⟩) (Nat.le_succ _) _) (p := ⟨W.heap.size + 1, 2, none⟩) (Nat.le_succ _) _⟩
theorem Rd.form {W : World} {v : Value} {xs : List Int} (h : Rd W v xs) : ∃ A l c, v = .slice A l c := by
  obtain ⟨A, c, rfl, _⟩ := h
  exact ⟨_, _, _, rfl⟩
/-- A struct of three cells is laid into a block. -/
theorem set3 {w : World} {g : Nat} {a b c : Value} (h : w.heap[g]? = some (Obj.cells #[a, b, c] 29 (0, 0))) (x y z : Value) :
    (((w.setCell ⟨g, 0, none⟩ x).setCell ⟨g, 1, none⟩ y).setCell ⟨g, 2, none⟩ z).heap[g]? = some (Obj.cells #[x, y, z] 29 (0, 0)) ∧ Stay w (((w.setCell ⟨g, 0, none⟩ x).setCell ⟨g, 1, none⟩ y).setCell ⟨g, 2, none⟩ z) ∧
    (∀ i, i ≠ g → (((w.setCell ⟨g, 0, none⟩ x).setCell ⟨g, 1, none⟩ y).setCell ⟨g, 2, none⟩ z).heap[i]? = w.heap[i]?) ∧ ∀ B w0, Below B w0 w → B ≤ g → Below B w0 (((w.setCell ⟨g, 0, none⟩ x).setCell ⟨g, 1, none⟩ y).setCell ⟨g, 2, none⟩ z) := by
  have d1 := blk_put0 h 0 x
  have d2 := blk_put0 d1 1 y
  have d3 := blk_put0 d2 2 z
  have s1 : Stay w (w.setCell ⟨g, 0, none⟩ x) := stay_set (no3_of h (by decide))
  have s2 : Stay (w.setCell ⟨g, 0, none⟩ x) ((w.setCell ⟨g, 0, none⟩ x).setCell ⟨g, 1, none⟩ y) := stay_set (no3_of d1 (by decide))
  have s3 : Stay ((w.setCell ⟨g, 0, none⟩ x).setCell ⟨g, 1, none⟩ y) (((w.setCell ⟨g, 0, none⟩ x).setCell ⟨g, 1, none⟩ y).setCell ⟨g, 2, none⟩ z) := stay_set (no3_of d2 (by decide))
  refine ⟨d3, s1.trans (s2.trans s3), fun i hi => ?_, fun B w0 hb hg => Below.setCell (Below.setCell (Below.setCell hb (p := ⟨g, 0, none⟩) hg x) (p := ⟨g, 1, none⟩) hg y) (p := ⟨g, 2, none⟩) hg z⟩
  rw [Below.heap_setCell _ _ _ _ hi, Below.heap_setCell _ _ _ _ hi, Below.heap_setCell _ _ _ _ hi]
theorem PI.fin {W wr : World} {k1 k2 : Nat} {xs ys : List Int} {s1 s2 : Bool} {k : Nat} {v1 v2 : Value} (h : PI W k1 k2 xs ys s1 s2 k k v1 v2 wr) (wf : World)
    (hf : wf = ((((((wr.setCell ⟨W.heap.size + 1 + 1, 0, none⟩ v1).setCell ⟨W.heap.size + 1 + 1, 1, none⟩ (.int .i64 k1)).setCell ⟨W.heap.size + 1 + 1, 2, none⟩ (.bool s1)).setCell ⟨W.heap.size + 1 + 1 + 1, 0, none⟩ v2).setCell ⟨W.heap.size + 1 + 1 + 1, 1, none⟩ (.int .i64 k2)).setCell ⟨W.heap.size + 1 + 1 + 1, 2, none⟩ (.bool s2)).drew) :
    wf.heap[W.heap.size + 1 + 1]? = some (Obj.cells #[v1, .int .i64 k1, .bool s1] 29 (0, 0)) ∧ wf.heap[W.heap.size + 1 + 1 + 1]? = some (Obj.cells #[v2, .int .i64 k2, .bool s2] 29 (0, 0)) ∧ Rd wf v1 (xs.drop k) ∧ Rd wf v2 (ys ++ xs.take k) ∧ Below W.heap.size W wf := by
  obtain ⟨d1, s1', o1, b1⟩ := set3 h.b2 v1 (.int .i64 k1) (.bool s1)
  generalize (((wr.setCell ⟨W.heap.size + 1 + 1, 0, none⟩ v1).setCell ⟨W.heap.size + 1 + 1, 1, none⟩ (.int .i64 k1)).setCell ⟨W.heap.size + 1 + 1, 2, none⟩ (.bool s1)) = wa at hf d1 s1' o1 b1
  obtain ⟨d2, s2', o2, b2⟩ := set3 ((o1 _ (by omega)).trans h.b3) v2 (.int .i64 k2) (.bool s2)
  generalize (((wa.setCell ⟨W.heap.size + 1 + 1 + 1, 0, none⟩ v2).setCell ⟨W.heap.size + 1 + 1 + 1, 1, none⟩ (.int .i64 k2)).setCell ⟨W.heap.size + 1 + 1 + 1, 2, none⟩ (.bool s2)) = wb at hf d2 s2' o2 b2
  have sd : Stay wb wf := by rw [hf]; exact ⟨Nat.le_refl _, fun _ _ _ _ => rfl⟩
  have hh : wf.heap = wb.heap := by rw [hf]; rfl
  have hbb : Below W.heap.size W wb := b2 _ _ (b1 _ _ h.b (by omega)) (by omega)
  refine ⟨?_, ?_, h.r1.stay (s1'.trans (s2'.trans sd)), h.r2.stay (s1'.trans (s2'.trans sd)), ?_⟩
  · rw [hh]; exact (o2 _ (by omega)).trans d1
  · rw [hh]; exact d2
  · rw [hf]; exact hbb.drew
def PI' (W : World) (k1 k2 : Nat) (xs ys : List Int) (s1 s2 : Bool) (n : Nat) (v : Value) (wr : World) : Prop :=
  ∃ (k : Nat) (v1 v2 : Value), k ≤ n ∧ v = .int .i64 k ∧ PI W k1 k2 xs ys s1 s2 k k v1 v2 wr

set_option maxHeartbeats 4000000 in
set_option maxRecDepth 100000 in
theorem rpour (W : World) (v1 v2 : Value) (k1 k2 : Nat) (xs ys : List Int) (s1 s2 : Bool) (h1 : Rd W v1 xs) (h2 : Rd W v2 ys) (hx : xs.length ≤ 2000) (hy : ys.length ≤ k2) (hk : k2 ≤ 2000) :
    Calls Try.prog 26 #[.agg #[v1, .int .i64 k1, .bool s1], .agg #[v2, .int .i64 k2, .bool s2]] W (RPour W k1 k2 xs ys s1 s2 (pourN xs k2 ys s2)) := by
  have H1 := Lib.hid h1
  have H2 := Lib.hid h2
  clear h1 h2
  obtain ⟨N, hN⟩ : ∃ N, N = pourN xs k2 ys s2 := ⟨_, rfl⟩
  have HN := Lib.hid hN
  rw [← hN]
  clear hN
  go_enter Try.func26, Try.ntmps26
  go_wp2
  have h0 : PI W k1 k2 xs ys s1 s2 0 0 v1 v2 ((((W.alloc (Obj.cells #[v1, .int .i64 k1, .bool s1] 29)).alloc (Obj.cells #[v2, .int .i64 k2, .bool s2] 29)).alloc (Obj.cells #[.slice none 0 0, .int .i64 0, .bool false] 29)).alloc (Obj.cells #[.slice none 0 0, .int .i64 0, .bool false] 29)) := by
    have hb : Below W.heap.size W ((((W.alloc (Obj.cells #[v1, .int .i64 k1, .bool s1] 29)).alloc (Obj.cells #[v2, .int .i64 k2, .bool s2] 29)).alloc (Obj.cells #[.slice none 0 0, .int .i64 0, .bool false] 29)).alloc (Obj.cells #[.slice none 0 0, .int .i64 0, .bool false] 29)) := by repeat (first | exact Below.refl _ _ | refine below_alloc ?_ _)
    have e1 := World.alloc_heap_new (W.alloc (Obj.cells #[v1, .int .i64 k1, .bool s1] 29)) (Obj.cells #[v2, .int .i64 k2, .bool s2] 29)
    have e2 := World.alloc_heap_new ((W.alloc (Obj.cells #[v1, .int .i64 k1, .bool s1] 29)).alloc (Obj.cells #[v2, .int .i64 k2, .bool s2] 29)) (Obj.cells #[.slice none 0 0, .int .i64 0, .bool false] 29)
    have e3 := World.alloc_heap_new (((W.alloc (Obj.cells #[v1, .int .i64 k1, .bool s1] 29)).alloc (Obj.cells #[v2, .int .i64 k2, .bool s2] 29)).alloc (Obj.cells #[.slice none 0 0, .int .i64 0, .bool false] 29)) (Obj.cells #[.slice none 0 0, .int .i64 0, .bool false] 29)
    simp only [World.size_alloc] at e1 e2 e3
    exact ⟨blk_on (blk_on (blk_on (World.alloc_heap_new _ _) _) _) _, blk_on (blk_on e1 _) _, blk_on e2 _, e3, by simpa using H1.out.stay (Stay.of_below hb), by simpa using H2.out.stay (Stay.of_below hb), hb⟩
  have H0 := Lib.hid h0
  clear h0
  go_loopw [7] (fun v wr => PI' W k1 k2 xs ys s1 s2 N v wr) (fun v _ => N + 1 - (intOf v).toNat)
  case atStart => exact ⟨0, v1, v2, Nat.zero_le _, rfl, H0.out⟩
  case round =>
    obtain ⟨k, u1, u2, hkN, rfl, hp⟩ := hrel
    have hN2 : N ≤ xs.length ∧ (N = 0 ∨ ys.length + N ≤ k2) := by rw [HN.out]; unfold pourN; split <;> omega
    have HP := Lib.hid hp
    clear hp
    have c00 := cell_of HP.out.b0 0
    have c01 := cell_of HP.out.b0 1
    have c02 := cell_of HP.out.b0 2
    have c10 := cell_of HP.out.b1 0
    have c11 := cell_of HP.out.b1 1
    have c12 := cell_of HP.out.b1 2
    have f00 := froz_of HP.out.b0 0
    have f10 := froz_of HP.out.b1 0
    have f11 := froz_of HP.out.b1 1
    have f12 := froz_of HP.out.b1 2
    have HRM := Lib.hid (rroom wr u2 k2 (ys ++ xs.take k) s2 HP.out.r2 (by simp; omega) (by omega))
    obtain ⟨R, hR⟩ : ∃ R, R = roomN k2 (ys ++ xs.take k) s2 := ⟨_, rfl⟩
    rw [← hR] at HRM
    by_cases hlt : k < N
    · have hRp : decide (R > 0) = true := by
        unfold roomN at hR
        have h3 : s2 = false := by
          cases s2 with
          | false => rfl
          | true => have := HN.out; simp [pourN] at this; omega
        simp [h3] at hR
        simp; omega
      have hxe : xs.drop k = xs[k]'(by omega) :: xs.drop (k + 1) := List.drop_eq_getElem_cons (by omega)
      obtain ⟨x, hxk⟩ : ∃ x, x = xs[k]'(by omega) := ⟨_, rfl⟩
      rw [← hxk] at hxe
      have hr1 := HP.out.r1
      rw [hxe] at hr1
      obtain ⟨L, hL⟩ : ∃ L, L = xs.drop (k + 1) := ⟨_, rfl⟩
      rw [← hL] at hr1
      obtain ⟨A1, c1, hv1, hrest⟩ := hr1
      clear hrest
      subst hv1
      have hr1 := HP.out.r1
      rw [hxe, ← hL] at hr1
      obtain ⟨ad, A2, rfl, hcell, hcut, hrd2⟩ := Rd.tail hr1
      have HRD2 := Lib.hid (show Rd wr (.slice A2 L.length (c1 - 1)) (xs.drop (k + 1)) from by rw [← hL]; exact hrd2)
      have htk : xs.take (k + 1) = xs.take k ++ [x] := by rw [List.take_succ_eq_append_getElem (by omega), hxk]
      have hpq : putQ k2 (ys ++ xs.take k) s2 x = ys ++ xs.take (k + 1) ∧ (ys ++ xs.take k).length ≤ 5000 := by
        refine ⟨?_, by simp; omega⟩
        have h3 : s2 = false := by
          cases s2 with
          | false => rfl
          | true => have := HN.out; simp [pourN] at this; omega
        unfold putQ
        rw [h3, if_neg (by simp), if_pos (by simp; omega), htk, List.append_assoc]
      have HPQ := Lib.hid hpq
      have hcs : ∀ w1, Below wr.heap.size wr w1 → w1.cell? ad = some (.int .i64 x) := fun w1 hb => pw_cell_below hb hcell
      have HCS := Lib.hid hcs
      have HRR := Lib.hid hR
      simp only [List.length_cons] at c00
      have hg0 : decide (((L.length : Int) + 1) > 0) = true := decide_eq_true (by omega)
      clear hxe hxk hr1 hL hrd2 htk hpq hcell hR hcs
      go_wp2_with (first
        | (go_at_call 13; refine HRM.out.mono ?_; rintro e w1 ⟨rfl, hb1⟩; have HP1 := Lib.hid (HP.out.later hb1); have HRD3 := Lib.hid (HRD2.out.stay (Stay.of_below hb1)); have hcx := HCS.out w1 hb1; clear hb1; have c00 := cell_of HP1.out.b0 0; have c01 := cell_of HP1.out.b0 1; have c02 := cell_of HP1.out.b0 2; have c10 := cell_of HP1.out.b1 0; have c11 := cell_of HP1.out.b1 1; have c12 := cell_of HP1.out.b1 2; have f00 := froz_of HP1.out.b0 0)
        | (go_at_call 24; refine (rput _ u2 k2 (ys ++ xs.take k) s2 x (HP1.out.set0 HRD3.out).r2 HPQ.out.2).mono ?_; rintro e w2 ⟨v3, rfl, hr3, hb3⟩; have HP2 := Lib.hid ((HP1.out.set0 HRD3.out).later hb3); rw [HPQ.out.1] at hr3; obtain ⟨A3, l3, c3, rfl⟩ := hr3.form; have HRD4 := Lib.hid hr3; clear hr3 hb3; have c10 := cell_of HP2.out.b1 0; have c11 := cell_of HP2.out.b1 1; have c12 := cell_of HP2.out.b1 2; have f10 := froz_of HP2.out.b1 0; have f11 := froz_of HP2.out.b1 1; have f12 := froz_of HP2.out.b1 2))
      go_roundw
      case rel => exact ⟨k + 1, _, _, by omega, by go_num, HP2.out.set1 HRD4.out⟩
      case measure => simp [intOf]; omega
    · obtain rfl : k = N := by omega
      by_cases hxl : k < xs.length
      · have hRp : decide (R > 0) = false := by
          have h5 := HN.out
          unfold pourN at h5
          unfold roomN at hR
          simp
          cases s2 with
          | true => simp at hR; omega
          | false => simp at hR h5; omega
        have hr1 := HP.out.r1
        have hxe : xs.drop k = xs[k]'hxl :: xs.drop (k + 1) := List.drop_eq_getElem_cons hxl
        obtain ⟨A1, c1, hv1, _⟩ := HP.out.r1
        obtain ⟨l1, hl1⟩ : ∃ l, l = (xs.drop k).length := ⟨_, rfl⟩
        rw [← hl1] at hv1
        subst hv1
        have hg0 : 0 < l1 := by rw [hl1]; simp; omega
        clear hr1 hxe hl1 hR
        obtain ⟨A2, l2, c2, rfl⟩ := HP.out.r2.form
        go_wp2_with (go_at_call 13; refine HRM.out.mono ?_; rintro e w1 ⟨rfl, hb1⟩; have HP1 := Lib.hid (HP.out.later hb1); clear hb1)
        have c00 := cell_of HP1.out.b0 0
        have c01 := cell_of HP1.out.b0 1
        have c02 := cell_of HP1.out.b0 2
        have c10 := cell_of HP1.out.b1 0
        have c11 := cell_of HP1.out.b1 1
        have c12 := cell_of HP1.out.b1 2
        have c20 := cell_of HP1.out.b2 0
        have c21 := cell_of HP1.out.b2 1
        have c22 := cell_of HP1.out.b2 2
        have c30 := cell_of HP1.out.b3 0
        have c31 := cell_of HP1.out.b3 1
        have c32 := cell_of HP1.out.b3 2
        have f20 := froz_of HP1.out.b2 0
        have f21 := froz_of HP1.out.b2 1
        have f22 := froz_of HP1.out.b2 2
        have f30 := froz_of HP1.out.b3 0
        have f31 := froz_of HP1.out.b3 1
        have f32 := froz_of HP1.out.b3 2
        go_region
        all_goals
          obtain ⟨wf, hwf⟩ : ∃ wf, wf = ((((((w1.setCell ⟨W.heap.size + 1 + 1, 0, none⟩ (.slice A1 l1 c1)).setCell ⟨W.heap.size + 1 + 1, 1, none⟩ (.int .i64 k1)).setCell ⟨W.heap.size + 1 + 1, 2, none⟩ (.bool s1)).setCell ⟨W.heap.size + 1 + 1 + 1, 0, none⟩ (.slice A2 l2 c2)).setCell ⟨W.heap.size + 1 + 1 + 1, 1, none⟩ (.int .i64 k2)).setCell ⟨W.heap.size + 1 + 1 + 1, 2, none⟩ (.bool s2)).drew := ⟨_, rfl⟩
          obtain ⟨e1, e2, e3, e4, e5⟩ := HP1.out.fin wf hwf
          rw [← hwf]
          clear hwf c00 c01 c02 c10 c11 c12 c20 c21 c22 c30 c31 c32 f20 f21 f22 f30 f31 f32
          have E3 := Lib.hid e3
          have E4 := Lib.hid e4
          have E5 := Lib.hid e5
          have d0 := cell_of e1 0
          have d1 := cell_of e1 1
          have d2 := cell_of e1 2
          have d3 := cell_of e2 0
          have d4 := cell_of e2 1
          have d5 := cell_of e2 2
          clear e1 e2 e3 e4 e5
          go_wp2
          exact bodyPost_ret (v := .tuple #[.agg #[(.slice A1 l1 c1), .int .i64 k1, .bool s1], .agg #[.slice A2 l2 c2, .int .i64 k2, .bool s2], .int .i64 k]) (by simp [results, Try.results26, go_sem, d0, d1, d2, d3, d4, d5]) rfl ⟨_, _, rfl, E3.out, E4.out, E5.out⟩
      · have hkx : k = xs.length := by omega
        obtain ⟨A1, c1, hv1, _⟩ := HP.out.r1
        rw [show (xs.drop k).length = 0 by simp; omega] at hv1
        subst hv1
        obtain ⟨A2, l2, c2, rfl⟩ := HP.out.r2.form
        obtain ⟨w1, hw1⟩ : ∃ w1, w1 = wr := ⟨_, rfl⟩
        have HP1 := Lib.hid (show PI W k1 k2 xs ys s1 s2 k k (.slice A1 0 c1) (.slice A2 l2 c2) w1 from by rw [hw1]; exact HP.out)
        subst hw1
        clear hkx hxl hR
        have c00 := cell_of HP1.out.b0 0
        have c01 := cell_of HP1.out.b0 1
        have c02 := cell_of HP1.out.b0 2
        have c10 := cell_of HP1.out.b1 0
        have c11 := cell_of HP1.out.b1 1
        have c12 := cell_of HP1.out.b1 2
        go_wp2
        have c20 := cell_of HP1.out.b2 0
        have c21 := cell_of HP1.out.b2 1
        have c22 := cell_of HP1.out.b2 2
        have c30 := cell_of HP1.out.b3 0
        have c31 := cell_of HP1.out.b3 1
        have c32 := cell_of HP1.out.b3 2
        have f20 := froz_of HP1.out.b2 0
        have f21 := froz_of HP1.out.b2 1
        have f22 := froz_of HP1.out.b2 2
        have f30 := froz_of HP1.out.b3 0
        have f31 := froz_of HP1.out.b3 1
        have f32 := froz_of HP1.out.b3 2
        go_region
        all_goals
          obtain ⟨wf, hwf⟩ : ∃ wf, wf = ((((((w1.setCell ⟨W.heap.size + 1 + 1, 0, none⟩ (.slice A1 0 c1)).setCell ⟨W.heap.size + 1 + 1, 1, none⟩ (.int .i64 k1)).setCell ⟨W.heap.size + 1 + 1, 2, none⟩ (.bool s1)).setCell ⟨W.heap.size + 1 + 1 + 1, 0, none⟩ (.slice A2 l2 c2)).setCell ⟨W.heap.size + 1 + 1 + 1, 1, none⟩ (.int .i64 k2)).setCell ⟨W.heap.size + 1 + 1 + 1, 2, none⟩ (.bool s2)).drew := ⟨_, rfl⟩
          obtain ⟨e1, e2, e3, e4, e5⟩ := HP1.out.fin wf hwf
          rw [← hwf]
          clear hwf c00 c01 c02 c10 c11 c12 c20 c21 c22 c30 c31 c32 f20 f21 f22 f30 f31 f32
          have E3 := Lib.hid e3
          have E4 := Lib.hid e4
          have E5 := Lib.hid e5
          have d0 := cell_of e1 0
          have d1 := cell_of e1 1
          have d2 := cell_of e1 2
          have d3 := cell_of e2 0
          have d4 := cell_of e2 1
          have d5 := cell_of e2 2
          clear e1 e2 e3 e4 e5
          go_wp2
          exact bodyPost_ret (v := .tuple #[.agg #[(.slice A1 0 c1), .int .i64 k1, .bool s1], .agg #[.slice A2 l2 c2, .int .i64 k2, .bool s2], .int .i64 k]) (by simp [results, Try.results26, go_sem, d0, d1, d2, d3, d4, d5]) rfl ⟨_, _, rfl, E3.out, E4.out, E5.out⟩
end Go.Proofs.Ytofemimgjcjpdaa.H
