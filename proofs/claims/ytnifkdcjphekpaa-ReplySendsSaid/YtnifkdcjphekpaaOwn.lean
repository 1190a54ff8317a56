/- A plane of one's own: its cells lie in a block of one's own. -/
import Derived.Test.YtnifkdcjphekpaaExact
namespace Go.Proofs.Ytnifkdcjphekpaa.H
open Go.RowKit Go.Proofs.YtnifkdcjphekpaaW.PrintWords Go.Proofs.YtnifkdcjphekpaaW.PrintLast
set_option linter.unusedVariables false
set_option linter.unusedSimpArgs false
def cellL (x : A.S34) : List Value := [.int .u8 x.f0, .bool x.f1, .bool x.f2, .int .u8 x.f3, .int .u8 x.f4]
def flat (cs : List A.S34) : List Value := cs.flatMap cellL
theorem flat_cons (x : A.S34) (cs : List A.S34) : flat (x :: cs) = cellL x ++ flat cs := rfl
theorem flat_length (cs : List A.S34) : (flat cs).length = cs.length * 5 := by
  induction cs with
  | nil => rfl
  | cons x cs ih => rw [flat_cons, List.length_append, ih, List.length_cons, Nat.add_mul, Nat.one_mul, Nat.add_comm]; rfl
theorem flat_get (cs : List A.S34) (ex : List Value) : ∀ (i : Nat) (x : A.S34) (j : Nat) (u : Value), cs[i]? = some x → (cellL x)[j]? = some u → (flat cs ++ ex)[i * 5 + j]? = some u := by
  induction cs with
  | nil => intro i x j u h; simp at h
  | cons y cs ih =>
    intro i x j u h hu
    have hj : j < 5 := (List.getElem?_eq_some_iff.1 hu).1
    rw [flat_cons, List.append_assoc]
    cases i with
    | zero =>
      simp only [List.getElem?_cons_zero, Option.some.injEq] at h
      subst h
      rw [Nat.zero_mul, Nat.zero_add, List.getElem?_append_left (by exact hj)]
      exact hu
    | succ i =>
      rw [List.getElem?_append_right (by rw [Nat.add_mul]; exact Nat.le_trans (show 5 ≤ i * 5 + 1 * 5 by omega) (Nat.le_add_right _ _)), show (i + 1) * 5 + j - (cellL y).length = i * 5 + j from by show (i + 1) * 5 + j - 5 = i * 5 + j; omega]
      exact ih i x j u (by simpa using h) hu
theorem flat_set (cs : List A.S34) (ex : List Value) (x : A.S34) : ∀ i, i < cs.length → flat (cs.set i x) ++ ex = (((((flat cs ++ ex).set (i * 5) (.int .u8 x.f0)).set (i * 5 + 1) (.bool x.f1)).set (i * 5 + 2) (.bool x.f2)).set (i * 5 + 3) (.int .u8 x.f3)).set (i * 5 + 4) (.int .u8 x.f4) := by
  induction cs with
  | nil => intro i h; simp at h
  | cons y cs ih =>
    intro i h
    cases i with
    | zero => rfl
    | succ i =>
      have e0 : (i + 1) * 5 = i * 5 + 1 + 1 + 1 + 1 + 1 := by omega
      rw [List.set_cons_succ, flat_cons, List.append_assoc, ih i (by simpa using h), flat_cons, List.append_assoc, e0]
      rfl
theorem flat_append (a b : List A.S34) : flat (a ++ b) = flat a ++ flat b := by simp [flat]
theorem addr_mk (R k : Nat) : (⟨R, 0, none⟩ : Addr).add k = ⟨R, k, none⟩ := by
  cases k with
  | zero => simp [Addr.add]
  | succ k => simp [Addr.add]
theorem row_C {W : World} {R : Nat} {cs : List A.S34} {ex : List Value} (h : W.heap[R]? = some (.cells (flat cs ++ ex).toArray 34 (0, 0))) (hl : cs.length ≤ 4096) : Kd.C A.k34 W (some ⟨R, 0, none⟩) cs.length cs := by
  refine ⟨rfl, by omega, fun _ => ⟨_, rfl, fun j p hj => ⟨cellL p, rfl, A.k34_mk W p, fun i u hu => ?_⟩⟩⟩
  have := flat_get cs ex j p i u hj hu
  have e : (⟨R, 0, none⟩ : Addr).add (j * 5 + i) = ⟨R, j * 5 + i, none⟩ := addr_mk R _
  show W.cell? ((⟨R, 0, none⟩ : Addr).add (j * 5 + i)) = some u
  rw [e, blk_cell h]
  simpa using this
structure OwnP (W : World) (g R c0 : Nat) (r c : Int) (cs : List A.S34) (cur : Int) : Prop where
  p : W.heap[g]? = some (.cells #[.int .i64 r, .int .i64 c, .slice (some ⟨R, 0, none⟩) cs.length c0, .int .i64 cur] 65 (0, 0))
  q : ∃ ex, W.heap[R]? = some (.cells (flat cs ++ ex).toArray 34 (0, 0))
  n : cells r c = cs.length
  n1 : 1 ≤ cs.length
section
variable {W W1 w : World} {g R c0 : Nat} {r c cur : Int} {cs : List A.S34}
theorem OwnP.small (h : OwnP W g R c0 r c cs cur) : cs.length ≤ 4096 := by
  have := h.n
  have := cells_range r c
  omega
theorem OwnP.isP (h : OwnP W g R c0 r c cs cur) : IsP W g (some ⟨R, 0, none⟩) c0 r c cs cur := by
  obtain ⟨ex, hq⟩ := h.q
  exact ⟨h.p, row_C hq h.small, h.n, h.n1⟩
theorem OwnP.keep (h : OwnP W g R c0 r c cs cur) (h1 : W1.heap[g]? = W.heap[g]?) (h2 : W1.heap[R]? = W.heap[R]?) : OwnP W1 g R c0 r c cs cur := by
  obtain ⟨ex, hq⟩ := h.q
  exact ⟨h1.trans h.p, ⟨ex, h2.trans hq⟩, h.n, h.n1⟩
theorem OwnP.lt (h : OwnP W g R c0 r c cs cur) : g < W.heap.size ∧ R < W.heap.size := by
  obtain ⟨ex, hq⟩ := h.q
  exact ⟨blk_lt h.p, blk_lt hq⟩
theorem OwnP.ne (h : OwnP W g R c0 r c cs cur) : g ≠ R := fun e => by
  obtain ⟨ex, hq⟩ := h.q
  have h1 := h.p
  rw [e, hq] at h1
  injection h1 with h1
  injection h1 with _ h1
  cases h1
theorem OwnP.later (h : OwnP W g R c0 r c cs cur) (hb : Below W.heap.size W W1) : OwnP W1 g R c0 r c cs cur := h.keep (hb.block _ h.lt.1) (hb.block _ h.lt.2)
/-- A block of another world, another one than the plane's two, was written. -/
theorem OwnP.grown {k : Nat} (h : OwnP W g R c0 r c cs cur) (hg : W.grownBy W1 (some k)) (h1 : g ≠ k) (h2 : R ≠ k) : OwnP W1 g R c0 r c cs cur := h.keep (hg.block _ h.lt.1 (by simpa using h1)) (hg.block _ h.lt.2 (by simpa using h2))
end
theorem grown_below {w w1 : World} {k B : Nat} (h : w.grownBy w1 (some k)) (hB : B ≤ k) (hs : B ≤ w.heap.size) : Below B w w1 := ⟨h.os, h.tape, h.output, h.size, fun i hi => h.block i (by omega) (by simp; omega)⟩
theorem grown_setCell {w w1 : World} {k : Nat} (h : w.grownBy w1 (some k)) (j : Nat) (u : Value) : w.grownBy (w1.setCell ⟨k, j, none⟩ u) (some k) :=
  ⟨h.os, h.tape, h.output, by simpa [World.setCell] using h.size, fun i hi hn => (Below.heap_setCell w1 ⟨k, j, none⟩ u i (by simpa using hn)).trans (h.block i hi hn)⟩
theorem grown_trans {w w1 w2 : World} {k : Option Nat} (h : w.grownBy w1 k) (h2 : w1.grownBy w2 k) : w.grownBy w2 k :=
  ⟨h2.os.trans h.os, h2.tape.trans h.tape, h2.output.trans h.output, Nat.le_trans h.size h2.size, fun i hi hn => (h2.block i (Nat.lt_of_lt_of_le hi h.size) hn).trans (h.block i hi hn)⟩
theorem grown_of_below {w w1 : World} (k : Option Nat) (h : Below w.heap.size w w1) : w.grownBy w1 k := ⟨h.os, h.tape, h.output, h.size, fun i hi _ => h.block i hi⟩
theorem grown_drew {w w1 : World} {k : Option Nat} (h : w.grownBy w1 k) : w.grownBy w1.drew k := ⟨h.os, h.tape, h.output, h.size, h.block⟩
section
variable {w : World} {g R c0 : Nat} {r c cur : Int} {cs : List A.S34}
theorem OwnP.drew (h : OwnP w g R c0 r c cs cur) : OwnP w.drew g R c0 r c cs cur := ⟨h.p, h.q, h.n, h.n1⟩
set_option maxHeartbeats 2000000 in
set_option maxRecDepth 100000 in
theorem set_p (hI : OwnP w g R c0 r c cs cur) (x : A.S34) (i : Int) (h0 : 0 ≤ i) (hi : i < cs.length) : Calls Try.prog 16 #[.pointer (some ⟨g, 0, none⟩), .int .i64 i, cellV x] w fun e w' => e = .returned (.bool true) ∧ OwnP w' g R c0 r c (cs.set i.toNat x) cur ∧ w.grownBy w' (some R) := by
  have hu34 := Try.underlying34
  obtain ⟨b, ge, st, li, co⟩ := x
  have HI := Lib.hid hI
  have hb0 := below_alloc (Below.refl w.heap.size w) (.cells #[.int .u8 b, .bool ge, .bool st, .int .u8 li, .int .u8 co] 34)
  have HB0 := Lib.hid hb0
  clear hI hb0
  show Calls Try.prog 16 #[.pointer (some ⟨g, 0, none⟩), .int .i64 i, .agg #[.int .u8 b, .bool ge, .bool st, .int .u8 li, .int .u8 co]] w _
  go_enter Try.func16, Try.ntmps16
  go_wp2_with fail
  refine (has_p (HI.out.later HB0.out).isP i h0 hi).mono ?_
  rintro e w1 ⟨rfl, hb⟩
  have HB1 := Lib.hid (below_step HB0.out hb)
  have HZ := Lib.hid (blk_below (heap_alloc_new w (.cells #[.int .u8 b, .bool ge, .bool st, .int .u8 li, .int .u8 co] 34)) hb)
  clear hb
  have H1 := Lib.hid (HI.out.later HB1.out)
  have k2 := (blk_cell H1.out.p 2).trans rfl
  have z0 := (blk_cell HZ.out 0).trans rfl; have z1 := (blk_cell HZ.out 1).trans rfl; have z2 := (blk_cell HZ.out 2).trans rfl; have z3 := (blk_cell HZ.out 3).trans rfl; have z4 := (blk_cell HZ.out 4).trans rfl
  obtain ⟨ad, hd, d0, d1, d2, d3, d4⟩ := A.at_T34 H1.out.isP.k i h0 hi
  obtain rfl : ⟨R, 0, none⟩ = ad := by injection hd
  clear hd
  obtain ⟨ex, hq⟩ := H1.out.q
  have HQ := Lib.hid hq
  simp only [addr_mk] at d0 d1 d2 d3 d4
  obtain ⟨j, hj⟩ : ∃ j, i.toNat * 5 = j := ⟨_, rfl⟩
  have ha : (⟨R, 0, none⟩ : Addr).add (i.toNat * 5) = ⟨R, j, none⟩ := by rw [addr_mk, hj]
  rw [hj] at d0 d1 d2 d3 d4
  have f0 := blk_frozen hq j; have f1 := blk_frozen hq (j + 1); have f2 := blk_frozen hq (j + 2); have f3 := blk_frozen hq (j + 3); have f4 := blk_frozen hq (j + 4)
  clear hq
  go_wp2
  go_region
  go_wp2
  go_ret
  have hg := grown_setCell (grown_setCell (grown_setCell (grown_setCell (grown_setCell (grown_of_below (some R) HB1.out) j (.int .u8 b)) (j + 1) (.bool ge)) (j + 2) (.bool st)) (j + 3) (.int .u8 li)) (j + 4) (.int .u8 co)
  have hp := H1.out.p
  have hne := H1.out.ne
  have y0 := blk_set HQ.out j (.int .u8 b)
  have y1 := blk_set y0 (j + 1) (.bool ge)
  have y2 := blk_set y1 (j + 2) (.bool st)
  have y3 := blk_set y2 (j + 3) (.int .u8 li)
  have y4 := blk_set y3 (j + 4) (.int .u8 co)
  have hs := flat_set cs ex ⟨b, ge, st, li, co⟩ i.toNat (by omega)
  rw [hj] at hs
  simp only [List.setIfInBounds_toArray] at y4
  have p0 := blk_far hp (p := ⟨R, j, none⟩) hne (.int .u8 b)
  have p1 := blk_far p0 (p := ⟨R, j + 1, none⟩) hne (.bool ge)
  have p2 := blk_far p1 (p := ⟨R, j + 2, none⟩) hne (.bool st)
  have p3 := blk_far p2 (p := ⟨R, j + 3, none⟩) hne (.int .u8 li)
  have p4 := blk_far p3 (p := ⟨R, j + 4, none⟩) hne (.int .u8 co)
  refine ⟨rfl, OwnP.drew ⟨?_, ⟨ex, ?_⟩, ?_, ?_⟩, grown_drew hg⟩
  · rw [List.length_set]; exact p4
  · rw [hs]; exact y4
  · rw [List.length_set]; exact HI.out.n
  · rw [List.length_set]; exact HI.out.n1
set_option maxHeartbeats 1000000 in
theorem point_p (hI : OwnP w g R c0 r c cs cur) (i : Int) (h0 : 0 ≤ i) (hi : i < cs.length) :
    Calls Try.prog 25 #[.pointer (some ⟨g, 0, none⟩), .int .i64 i] w fun e w' => e = .returned (.bool true) ∧ OwnP w' g R c0 r c cs i ∧ w.grownBy w' (some g) := by
  have HI := Lib.hid hI
  clear hI
  go_enter Try.func25, Try.ntmps25
  go_wp2_with fail
  refine (has_p HI.out.isP i h0 hi).mono ?_
  rintro e w1 ⟨rfl, hb⟩
  have HB1 := Lib.hid hb
  have H1 := Lib.hid (HI.out.later hb)
  have c3 : w1.cell? ⟨g, 3, none⟩ = some (.int .i64 cur) := (blk_cell H1.out.p 3).trans rfl
  have f3 := blk_frozen H1.out.p 3
  clear hb
  go_wp2
  go_ret
  obtain ⟨ex, hq⟩ := H1.out.q
  exact ⟨rfl, ⟨blk_set H1.out.p 3 (.int .i64 i), ⟨ex, blk_far hq (p := ⟨g, 3, none⟩) (Ne.symm H1.out.ne) _⟩, HI.out.n, HI.out.n1⟩, grown_setCell (grown_of_below (some g) HB1.out) 3 _⟩
end
def z34 : A.S34 := ⟨0, false, false, 0, 0⟩
theorem made_flat (n : Nat) : madeCells #[.int .u8 0, .bool false, .bool false, .int .u8 0, .int .u8 0] (n * 5) = (flat (List.replicate n z34)).toArray := by
  apply Array.ext'
  apply List.ext_getElem?
  intro k
  rcases Nat.lt_or_ge k (n * 5) with hk | hk
  · have h1 : k / 5 < n := by omega
    have h2 : k % 5 < 5 := by omega
    have e : k = k / 5 * 5 + k % 5 := by omega
    have hL : (madeCells #[.int .u8 0, .bool false, .bool false, .int .u8 0, .int .u8 0] (n * 5)).toList[k]? = (cellL z34)[k % 5]? := by
      simp only [madeCells, Array.toList_map, Array.toList_range, List.getElem?_map, List.getElem?_range hk, Option.map_some]
      have h3 : k % 5 = 0 ∨ k % 5 = 1 ∨ k % 5 = 2 ∨ k % 5 = 3 ∨ k % 5 = 4 := by omega
      rcases h3 with h | h | h | h | h <;> (show some (#[Value.int .u8 0, .bool false, .bool false, .int .u8 0, .int .u8 0][k % 5]!) = _; rw [h]; rfl)
    have hR := flat_get (List.replicate n z34) [] (k / 5) z34 (k % 5) ((cellL z34)[k % 5]'h2) (by simp [h1]) (List.getElem?_eq_getElem h2)
    rw [← e, List.append_nil] at hR
    rw [hL, List.getElem?_eq_getElem h2]
    exact hR.symm
  · rw [List.getElem?_eq_none (by simp [madeCells]; exact hk), List.getElem?_eq_none (by simp [flat_length]; exact hk)]
theorem info34 : (Try.prog.info? 34).map (fun i => (i.zero, i.size, i.bytes)) = some (some (.agg #[.int .u8 0, .bool false, .bool false, .int .u8 0, .int .u8 0]), 5, 5) := by kernel_rfl
theorem made_n (n : Nat) (hn : n ≤ 4096) (W : World) : (Instr.makeSlice 27 (.int .i64 n) (.int .i64 n)).run Try.prog W = .ok (.slice (some ⟨W.heap.size, 0, none⟩) n n) (W.alloc (.cells (flat (List.replicate n z34)).toArray 34)) := by
  obtain ⟨i, hi, hz, hs, hb⟩ := info_parts info34
  have h := run_makeSlice (P := Try.prog) (w := W) 27 34 i _ Try.underlying27 hi hz .i64 .i64 n n (by omega) (by omega) (by rw [hs, Int.toNat_natCast]; omega) (by rw [hb]; show (5 : Int) * n ≤ _; omega) (by omega)
  have e := made_flat n
  rw [hs, Int.toNat_natCast] at h
  rw [← e]
  exact h
set_option maxHeartbeats 2000000 in
set_option maxRecDepth 100000 in
theorem new_p (r c : Int) (hn : 0 < cells r c) (w : World) : Calls Try.prog 24 #[.agg #[.int .i64 r, .int .i64 c]] w fun e w' => ∃ g R, w.heap.size ≤ g ∧ w.heap.size ≤ R ∧ e = .returned (.tuple #[.pointer (some ⟨g, 0, none⟩), .int .i64 0]) ∧ OwnP w' g R (cells r c).toNat r c (List.replicate (cells r c).toNat z34) 0 ∧ Below w.heap.size w w' := by
  have hu34 := Try.underlying34
  have hu26 := Try.underlying26
  have hu65 := Try.underlying65
  have hr := cells_range r c
  obtain ⟨n, hN⟩ : ∃ n : Nat, cells r c = n := ⟨(cells r c).toNat, by omega⟩
  have hF := cells_f r c
  rw [hN] at hn hr hF ⊢
  have HF := Lib.hid hF
  have HN := Lib.hid hN
  clear hF hN
  have e1 : ((n : Int) == 0) = false := by simp; omega
  have hms := made_n n (by omega)
  go_enter Try.func24, Try.ntmps24
  go_wp2_with fail
  refine (A.addr_Cells.calls r c n _ HF.out).mono ?_
  rintro e w1 ⟨rfl, hb⟩
  have HB1 := Lib.hid (below_step (below_alloc (Below.refl w.heap.size w) (.cells #[.int .i64 r, .int .i64 c] 26)) hb)
  have HX := Lib.hid (blk_below (heap_alloc_new w (.cells #[.int .i64 r, .int .i64 c] 26)) hb)
  have hx0 := (blk_cell HX.out 0).trans rfl; have hx1 := (blk_cell HX.out 1).trans rfl
  have HX2 := Lib.hid (blk_alloc HX.out (.cells (flat (List.replicate n z34)).toArray 34))
  have hx2 := (blk_cell HX2.out 0).trans rfl; have hx3 := (blk_cell HX2.out 1).trans rfl
  clear hb
  go_wp2
  go_region
  go_wp2
  go_ret2
  have h1 := heap_alloc_new w1 (.cells (flat (List.replicate n z34)).toArray 34)
  have h2 := heap_alloc_new (w1.alloc (.cells (flat (List.replicate n z34)).toArray 34)) (.cells #[.int .i64 r, .int .i64 c, .slice (some ⟨w1.heap.size, 0, none⟩) n n, .int .i64 0] 65)
  have hb := below_alloc (below_alloc HB1.out (.cells (flat (List.replicate n z34)).toArray 34)) (.cells #[.int .i64 r, .int .i64 c, .slice (some ⟨w1.heap.size, 0, none⟩) n n, .int .i64 0] 65)
  have h3 := blk_alloc h1 (.cells #[.int .i64 r, .int .i64 c, .slice (some ⟨w1.heap.size, 0, none⟩) n n, .int .i64 0] 65)
  rw [World.size_alloc] at h2
  have hs := HB1.out.size
  refine ⟨w1.heap.size + 1, w1.heap.size, by omega, hs, rfl, OwnP.drew ⟨?_, ⟨[], ?_⟩, ?_, ?_⟩, below_drew hb⟩
  · rw [List.length_replicate, Int.toNat_natCast]; exact h2
  · rw [List.append_nil, Int.toNat_natCast]; exact h3
  · rw [List.length_replicate, Int.toNat_natCast]; exact HN.out
  · rw [List.length_replicate]; omega
set_option maxHeartbeats 1000000 in
theorem new_no (r c : Int) (hn : cells r c = 0) (w : World) : Calls Try.prog 24 #[.agg #[.int .i64 r, .int .i64 c]] w fun e w' => e = .returned (.tuple #[.pointer none, .int .i64 1]) ∧ Below w.heap.size w w' := by
  have hF := cells_f r c
  rw [hn] at hF
  have HF := Lib.hid hF
  have hu26 := Try.underlying26
  clear hF hn
  go_enter Try.func24, Try.ntmps24
  go_wp2_with fail
  refine (A.addr_Cells.calls r c 0 _ HF.out).mono ?_
  rintro e w1 ⟨rfl, hb⟩
  have HB1 := Lib.hid (below_step (below_alloc (Below.refl w.heap.size w) (.cells #[.int .i64 r, .int .i64 c] 26)) hb)
  clear hb
  go_wp2
  go_ret2
  exact ⟨rfl, HB1.out⟩
end Go.Proofs.Ytnifkdcjphekpaa.H
