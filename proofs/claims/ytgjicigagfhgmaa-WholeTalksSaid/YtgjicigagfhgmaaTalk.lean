/- talk: verbs. -/
import Derived.Test.YtgjicigagfhgmaaGot
namespace Go.Proofs.Ytgjicigagfhgmaa.H
open Go.RowKit Go.Proofs.YtgjicigagfhgmaaW.PrintWords Go.Proofs.YtgjicigagfhgmaaW.PrintLast
set_option linter.unusedVariables false
set_option linter.unusedSimpArgs false
/-- A terminal whose name was not told. -/
structure Tk (W : World) (gt g : Nat) (P : Ops) (nm : ByteArray) : Prop where
  p : W.heap[gt]? = some (.cells #[.string nm, .pointer (some ⟨g, 0, none⟩), .bool false] 73 (0, 0))
  o : Os W g P
theorem Os.ne {W : World} {g gt : Nat} {P : Ops} {cs : Array Value} {t : TypeId} (h : Os W g P) (hp : W.heap[gt]? = some (.cells cs t (0, 0))) (ht : t ≠ 79) : gt ≠ g := by
  obtain ⟨cs', hc, _⟩ := h.b
  rintro rfl
  have := hp.symm.trans hc
  injection this with this
  injection this with _ e
  exact ht e
theorem Os.lt {W : World} {g : Nat} {P : Ops} (h : Os W g P) : g < W.heap.size := by
  obtain ⟨cs', hc, _⟩ := h.b
  exact blk_lt hc
theorem Fd.blk {a b : World} {g n k : Nat} {x : Obj} (h : Fd a b g n) (hx : a.heap[k]? = some x) (hk : k < n) (hg : k ≠ g) : b.heap[k]? = some x := (h.block k hk hg).trans hx
theorem Tk.below {w W : World} {gt g : Nat} {P : Ops} {nm : ByteArray} (h : Tk w gt g P nm) (hb : Below w.heap.size w W) : Tk W gt g P nm := ⟨blk_below h.p hb, h.o.below hb⟩
theorem blk_same {w : World} {g : Nat} {t : TypeId} {cs : Array Value} (h : w.heap[g]? = some (.cells cs t (0, 0))) (i : Nat) (u : Value) (e : cs.setIfInBounds i u = cs) (k : Nat) : (w.setCell ⟨g, i, none⟩ u).heap[k]? = w.heap[k]? := by
  by_cases hk : k = g
  · subst hk
    exact (blk_put h i u e).trans h.symm
  · exact Below.heap_setCell w ⟨g, i, none⟩ u k hk
theorem Fd.same {a w : World} {g0 n : Nat} (hf : Fd a w g0 n) {g : Nat} {t : TypeId} {cs : Array Value} (h : w.heap[g]? = some (.cells cs t (0, 0))) (i : Nat) (u : Value) (e : cs.setIfInBounds i u = cs) : Fd a (w.setCell ⟨g, i, none⟩ u) g0 n := ⟨hf.os, hf.tape, hf.output, by simpa [World.setCell] using hf.size, fun k hk hg => (blk_same h i u e k).trans (hf.block k hk hg)⟩
section
variable {w : World} {gt g : Nat} {P : Ops} {nm : ByteArray}
set_option maxHeartbeats 4000000 in
set_option maxRecDepth 100000 in
theorem verb_p (h : Tk w gt g P nm) (k c x : Int) (u : Value) (hu : ∃ A n m, u = .slice A n m) (h0 : 0 ≤ x) (h1 : x < 256) : Calls Try.prog 38 #[.pointer (some ⟨gt, 0, none⟩), .agg #[.int .i64 k, .int .u8 c, .int .u8 x, u]] w fun e' w' => ∃ v, e' = .returned v ∧ Said w' w.heap.size v (gotB P c x) ∧ Tk w' gt g (got P c x) nm ∧ Fd w w' g w.heap.size := by
  have hu43 := Try.underlying43
  obtain ⟨A0, n0, k0, rfl⟩ := hu
  have hb1 := below_alloc (Below.refl w.heap.size w) (.cells #[.int .i64 k, .int .u8 c, .int .u8 x, .slice A0 n0 k0] 43)
  have H1 := Lib.hid (h.below hb1)
  have HF := Lib.hid (Fd.of_below (g := g) hb1)
  have HX := Lib.hid (blk_new w (.cells #[.int .i64 k, .int .u8 c, .int .u8 x, .slice A0 n0 k0] 43))
  have HGL := Lib.hid (blk_lt h.p)
  clear h hb1
  go_enter Try.func38, Try.ntmps38
  go_upto_region 2 with fail
  obtain ⟨bx, hbx⟩ : ∃ bx, w.heap.size = bx := ⟨_, rfl⟩
  have hsz : bx < (w.alloc (.cells #[.int .i64 k, .int .u8 c, .int .u8 x, .slice A0 n0 k0] 43)).heap.size := by rw [World.size_alloc, hbx]; exact Nat.lt_succ_self _
  rw [hbx] at HX HF HGL
  simp only [hbx]
  generalize w.alloc (.cells #[.int .i64 k, .int .u8 c, .int .u8 x, .slice A0 n0 k0] 43) = W1 at H1 HX HF hsz ⊢
  have HSZ := Lib.hid hsz
  have HBX := Lib.hid hbx
  have e0 := (blk_cell (blk_drew H1.out.p) 1).trans rfl
  have e1 := (blk_cell (blk_drew HX.out) 1).trans rfl
  have e2 := (blk_cell (blk_drew HX.out) 2).trans rfl
  clear hsz hbx
  refine start_ (n := 10) (S := fun W' => W'.cell? ⟨gt, 1, none⟩ = some (.pointer (some ⟨g, 0, none⟩)) ∧ W'.cell? ⟨bx, 1, none⟩ = some (.int .u8 c) ∧ W'.cell? ⟨bx, 2, none⟩ = some (.int .u8 x)) (ds := []) #[false, false, false, false, false, false, false, false, false, false] (by kernel_rfl) rfl rfl ⟨e0, e1, e2⟩ (fun hHeld => ?_)
  refine pure_ (i := 0) (N := some 6) (v := ?_) (a' := ?_) #[true, false, false, false, false, false, false, false, false, false] rfl rfl (by kernel_rfl) (fun _ _ _ h => h) (Or.inl ⟨by rfl, ?_⟩) ?_ ?_
  rotate_left
  · intro w'
    go_simp
    with_reducible rfl
  rotate_left
  · simp only [Act.put, List.setIfInBounds_toArray, List.set_cons_zero, List.set_cons_succ, i64_w, i32_w]
    try rfl
  refine pure_ (i := 1) (N := some 7) (v := ?_) (a' := ?_) #[true, true, false, false, false, false, false, false, false, false] rfl rfl (by kernel_rfl) (fun _ _ _ h => h) (Or.inl ⟨by rfl, ?_⟩) ?_ ?_
  rotate_left
  · intro w'
    go_simp
    with_reducible rfl
  rotate_left
  · simp only [Act.put, List.setIfInBounds_toArray, List.set_cons_zero, List.set_cons_succ, i64_w, i32_w]
    try rfl
  refine pure_ (i := 2) (N := some 8) (v := ?_) (a' := ?_) #[true, true, true, false, false, false, false, false, false, false] rfl rfl (by kernel_rfl) (fun _ _ _ h => h) (Or.inl ⟨by rfl, ?_⟩) ?_ ?_
  rotate_left
  · intro w'
    go_simp
    with_reducible rfl
  rotate_left
  · simp only [Act.put, List.setIfInBounds_toArray, List.set_cons_zero, List.set_cons_succ, i64_w, i32_w]
    try rfl
  refine take_ (i := 3) (N := some 9) (v := ?_) (a' := ?_) #[true, true, true, true, false, false, false, false, false, false] rfl rfl (by kernel_rfl) (fun _ _ _ h => h) (Or.inl ⟨by rfl, ?_⟩) hHeld ?_ ?_
  rotate_left
  · rintro w' ⟨s0, s1, s2⟩
    go_simp
    with_reducible rfl
  rotate_left
  · simp only [Act.put, List.setIfInBounds_toArray, List.set_cons_zero, List.set_cons_succ, i64_w, i32_w]
    try rfl
  refine pure_ (i := 4) (N := some 10) (v := ?_) (a' := ?_) #[true, true, true, true, true, false, false, false, false, false] rfl rfl (by kernel_rfl) (fun _ _ _ h => h) (Or.inl ⟨by rfl, ?_⟩) ?_ ?_
  rotate_left
  · intro w'
    go_simp
    with_reducible rfl
  rotate_left
  · simp only [Act.put, List.setIfInBounds_toArray, List.set_cons_zero, List.set_cons_succ, i64_w, i32_w]
    try rfl
  refine take_ (i := 5) (N := some 11) (v := ?_) (a' := ?_) #[true, true, true, true, true, true, false, false, false, false] rfl rfl (by kernel_rfl) (fun _ _ _ h => h) (Or.inl ⟨by rfl, ?_⟩) hHeld ?_ ?_
  rotate_left
  · rintro w' ⟨s0, s1, s2⟩
    go_simp
    with_reducible rfl
  rotate_left
  · simp only [Act.put, List.setIfInBounds_toArray, List.set_cons_zero, List.set_cons_succ, i64_w, i32_w]
    try rfl
  refine pure_ (i := 6) (N := some 12) (v := ?_) (a' := ?_) #[true, true, true, true, true, true, true, false, false, false] rfl rfl (by kernel_rfl) (fun _ _ _ h => h) (Or.inl ⟨by rfl, ?_⟩) ?_ ?_
  rotate_left
  · intro w'
    go_simp
    with_reducible rfl
  rotate_left
  · simp only [Act.put, List.setIfInBounds_toArray, List.set_cons_zero, List.set_cons_succ, i64_w, i32_w]
    try rfl
  refine take_ (i := 7) (N := some 13) (v := ?_) (a' := ?_) #[true, true, true, true, true, true, true, true, false, false] rfl rfl (by kernel_rfl) (fun _ _ _ h => h) (Or.inl ⟨by rfl, ?_⟩) hHeld ?_ ?_
  rotate_left
  · rintro w' ⟨s0, s1, s2⟩
    go_simp
    with_reducible rfl
  rotate_left
  · simp only [Act.put, List.setIfInBounds_toArray, List.set_cons_zero, List.set_cons_succ, i64_w, i32_w]
    try rfl
  refine one_ (i := 8) (N := some 14) #[true, true, true, true, true, true, true, true, true, false] rfl rfl (by kernel_rfl) (by decide) (fun K hK => ?_)
  refine goes_ Try.func33 (by kernel_rfl) rfl #[.pointer (some ⟨g, 0, none⟩), .int .u8 c, .int .u8 x] (by rfl) rfl rfl (by (try simp only [List.map_toArray, List.map_cons, List.map_nil]); first | done | rfl) ?_
  refine (got_p (H1.out.o.below (below_drew (Below.refl _ _))) c x h0 h1).mono ?_
  rintro e w5 ⟨v5, rfl, hv5, ho5, hf5⟩
  have hx5 := hf5.blk (blk_drew HX.out) HSZ.out (H1.out.o.ne HX.out (by decide))
  have HT5 : Hid (Tk w5 gt g (got P c x) nm) := Lib.hid ⟨hf5.blk (blk_drew H1.out.p) (Nat.lt_trans HGL.out HSZ.out) (H1.out.o.ne H1.out.p (by decide)), ho5⟩
  have HF5 := Lib.hid (HF.out.trans ((Fd.of_below (g := g) (below_drew (Below.refl bx W1))).trans (hf5.less (Nat.le_of_lt HSZ.out))))
  have HV5 : Hid (Said w5 bx v5 (gotB P c x)) := Lib.hid (Kd.R_lower hv5 (Nat.le_of_lt HSZ.out))
  clear hf5 ho5 hv5
  refine ⟨_, rfl, ?_⟩
  refine hK.out _ _ ⟨(blk_cell HT5.out.p 1).trans rfl, (blk_cell hx5 1).trans rfl, (blk_cell hx5 2).trans rfl⟩ (fun hHeld => ?_)
  clear hK K
  refine norm_ (a' := ?_) ?_ ?_
  rotate_left
  · show Act.put _ (some 14) _ = _
    simp only [Act.put, List.setIfInBounds_toArray, List.set_cons_zero, List.set_cons_succ, i64_w, i32_w]
    try rfl
  refine pure_ (i := 9) (N := some 5) (v := ?_) (a' := ?_) #[true, true, true, true, true, true, true, true, true, true] rfl rfl (by kernel_rfl) (fun _ _ _ h => h) (Or.inl ⟨by rfl, ?_⟩) ?_ ?_
  rotate_left
  · intro w'
    go_simp
    with_reducible rfl
  rotate_left
  · simp only [Act.put, List.setIfInBounds_toArray, List.set_cons_zero, List.set_cons_succ, i64_w, i32_w]
    try rfl
  refine done_ (by kernel_rfl) ?_
  clear hx5
  clear e0 e1 e2 hHeld
  have c2 := (blk_cell HT5.out.p 2).trans rfl
  have f2 := blk_frozen HT5.out.p 2
  go_wp2
  repeat (go_quiet (fail); try go_wp2)
  go_ret
  rw [HBX.out]
  exact ⟨_, rfl, Kd.R_set HV5.out HT5.out.p (fun q hq => by simp [Kd.int, Kd.scalar] at hq; omega) 2 _, ⟨blk_put HT5.out.p 2 _ rfl, by
    obtain ⟨cs, hc, a, b⟩ := HT5.out.o.b
    exact ⟨cs, (blk_same HT5.out.p 2 _ rfl g).trans hc, a, b⟩⟩, HF5.out.same HT5.out.p 2 _ rfl⟩
set_option maxHeartbeats 4000000 in
set_option maxRecDepth 100000 in
theorem talk_p (h : Tk w gt g P nm) (c x : Int) (u : Value) (hu : ∃ A n m, u = .slice A n m) (h0 : 0 ≤ x) (h1 : x < 256) : Calls Try.prog 23 #[.pointer (some ⟨gt, 0, none⟩), .agg #[.int .i64 4, .int .u8 c, .int .u8 x, u]] w fun e' w' => ∃ v, e' = .returned v ∧ Said w' w.heap.size v (gotB P c x) ∧ Tk w' gt g (got P c x) nm ∧ Fd w w' g w.heap.size := by
  have hu43 := Try.underlying43
  obtain ⟨A0, n0, k0, rfl⟩ := hu
  have hb1 := below_alloc (Below.refl w.heap.size w) (.cells #[.int .i64 4, .int .u8 c, .int .u8 x, .slice A0 n0 k0] 43)
  have HC := Lib.hid (verb_p (h.below hb1) 4 c x (.slice A0 n0 k0) ⟨_, _, _, rfl⟩ h0 h1)
  have HF := Lib.hid (Fd.of_below (g := g) hb1)
  clear h hb1
  go_enter Try.func23, Try.ntmps23
  go_wp2_with (go_at_call 38; (with_reducible refine HC.out.mono ?_); rintro e w1 ⟨v, rfl, hv, ht, hf⟩; have HV := Lib.hid hv; have HT := Lib.hid ht; have HF1 := Lib.hid hf; clear hv ht hf)
  go_ret
  have hle : w.heap.size ≤ (w.alloc (.cells #[.int .i64 4, .int .u8 c, .int .u8 x, .slice A0 n0 k0] 43)).heap.size := by rw [World.size_alloc]; exact Nat.le_succ _
  exact ⟨_, rfl, Kd.R_lower HV.out hle, HT.out, HF.out.trans (HF1.out.less hle)⟩
end
end Go.Proofs.Ytgjicigagfhgmaa.H
