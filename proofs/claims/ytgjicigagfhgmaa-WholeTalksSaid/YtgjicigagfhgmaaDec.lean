/- Events in memory; a decoder. -/
/- Decoder.emit. -/
/- The last event's bytes grow. -/
/- Decoder.data. -/
/- Decoder.data: the last event's bytes grow. -/
import Derived.Test.YtgjicigagfhgmaaAx
import Derived.Lib.Hide
namespace Go.Proofs.Ytgjicigagfhgmaa.H
open Go.RowKit Go.Proofs.YtgjicigagfhgmaaW.PrintWords Go.Proofs.YtgjicigagfhgmaaW.PrintLast
set_option linter.unusedVariables false
set_option linter.unusedSimpArgs false
/-- An event. -/
structure Ev where
  k : Int
  c : Int
  o : Int
  b : List Int
def ec (p : Ev × Value) : List Value := [.int .i64 p.1.k, .int .u8 p.1.c, .int .u8 p.1.o, p.2]
def eflat (es : List (Ev × Value)) : List Value := es.flatMap ec
theorem eflat_cons (p : Ev × Value) (es : List (Ev × Value)) : eflat (p :: es) = .int .i64 p.1.k :: .int .u8 p.1.c :: .int .u8 p.1.o :: p.2 :: eflat es := rfl
theorem eflat_append (es fs : List (Ev × Value)) : eflat (es ++ fs) = eflat es ++ eflat fs := by simp [eflat]
theorem eflat_one (p : Ev × Value) : eflat [p] = ec p := by simp [eflat]
theorem eflat_length : ∀ es : List (Ev × Value), (eflat es).length = es.length * 4
  | [] => rfl
  | p :: es => by rw [eflat_cons, List.length_cons, List.length_cons, List.length_cons, List.length_cons, eflat_length es, List.length_cons]; omega
theorem eflat_get : ∀ (es : List (Ev × Value)) (i : Nat) (p : Ev × Value) (j : Nat) (u : Value), es[i]? = some p → (ec p)[j]? = some u → (eflat es)[i * 4 + j]? = some u
  | [], i, p, j, u, h, _ => by simp at h
  | q :: es, 0, p, j, u, h, hu => by
    have hj : j < 4 := (List.getElem?_eq_some_iff.1 hu).1
    simp only [List.getElem?_cons_zero, Option.some.injEq] at h
    subst h
    rw [eflat_cons, Nat.zero_mul, Nat.zero_add]
    obtain rfl | rfl | rfl | rfl : j = 0 ∨ j = 1 ∨ j = 2 ∨ j = 3 := by omega
    · exact hu
    · exact hu
    · exact hu
    · exact hu
  | q :: es, i + 1, p, j, u, h, hu => by
    rw [eflat_cons, show (i + 1) * 4 + j = i * 4 + j + 1 + 1 + 1 + 1 by omega, List.getElem?_cons_succ, List.getElem?_cons_succ, List.getElem?_cons_succ, List.getElem?_cons_succ]
    exact eflat_get es i p j u (by simpa using h) hu
/-- Events of the call's own: the row, and each event's bytes, no two in one block. -/
structure Evs (W : World) (base : Nat) (v : Value) (es : List (Ev × Value)) : Prop where
  o : W.ownsRow base 43 4 v es.length (eflat es)
  i : ∀ p ∈ es, W.ownsRow base 5 1 p.2 p.1.b.length (nums .u8 p.1.b)
  d : es.Pairwise (fun p q => p.2.ownBlock = none ∨ p.2.ownBlock ≠ q.2.ownBlock)
theorem own_apart {W : World} {b1 b2 n1 n2 s1 s2 : Nat} {e1 e2 : TypeId} {v1 v2 : Value} {l1 l2 : List Value} (h1 : W.ownsRow b1 e1 s1 v1 n1 l1) (h2 : W.ownsRow b2 e2 s2 v2 n2 l2) (hne : e1 ≠ e2) : v1.ownBlock = none ∨ v1.ownBlock ≠ v2.ownBlock := by
  cases h : v1.ownBlock with
  | none => exact .inl rfl
  | some k =>
    refine .inr (fun e => ?_)
    obtain ⟨c1, hc1⟩ := own_typed h1 k h
    obtain ⟨c2, hc2⟩ := own_typed h2 k e.symm
    have := hc1.symm.trans hc2
    injection this with this
    injection this with _ e
    exact hne e
theorem Evs.nil (W : World) (base : Nat) : Evs W base (.slice none 0 0) [] := ⟨own_nil _ _ _ _, fun p h => by simp at h, List.Pairwise.nil⟩
/-- Blocks stay that events lie in. -/
theorem Evs.move {W W1 : World} {base : Nat} {v : Value} {es : List (Ev × Value)} (h : Evs W base v es) (hm : ∀ k, base ≤ k → k < W.heap.size → (∃ cells t, (t = 5 ∨ t = 43) ∧ W.heap[k]? = some (.cells cells t (0, 0))) → W1.heap[k]? = W.heap[k]?) : Evs W1 base v es := by
  have hown : ∀ {e : TypeId} {size n : Nat} {u : Value} {l : List Value}, W.ownsRow base e size u n l → (e = 5 ∨ e = 43) → W1.ownsRow base e size u n l := fun {e size n u l} ho he => own_move ho (fun k hk => by
    obtain ⟨c, hc⟩ := own_typed ho k hk
    exact hm k (own_base ho k hk) (own_lt ho k hk) ⟨c, e, he, hc⟩)
  exact ⟨hown h.o (.inr rfl), fun p hp => hown (h.i p hp) (.inl rfl), h.d⟩
theorem Evs.below {W W1 : World} {base : Nat} {v : Value} {es : List (Ev × Value)} (h : Evs W base v es) (hb : Below W.heap.size W W1) : Evs W1 base v es := h.move (fun k _ hk _ => hb.block k hk)
/-- A cell of a block of another type is written. -/
theorem Evs.cell {W : World} {base g : Nat} {v : Value} {es : List (Ev × Value)} {cs : Array Value} {t : TypeId} (h : Evs W base v es) (hg : W.heap[g]? = some (.cells cs t (0, 0))) (h5 : t ≠ 5) (h43 : t ≠ 43) (j : Nat) (u : Value) : Evs (W.setCell ⟨g, j, none⟩ u) base v es := h.move (fun k _ _ hk => by
  obtain ⟨c, t', ht', hc⟩ := hk
  refine Below.heap_setCell _ _ _ k (fun e => ?_)
  have e : k = g := e
  subst e
  have := hg.symm.trans hc
  injection this with this
  injection this with _ e
  rcases ht' with rfl | rfl
  · exact h5 e
  · exact h43 e)
/-- An event more, that has no bytes. -/
theorem Evs.emit {W W1 : World} {base : Nat} {v v1 : Value} {es : List (Ev × Value)} (h : Evs W base v es) (k c o : Int) (hown : W1.ownsRow base 43 4 v1 (es.length + 1) (eflat es ++ [.int .i64 k, .int .u8 c, .int .u8 o, .slice none 0 0])) (hg : W.grownBy W1 v.ownBlock) : Evs W1 base v1 (es ++ [(⟨k, c, o, []⟩, .slice none 0 0)]) := by
  refine ⟨?_, fun p hp => ?_, ?_⟩
  · rw [eflat_append, eflat_one, List.length_append]
    exact hown
  · rcases List.mem_append.1 hp with hp | hp
    · exact own_other (h.i p hp) hg (own_apart (h.i p hp) h.o (by decide))
    · obtain rfl : p = (⟨k, c, o, []⟩, .slice none 0 0) := by simpa using hp
      exact own_nil _ _ _ _
  · refine List.pairwise_append.2 ⟨h.d, List.pairwise_singleton _ _, fun a ha b hb => ?_⟩
    obtain rfl : b = (⟨k, c, o, []⟩, .slice none 0 0) := by simpa using hb
    cases hv : a.2.ownBlock with
    | none => exact .inl rfl
    | some x => exact .inr (by simp [Value.ownBlock])
/-- An event more, with bytes in a block that is new. -/
theorem Evs.fresh {W W1 : World} {base : Nat} {v v1 u : Value} {es : List (Ev × Value)} {e : Ev} (h : Evs W base v es) (hu : W.ownsRow base 5 1 u e.b.length (nums .u8 e.b)) (hnew : ∀ p ∈ es, p.2.ownBlock = none ∨ p.2.ownBlock ≠ u.ownBlock) (hown : W1.ownsRow base 43 4 v1 (es.length + 1) (eflat es ++ ec (e, u))) (hg : W.grownBy W1 v.ownBlock) : Evs W1 base v1 (es ++ [(e, u)]) := by
  refine ⟨?_, fun p hp => ?_, ?_⟩
  · rw [eflat_append, eflat_one, List.length_append]
    exact hown
  · rcases List.mem_append.1 hp with hp | hp
    · exact own_other (h.i p hp) hg (own_apart (h.i p hp) h.o (by decide))
    · obtain rfl : p = (e, u) := by simpa using hp
      exact own_other hu hg (own_apart hu h.o (by decide))
  · refine List.pairwise_append.2 ⟨h.d, List.pairwise_singleton _ _, fun a ha b hb => ?_⟩
    obtain rfl : b = (e, u) := by simpa using hb
    exact hnew a ha
/-- A decoder. -/
structure Dc (W : World) (g base : Nat) (at_ code : Int) (x2 x3 x4 v : Value) (es : List (Ev × Value)) : Prop where
  p : W.heap[g]? = some (.cells #[.int .i64 at_, .int .u8 code, x2, x3, x4, v] 37 (0, 0))
  e : Evs W base v es
  b : base ≤ W.heap.size
/-- What a decoder's method lets be. -/
structure Fd (w w' : World) (g base : Nat) : Prop where
  os : w'.os = w.os
  tape : w'.tape = w.tape
  output : w'.output = w.output
  size : w.heap.size ≤ w'.heap.size
  block : ∀ k, k < base → k ≠ g → w'.heap[k]? = w.heap[k]?
theorem Fd.refl (w : World) (g base : Nat) : Fd w w g base := ⟨rfl, rfl, rfl, Nat.le_refl _, fun _ _ _ => rfl⟩
theorem Fd.trans {a b c : World} {g base : Nat} (h : Fd a b g base) (k : Fd b c g base) : Fd a c g base := ⟨k.os.trans h.os, k.tape.trans h.tape, k.output.trans h.output, Nat.le_trans h.size k.size, fun i hi hg => (k.block i hi hg).trans (h.block i hi hg)⟩
theorem Fd.of_below {a b : World} {g base : Nat} (h : Below base a b) : Fd a b g base := ⟨h.os, h.tape, h.output, h.size, fun i hi _ => h.block i hi⟩
theorem Fd.set {a b : World} {g base : Nat} (h : Fd a b g base) (j : Nat) (u : Value) : Fd a (b.setCell ⟨g, j, none⟩ u) g base := ⟨h.os, h.tape, h.output, by simpa [World.setCell] using h.size, fun i hi hg => (Below.heap_setCell b ⟨g, j, none⟩ u i hg).trans (h.block i hi hg)⟩
theorem info43 : (Try.prog.info? 43).map (fun i => (i.zero, i.size, i.bytes)) = some (some (.agg #[(.int .i64 0), (.int .u8 0), (.int .u8 0), (.slice none 0 0)]), 4, 40) := by kernel_rfl
theorem info5 : (Try.prog.info? 5).map (fun i => (i.zero, i.size, i.bytes)) = some (some (.int .u8 0), 1, 1) := by kernel_rfl
end Go.Proofs.Ytgjicigagfhgmaa.H

namespace Go.Proofs.Ytgjicigagfhgmaa.H
open Go.RowKit Go.Proofs.YtgjicigagfhgmaaW.PrintWords Go.Proofs.YtgjicigagfhgmaaW.PrintLast
set_option linter.unusedVariables false
set_option linter.unusedSimpArgs false
section
variable {w : World} {g base : Nat} {at_ code : Int} {x2 x3 x4 v : Value} {es : List (Ev × Value)}
set_option maxHeartbeats 4000000 in
set_option maxRecDepth 100000 in
theorem emit_p (h : Dc w g base at_ code x2 x3 x4 v es) (hl : es.length ≤ 100000) (k c o : Int) : Calls Try.prog 49 #[.pointer (some ⟨g, 0, none⟩), .agg #[.int .i64 k, .int .u8 c, .int .u8 o, .slice none 0 0]] w fun e w' => ∃ v', e = .returned (.tuple #[]) ∧ Dc w' g base 0 code x2 x3 x4 v' (es ++ [(⟨k, c, o, []⟩, .slice none 0 0)]) ∧ Fd w w' g base := by
  have hu43 := Try.underlying43
  obtain ⟨A0, k0, rfl⟩ := own_slice h.e.o
  have H := Lib.hid h
  have HLL := Lib.hid hl
  clear h hl
  go_enter Try.func49, Try.ntmps49
  have hb1 := below_alloc (Below.refl w.heap.size w) (.cells #[.int .i64 k, .int .u8 c, .int .u8 o, .slice none 0 0] 43)
  have hp1 := blk_below H.out.p hb1
  have c0 := (blk_cell hp1 0).trans rfl
  have f0 := blk_frozen hp1 0
  go_upto_region 2 with fail

  have hx2 := blk_far (blk_new w (.cells #[.int .i64 k, .int .u8 c, .int .u8 o, .slice none 0 0] 43)) (p := ⟨g, 0, none⟩) (Ne.symm (Nat.ne_of_lt (blk_lt H.out.p))) (.int .i64 0)
  have hp2 := blk_put hp1 0 (.int .i64 0) rfl
  have he2 := (H.out.e.below hb1).cell hp1 (by decide) (by decide) 0 (.int .i64 0)
  have hf2 := (Fd.of_below (g := g) (⟨hb1.os, hb1.tape, hb1.output, hb1.size, fun i hi => hb1.block i (Nat.lt_of_lt_of_le hi H.out.b)⟩ : Below base w _)).set 0 (.int .i64 0)
  obtain ⟨bx, hbx⟩ : ∃ bx, w.heap.size = bx := ⟨_, rfl⟩
  have hsz := H.out.b
  have hvl := fun k hk => own_lt H.out.e.o k hk
  rw [hbx] at hx2 hvl
  simp only [hbx]
  generalize (w.alloc (.cells #[.int .i64 k, .int .u8 c, .int .u8 o, .slice none 0 0] 43)).setCell ⟨g, 0, none⟩ (.int .i64 0) = W2 at hx2 hp2 he2 hf2 ⊢
  have HP := Lib.hid hp2
  have HX := Lib.hid hx2
  have HE := Lib.hid (he2.below (below_drew (Below.refl _ _)))
  have HF := Lib.hid (hf2.trans (Fd.of_below (g := g) (below_drew (Below.refl base _))))
  have HSZ := Lib.hid (Nat.le_trans hsz hf2.size)
  have HVL := Lib.hid hvl
  have e0 := (blk_cell (blk_drew hp2) 5).trans rfl
  have e1 := (blk_cell (blk_drew hx2) 0).trans rfl
  have e2 := (blk_cell (blk_drew hx2) 1).trans rfl
  have e3 := (blk_cell (blk_drew hx2) 2).trans rfl
  have e4 := (blk_cell (blk_drew hx2) 3).trans rfl
  clear hx2 hp2 he2 hf2 hsz hvl hbx hb1 hp1 c0 f0
  refine start_ (n := 11) (S := fun W' => W'.cell? ⟨g, 5, none⟩ = some (.slice A0 es.length k0) ∧ W'.cell? ⟨bx, 0, none⟩ = some (.int .i64 k) ∧ W'.cell? ⟨bx, 1, none⟩ = some (.int .u8 c) ∧ W'.cell? ⟨bx, 2, none⟩ = some (.int .u8 o) ∧ W'.cell? ⟨bx, 3, none⟩ = some (.slice none 0 0)) (ds := [10]) #[false, false, false, false, false, false, false, false, false, false, false] (by kernel_rfl) rfl rfl ⟨e0, e1, e2, e3, e4⟩ (fun hHeld => ?_)
  refine pure_ (i := 0) (N := some 7) (v := ?_) (a' := ?_) #[true, false, false, false, false, false, false, false, false, false, false] rfl rfl (by kernel_rfl) (fun _ _ _ h => h) (Or.inl ⟨by rfl, ?_⟩) ?_ ?_
  rotate_left
  · intro w'
    go_simp
    with_reducible rfl
  rotate_left
  · simp only [Act.put, List.setIfInBounds_toArray, List.set_cons_zero, List.set_cons_succ, i64_w, i32_w]
    try rfl
  refine pure_ (i := 1) (N := some 8) (v := ?_) (a' := ?_) #[true, true, false, false, false, false, false, false, false, false, false] rfl rfl (by kernel_rfl) (fun _ _ _ h => h) (Or.inl ⟨by rfl, ?_⟩) ?_ ?_
  rotate_left
  · intro w'
    go_simp
    with_reducible rfl
  rotate_left
  · simp only [Act.put, List.setIfInBounds_toArray, List.set_cons_zero, List.set_cons_succ, i64_w, i32_w]
    try rfl
  refine pure_ (i := 2) (N := some 9) (v := ?_) (a' := ?_) #[true, true, true, false, false, false, false, false, false, false, false] rfl rfl (by kernel_rfl) (fun _ _ _ h => h) (Or.inl ⟨by rfl, ?_⟩) ?_ ?_
  rotate_left
  · intro w'
    go_simp
    with_reducible rfl
  rotate_left
  · simp only [Act.put, List.setIfInBounds_toArray, List.set_cons_zero, List.set_cons_succ, i64_w, i32_w]
    try rfl
  refine pure_ (i := 3) (N := some 10) (v := ?_) (a' := ?_) #[true, true, true, true, false, false, false, false, false, false, false] rfl rfl (by kernel_rfl) (fun _ _ _ h => h) (Or.inl ⟨by rfl, ?_⟩) ?_ ?_
  rotate_left
  · intro w'
    go_simp
    with_reducible rfl
  rotate_left
  · simp only [Act.put, List.setIfInBounds_toArray, List.set_cons_zero, List.set_cons_succ, i64_w, i32_w]
    try rfl
  refine take_ (i := 4) (N := some 11) (v := ?_) (a' := ?_) #[true, true, true, true, true, false, false, false, false, false, false] rfl rfl (by kernel_rfl) (fun _ _ _ h => h) (Or.inl ⟨by rfl, ?_⟩) hHeld ?_ ?_
  rotate_left
  · rintro w' ⟨s0, s1, s2, s3, s4⟩
    go_simp
    with_reducible rfl
  rotate_left
  · simp only [Act.put, List.setIfInBounds_toArray, List.set_cons_zero, List.set_cons_succ, i64_w, i32_w]
    try rfl
  refine take_ (i := 5) (N := some 12) (v := ?_) (a' := ?_) #[true, true, true, true, true, true, false, false, false, false, false] rfl rfl (by kernel_rfl) (fun _ _ _ h => h) (Or.inl ⟨by rfl, ?_⟩) hHeld ?_ ?_
  rotate_left
  · rintro w' ⟨s0, s1, s2, s3, s4⟩
    go_simp
    with_reducible rfl
  rotate_left
  · simp only [Act.put, List.setIfInBounds_toArray, List.set_cons_zero, List.set_cons_succ, i64_w, i32_w]
    try rfl
  refine one_ (i := 6) (N := some 13) #[true, true, true, true, true, true, true, false, false, false, false] rfl rfl (by kernel_rfl) (by decide) (fun K hK => ?_)
  refine value_ (v := ?_) (w1 := ?_) (by rfl) rfl ?_ ?_
  rotate_left
  rotate_left
  · go_simp
    first | (constructor <;> with_reducible rfl) | with_reducible rfl
  refine hK.out _ _ ⟨(blk_cell (blk_alloc (blk_drew HP.out) _) 5).trans rfl, (blk_cell (blk_alloc (blk_drew HX.out) _) 0).trans rfl, (blk_cell (blk_alloc (blk_drew HX.out) _) 1).trans rfl, (blk_cell (blk_alloc (blk_drew HX.out) _) 2).trans rfl, (blk_cell (blk_alloc (blk_drew HX.out) _) 3).trans rfl⟩ (fun hHeld => ?_)
  clear hK K
  refine norm_ (a' := ?_) ?_ ?_
  rotate_left
  · show Act.put _ (some 13) _ = _
    simp only [Act.put, List.setIfInBounds_toArray, List.set_cons_zero, List.set_cons_succ, i64_w, i32_w]
    try rfl
  refine one_ (i := 7) (N := some 14) #[true, true, true, true, true, true, true, true, false, false, false] rfl rfl (by kernel_rfl) (by decide) (fun K hK => ?_)
  refine step_append_cells (w0 := W2.drew) base ?_ (.tmp 11) (.tmp 13) 35 43 (.agg #[.int .i64 0, .int .u8 0, .int .u8 0, .slice none 0 0]) 4 40 rfl Try.underlying35 info43 rfl (by decide) (by decide) (.slice A0 es.length k0) es.length (eflat es) [.int .i64 k, .int .u8 c, .int .u8 o, .slice none 0 0] rfl rfl rfl (by intro u hu; simp only [List.mem_cons, List.not_mem_nil, or_false] at hu; rcases hu with rfl | rfl | rfl | rfl <;> rfl) HE.out.o (Below.refl _ _) HSZ.out (by have := HLL.out; omega) ?_
  · rfl
  intro v5 w5 hown5 hb5 hg5 hat5
  obtain ⟨A5, k5, rfl⟩ := own_slice hown5
  have hgn : some g ≠ (Value.slice A0 es.length k0).ownBlock := fun e => by
    obtain ⟨cells, hc⟩ := own_typed HE.out.o g e.symm
    have := (blk_drew HP.out).symm.trans hc
    injection this with this
    injection this with _ e
    cases e
  have hxn : some bx ≠ (Value.slice A0 es.length k0).ownBlock := fun e => Nat.lt_irrefl _ (HVL.out bx e.symm)
  have HP5 := Lib.hid (blk_grown (blk_drew HP.out) hg5 hgn)
  have hx5 := blk_grown (blk_drew HX.out) hg5 hxn
  have HE5 := Lib.hid (HE.out.emit k c o hown5 hg5)
  have HB5 := Lib.hid (Nat.le_trans HSZ.out hg5.size)
  have HF5 := Lib.hid (HF.out.trans (Fd.of_below (g := g) hb5))
  clear hown5 hb5 hg5 hat5
  refine hK.out _ _ ⟨(blk_cell HP5.out 5).trans rfl, (blk_cell hx5 0).trans rfl, (blk_cell hx5 1).trans rfl, (blk_cell hx5 2).trans rfl, (blk_cell hx5 3).trans rfl⟩ (fun hHeld => ?_)
  clear hK K
  refine norm_ (a' := ?_) ?_ ?_
  rotate_left
  · show Act.put _ (some 14) _ = _
    simp only [Act.put, List.setIfInBounds_toArray, List.set_cons_zero, List.set_cons_succ, i64_w, i32_w]
    try rfl
  refine pure_ (i := 8) (N := some 15) (v := ?_) (a' := ?_) #[true, true, true, true, true, true, true, true, true, false, false] rfl rfl (by kernel_rfl) (fun _ _ _ h => h) (Or.inl ⟨by rfl, ?_⟩) ?_ ?_
  rotate_left
  · intro w'
    go_simp
    with_reducible rfl
  rotate_left
  · simp only [Act.put, List.setIfInBounds_toArray, List.set_cons_zero, List.set_cons_succ, i64_w, i32_w]
    try rfl
  refine pure_ (i := 9) (N := some 16) (v := ?_) (a' := ?_) #[true, true, true, true, true, true, true, true, true, true, false] rfl rfl (by kernel_rfl) (fun _ _ _ h => h) (Or.inl ⟨by rfl, ?_⟩) ?_ ?_
  rotate_left
  · intro w'
    go_simp
    with_reducible rfl
  rotate_left
  · simp only [Act.put, List.setIfInBounds_toArray, List.set_cons_zero, List.set_cons_succ, i64_w, i32_w]
    try rfl
  have gs := (blk_cell HP5.out 5).trans rfl
  have gf := blk_frozen HP5.out 5
  refine last_ (i := 10) (N := none) #[true, true, true, true, true, true, true, true, true, true, true] rfl rfl (by kernel_rfl) (by decide) (fun K hK => ?_)
  refine skip_ (w1 := ?_) (by rfl) rfl ?_ ?_
  rotate_left
  · go_simp
    rfl
  refine hK.out _ _ ?_
  clear hK K gs gf
  refine done_ (by kernel_rfl) ?_
  clear hHeld hx5 e0 e1 e2 e3 e4
  go_wp2
  all_goals
    go_end0
    exact ⟨_, rfl, ⟨blk_set HP5.out 5 _, HE5.out.cell HP5.out (by decide) (by decide) 5 _, (by simpa [World.setCell] using HB5.out)⟩, HF5.out.set 5 _⟩
end
end Go.Proofs.Ytgjicigagfhgmaa.H

namespace Go.Proofs.Ytgjicigagfhgmaa.H
open Go.RowKit Go.Proofs.YtgjicigagfhgmaaW.PrintWords Go.Proofs.YtgjicigagfhgmaaW.PrintLast
set_option linter.unusedVariables false
set_option linter.unusedSimpArgs false
/-- A cell of a row of one's own is written. -/
theorem own_set {W : World} {base R n cap size : Nat} {e : TypeId} {xs : List Value} (h : W.ownsRow base e size (.slice (some ⟨R, 0, none⟩) n cap) n xs) (j : Nat) (u : Value) (hj : j < xs.length) : (W.setCell ⟨R, j, none⟩ u).ownsRow base e size (.slice (some ⟨R, 0, none⟩) n cap) n (xs.set j u) := by
  obtain ⟨h1, h2⟩ := h
  rcases h2 with ⟨h2, _⟩ | ⟨g, cap', cur, hv, hb, hh, hn, hm, hs, ht⟩
  · cases h2
  · obtain ⟨⟨rfl, _⟩, rfl⟩ : (R = g ∧ True) ∧ cap = cap' := by simpa using hv
    refine ⟨by rw [List.length_set]; exact h1, .inr ⟨R, cap, cur.setIfInBounds j u, rfl, hb, blk_put hh j u rfl, hn, hm, by simpa using hs, ?_⟩⟩
    rw [Array.toList_setIfInBounds, List.take_set, ht]
theorem own_form' {w : World} {base size n : Nat} {e : TypeId} {v : Value} {xs : List Value} (h : w.ownsRow base e size v n xs) (hn : 0 < n) : ∃ g cap, v = .slice (some ⟨g, 0, none⟩) n cap := by
  rcases h.2 with ⟨_, h0⟩ | ⟨g, cap, _, rfl, _⟩
  · omega
  · exact ⟨g, cap, rfl⟩
theorem own_cell4 {w : World} {base R n cap size : Nat} {e : TypeId} {xs : List Value} (h : w.ownsRow base e size (.slice (some ⟨R, 0, none⟩) n cap) n xs) (j : Nat) (u : Value) (hj : xs[j]? = some u) : w.cell? ⟨R, j, none⟩ = some u ∧ w.frozen? ⟨R, j, none⟩ = false := by
  rcases h.2 with ⟨h2, _⟩ | ⟨g, cap', cur, hv, hb, hh, hn, hm, hs, ht⟩
  · cases h2
  · obtain ⟨⟨rfl, _⟩, rfl⟩ : (R = g ∧ True) ∧ cap = cap' := by simpa using hv
    refine ⟨?_, blk_frozen hh j⟩
    rw [blk_cell hh, ← Array.getElem?_toList]
    rw [← ht] at hj
    have hlt := (List.getElem?_eq_some_iff.1 hj).1
    rw [List.length_take] at hlt
    rw [List.getElem?_take_of_lt (by omega)] at hj
    exact hj
theorem eflat_set (fs : List (Ev × Value)) (e e' : Ev) (u u' : Value) (h1 : e.k = e'.k) (h2 : e.c = e'.c) (h3 : e.o = e'.o) : (eflat (fs ++ [(e, u)])).set (fs.length * 4 + 3) u' = eflat (fs ++ [(e', u')]) := by
  rw [eflat_append, eflat_append, List.set_append_right _ _ (by rw [eflat_length]; omega), eflat_length, show fs.length * 4 + 3 - fs.length * 4 = 3 by omega]
  rw [eflat_one, eflat_one]
  show eflat fs ++ [.int .i64 e.k, .int .u8 e.c, .int .u8 e.o, u'] = eflat fs ++ [.int .i64 e'.k, .int .u8 e'.c, .int .u8 e'.o, u']
  rw [h1, h2, h3]
theorem Evs.grow {W W5 : World} {base R cap : Nat} {fs : List (Ev × Value)} {e : Ev} {u v5 : Value} {c : Int} (h : Evs W base (.slice (some ⟨R, 0, none⟩) (fs ++ [(e, u)]).length cap) (fs ++ [(e, u)])) (hown : W5.ownsRow base 5 1 v5 (e.b ++ [c]).length (nums .u8 (e.b ++ [c]))) (hg : W.grownBy W5 u.ownBlock) (hat : v5.ownBlock = u.ownBlock ∨ ∃ b, v5.ownBlock = some b ∧ W.heap.size ≤ b) : Evs (W5.setCell ⟨R, fs.length * 4 + 3, none⟩ v5) base (.slice (some ⟨R, 0, none⟩) (fs ++ [(e, u)]).length cap) (fs ++ [({ e with b := e.b ++ [c] }, v5)]) := by
  have hu := h.i (e, u) (by simp)
  have ho5 := own_other h.o hg (own_apart h.o hu (by decide))
  have hlen : (fs ++ [(e, u)]).length = (fs ++ [(({ e with b := e.b ++ [c] } : Ev), v5)]).length := by simp
  have hR : ∀ {n : Nat} {v : Value} {l : List Value}, W5.ownsRow base 5 1 v n l → (W5.setCell ⟨R, fs.length * 4 + 3, none⟩ v5).ownsRow base 5 1 v n l := fun {n v l} hv => own_setCell hv (fun e => by
    rcases own_apart hv ho5 (by decide) with h | h
    · rw [h] at e; cases e
    · exact h e.symm) v5
  obtain ⟨d1, d2, d3⟩ := List.pairwise_append.1 h.d
  refine ⟨?_, fun p hp => ?_, ?_⟩
  · have := own_set ho5 (fs.length * 4 + 3) v5 (by rw [eflat_length]; simp; omega)
    rw [eflat_set fs e { e with b := e.b ++ [c] } u v5 rfl rfl rfl] at this
    rw [← hlen]
    exact this
  · rcases List.mem_append.1 hp with hp | hp
    · refine hR (own_other (h.i p (List.mem_append_left _ hp)) hg ?_)
      exact d3 p hp (e, u) (by simp)
    · obtain rfl : p = ({ e with b := e.b ++ [c] }, v5) := by simpa using hp
      exact hR hown
  · refine List.pairwise_append.2 ⟨d1, List.pairwise_singleton _ _, fun a ha b hb => ?_⟩
    obtain rfl : b = ({ e with b := e.b ++ [c] }, v5) := by simpa using hb
    have h1 := d3 a ha (e, u) (by simp)
    rcases hat with h2 | ⟨b, h2, h3⟩
    · show a.2.ownBlock = none ∨ a.2.ownBlock ≠ v5.ownBlock
      rw [h2]
      exact h1
    · show a.2.ownBlock = none ∨ a.2.ownBlock ≠ v5.ownBlock
      rw [h2]
      by_cases hx : a.2.ownBlock = some b
      · have := own_lt (h.i a (List.mem_append_left _ ha)) b hx
        omega
      · exact .inr hx
end Go.Proofs.Ytgjicigagfhgmaa.H

namespace Go.Proofs.Ytgjicigagfhgmaa.H
open Go.RowKit Go.Proofs.YtgjicigagfhgmaaW.PrintWords Go.Proofs.YtgjicigagfhgmaaW.PrintLast
set_option linter.unusedVariables false
set_option linter.unusedSimpArgs false
theorem addr_mk (R k : Nat) : (⟨R, 0, none⟩ : Addr).add k = ⟨R, k, none⟩ := by
  cases k with
  | zero => simp [Addr.add]
  | succ k => simp [Addr.add]
section
variable {w : World} {g base : Nat} {at_ code : Int} {x2 x3 x4 v : Value}
set_option maxHeartbeats 4000000 in
set_option maxRecDepth 100000 in
theorem data_nil (h : Dc w g base at_ code x2 x3 x4 v []) (c : Int) : Calls Try.prog 55 #[.pointer (some ⟨g, 0, none⟩), .int .u8 c] w fun e w' => ∃ v' u, e = .returned (.tuple #[]) ∧ Dc w' g base 0 code x2 x3 x4 v' [(⟨1, 0, 0, [c]⟩, u)] ∧ Fd w w' g base := by
  have hu43 := Try.underlying43
  obtain ⟨A0, k0, hv⟩ := own_slice h.e.o
  have hv : v = .slice A0 0 k0 := hv
  subst hv
  have H := Lib.hid h
  have HLL : Hid (0 ≤ 100000) := Lib.hid (by decide)
  have f0 := blk_frozen h.p 0
  have p0 := (blk_cell h.p 0).trans rfl
  clear h
  go_enter Try.func55, Try.ntmps55
  go_upto_region 1 with fail
  have HP1 := Lib.hid (blk_put H.out.p 0 (.int .i64 0) rfl)
  have HE1 := Lib.hid (H.out.e.cell H.out.p (by decide) (by decide) 0 (.int .i64 0))
  have HF1 := Lib.hid ((Fd.refl w g base).set 0 (.int .i64 0))
  have HB1 : Hid (base ≤ (w.setCell ⟨g, 0, none⟩ (.int .i64 0)).heap.size) := Lib.hid (by simpa [World.setCell] using H.out.b)
  generalize w.setCell ⟨g, 0, none⟩ (.int .i64 0) = W1 at HP1 HE1 HF1 HB1  ⊢
  have c5 := (blk_cell HP1.out 5).trans rfl
  have HX := Lib.hid (heap_alloc_new W1 (.cells #[.int .u8 c] 5))
  have hb2 := below_alloc (Below.refl W1.heap.size W1) (.cells #[.int .u8 c] 5)
  have HU : Hid ((W1.alloc (.cells #[.int .u8 c] 5)).ownsRow base 5 1 (.slice (some ⟨W1.heap.size, 0, none⟩) 1 1) 1 (nums .u8 [c])) := Lib.hid (own_lit W1 base 5 .u8 [c] HB1.out (by simp))
  have HE2 := Lib.hid (HE1.out.below hb2)
  have HP2 := Lib.hid (blk_below HP1.out hb2)
  have HF2 := Lib.hid (HF1.out.trans (Fd.of_below (g := g) (⟨hb2.os, hb2.tape, hb2.output, hb2.size, fun i hi => hb2.block i (Nat.lt_of_lt_of_le hi HB1.out)⟩ : Below base _ _)))
  have HB2 := Lib.hid (Nat.le_trans HB1.out hb2.size)
  have HNW : Hid (∀ p ∈ ([] : List (Ev × Value)), p.2.ownBlock = none ∨ p.2.ownBlock ≠ (Value.slice (some ⟨W1.heap.size, 0, none⟩) 1 1).ownBlock) := Lib.hid (fun p hp => by
    cases hq : p.2.ownBlock with
    | none => exact .inl rfl
    | some x => exact .inr (fun e => by
        have := own_lt (HE1.out.i p hp) x hq
        have e : x = W1.heap.size := by simpa [Value.ownBlock] using e
        omega))
  have HGN : Hid (∀ u : Value, (∃ n l, (W1.alloc (.cells #[.int .u8 c] 5)).ownsRow base 43 4 u n l) → some g ≠ u.ownBlock) := Lib.hid (fun u ⟨n, l, ho⟩ e => by
    obtain ⟨cells, hc⟩ := own_typed ho g e.symm
    have := HP2.out.symm.trans hc
    injection this with this
    injection this with _ e
    cases e)
  clear hb2
  have HLN : Hid ((([] : List (Ev × Value))).length = 0) := Lib.hid (by simp)
  have HO2 := Lib.hid HE2.out.o
  rw [HLN.out] at HO2
  go_wp2_with (at_builtin; refine print_append_cells (w0 := W1.alloc (.cells #[.int .u8 c] 5)) base rfl (.tmp 51) (.tmp 55) 35 43 (.agg #[.int .i64 0, .int .u8 0, .int .u8 0, .slice none 0 0]) 4 40 rfl Try.underlying35 info43 rfl (by decide) (by decide) (.slice A0 0 k0) 0 (eflat (([] : List (Ev × Value)))) [.int .i64 1, .int .u8 0, .int .u8 0, .slice (some ⟨W1.heap.size, 0, none⟩) 1 1] rfl (by rw [World.size_alloc]; rfl) rfl (by intro u hu; simp only [List.mem_cons, List.not_mem_nil, or_false] at hu; rcases hu with rfl | rfl | rfl | rfl <;> rfl) HO2.out (Below.refl _ _) HB2.out (by have := HLL.out; omega) ?_; intro v5 w5 hown5 hb5 hg5 hat5; obtain ⟨A5, k5, rfl⟩ := own_slice hown5; have HP5 := Lib.hid (blk_grown HP2.out hg5 (HGN.out _ ⟨_, _, HO2.out⟩)); have HE5 := Lib.hid (HE2.out.fresh (e := ⟨1, 0, 0, [c]⟩) HU.out HNW.out (by rw [HLN.out]; exact hown5) hg5); have HB5 := Lib.hid (Nat.le_trans HB2.out hg5.size); have HF5 := Lib.hid (HF2.out.trans (Fd.of_below (g := g) hb5)); have d5 := (blk_cell HP5.out 5).trans rfl; have g5 := blk_frozen HP5.out 5; clear hown5 hb5 hg5 hat5 c5)
  go_end0
  exact ⟨_, _, rfl, ⟨blk_set HP5.out 5 _, HE5.out.cell HP5.out (by decide) (by decide) 5 _, by simpa [World.setCell] using HB5.out⟩, HF5.out.set 5 _⟩
set_option maxHeartbeats 4000000 in
set_option maxRecDepth 100000 in
theorem data_new {fs : List (Ev × Value)} {e : Ev} {u : Value} (h : Dc w g base at_ code x2 x3 x4 v (fs ++ [(e, u)])) (hl : fs.length ≤ 100000) (hk : e.k ≠ 1) (c : Int) : Calls Try.prog 55 #[.pointer (some ⟨g, 0, none⟩), .int .u8 c] w fun e' w' => ∃ v' u', e' = .returned (.tuple #[]) ∧ Dc w' g base 0 code x2 x3 x4 v' ((fs ++ [(e, u)]) ++ [(⟨1, 0, 0, [c]⟩, u')]) ∧ Fd w w' g base := by
  have hu43 := Try.underlying43
  obtain ⟨R, k0, rfl⟩ := own_form' h.e.o (by simp)
  rw [show (fs ++ [(e, u)]).length = fs.length + 1 by simp] at h
  have H := Lib.hid h
  have HLL := Lib.hid hl
  have f0 := blk_frozen h.p 0
  have p0 := (blk_cell h.p 0).trans rfl
  have hkb : (e.k == 1) = false := beq_eq_false_iff_ne.2 hk
  have hw1 : wrap64 (fs.length : Int) = (fs.length : Int) := by unfold wrap64; omega
  clear h hl
  go_enter Try.func55, Try.ntmps55
  go_upto_region 1 with fail
  have HP1 := Lib.hid (blk_put H.out.p 0 (.int .i64 0) rfl)
  have HE1 := Lib.hid (H.out.e.cell H.out.p (by decide) (by decide) 0 (.int .i64 0))
  have HF1 := Lib.hid ((Fd.refl w g base).set 0 (.int .i64 0))
  have HB1 : Hid (base ≤ (w.setCell ⟨g, 0, none⟩ (.int .i64 0)).heap.size) := Lib.hid (by simpa [World.setCell] using H.out.b)
  generalize w.setCell ⟨g, 0, none⟩ (.int .i64 0) = W1 at HP1 HE1 HF1 HB1  ⊢
  have c5 := (blk_cell HP1.out 5).trans rfl
  have hoo := HE1.out.o
  have hlen : (fs ++ [(e, u)]).length = fs.length + 1 := by simp
  rw [hlen] at hoo
  have hcell := own_cell4 hoo (fs.length * 4 + 0) (.int .i64 e.k) (eflat_get _ fs.length (e, u) 0 _ (by simp) rfl)
  have c4 : W1.cell? ⟨R, fs.length * 4, none⟩ = some (.int .i64 e.k) := hcell.1
  have ha4 : (⟨R, 0, none⟩ : Addr).add (fs.length * 4) = ⟨R, fs.length * 4, none⟩ := addr_mk R (fs.length * 4)
  clear hoo hcell
  have HX := Lib.hid (heap_alloc_new W1 (.cells #[.int .u8 c] 5))
  have hb2 := below_alloc (Below.refl W1.heap.size W1) (.cells #[.int .u8 c] 5)
  have HU : Hid ((W1.alloc (.cells #[.int .u8 c] 5)).ownsRow base 5 1 (.slice (some ⟨W1.heap.size, 0, none⟩) 1 1) 1 (nums .u8 [c])) := Lib.hid (own_lit W1 base 5 .u8 [c] HB1.out (by simp))
  have HE2 := Lib.hid (HE1.out.below hb2)
  have HP2 := Lib.hid (blk_below HP1.out hb2)
  have HF2 := Lib.hid (HF1.out.trans (Fd.of_below (g := g) (⟨hb2.os, hb2.tape, hb2.output, hb2.size, fun i hi => hb2.block i (Nat.lt_of_lt_of_le hi HB1.out)⟩ : Below base _ _)))
  have HB2 := Lib.hid (Nat.le_trans HB1.out hb2.size)
  have HNW : Hid (∀ p ∈ fs ++ [(e, u)], p.2.ownBlock = none ∨ p.2.ownBlock ≠ (Value.slice (some ⟨W1.heap.size, 0, none⟩) 1 1).ownBlock) := Lib.hid (fun p hp => by
    cases hq : p.2.ownBlock with
    | none => exact .inl rfl
    | some x => exact .inr (fun e => by
        have := own_lt (HE1.out.i p hp) x hq
        have e : x = W1.heap.size := by simpa [Value.ownBlock] using e
        omega))
  have HGN : Hid (∀ u : Value, (∃ n l, (W1.alloc (.cells #[.int .u8 c] 5)).ownsRow base 43 4 u n l) → some g ≠ u.ownBlock) := Lib.hid (fun u ⟨n, l, ho⟩ e => by
    obtain ⟨cells, hc⟩ := own_typed ho g e.symm
    have := HP2.out.symm.trans hc
    injection this with this
    injection this with _ e
    cases e)
  clear hb2
  have HLN : Hid ((fs ++ [(e, u)]).length = (fs.length + 1)) := Lib.hid (by simp)
  have HO2 := Lib.hid HE2.out.o
  rw [HLN.out] at HO2
  go_wp2_with (at_builtin; refine print_append_cells (w0 := W1.alloc (.cells #[.int .u8 c] 5)) base rfl (.tmp 51) (.tmp 55) 35 43 (.agg #[.int .i64 0, .int .u8 0, .int .u8 0, .slice none 0 0]) 4 40 rfl Try.underlying35 info43 rfl (by decide) (by decide) (.slice (some ⟨R, 0, none⟩) (fs.length + 1) k0) (fs.length + 1) (eflat (fs ++ [(e, u)])) [.int .i64 1, .int .u8 0, .int .u8 0, .slice (some ⟨W1.heap.size, 0, none⟩) 1 1] rfl (by rw [World.size_alloc]; rfl) rfl (by intro u hu; simp only [List.mem_cons, List.not_mem_nil, or_false] at hu; rcases hu with rfl | rfl | rfl | rfl <;> rfl) HO2.out (Below.refl _ _) HB2.out (by have := HLL.out; omega) ?_; intro v5 w5 hown5 hb5 hg5 hat5; obtain ⟨A5, k5, rfl⟩ := own_slice hown5; have HP5 := Lib.hid (blk_grown HP2.out hg5 (HGN.out _ ⟨_, _, HO2.out⟩)); have HE5 := Lib.hid (HE2.out.fresh (e := ⟨1, 0, 0, [c]⟩) HU.out HNW.out (by rw [HLN.out]; exact hown5) hg5); have HB5 := Lib.hid (Nat.le_trans HB2.out hg5.size); have HF5 := Lib.hid (HF2.out.trans (Fd.of_below (g := g) hb5)); have d5 := (blk_cell HP5.out 5).trans rfl; have g5 := blk_frozen HP5.out 5; clear hown5 hb5 hg5 hat5 c5)
  go_end0
  exact ⟨_, _, rfl, ⟨blk_set HP5.out 5 _, HE5.out.cell HP5.out (by decide) (by decide) 5 _, by simpa [World.setCell] using HB5.out⟩, HF5.out.set 5 _⟩
end
end Go.Proofs.Ytgjicigagfhgmaa.H

namespace Go.Proofs.Ytgjicigagfhgmaa.H
open Go.RowKit Go.Proofs.YtgjicigagfhgmaaW.PrintWords Go.Proofs.YtgjicigagfhgmaaW.PrintLast
set_option linter.unusedVariables false
set_option linter.unusedSimpArgs false
theorem Fd.far {a b : World} {g base R : Nat} (h : Fd a b g base) (hR : base ≤ R) (j : Nat) (u : Value) : Fd a (b.setCell ⟨R, j, none⟩ u) g base := ⟨h.os, h.tape, h.output, by simpa [World.setCell] using h.size, fun i hi hg => (Below.heap_setCell b ⟨R, j, none⟩ u i (show i ≠ R by omega)).trans (h.block i hi hg)⟩
section
variable {w : World} {g base : Nat} {at_ code : Int} {x2 x3 x4 v : Value}
set_option maxHeartbeats 4000000 in
set_option maxRecDepth 100000 in
theorem data_add {fs : List (Ev × Value)} {e : Ev} {u : Value} (h : Dc w g base at_ code x2 x3 x4 v (fs ++ [(e, u)])) (hl : fs.length ≤ 100000) (hbl : e.b.length ≤ 1000000) (hk : e.k = 1) (c : Int) : Calls Try.prog 55 #[.pointer (some ⟨g, 0, none⟩), .int .u8 c] w fun e' w' => ∃ u', e' = .returned (.tuple #[]) ∧ Dc w' g base 0 code x2 x3 x4 v (fs ++ [({ e with b := e.b ++ [c] }, u')]) ∧ Fd w w' g base := by
  have hu43 := Try.underlying43
  obtain ⟨R, k0, rfl⟩ := own_form' h.e.o (by simp)
  obtain ⟨Ab, kb, eu⟩ : ∃ A c, u = .slice A e.b.length c := own_slice (h.e.i (e, u) (by simp))
  subst eu
  have HDC := Lib.hid h
  have hlen : (fs ++ [(e, Value.slice Ab e.b.length kb)]).length = fs.length + 1 := by simp
  rw [hlen] at h ⊢
  have H := Lib.hid h
  have HLL := Lib.hid hl
  have HBL := Lib.hid hbl
  have f0 := blk_frozen h.p 0
  have p0 := (blk_cell h.p 0).trans rfl
  have hw1 : wrap64 (fs.length : Int) = (fs.length : Int) := by unfold wrap64; omega
  have hlt : (fs.length : Int) < (fs.length : Int) + 1 := by omega
  clear h hl hbl
  go_enter Try.func55, Try.ntmps55
  go_upto_region 1 with fail
  have HP1 := Lib.hid (blk_put H.out.p 0 (.int .i64 0) rfl)
  have HE1 := Lib.hid (HDC.out.e.cell HDC.out.p (by decide) (by decide) 0 (.int .i64 0))
  have HF1 := Lib.hid ((Fd.refl w g base).set 0 (.int .i64 0))
  have HB1 : Hid (base ≤ (w.setCell ⟨g, 0, none⟩ (.int .i64 0)).heap.size) := Lib.hid (by simpa [World.setCell] using H.out.b)
  generalize w.setCell ⟨g, 0, none⟩ (.int .i64 0) = W1 at HP1 HE1 HF1 HB1 ⊢
  have c5 := (blk_cell HP1.out 5).trans rfl
  have hoo := HE1.out.o
  have hcell := own_cell4 hoo (fs.length * 4 + 0) (.int .i64 e.k) (eflat_get _ fs.length (e, (Value.slice Ab e.b.length kb)) 0 _ (by simp) rfl)
  rw [hk] at hcell
  have c4 : W1.cell? ⟨R, fs.length * 4, none⟩ = some (.int .i64 1) := hcell.1
  have hcel3 := own_cell4 hoo (fs.length * 4 + 3) (.slice Ab e.b.length kb) (eflat_get _ fs.length (e, (Value.slice Ab e.b.length kb)) 3 _ (by simp) rfl)
  have HC3 := Lib.hid hcel3
  have ha4 : (⟨R, 0, none⟩ : Addr).add (fs.length * 4) = ⟨R, fs.length * 4, none⟩ := addr_mk R (fs.length * 4)
  clear hoo hcell hcel3
  go_upto_region 3 with fail
  have e0 := (blk_cell (blk_drew HP1.out) 5).trans rfl
  have e1 : W1.drew.cell? ⟨R, fs.length * 4 + 3, none⟩ = some (.slice Ab e.b.length kb) := HC3.out.1
  clear c4 c5 f0 p0
  refine start_ (n := 21) (S := fun W' => W'.cell? ⟨g, 5, none⟩ = some (.slice (some ⟨R, 0, none⟩) (fs.length + 1) k0) ∧ W'.cell? ⟨R, fs.length * 4 + 3, none⟩ = some (.slice Ab e.b.length kb)) (ds := [20]) #[false, false, false, false, false, false, false, false, false, false, false, false, false, false, false, false, false, false, false, false, false] (by kernel_rfl) rfl rfl ⟨e0, e1⟩ (fun hHeld => ?_)
  refine pure_ (i := 0) (N := some 27) (v := ?_) (a' := ?_) #[true, false, false, false, false, false, false, false, false, false, false, false, false, false, false, false, false, false, false, false, false] rfl rfl (by kernel_rfl) (fun _ _ _ h => h) (Or.inl ⟨by rfl, ?_⟩) ?_ ?_
  rotate_left
  · intro w'
    go_simp
    with_reducible rfl
  rotate_left
  · simp only [Act.put, List.setIfInBounds_toArray, List.set_cons_zero, List.set_cons_succ, i64_w, i32_w]
    try rfl
  refine pure_ (i := 1) (N := some 28) (v := ?_) (a' := ?_) #[true, true, false, false, false, false, false, false, false, false, false, false, false, false, false, false, false, false, false, false, false] rfl rfl (by kernel_rfl) (fun _ _ _ h => h) (Or.inl ⟨by rfl, ?_⟩) ?_ ?_
  rotate_left
  · intro w'
    go_simp
    with_reducible rfl
  rotate_left
  · simp only [Act.put, List.setIfInBounds_toArray, List.set_cons_zero, List.set_cons_succ, i64_w, i32_w]
    try rfl
  refine pure_ (i := 2) (N := some 29) (v := ?_) (a' := ?_) #[true, true, true, false, false, false, false, false, false, false, false, false, false, false, false, false, false, false, false, false, false] rfl rfl (by kernel_rfl) (fun _ _ _ h => h) (Or.inl ⟨by rfl, ?_⟩) ?_ ?_
  rotate_left
  · intro w'
    go_simp
    with_reducible rfl
  rotate_left
  · simp only [Act.put, List.setIfInBounds_toArray, List.set_cons_zero, List.set_cons_succ, i64_w, i32_w]
    try rfl
  refine take_ (i := 3) (N := some 30) (v := ?_) (a' := ?_) #[true, true, true, true, false, false, false, false, false, false, false, false, false, false, false, false, false, false, false, false, false] rfl rfl (by kernel_rfl) (fun _ _ _ h => h) (Or.inl ⟨by rfl, ?_⟩) hHeld ?_ ?_
  rotate_left
  · rintro w' ⟨s0, s1⟩
    go_simp
    with_reducible rfl
  rotate_left
  · simp only [Act.put, List.setIfInBounds_toArray, List.set_cons_zero, List.set_cons_succ, i64_w, i32_w]
    try rfl
  refine pure_ (i := 4) (N := some 31) (v := ?_) (a' := ?_) #[true, true, true, true, true, false, false, false, false, false, false, false, false, false, false, false, false, false, false, false, false] rfl rfl (by kernel_rfl) (fun _ _ _ h => h) (Or.inl ⟨by rfl, ?_⟩) ?_ ?_
  rotate_left
  · intro w'
    go_simp
    with_reducible rfl
  rotate_left
  · simp only [Act.put, List.setIfInBounds_toArray, List.set_cons_zero, List.set_cons_succ, i64_w, i32_w]
    try rfl
  refine pure_ (i := 5) (N := some 32) (v := ?_) (a' := ?_) #[true, true, true, true, true, true, false, false, false, false, false, false, false, false, false, false, false, false, false, false, false] rfl rfl (by kernel_rfl) (fun _ _ _ h => h) (Or.inl ⟨by rfl, ?_⟩) ?_ ?_
  rotate_left
  · intro w'
    go_simp
    with_reducible rfl
  rotate_left
  · simp only [Act.put, List.setIfInBounds_toArray, List.set_cons_zero, List.set_cons_succ, i64_w, i32_w]
    try rfl
  refine pure_ (i := 6) (N := some 33) (v := ?_) (a' := ?_) #[true, true, true, true, true, true, true, false, false, false, false, false, false, false, false, false, false, false, false, false, false] rfl rfl (by kernel_rfl) (fun _ _ _ h => h) (Or.inl ⟨by rfl, ?_⟩) ?_ ?_
  rotate_left
  · intro w'
    go_simp
    with_reducible rfl
  rotate_left
  · simp only [Act.put, List.setIfInBounds_toArray, List.set_cons_zero, List.set_cons_succ, i64_w, i32_w]
    try rfl
  refine pure_ (i := 7) (N := some 34) (v := ?_) (a' := ?_) #[true, true, true, true, true, true, true, true, false, false, false, false, false, false, false, false, false, false, false, false, false] rfl rfl (by kernel_rfl) (fun _ _ _ h => h) (Or.inl ⟨by rfl, ?_⟩) ?_ ?_
  rotate_left
  · intro w'
    go_simp
    with_reducible rfl
  rotate_left
  · simp only [Act.put, List.setIfInBounds_toArray, List.set_cons_zero, List.set_cons_succ, i64_w, i32_w]
    try rfl
  refine pure_ (i := 8) (N := some 35) (v := ?_) (a' := ?_) #[true, true, true, true, true, true, true, true, true, false, false, false, false, false, false, false, false, false, false, false, false] rfl rfl (by kernel_rfl) (fun _ _ _ h => h) (Or.inl ⟨by rfl, ?_⟩) ?_ ?_
  rotate_left
  · intro w'
    go_simp
    with_reducible rfl
  rotate_left
  · simp only [Act.put, List.setIfInBounds_toArray, List.set_cons_zero, List.set_cons_succ, i64_w, i32_w]
    try rfl
  refine take_ (i := 9) (N := some 36) (v := ?_) (a' := ?_) #[true, true, true, true, true, true, true, true, true, true, false, false, false, false, false, false, false, false, false, false, false] rfl rfl (by kernel_rfl) (fun _ _ _ h => h) (Or.inl ⟨by rfl, ?_⟩) hHeld ?_ ?_
  rotate_left
  · rintro w' ⟨s0, s1⟩
    go_simp
    with_reducible rfl
  rotate_left
  · simp only [Act.put, List.setIfInBounds_toArray, List.set_cons_zero, List.set_cons_succ, i64_w, i32_w]
    try rfl
  refine pure_ (i := 10) (N := some 37) (v := ?_) (a' := ?_) #[true, true, true, true, true, true, true, true, true, true, true, false, false, false, false, false, false, false, false, false, false] rfl rfl (by kernel_rfl) (fun _ _ _ h => h) (Or.inl ⟨by rfl, ?_⟩) ?_ ?_
  rotate_left
  · intro w'
    go_simp
    with_reducible rfl
  rotate_left
  · simp only [Act.put, List.setIfInBounds_toArray, List.set_cons_zero, List.set_cons_succ, i64_w, i32_w]
    try rfl
  refine pure_ (i := 11) (N := some 38) (v := ?_) (a' := ?_) #[true, true, true, true, true, true, true, true, true, true, true, true, false, false, false, false, false, false, false, false, false] rfl rfl (by kernel_rfl) (fun _ _ _ h => h) (Or.inl ⟨by rfl, ?_⟩) ?_ ?_
  rotate_left
  · intro w'
    go_simp
    with_reducible rfl
  rotate_left
  · simp only [Act.put, List.setIfInBounds_toArray, List.set_cons_zero, List.set_cons_succ, i64_w, i32_w]
    try rfl
  refine pure_ (i := 12) (N := some 39) (v := ?_) (a' := ?_) #[true, true, true, true, true, true, true, true, true, true, true, true, true, false, false, false, false, false, false, false, false] rfl rfl (by kernel_rfl) (fun _ _ _ h => h) (Or.inl ⟨by rfl, ?_⟩) ?_ ?_
  rotate_left
  · intro w'
    go_simp
    with_reducible rfl
  rotate_left
  · simp only [Act.put, List.setIfInBounds_toArray, List.set_cons_zero, List.set_cons_succ, i64_w, i32_w]
    try rfl
  refine pure_ (i := 13) (N := some 40) (v := ?_) (a' := ?_) #[true, true, true, true, true, true, true, true, true, true, true, true, true, true, false, false, false, false, false, false, false] rfl rfl (by kernel_rfl) (fun _ _ _ h => h) (Or.inl ⟨by rfl, ?_⟩) ?_ ?_
  rotate_left
  · intro w'
    go_simp
    with_reducible rfl
  rotate_left
  · simp only [Act.put, List.setIfInBounds_toArray, List.set_cons_zero, List.set_cons_succ, i64_w, i32_w]
    try rfl
  refine take_ (i := 14) (N := some 41) (v := ?_) (a' := ?_) #[true, true, true, true, true, true, true, true, true, true, true, true, true, true, true, false, false, false, false, false, false] rfl rfl (by kernel_rfl) (fun _ _ _ h => h) (Or.inl ⟨by rfl, ?_⟩) hHeld ?_ ?_
  rotate_left
  · rintro w' ⟨s0, s1⟩
    go_simp
    with_reducible rfl
  rotate_left
  · simp only [Act.put, List.setIfInBounds_toArray, List.set_cons_zero, List.set_cons_succ, i64_w, i32_w]
    try rfl
  refine pure_ (i := 15) (N := some 42) (v := ?_) (a' := ?_) #[true, true, true, true, true, true, true, true, true, true, true, true, true, true, true, true, false, false, false, false, false] rfl rfl (by kernel_rfl) (fun _ _ _ h => h) (Or.inl ⟨by rfl, ?_⟩) ?_ ?_
  rotate_left
  · intro w'
    go_simp
    with_reducible rfl
  rotate_left
  · simp only [Act.put, List.setIfInBounds_toArray, List.set_cons_zero, List.set_cons_succ, i64_w, i32_w]
    try rfl
  refine one_ (i := 16) (N := some 43) #[true, true, true, true, true, true, true, true, true, true, true, true, true, true, true, true, true, false, false, false, false] rfl rfl (by kernel_rfl) (by decide) (fun K hK => ?_)
  refine value_ (v := ?_) (w1 := ?_) (by rfl) rfl ?_ ?_
  rotate_left
  rotate_left
  · go_simp
    first | (constructor <;> with_reducible rfl) | with_reducible rfl
  have HU : Hid (W1.drew.ownsRow base 5 1 (.slice Ab e.b.length kb) e.b.length (nums .u8 e.b)) := Lib.hid ((HE1.out.i (e, .slice Ab e.b.length kb) (by simp)))
  refine hK.out _ _ ⟨(blk_cell (blk_alloc (blk_drew HP1.out) _) 5).trans rfl, pw_cell_below (below_alloc (Below.refl _ _) _) e1⟩ (fun hHeld => ?_)
  clear hK K
  refine norm_ (a' := ?_) ?_ ?_
  rotate_left
  · show Act.put _ (some 43) _ = _
    simp only [Act.put, List.setIfInBounds_toArray, List.set_cons_zero, List.set_cons_succ, i64_w, i32_w]
    try rfl
  refine one_ (i := 17) (N := some 44) #[true, true, true, true, true, true, true, true, true, true, true, true, true, true, true, true, true, true, false, false, false] rfl rfl (by kernel_rfl) (by decide) (fun K hK => ?_)
  refine step_append_cells (w0 := W1.drew) base ?_ (.tmp 41) (.tmp 43) 25 5 (.int .u8 0) 1 1 rfl Try.underlying25 info5 rfl (by decide) (by decide) (.slice Ab e.b.length kb) e.b.length (nums .u8 e.b) [.int .u8 c] rfl rfl rfl (fun u hu => by have h : u = .int .u8 c := (by simpa using hu); rw [h]; rfl) HU.out (Below.refl _ _) HB1.out (by have := HBL.out; omega) ?_
  · rfl
  intro v5 w5 hown5 hb5 hg5 hat5
  obtain ⟨A5, k5, rfl⟩ := own_slice hown5
  have hgn : some g ≠ (Value.slice Ab e.b.length kb).ownBlock := fun e => by
    obtain ⟨cells, hc⟩ := own_typed HU.out g e.symm
    have := (blk_drew HP1.out).symm.trans hc
    injection this with this
    injection this with _ e
    cases e
  have HP5 := Lib.hid (blk_grown (blk_drew HP1.out) hg5 hgn)
  have hn5 : nums .u8 e.b ++ [.int .u8 c] = nums .u8 (e.b ++ [c]) := by rw [nums_append]; rfl
  rw [hn5] at hown5
  have ho5 : w5.ownsRow base 5 1 (.slice A5 (e.b.length + 1) k5) (e.b ++ [c]).length (nums .u8 (e.b ++ [c])) := by rw [List.length_append]; exact hown5
  have HE6 := Lib.hid (Evs.grow (W := W1.drew) (HE1.out.below (below_drew (Below.refl _ _))) ho5 hg5 hat5)
  have HB5 := Lib.hid (Nat.le_trans HB1.out hg5.size)
  have HF5 := Lib.hid (HF1.out.trans (Fd.of_below (g := g) (below_drew (Below.refl base _)) |>.trans (Fd.of_below (g := g) hb5)))
  have hr5 := own_cell4 (own_other (HE1.out.below (below_drew (Below.refl _ _))).o hg5 (own_apart (HE1.out.below (below_drew (Below.refl _ _))).o HU.out (by decide))) (fs.length * 4 + 3) (.slice Ab e.b.length kb) (eflat_get _ fs.length (e, (Value.slice Ab e.b.length kb)) 3 _ (by simp) rfl)
  have HR5 := Lib.hid hr5
  have ho43 := own_other (HE1.out.below (below_drew (Below.refl _ _))).o hg5 (own_apart (HE1.out.below (below_drew (Below.refl _ _))).o HU.out (by decide))
  have hbR := own_base ho43 R rfl
  have hgR : g ≠ R := fun e => by
    obtain ⟨cells, hc⟩ := own_typed ho43 R rfl
    rw [← e] at hc
    have := HP5.out.symm.trans hc
    injection this with this
    injection this with _ e
    cases e
  have HGR := Lib.hid hgR
  have HBR := Lib.hid hbR
  clear ho43 hbR hgR
  clear hown5 ho5 hb5 hg5 hat5 hgn hn5
  refine hK.out _ _ ⟨(blk_cell HP5.out 5).trans rfl, hr5.1⟩ (fun hHeld => ?_)
  clear hK K
  refine norm_ (a' := ?_) ?_ ?_
  rotate_left
  · show Act.put _ (some 44) _ = _
    simp only [Act.put, List.setIfInBounds_toArray, List.set_cons_zero, List.set_cons_succ, i64_w, i32_w]
    try rfl
  refine pure_ (i := 18) (N := some 45) (v := ?_) (a' := ?_) #[true, true, true, true, true, true, true, true, true, true, true, true, true, true, true, true, true, true, true, false, false] rfl rfl (by kernel_rfl) (fun _ _ _ h => h) (Or.inl ⟨by rfl, ?_⟩) ?_ ?_
  rotate_left
  · intro w'
    go_simp
    with_reducible rfl
  rotate_left
  · simp only [Act.put, List.setIfInBounds_toArray, List.set_cons_zero, List.set_cons_succ, i64_w, i32_w]
    try rfl
  refine pure_ (i := 19) (N := some 46) (v := ?_) (a' := ?_) #[true, true, true, true, true, true, true, true, true, true, true, true, true, true, true, true, true, true, true, true, false] rfl rfl (by kernel_rfl) (fun _ _ _ h => h) (Or.inl ⟨by rfl, ?_⟩) ?_ ?_
  rotate_left
  · intro w'
    go_simp
    with_reducible rfl
  rotate_left
  · simp only [Act.put, List.setIfInBounds_toArray, List.set_cons_zero, List.set_cons_succ, i64_w, i32_w]
    try rfl
  have gs := HR5.out.1
  have gf := HR5.out.2
  refine last_ (i := 20) (N := none) #[true, true, true, true, true, true, true, true, true, true, true, true, true, true, true, true, true, true, true, true, true] rfl rfl (by kernel_rfl) (by decide) (fun K hK => ?_)
  refine skip_ (w1 := ?_) (by rfl) rfl ?_ ?_
  rotate_left
  · go_simp
    rfl
  refine hK.out _ _ ?_
  clear hK K gs gf
  refine done_ (by kernel_rfl) ?_
  clear hHeld hr5 e0 e1
  go_wp2
  first | go_end0 | refine bodyPost_ret (results_none rfl _ _ _) rfl ?_
  exact ⟨_, rfl, ⟨blk_far HP5.out (p := ⟨R, _, none⟩) HGR.out _, by rw [hlen] at HE6; exact HE6.out, by simpa [World.setCell] using HB5.out⟩, HF5.out.far HBR.out _ _⟩
end
end Go.Proofs.Ytgjicigagfhgmaa.H

