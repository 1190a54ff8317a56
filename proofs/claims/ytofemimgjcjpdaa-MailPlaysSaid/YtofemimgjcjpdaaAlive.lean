/- The law's alive: the document's example. -/
import Derived.Test.YtofemimgjcjpdaaTaken
namespace Go.Proofs.Ytofemimgjcjpdaa.H
open Go.Conc Go.RowKit Go.Shelf
set_option linter.unusedVariables false
set_option linter.unusedSimpArgs false
attribute [local go_sem] Oper.semAt_some

/-- Two queues, beyond w; and all that lay in w. -/
structure Two (w : World) (g c : Nat) (xs : List Int) (s : Bool) (g2 c2 : Nat) (ys : List Int) (s2 : Bool) (W : World) : Prop where
  q : IsQ W g c 2 xs s
  q2 : IsQ W g2 c2 1 ys s2
  b : Below w.heap.size w W
  g0 : w.heap.size ≤ g
  c0 : w.heap.size ≤ c
  g20 : w.heap.size ≤ g2
  c20 : w.heap.size ≤ c2
  hg : g ≠ g2
  hc : c ≠ c2
section
variable {w W W' : World} {g c g2 c2 : Nat} {xs xs' ys ys' : List Int} {s s' s2 s2' : Bool}
theorem Two.first (h : Two w g c xs s g2 c2 ys s2 W) {S : Nat → Prop} (hq : IsQ W' g c 2 xs' s') (ht : Turn S W W') (hS : ∀ i, S i → i = c ∨ i = g) : Two w g c xs' s' g2 c2 ys s2 W' := by
  have e1 := h.q.ne2 h.q2
  have e2 := h.q2.ne2 h.q
  have := h.hg
  have := h.hc
  have := h.g0
  have := h.c0
  refine ⟨hq, h.q2.turn ht (fun hs => ?_) (fun hs => ?_), h.b.trans (ht.below h.b.size (fun i hi => ?_)), h.g0, h.c0, h.g20, h.c20, h.hg, h.hc⟩
  · rcases hS _ hs with e | e <;> omega
  · rcases hS _ hs with e | e <;> omega
  · rcases hS _ hi with e | e <;> omega
theorem Two.second (h : Two w g c xs s g2 c2 ys s2 W) {S : Nat → Prop} (hq : IsQ W' g2 c2 1 ys' s2') (ht : Turn S W W') (hS : ∀ i, S i → i = c2 ∨ i = g2) : Two w g c xs s g2 c2 ys' s2' W' := by
  have e1 := h.q.ne2 h.q2
  have e2 := h.q2.ne2 h.q
  have := h.hg
  have := h.hc
  have := h.g20
  have := h.c20
  refine ⟨h.q.turn ht (fun hs => ?_) (fun hs => ?_), hq, h.b.trans (ht.below h.b.size (fun i hi => ?_)), h.g0, h.c0, h.g20, h.c20, h.hg, h.hc⟩
  · rcases hS _ hs with e | e <;> omega
  · rcases hS _ hs with e | e <;> omega
  · rcases hS _ hi with e | e <;> omega
theorem Two.both (h : Two w g c xs s g2 c2 ys s2 W) {S : Nat → Prop} (hq : IsQ W' g c 2 xs' s') (hq2 : IsQ W' g2 c2 1 ys' s2') (ht : Turn S W W') (hS : ∀ i, S i → i = c ∨ i = c2) : Two w g c xs' s' g2 c2 ys' s2' W' := by
  have := h.c0
  have := h.c20
  refine ⟨hq, hq2, h.b.trans (ht.below h.b.size (fun i hi => ?_)), h.g0, h.c0, h.g20, h.c20, h.hg, h.hc⟩
  rcases hS _ hi with e | e <;> omega
theorem Two.later (h : Two w g c xs s g2 c2 ys s2 W) (hb : Below W.heap.size W W') : Two w g c xs s g2 c2 ys s2 W' :=
  h.both (h.q.turn (S := fun _ => False) (Turn.of_below hb) (fun h => h) (fun h => h)) (h.q2.turn (S := fun _ => False) (Turn.of_below hb) (fun h => h) (fun h => h)) (S := fun _ => False) (Turn.of_below hb) (fun _ h => h.elim)
end
theorem Two.drewN {w W : World} {g c g2 c2 : Nat} {xs ys : List Int} {s s2 : Bool} (h : Two w g c xs s g2 c2 ys s2 W) (n : Nat) : Two w g c xs s g2 c2 ys s2 (W.drewN n) := h.later ⟨rfl, rfl, rfl, Nat.le_refl _, fun _ _ => rfl⟩
theorem two_new (w : World) {W1 W2 : World} {g c g2 c2 : Nat} (h1 : IsQ W1 g c 2 [] false) (hb1 : Below w.heap.size w W1) (hg : w.heap.size ≤ g) (hc : w.heap.size ≤ c) (h2 : IsQ W2 g2 c2 1 [] false) (hb2 : Below W1.heap.size W1 W2) (hg2 : W1.heap.size ≤ g2) (hc2 : W1.heap.size ≤ c2) :
    Two w g c [] false g2 c2 [] false W2 := by
  have hl := h1.lt
  have hs := hb1.size
  exact ⟨h1.turn (S := fun _ => False) (Turn.of_below hb2) (fun h => h) (fun h => h), h2, hb1.trans (hb2.mono hs), hg, hc, by omega, by omega, by omega, by omega⟩

def sumW (xs : List Int) : Int := xs.foldl (fun s x => wrap64 (s + x)) 0
theorem sumW_snoc (xs : List Int) (x : Int) : sumW (xs ++ [x]) = wrap64 (sumW xs + x) := by simp [sumW]
/-- Between two rounds. -/
def AI (c g : Nat) (w : World) (pre : List Int) (W : World) : Prop := Boxed W w.heap.size 3 (.int .i64 (sumW pre)) ∧ Boxed W (w.heap.size + 1) 24 (.pointer (some ⟨g, 0, none⟩)) ∧ Turn (· = c) w W
theorem ai_own {w : World} {g c : Nat} {B : Nat} (hB : w.heap.size ≤ B) : OwnFrom B (AI c g w) := by
  intro s W W' row h hg hr
  obtain ⟨h1, h2, h4⟩ := h
  have hcells : ∀ {b t v}, Boxed W b t v → some b ≠ row := fun hb e => by
    obtain ⟨_, o, ho, hc⟩ := hr _ e.symm
    rw [show W.heap[_]? = _ from hb] at ho
    cases ho
    cases hc
  exact ⟨h1.kept hg (hcells h1), h2.kept hg (hcells h2), h4.step hg (fun r e => Nat.le_trans hB (hr r e).1)⟩
theorem ai_turn {w : World} {g c : Nat} (hc : c < w.heap.size) {pre : List Int} {A B : World} (h : AI c g w pre A) (ht : Turn (· = c) A B) : AI c g w pre B := by
  obtain ⟨h1, h2, h4⟩ := h
  exact ⟨boxed_turn h1 ht (by omega), boxed_turn h2 ht (by omega), h4.trans ht⟩
theorem calls_as {P : Program} {f : FuncId} {args : Array Value} {w : World} {R : Ending → World → Prop} {n : Nat} (h : Calls P f args w R) : CallsIn Fence.wide n P f args w R := callsIn_wide.2 h
/-- The slice of both. -/
theorem first_two {w W : World} {g c g2 c2 : Nat} {ys : List Int} {y : Int} (h : Two w g c [] false g2 c2 (y :: ys) false W) (b : Nat) (hb : W.heap[b]? = some (.cells #[.pointer (some ⟨g, 0, none⟩), .pointer (some ⟨g2, 0, none⟩)] 24 (0, 0))) :
    Calls Try.prog 21 #[.slice (some ⟨b, 0, none⟩) 2 2] W fun e w' => e = .returned (.tuple #[.int .i64 y, .int .i64 1, .bool true]) ∧ IsQ w' g2 c2 1 ys false ∧ Turn (· = c2) W w' := by
  have k := first_some W b 0 2 [⟨g, c, 2, [], false⟩, ⟨g2, c2, 1, y :: ys, false⟩] (by intro q hq; simp at hq; rcases hq with rfl | rfl; exact h.q; exact h.q2) (by
    intro i hi
    match i, hi with
    | 0, _ => exact (cell_of hb 0).trans rfl
    | 1, _ => exact (cell_of hb 1).trans rfl) 1 (by simp) (by
    intro j hj h1
    obtain rfl : j = 0 := by omega
    rfl) y ys rfl (by simp)
  exact k
set_option maxHeartbeats 4000000 in
set_option maxRecDepth 100000 in
theorem alive_in (n : Nat) (hn : 3 ≤ n) (w : World) :
    CallsIn Fence.wide n Try.prog 7 #[] w fun e w' => e = .returned (.bool true) ∧ Below w.heap.size w w' := by
  have h1 : 1 ≤ n := by omega
  have f8 : Fence.wide.fn 8 := trivial
  have f11 : Fence.wide.fn 11 := trivial
  have f12 : Fence.wide.fn 12 := trivial
  have f14 : Fence.wide.fn 14 := trivial
  have f17 : Fence.wide.fn 17 := trivial
  have f18 : Fence.wide.fn 18 := trivial
  have f19 : Fence.wide.fn 19 := trivial
  have f20 : Fence.wide.fn 20 := trivial
  have f21 : Fence.wide.fn 21 := trivial
  have f22 : Fence.wide.fn 22 := trivial
  have f27 : Fence.wide.fn 27 := trivial
  refine callsIn_of_wp_marks Try.func7 rfl trivial ?_ rfl
  simp only [Try.ntmps7, List.size_toArray, List.length_cons, List.length_nil, Nat.reduceAdd, Nat.reduceSub, Array.replicate_succ, Array.replicate_zero, List.push_toArray, List.append_toArray, List.nil_append, List.cons_append]
  gi_wp2_with fail
  refine (callsIn_wide.2 (new_any _ 2)).mono ?_
  rintro e W1 ⟨g, c, rfl, hq1, hg, hc, hb1⟩
  gi_wp2_with fail
  refine (callsIn_wide.2 (new_any _ 1)).mono ?_
  rintro e W2 ⟨g2, c2, rfl, hq2, hg2, hc2, hb2⟩
  have T := Lib.hid (two_new w hq1 hb1 hg hc hq2 hb2 hg2 hc2)
  clear hq1 hb1 hg hc hq2 hb2 hg2 hc2
  gi_wp2_with fail
  refine (callsIn_wide.2 (put_room _ g c 2 [] 7 T.out.q (by decide))).mono ?_
  rintro e W3 ⟨rfl, hq, ht⟩
  have T1 := Lib.hid (show Two w g c [7] false g2 c2 [] false W3 from T.out.first hq ht (fun _ h => .inl h))
  clear hq ht T
  gi_wp2_with fail
  refine (callsIn_wide.2 (put_room _ g c 2 _ 8 T1.out.q (by decide))).mono ?_
  rintro e W4 ⟨rfl, hq, ht⟩
  have T := Lib.hid (show Two w g c [7, 8] false g2 c2 [] false W4 from T1.out.first hq ht (fun _ h => .inl h))
  clear hq ht T1
  gi_wp2_with fail
  refine (callsIn_wide.2 (put_full _ g c 2 _ 9 T.out.q (by decide))).mono ?_
  rintro e W5 ⟨rfl, rfl⟩
  gi_wp2_with fail
  have k := room_any W5 g c 2 _ false T.out.q (by decide) (by decide)
  rw [show roomN 2 [7, 8] false = 0 from rfl] at k
  refine (calls_as k).mono ?_
  clear k
  rintro e W6 ⟨rfl, nd, rfl⟩
  have T1 := Lib.hid (T.out.drewN nd)
  clear T
  gi_wp2_with fail
  have k := pour_any _ _ _ _ _ _ _ _ _ _ _ T1.out.q T1.out.q2 T1.out.hg T1.out.hc (by decide) (by decide) (by decide)
  rw [show pourN [7, 8] 1 [] false = 1 from rfl] at k
  refine (calls_as k).mono ?_
  clear k
  rintro e W7 ⟨rfl, hq, hq2, ht⟩
  have T := Lib.hid (show Two w g c [8] false g2 c2 [7] false W7 from T1.out.both hq hq2 ht (fun _ h => h))
  clear hq hq2 ht T1
  gi_wp2_with fail
  refine (calls_as (get_some _ _ _ _ 8 [] _ T.out.q)).mono ?_
  rintro e W8 ⟨rfl, hq, ht⟩
  have T1 := Lib.hid (show Two w g c [] false g2 c2 [7] false W8 from T.out.first hq ht (fun _ h => .inl h))
  clear hq ht T
  gi_wp2_with fail
  refine (calls_as (get_none _ _ _ _ T1.out.q)).mono ?_
  rintro e W9 ⟨rfl, rfl⟩
  gi_wp2_with fail
  have T := Lib.hid (T1.out.later ((Below.refl _ _).alloc (Nat.le_refl _) (Obj.cells #[.pointer (some ⟨g, 0, none⟩), .pointer (some ⟨g2, 0, none⟩)] 24)))
  refine (calls_as (first_two T.out _ (World.alloc_heap_new _ _))).mono ?_
  rintro e W10 ⟨rfl, hq, ht⟩
  have T1 := Lib.hid (show Two w g c [] false g2 c2 [] false W10 from T.out.second hq ht (fun _ h => .inl h))
  clear hq ht T
  gi_wp2_with fail
  refine (calls_as (put_room _ _ _ _ _ 5 T1.out.q2 (by decide))).mono ?_
  rintro e W11 ⟨rfl, hq, ht⟩
  have T := Lib.hid (show Two w g c [] false g2 c2 [5] false W11 from T1.out.second hq ht (fun _ h => .inl h))
  clear hq ht T1
  gi_wp2_with fail
  refine (calls_as (shut_any _ _ _ _ _ _ T.out.q2)).mono ?_
  rintro e W12 ⟨rfl, hq, ht⟩
  have T1 := Lib.hid (show Two w g c [] false g2 c2 [5] true W12 from T.out.second hq ht (fun _ h => h))
  clear hq ht T
  gi_wp2_with fail
  refine (calls_as (put_shut _ _ _ _ _ 6 T1.out.q2)).mono ?_
  rintro e W13 ⟨rfl, rfl⟩
  gi_wp2_with fail
  have k := over_any _ _ _ _ _ _ T1.out.q2
  rw [show overB [5] true = false from rfl] at k
  refine (calls_as k).mono ?_
  clear k
  rintro e W14 ⟨rfl, rfl⟩
  gi_wp2_with fail
  refine (calls_as (allq_any _ _)).mono ?_
  rintro e W15 ⟨rfl, rfl⟩
  gi_wp2_with fail
  obtain ⟨W, hW⟩ : ∃ W, (W14.alloc (Obj.cells #[Value.int IntKind.i64 0] 3)).alloc (Obj.cells #[Value.pointer (some ⟨g2, 0, none⟩)] 24) = W := ⟨_, rfl⟩
  have hb0 : Below W14.heap.size W14 W := by rw [← hW]; exact ((Below.refl _ _).alloc (Nat.le_refl _) _).alloc (by simp) _
  have hsz : W.heap.size = W14.heap.size + 2 := by rw [← hW]; simp
  have T := Lib.hid (T1.out.later hb0)
  have h0 : AI c2 g2 W14 [] W := by
    rw [← hW]
    have b1 := (Boxed.new W14 3 (.int .i64 0)).alloc (Obj.cells #[Value.pointer (some ⟨g2, 0, none⟩)] 24)
    have b2 := Boxed.new (W14.alloc (Obj.cells #[Value.int IntKind.i64 0] 3)) 24 (Value.pointer (some ⟨g2, 0, none⟩))
    simp only [World.size_alloc] at b2
    refine ⟨b1, b2, (Turn.refl _ _).belowStep ?_⟩
    rw [hW]
    exact hb0
  rw [hW]
  have H0 := Lib.hid h0
  have hlt := T1.out.q2.lt
  have hc2 := T1.out.c20
  have hw := T1.out.b.size
  clear hW h0 hb0
  refine wpIn_rangeFunc_moves (id := 0) rfl h1 (gf := 27) (lb := #[.pointer (some ⟨W14.heap.size + 1, 0, none⟩)]) rfl f27 (enters_of Try.func27 (by kernel_rfl) rfl)
    (all_moves (n - 1) (by omega) (W14.heap.size + 1) g2 c2 1 [5] true W H0.out.2.1 T.out.q2) (fun h k => Kq.trans h k) ?kb ?hM ?hSb ?hSpb (Below.refl _ _) (fun _ => rfl)
    (AI c2 g2 W14) (fun _ _ => False) ?hI (fun _ _ _ _ h _ _ => h) ?hIM (fun _ _ _ h _ => h) H0.out
    (fun x => { tmps := #[Value.bool false, Value.pointer (some ⟨g, 0, none⟩), Value.pointer (some ⟨g2, 0, none⟩), Value.int IntKind.i64 0, Value.int IntKind.i64 0, Value.int IntKind.i64 6, Value.int IntKind.i64 0, Value.int IntKind.i64 1, Value.int IntKind.i64 8, Value.bool true, Value.int IntKind.i64 0, Value.bool false, Value.int IntKind.i64 7, Value.int IntKind.i64 1, Value.bool true, Value.int IntKind.i64 60, Value.bool false, Value.pointer (some ⟨W14.heap.size, 0, none⟩), .int .i64 x, Value.pointer (some ⟨g, 0, none⟩), Value.pointer (some ⟨g2, 0, none⟩), Value.pointer (some ⟨g, 0, none⟩), Value.bool false, Value.bool false, Value.pointer (some ⟨g2, 0, none⟩), Value.bool false, Value.bool false, Value.pointer (some ⟨g, 0, none⟩), Value.int IntKind.i64 0, Value.pointer (some ⟨g, 0, none⟩), Value.int IntKind.i64 0, Value.pointer (some ⟨g, 0, none⟩), Value.int IntKind.i64 6, Value.pointer (some ⟨g, 0, none⟩), Value.int IntKind.i64 0, Value.pointer (some ⟨g, 0, none⟩), Value.pointer (some ⟨g2, 0, none⟩), Value.int IntKind.i64 1, Value.tuple #[Value.int IntKind.i64 8, Value.bool true], Value.pointer (some ⟨g, 0, none⟩), Value.tuple #[Value.int IntKind.i64 8, Value.bool true], Value.int IntKind.i64 8, Value.bool true, Value.tuple #[Value.int IntKind.i64 0, Value.bool false], Value.pointer (some ⟨g, 0, none⟩), Value.tuple #[Value.int IntKind.i64 0, Value.bool false], Value.int IntKind.i64 0, Value.bool false, Value.tuple #[Value.int IntKind.i64 7, Value.int IntKind.i64 1, Value.bool true], Value.pointer (some ⟨g, 0, none⟩), Value.pointer (some ⟨g2, 0, none⟩), Value.slice (some ⟨W9.heap.size, 0, none⟩) 2 2, Value.tuple #[Value.int IntKind.i64 7, Value.int IntKind.i64 1, Value.bool true], Value.int IntKind.i64 7, Value.int IntKind.i64 1, Value.bool true, Value.pointer (some ⟨g2, 0, none⟩), Value.int IntKind.i64 0, Value.pointer (some ⟨g2, 0, none⟩), Value.tuple #[], Value.pointer (some ⟨g2, 0, none⟩), Value.int IntKind.i64 60, Value.pointer (some ⟨g2, 0, none⟩), Value.bool false, Value.pointer (some ⟨g2, 0, none⟩), Value.func (Fn.func 27) #[] #[Value.pointer (some ⟨W14.heap.size + 1, 0, none⟩)], .int .i64 x, undef, undef, undef, undef, undef, undef, undef, undef, undef, undef, undef, undef, undef, undef, undef, undef, undef, undef, undef, undef, undef, undef, undef, undef, undef, undef, undef, undef, undef, undef, undef, undef, undef, undef, undef, undef, undef, undef, undef, undef, undef, undef, undef, undef, undef, undef, undef, undef, undef, undef, undef, undef, undef, undef, undef, undef, undef, undef, undef, undef, undef, undef, undef, undef, undef, undef, undef, undef, undef, undef, undef, undef, undef, undef, undef], defers := [] }) ?assign ?body ?done ?stop
  case kb =>
    intro W l o o' hl ho hc _
    exact ⟨by simp, World.putObj_heap_other (by omega), World.putObj_heap_other (by omega), World.putObj_heap_other (by omega)⟩
  case hM =>
    intro A B k o hm hk ho
    exact hm.blk ho (fun e => by omega)
  case hSb =>
    intro W ys l o o' hS hl _ _ _
    exact ⟨hS.1, hS.2.turn (turn_putObj W l o') (by omega) (by omega)⟩
  case hSpb =>
    intro W ys l o o' hS hl _ _ _
    exact ⟨hS.1, hS.2.turn (turn_putObj W l o') (by omega) (by omega)⟩
  case hI => exact ai_own (by omega)
  case hIM => exact fun pre A B h ht => ai_turn (by omega) h ht
  case assign =>
    intro l x W K hK
    gi_wp2
    exact hK
  case body =>
    rintro l pre x W' ⟨hv, hq, ht⟩ hpl
    have hc := hv.cell
    have hf := hv.frozen
    have HT := Lib.hid ht
    have HQ := Lib.hid hq
    have HV := Lib.hid hv
    obtain ⟨S, hS⟩ : ∃ S, S = sumW pre := ⟨_, rfl⟩
    rw [← hS] at hc
    have HS := Lib.hid hS
    clear ht hq hv hS
    gi_wp2
    have hv2 := HV.out.set (.int .i64 (wrap64 (S + x)))
    refine ⟨(KeepsOthers.setCell _ _ _).from _, ?_, ⟨by rw [sumW_snoc, ← HS.out]; exact hv2, HQ.out.kept (grownBy_setCell' W' _ _) (by simp), HT.out.belowStep (Below.setCell (Below.refl _ _) (p := ⟨W14.heap.size, 0, none⟩) (Nat.le_refl _) _)⟩⟩
    exact ⟨by simp [World.setCell], Below.heap_setCell _ _ _ _ (by simp), Below.heap_setCell _ _ _ _ (by simp; omega), Below.heap_setCell _ _ _ _ (by simp; omega)⟩
  case done =>
    rintro D ys W' hD ⟨rfl, hq⟩ ⟨hv, hbq, ht⟩ hK
    have hc := hv.cell
    rw [show sumW [5] = 5 by unfold sumW; simp only [List.foldl_cons, List.foldl_nil]; unfold wrap64; omega] at hc
    have T2 := Lib.hid (T1.out.second hq ht (fun _ h => .inl h))
    clear hv hbq ht hq
    gi_wp2_with fail
    have k := over_any _ _ _ _ _ _ T2.out.q2
    rw [show overB [] true = true from rfl] at k
    refine (calls_as k).mono ?_
    clear k
    rintro e W16 ⟨rfl, rfl⟩
    gi_wp2_with fail
    refine (calls_as (len_any _ _ _ _ _ _ T2.out.q2)).mono ?_
    rintro e W17 ⟨rfl, rfl⟩
    gi_wp2_with fail
    have k := room_any _ g2 c2 1 _ true T2.out.q2 (by decide) (by decide)
    rw [show roomN 1 [] true = 0 from rfl] at k
    refine (calls_as k).mono ?_
    clear k
    rintro e W18 ⟨rfl, nd2, rfl⟩
    gi_wp2_with fail
    refine (calls_as (pour_same _ g)).mono ?_
    rintro e W19 ⟨rfl, rfl⟩
    gi_wp2_with fail
    refine ⟨by simp, .inl ⟨_, _, rfl, run_takeDeferred (w := W17.drewN nd2) hK, ?_⟩⟩
    refine ⟨_, results_tmp rfl _ _ _, rfl, (T2.out.drewN nd2).b.trans ?_⟩
    exact (turn_putObj _ D _).below (T2.out.b.size) (fun i e => by subst e; omega)
  case stop =>
    rintro D pre W _ _ h _
    exact h.elim
theorem alive_any (w : World) : Calls Try.prog 7 #[] w fun e w' => e = .returned (.bool true) ∧ Below w.heap.size w w' := callsIn_wide.1 (alive_in 3 (by omega) w)
end Go.Proofs.Ytofemimgjcjpdaa.H
