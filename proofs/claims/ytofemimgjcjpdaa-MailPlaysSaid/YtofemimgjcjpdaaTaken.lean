/- The law's taken: what is taken one after the other. -/
import Derived.Test.YtofemimgjcjpdaaAll
import Derived.RangeFuncBox
namespace Go.Proofs.Ytofemimgjcjpdaa.H
open Go.Conc Go.RowKit Go.Shelf
set_option linter.unusedVariables false
set_option linter.unusedSimpArgs false
attribute [local go_sem] Oper.semAt_some

theorem allq_any (w : World) (g : Nat) :
    Calls Try.prog 22 #[.pointer (some ⟨g, 0, none⟩)] w fun e w' => e = .returned (.func (.func 27) #[] #[.pointer (some ⟨w.heap.size, 0, none⟩)]) ∧ w' = w.alloc (.cells #[.pointer (some ⟨g, 0, none⟩)] 24) := by
  go_enter Try.func22, Try.ntmps22
  go_wp2
  go_ret
  exact ⟨rfl, rfl⟩

theorem Turn.grown {A B : World} {c : Nat} (h : Turn (· = c) A B) : A.grownBy B (some c) := ⟨h.os, h.tape, h.output, h.size, fun k hk hn => h.block k hk (fun e => hn (by rw [e]))⟩
theorem Turn.step {w A B : World} {c : Nat} {row : Option Nat} (h : Turn (· = c) w A) (hg : A.grownBy B row) (hr : ∀ r, row = some r → w.heap.size ≤ r) : Turn (· = c) w B :=
  ⟨hg.os.trans h.os, hg.tape.trans h.tape, hg.output.trans h.output, Nat.le_trans h.size hg.size, fun i hi hn => (hg.block i (Nat.lt_of_lt_of_le hi h.size) (fun e => by have := hr i e.symm; omega)).trans (h.block i hi hn)⟩
theorem Turn.belowStep {w A B : World} {c : Nat} (h : Turn (· = c) w A) (hb : Below w.heap.size A B) : Turn (· = c) w B :=
  ⟨hb.os.trans h.os, hb.tape.trans h.tape, hb.output.trans h.output, Nat.le_trans h.size hb.size, fun i hi hn => (hb.block i hi).trans (h.block i hi hn)⟩
theorem boxed_turn {A B : World} {c b : Nat} {t : TypeId} {v : Value} (h : Boxed A b t v) (ht : Turn (· = c) A B) (hn : b ≠ c) : Boxed B b t v := ht.blk h hn
theorem row_turn {A B : World} {c base e size n : Nat} {v : Value} {xs : List Value} (h : A.ownsRow base e size v n xs) (ht : Turn (· = c) A B) (hc : c < base) : B.ownsRow base e size v n xs := by
  refine h.kept ht.grown ?_
  rcases h.2 with ⟨rfl, _⟩ | ⟨g, cap, cur, rfl, hb, _⟩
  · exact .inl rfl
  · refine .inr fun e' => ?_
    have e2 : g = c := by simpa [Value.ownBlock] using e'
    omega

theorem turn_putObj (W : World) (l : Nat) (o : Obj) : Turn (· = l) W (W.putObj l o) := ⟨rfl, rfl, rfl, by simp, fun i _ hn => World.putObj_heap_other hn⟩
theorem row_ne {W : World} {base e size k B : Nat} {v : Value} {xs : List Value} (h : W.ownsRow base e size v k xs) (hB : B < base) : some B ≠ v.ownBlock := by
  rcases h.2 with ⟨rfl, _⟩ | ⟨g, cap, cur, rfl, hb, _⟩
  · simp [Value.ownBlock]
  · intro e'
    have e2 : B = g := by simpa [Value.ownBlock] using e'
    omega
theorem row_lower {W : World} {base base' e size k : Nat} {v : Value} {xs : List Value} (h : W.ownsRow base e size v k xs) (hB : base' ≤ base) : W.ownsRow base' e size v k xs := by
  rcases h with ⟨h1, h2 | ⟨g, cap, cur, h2, hb, h3⟩⟩
  · exact ⟨h1, .inl h2⟩
  · exact ⟨h1, .inr ⟨g, cap, cur, h2, Nat.le_trans hB hb, h3⟩⟩
def takeN (most : Int) (xs : List Int) : Nat := if 1 ≤ most then min most.toNat xs.length else xs.length
def TakenP (w : World) (g c cap : Nat) (xs : List Int) (shut : Bool) (k : Nat) (e : Ending) (w' : World) : Prop :=
  ∃ v, e = .returned v ∧ w'.ownsRow w.heap.size 3 1 v (xs.take k).length ((xs.take k).map (Value.int .i64)) ∧ IsQ w' g c cap (xs.drop k) shut ∧ Turn (· = c) w w'
/-- Between two rounds. -/
def TI (w : World) (g c : Nat) (most : Int) (pre : List Int) (W : World) : Prop :=
  (∃ v, Boxed W (w.heap.size + 1 + 1) 27 v ∧ W.ownsRow (w.heap.size + 1) 3 1 v pre.length (pre.map (Value.int .i64)) ∧ True) ∧ Boxed W w.heap.size 3 (.int .i64 most) ∧ Boxed W (w.heap.size + 1 + 1 + 1) 24 (.pointer (some ⟨g, 0, none⟩)) ∧ Turn (· = c) w W
theorem ti_own {w : World} {g c : Nat} {most : Int} {B : Nat} (hB : w.heap.size ≤ B) : OwnFrom B (TI w g c most) := by
  intro s W W' row h hg hr
  obtain ⟨h1, h2, h3, h4⟩ := h
  have hcells : ∀ {b t v}, Boxed W b t v → some b ≠ row := fun hb e => by
    obtain ⟨_, o, ho, hc⟩ := hr _ e.symm
    rw [show W.heap[_]? = _ from hb] at ho
    cases ho
    cases hc
  exact ⟨holdsRow_own (w.heap.size + 1) (w.heap.size + 1 + 1) 27 3 1 (fun pre : List Int => pre.length) (fun pre => pre.map (Value.int .i64)) (fun _ _ => True) s W W' row h1 hg (fun r e => (hr r e).2), h2.kept hg (hcells h2), h3.kept hg (hcells h3), h4.step hg (fun r e => Nat.le_trans hB (hr r e).1)⟩
theorem ti_turn {w : World} {g c : Nat} {most : Int} (hc : c < w.heap.size) {pre : List Int} {A B : World} (h : TI w g c most pre A) (ht : Turn (· = c) A B) : TI w g c most pre B := by
  obtain ⟨⟨v, h1, hr, _⟩, h2, h3, h4⟩ := h
  exact ⟨⟨v, boxed_turn h1 ht (by omega), row_turn hr ht (by omega), trivial⟩, boxed_turn h2 ht (by omega), boxed_turn h3 ht (by omega), h4.trans ht⟩

theorem info3' : (Try.prog.info? 3).map (fun i => (i.zero, i.size, i.bytes)) = some (some (.int .i64 0), 1, 8) := by kernel_rfl

set_option maxHeartbeats 2000000 in
set_option maxRecDepth 100000 in
theorem taken_in (n : Nat) (hn : 3 ≤ n) (w : World) (g c cap : Nat) (xs : List Int) (shut : Bool) (most : Int) (hQ : IsQ w g c cap xs shut) (hlen : xs.length ≤ 5000) :
    CallsIn Fence.wide n Try.prog 16 #[.pointer (some ⟨g, 0, none⟩), .int .i64 most] w (TakenP w g c cap xs shut (takeN most xs)) := by
  have h1 : 1 ≤ n := by omega
  obtain ⟨i0, hi, hz0, hz1, hz2⟩ := info_parts info3'
  have f22 : Fence.wide.fn 22 := trivial
  have f27 : Fence.wide.fn 27 := trivial
  refine callsIn_of_wp_marks Try.func16 rfl trivial ?_ rfl
  simp only [Try.ntmps16, List.size_toArray, List.length_cons, List.length_nil, Nat.reduceAdd, Nat.reduceSub, Array.replicate_succ, Array.replicate_zero, List.push_toArray, List.append_toArray, List.nil_append, List.cons_append]
  have HQ := Lib.hid hQ
  clear hQ
  gi_wp2_with (gi_at_call 22; refine (callsIn_wide.2 (allq_any _ _)).mono ?_; rintro e w' ⟨rfl, rfl⟩)
  obtain ⟨W0, hW0⟩ : ∃ W0, ((((w.alloc (Obj.cells #[Value.int IntKind.i64 most] 3)).alloc (Obj.cells #[] 3)).alloc (Obj.cells #[Value.slice (some ⟨w.heap.size + 1, 0, none⟩) 0 0] 27)).alloc (Obj.cells #[Value.pointer (some ⟨g, 0, none⟩)] 24)) = W0 := ⟨_, rfl⟩
  have hsz : W0.heap.size = w.heap.size + 4 := by rw [← hW0]; simp
  have hlt := HQ.out.lt
  have hB0 : Below w.heap.size w W0 := by
    rw [← hW0]
    exact ((((Below.refl _ w).alloc (Nat.le_refl _) _).alloc (by simp) _).alloc (by simp; omega) _).alloc (by simp; omega) _
  have hQ0 : IsQ W0 g c cap xs shut := IsQ.turn (S := fun _ => False) HQ.out (Turn.of_below hB0) (fun h => h) (fun h => h)
  have hTI : TI w g c most [] W0 := by
    rw [← hW0]
    have b1 := ((Boxed.new w 3 (.int .i64 most)).alloc (Obj.cells #[] 3)).alloc (Obj.cells #[Value.slice (some ⟨w.heap.size + 1, 0, none⟩) 0 0] 27) |>.alloc (Obj.cells #[Value.pointer (some ⟨g, 0, none⟩)] 24)
    have b2 := (Boxed.new ((w.alloc (Obj.cells #[Value.int IntKind.i64 most] 3)).alloc (Obj.cells #[] 3)) 27 (Value.slice (some ⟨w.heap.size + 1, 0, none⟩) 0 0)).alloc (Obj.cells #[Value.pointer (some ⟨g, 0, none⟩)] 24)
    have b3 := Boxed.new (((w.alloc (Obj.cells #[Value.int IntKind.i64 most] 3)).alloc (Obj.cells #[] 3)).alloc (Obj.cells #[Value.slice (some ⟨w.heap.size + 1, 0, none⟩) 0 0] 27)) 24 (Value.pointer (some ⟨g, 0, none⟩))
    simp only [World.size_alloc] at b2 b3
    refine ⟨⟨_, b2, ⟨rfl, .inr ⟨w.heap.size + 1, 0, #[], rfl, Nat.le_refl _, ?_, by simp⟩⟩, trivial⟩, b1, b3, (Turn.refl _ w).belowStep ?_⟩
    · rw [Below.heap_alloc _ _ _ (by simp), Below.heap_alloc _ _ _ (by simp)]
      have := World.alloc_heap_new (w.alloc (Obj.cells #[Value.int IntKind.i64 most] 3)) (Obj.cells #[] 3)
      rwa [World.size_alloc] at this
    · rw [hW0]; exact hB0
  rw [hW0]
  have HTI := Lib.hid hTI
  have HQ0 := Lib.hid hQ0
  have hbq := hTI.2.2.1
  clear hW0 hTI hQ0 hB0
  refine wpIn_rangeFunc_moves (id := 0) rfl h1 (gf := 27) (lb := #[.pointer (some ⟨w.heap.size + 1 + 1 + 1, 0, none⟩)]) rfl f27 (enters_of Try.func27 (by kernel_rfl) rfl)
    (all_moves (n - 1) (by omega) (w.heap.size + 1 + 1 + 1) g c cap xs shut W0 hbq HQ0.out) (fun h k => Kq.trans h k) ?kb ?hM ?hSb ?hSpb (Below.refl _ _) (fun _ => rfl)
    (fun pre W => TI w g c most pre W ∧ (1 ≤ most → (pre.length : Int) < most))
    (fun pre W => TI w g c most pre W ∧ 1 ≤ most ∧ (pre.length : Int) = most)
    ?hI ?hIx ?hIM ?hIxM ⟨HTI.out, fun h => by simp; omega⟩
    (fun x => { tmps := #[.pointer (some ⟨g, 0, none⟩), .int .i64 most, undef, .pointer (some ⟨w.heap.size, 0, none⟩), .slice none 0 0, .pointer (some ⟨w.heap.size + 1 + 1, 0, none⟩), .int .i64 x, .slice (some ⟨w.heap.size + 1, 0, none⟩) 0 0, .pointer (some ⟨g, 0, none⟩), .func (.func 27) #[] #[.pointer (some ⟨w.heap.size + 1 + 1 + 1, 0, none⟩)], .int .i64 x, undef, undef, undef, undef, undef, undef, undef, undef, undef], defers := [] }) ?assign ?body ?done ?stop
  case kb =>
    intro W l o o' hl ho hc _
    exact ⟨by simp, World.putObj_heap_other (by omega), World.putObj_heap_other (by omega), World.putObj_heap_other (by omega)⟩
  case hM =>
    intro A B k o hm hk ho
    exact hm.blk ho (fun e => by omega)
  case hSb =>
    intro W ys l o o' hS hl _ _ _
    exact ⟨hS.1, hS.2.turn (turn_putObj W l o') (by omega) (by omega)⟩
  case hSpb =>
    intro W ys l o o' hS hl _ _ _
    exact ⟨hS.1, hS.2.turn (turn_putObj W l o') (by omega) (by omega)⟩
  case hI => exact OwnFrom.and (ti_own (by omega)) (ownFrom_pure _ _)
  case hIx => exact OwnFrom.and (ti_own (by omega)) (ownFrom_pure _ _)
  case hIM => exact fun pre A B h ht => ⟨ti_turn hlt.2 h.1 ht, h.2⟩
  case hIxM => exact fun pre A B h ht => ⟨ti_turn hlt.2 h.1 ht, h.2⟩
  case assign =>
    intro l x W K hK
    gi_wp2
    exact hK
  case body =>
    rintro l pre x W ⟨⟨⟨v, hv, hrow, _⟩, hbm, hbq1, ht⟩, hnot⟩ hpl
    have hc := hv.cell
    have hcm := hbm.cell
    have hsz2 := hbq1.lt
    have HT := Lib.hid ht
    have HBQ := Lib.hid hbq1
    clear ht hbq1
    have hpl2 : pre.length < 5000 := by omega
    obtain ⟨t, ht⟩ : ∃ t, t = (((pre.length : Int) + 1) == most) := ⟨_, rfl⟩
    have HTT := Lib.hid ht
    cases t
    all_goals have ht2 := HTT.out.symm
    all_goals clear ht
    all_goals trace "A"
    all_goals gi_wp2_with (gi_at_builtin; refine wpListIn_append_own _ rfl _ _ 27 rfl (w.heap.size + 1) 3 i0 (.int .i64 0) 1 8 Try.underlying27 hi hz0 hz1 hz2 rfl (by decide) _ _ _ rfl (hrow.alloc _) ⟨W.heap.size, 0, none⟩ 1 1 [.int .i64 x] rfl rfl (cell_one_new _ _ _) (by simp [Value.oneCell']) (by unfold maxLen; omega) (by omega) (by simp; omega) ?_; intro v' w1 hown' hgrow _; obtain ⟨g', cap', rfl⟩ := ownsRow_succ hown'; obtain ⟨hv1, hv2, hr2, hk2, hb2⟩ := hv.appended (by decide) hrow (by omega) (by omega) hown' hgrow; have hc1 := hv1.cell; have hf1 := hv1.frozen; have hm0 := (hbm.alloc (Obj.cells #[.int .i64 x] 3)).kept hgrow (row_ne hrow (by omega)); have hm1 := hm0.cell; have HBQ1 := Lib.hid ((HBQ.out.alloc (Obj.cells #[.int .i64 x] 3)).kept hgrow (HBQ.out.not_row (by decide) hrow)); have HG := Lib.hid hgrow; have HM0 := Lib.hid hm0; clear hgrow hm0)
    all_goals
      have hm3 := HM0.out.kept (grownBy_setCell' w1 (w.heap.size + 1 + 1) (.slice (some ⟨g', 0, none⟩) (pre.length + 1) cap')) (by simp; omega)
      have hq3 := HBQ1.out.kept (grownBy_setCell' w1 (w.heap.size + 1 + 1) (.slice (some ⟨g', 0, none⟩) (pre.length + 1) cap')) (by simp)
      have hti : TI w g c most (pre ++ [x]) (w1.setCell ⟨w.heap.size + 1 + 1, 0, none⟩ (.slice (some ⟨g', 0, none⟩) (pre.length + 1) cap')) :=
        ⟨⟨_, hv2, by simpa using hr2, trivial⟩, hm3, hq3, HT.out.belowStep (hb2.mono (by omega))⟩
      have hkq : Kq (w.heap.size + 1 + 1 + 1) g c W (w1.setCell ⟨w.heap.size + 1 + 1, 0, none⟩ (.slice (some ⟨g', 0, none⟩) (pre.length + 1) cap')) :=
        ⟨hb2.size, (show _ = _ from hq3).trans (show _ = _ from HBQ.out).symm, hb2.block _ (by omega), hb2.block _ (by omega)⟩
    · exact ⟨hk2.from _, hkq, hti, fun h => by
        have h4 := hnot h
        have h5 : ¬ (pre.length : Int) + 1 = most := by simpa using ht2
        simp
        omega⟩
    · have h5 : (pre.length : Int) + 1 = most := by simpa using ht2
      exact ⟨rfl, hk2.from _, hkq, hti, by omega, by simp; omega⟩
  case done =>
    rintro D ys W hD ⟨rfl, hq⟩ ⟨⟨⟨v, hv, hrow, _⟩, hbm, hbq, ht⟩, hnot⟩ hK
    have hc := hv.cell
    have HT := Lib.hid ht
    have HR := Lib.hid hrow
    have HQ2 := Lib.hid hq
    have hk : takeN most ys = ys.length := by
      unfold takeN
      split
      · next h => have := hnot h; omega
      · rfl
    have HKK := Lib.hid hk
    clear ht hrow hq hk hnot
    gi_wp2
    refine ⟨by simp, .inl ⟨_, _, rfl, run_takeDeferred hK, ?_⟩⟩
    refine ⟨_, results_tmp rfl _ _ _, v, rfl, ?_, ?_, ?_⟩
    · rw [HKK.out, List.take_length]
      exact row_lower (ownsRow_putObj HR.out _ hK rfl) (by omega)
    · rw [HKK.out, List.drop_length]
      exact HQ2.out.turn (turn_putObj W D _) (by omega) (by omega)
    · exact HT.out.step (grownBy_putObj' W D _) (fun r e => by cases e; omega)
  case stop =>
    rintro D pre W hD ⟨hp, hq⟩ ⟨⟨⟨v, hv, hrow, _⟩, hbm, hbq, ht⟩, hm1, hm2⟩ hK
    have hc := hv.cell
    have HT := Lib.hid ht
    have HR := Lib.hid hrow
    have HQ2 := Lib.hid hq
    have hk : takeN most xs = pre.length := by
      have := hp.length_le
      unfold takeN
      rw [if_pos hm1]
      omega
    have htk : xs.take pre.length = pre := (List.prefix_iff_eq_take.1 hp).symm
    have HTK := Lib.hid htk
    have HKK := Lib.hid hk
    clear ht hrow hq hk hm2 htk
    gi_wp2
    refine ⟨by simp, .inl ⟨_, _, rfl, run_takeDeferred hK, ?_⟩⟩
    refine ⟨_, results_tmp rfl _ _ _, v, rfl, ?_, ?_, ?_⟩
    · rw [HKK.out, HTK.out]
      exact row_lower (ownsRow_putObj HR.out _ hK rfl) (by omega)
    · rw [HKK.out]
      exact HQ2.out.turn (turn_putObj W D _) (by omega) (by omega)
    · exact HT.out.step (grownBy_putObj' W D _) (fun r e => by cases e; omega)

theorem taken_any (w : World) (g c cap : Nat) (xs : List Int) (shut : Bool) (most : Int) (hQ : IsQ w g c cap xs shut) (hlen : xs.length ≤ 5000) :
    Calls Try.prog 16 #[.pointer (some ⟨g, 0, none⟩), .int .i64 most] w (TakenP w g c cap xs shut (takeN most xs)) := callsIn_wide.1 (taken_in 3 (by omega) w g c cap xs shut most hQ hlen)
end Go.Proofs.Ytofemimgjcjpdaa.H
