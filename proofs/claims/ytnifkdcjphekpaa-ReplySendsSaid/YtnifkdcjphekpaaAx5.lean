-- Laid by program out of the translation, some functions' texts by hand (a session's own run, not print.sh's). Lean checks it.
import Derived.Test.YtnifkdcjphekpaaAx0
namespace Go.Proofs.Ytnifkdcjphekpaa.A
open Go.RowKit Go.Proofs.YtnifkdcjphekpaaW.PrintWords Go.Proofs.YtnifkdcjphekpaaW.PrintLast Go.Proofs.YtnifkdcjphekpaaW.PrintMore
attribute [local go_sem] max2_int min2_int max_two min_two max_three min_three max_four min_four   -- for this text's walks alone
set_option linter.unusedVariables false
set_option linter.unusedSimpArgs false

/-! ### greenscreenref14_Has: function 62 -/
def greenscreenref14_Has.f (a0_0 : Int) (a0_1 : Int) (l0_2 : List (S34)) (a0_3 : Int) (a1 : Int) : Option (Bool) := if a1 ≥ 0 then (some (decide (a1 < (l0_2.length : Int)))) else (some false)
set_option maxHeartbeats 8000000 in
set_option maxRecDepth 100000 in
theorem greenscreenref14_Has.calls (a0_0 : Int) (a0_1 : Int) (A0_2 : Option Addr) (c0_2 : Nat) (l0_2 : List (S34)) (a0_3 : Int) (a1 : Int) (r : Bool) (w : World) (hr0_2 : Kd.C k34 w A0_2 l0_2.length l0_2) (hc0_2 : l0_2.length ≤ c0_2) (h : greenscreenref14_Has.f a0_0 a0_1 l0_2 a0_3 a1 = some r) :
    Calls Try.prog 62 #[.agg #[.int .i64 a0_0, .int .i64 a0_1, .slice A0_2 l0_2.length c0_2, .int .i64 a0_3], .int .i64 a1] w fun e w' => e = .returned (.bool r) ∧ Below w.heap.size w w' := by
  have hu30 := Try.underlying30
  have HR0_2 := Aside0.mk hr0_2
  have HC0_2 := Aside0.mk hc0_2
  clear hr0_2 hc0_2
  have HB := Aside0.mk (Below.refl w.heap.size w)
  have H : (if a1 ≥ 0 then (some (decide (a1 < (l0_2.length : Int)))) else (some false)) = some r := h
  clear h
  by_cases c3 : a1 ≥ 0
  · rw [if_pos c3] at H
    have c3b0 : decide (0 ≤ a1) = true := decide_eq_true c3
    clear c3
    obtain rfl := Option.some.inj H
    go_enter Try.func62, Try.ntmps62
    go_wp2_with (first | ((with_reducible refine gate_dst (N := 2) rfl ?_); (try (refine gate_guard (by rfl) ?_; dsimp only)); refine box_event ?hg (N := 2) ?hd (cs := #[.int .i64 a0_0, .int .i64 a0_1, .slice A0_2 l0_2.length c0_2, .int .i64 a0_3]) (t := 30) ?hr ?_; (case hd => rfl); (case hg => rfl); (case hr => first | (go_simp; done) | (go_simp; rfl)); intro gb255 hg w4 hbox hb; have n0_ := Aside0.mk (below_step (by repeat (first | (with_reducible first | exact HB.out | apply below_alloc | apply pw_below_drewN | apply below_drew1) | exact HB.out)) hb); have n1_ := Aside0.mk (hbox); have n2_ := Aside0.mk ((by rw [hg]; exact (below_size (by repeat (first | (with_reducible first | exact HB.out | apply below_alloc | apply pw_below_drewN | apply below_drew1) | exact HB.out))) : w.heap.size ≤ gb255)); have n3_ := Aside0.mk ((by rw [hg]; exact (below_size (by repeat (first | (with_reducible first | exact HB.out | apply below_alloc | apply pw_below_drewN | apply below_drew1) | exact HB.out))) : w.heap.size ≤ gb255)); clear HB; have HB := n0_; have BK255 := n1_; have GW255 := n2_; have GE255 := n3_; clear n0_ n1_ n2_ n3_; clear hb hbox hg; have hcz5_0 : w4.cell? ⟨gb255, 0, none⟩ = some (.int .i64 a0_0) := (blk_cell BK255.out 0).trans rfl; have hcz5_1 : w4.cell? ⟨gb255, 1, none⟩ = some (.int .i64 a0_1) := (blk_cell BK255.out 1).trans rfl; have hcz5_2 : w4.cell? ⟨gb255, 2, none⟩ = some (.slice A0_2 l0_2.length c0_2) := (blk_cell BK255.out 2).trans rfl; have hcz5_3 : w4.cell? ⟨gb255, 3, none⟩ = some (.int .i64 a0_3) := (blk_cell BK255.out 3).trans rfl; have hfz5_0 := blk_frozen BK255.out 0; have hfz5_1 := blk_frozen BK255.out 1; have hfz5_2 := blk_frozen BK255.out 2; have hfz5_3 := blk_frozen BK255.out 3))
    go_ret
    exact ⟨by first | rfl | (simp [errW_none, errW_some] <;> rfl) | (simp [*, errW_none, errW_some] <;> rfl), by repeat (first | (with_reducible first | exact HB.out | apply below_alloc | apply pw_below_drewN | apply below_drew1 | refine below_set ?_ GE255.out) | exact HB.out)⟩
  · rw [if_neg c3] at H
    have c3b0 : decide (0 ≤ a1) = false := decide_eq_false c3
    clear c3
    obtain rfl := Option.some.inj H
    go_enter Try.func62, Try.ntmps62
    go_wp2_with (first | ((with_reducible refine gate_dst (N := 2) rfl ?_); (try (refine gate_guard (by rfl) ?_; dsimp only)); refine box_event ?hg (N := 2) ?hd (cs := #[.int .i64 a0_0, .int .i64 a0_1, .slice A0_2 l0_2.length c0_2, .int .i64 a0_3]) (t := 30) ?hr ?_; (case hd => rfl); (case hg => rfl); (case hr => first | (go_simp; done) | (go_simp; rfl)); intro gb255 hg w6 hbox hb; have n0_ := Aside0.mk (below_step (by repeat (first | (with_reducible first | exact HB.out | apply below_alloc | apply pw_below_drewN | apply below_drew1) | exact HB.out)) hb); have n1_ := Aside0.mk (hbox); have n2_ := Aside0.mk ((by rw [hg]; exact (below_size (by repeat (first | (with_reducible first | exact HB.out | apply below_alloc | apply pw_below_drewN | apply below_drew1) | exact HB.out))) : w.heap.size ≤ gb255)); have n3_ := Aside0.mk ((by rw [hg]; exact (below_size (by repeat (first | (with_reducible first | exact HB.out | apply below_alloc | apply pw_below_drewN | apply below_drew1) | exact HB.out))) : w.heap.size ≤ gb255)); clear HB; have HB := n0_; have BK255 := n1_; have GW255 := n2_; have GE255 := n3_; clear n0_ n1_ n2_ n3_; clear hb hbox hg))
    go_ret
    exact ⟨by first | rfl | (simp [errW_none, errW_some] <;> rfl) | (simp [*, errW_none, errW_some] <;> rfl), by repeat (first | (with_reducible first | exact HB.out | apply below_alloc | apply pw_below_drewN | apply below_drew1 | refine below_set ?_ GE255.out) | exact HB.out)⟩

/-! ### greenscreenref01_Held: function 63 -/
def greenscreenref01_Held.f (a0 : Int) (a1 : Int) (a2 : Int) : Option (Int) := if a0 < a1 then (some a1) else (if a0 > a2 then (some a2) else (some a0))
set_option maxHeartbeats 8000000 in
set_option maxRecDepth 100000 in
theorem greenscreenref01_Held.calls (a0 : Int) (a1 : Int) (a2 : Int) (r : Int) (w : World) (h : greenscreenref01_Held.f a0 a1 a2 = some r) :
    Calls Try.prog 63 #[.int .i64 a0, .int .i64 a1, .int .i64 a2] w fun e w' => e = .returned (.int .i64 r) ∧ Drawn0 w w' := by
  have H : (if a0 < a1 then (some a1) else (if a0 > a2 then (some a2) else (some a0))) = some r := h
  clear h
  by_cases c4 : a0 < a1
  · rw [if_pos c4] at H
    have c4b0 : decide (a0 < a1) = true := decide_eq_true c4
    clear c4
    obtain rfl := Option.some.inj H
    go_enter Try.func63, Try.ntmps63
    go_wp2
    go_ret
    exact ⟨by first | rfl | (simp; done) | (simp [*]; done), by repeat (first | exact Drawn0.refl _ | apply Drawn0.step)⟩
  · rw [if_neg c4] at H
    have c4b0 : decide (a0 < a1) = false := decide_eq_false c4
    clear c4
    by_cases c5 : a0 > a2
    · rw [if_pos c5] at H
      have c5b0 : decide (a2 < a0) = true := decide_eq_true c5
      clear c5
      obtain rfl := Option.some.inj H
      go_enter Try.func63, Try.ntmps63
      go_wp2
      go_ret
      exact ⟨by first | rfl | (simp; done) | (simp [*]; done), by repeat (first | exact Drawn0.refl _ | apply Drawn0.step)⟩
    · rw [if_neg c5] at H
      have c5b0 : decide (a2 < a0) = false := decide_eq_false c5
      clear c5
      obtain rfl := Option.some.inj H
      go_enter Try.func63, Try.ntmps63
      go_wp2
      go_ret
      exact ⟨by first | rfl | (simp; done) | (simp [*]; done), by repeat (first | exact Drawn0.refl _ | apply Drawn0.step)⟩

/-! ### greenscreenref15_Places: function 44 -/
def greenscreenref15_Places.l0 : Nat → List Int → Int → Int → Int → Int → List (S34) → Int → Int → Int → Int → Option (List Int)
  | 0, _, _, _, _, _, _, _, _, _, _ => none
  | k + 1, x5, x6, x7, x257000, x257001, x257002, x257003, x258000, x258001, x258002 => if x7 ≤ x6 then (if (x257002.length : Int) = 0 then (none) else (if x5.length < 17592186044416 then (greenscreenref15_Places.l0 k (x5 ++ [Int.tmod (wrap64 (x258000 + x7)) (x257002.length : Int)]) x6 (wrap64 (x7 + 1)) x257000 x257001 x257002 x257003 x258000 x258001 x258002) else (none))) else (some x5)
def greenscreenref15_Places.f (k : Nat) (a0_0 : Int) (a0_1 : Int) (l0_2 : List (S34)) (a0_3 : Int) (a1_0 : Int) (a1_1 : Int) (a1_2 : Int) : Option (List Int) := (some (([] : List Int) : List Int)).bind fun y258 => ((greenscreenref14_Has.f a0_0 a0_1 l0_2 a0_3 a1_0).bind fun t261 => (if t261 = true then ((greenscreenref01_Held.f a1_1 0 (l0_2.length : Int)).bind fun t262 => (greenscreenref15_Places.l0 k y258 t262 1 a0_0 a0_1 l0_2 a0_3 a1_0 a1_1 a1_2)) else (some y258)))
theorem greenscreenref15_Places.mono_l : ∀ k, (∀ y0 y1 y2 y3 y4 y5 y6 y7 y8 y9, LeO (greenscreenref15_Places.l0 k y0 y1 y2 y3 y4 y5 y6 y7 y8 y9) (greenscreenref15_Places.l0 (k + 1) y0 y1 y2 y3 y4 y5 y6 y7 y8 y9))
  | 0 => fun _ _ _ _ _ _ _ _ _ _ r h => by simp [greenscreenref15_Places.l0] at h
  | k + 1 => by
    have ih0 := greenscreenref15_Places.mono_l k
    · intro y0 y1 y2 y3 y4 y5 y6 y7 y8 y9
      unfold greenscreenref15_Places.l0
      repeat' first
      | (with_reducible exact ih0 _ _ _ _ _ _ _ _ _ _)
      | (with_reducible exact LeO.refl _)
      | (with_reducible exact LeO.none _)
      | (with_reducible refine LeO.ite ?_ ?_)
      | (with_reducible refine LeO.bind ?_ (fun _ => ?_))
      | exact ih0 _ _ _ _ _ _ _ _ _ _
      | exact LeO.none _
      | refine LeO.ite ?_ ?_
      | refine LeO.bind ?_ (fun _ => ?_)
theorem greenscreenref15_Places.mono : ∀ a0 a1 a2 a3 a4 a5 a6 k, LeO (greenscreenref15_Places.f k a0 a1 a2 a3 a4 a5 a6) (greenscreenref15_Places.f (k + 1) a0 a1 a2 a3 a4 a5 a6) := by
  intro a0 a1 a2 a3 a4 a5 a6 k
  have ih0 := greenscreenref15_Places.mono_l k
  unfold greenscreenref15_Places.f
  repeat' first
      | (with_reducible exact ih0 _ _ _ _ _ _ _ _ _ _)
      | (with_reducible exact LeO.refl _)
      | (with_reducible exact LeO.none _)
      | (with_reducible refine LeO.ite ?_ ?_)
      | (with_reducible refine LeO.bind ?_ (fun _ => ?_))
      | exact ih0 _ _ _ _ _ _ _ _ _ _
      | exact LeO.none _
      | refine LeO.ite ?_ ?_
      | refine LeO.bind ?_ (fun _ => ?_)
set_option maxHeartbeats 8000000 in
set_option maxRecDepth 100000 in
theorem greenscreenref15_Places.calls (k : Nat) (a0_0 : Int) (a0_1 : Int) (A0_2 : Option Addr) (c0_2 : Nat) (l0_2 : List (S34)) (a0_3 : Int) (a1_0 : Int) (a1_1 : Int) (a1_2 : Int) (r : List Int) (w : World) (hr0_2 : Kd.C k34 w A0_2 l0_2.length l0_2) (hc0_2 : l0_2.length ≤ c0_2) (h : greenscreenref15_Places.f k a0_0 a0_1 l0_2 a0_3 a1_0 a1_1 a1_2 = some r) :
    Calls Try.prog 44 #[.agg #[.int .i64 a0_0, .int .i64 a0_1, .slice A0_2 l0_2.length c0_2, .int .i64 a0_3], .agg #[.int .i64 a1_0, .int .i64 a1_1, .int .u8 a1_2]] w fun e w' => ∃ v0_ : Value, e = .returned (v0_) ∧ Kd.R (Kd.int .i64) 3 w' w.heap.size (fun _ => True) v0_ r ∧ Below w.heap.size w w' := by
  have hu30 := Try.underlying30
  have hu73 := Try.underlying73
  have HR0_2 := Aside0.mk hr0_2
  have HC0_2 := Aside0.mk hc0_2
  clear hr0_2 hc0_2
  have HB := Aside0.mk (Below.refl w.heap.size w)
  have H : ((some (([] : List Int) : List Int)).bind fun y258 => ((greenscreenref14_Has.f a0_0 a0_1 l0_2 a0_3 a1_0).bind fun t261 => (if t261 = true then ((greenscreenref01_Held.f a1_1 0 (l0_2.length : Int)).bind fun t262 => (greenscreenref15_Places.l0 k y258 t262 1 a0_0 a0_1 l0_2 a0_3 a1_0 a1_1 a1_2)) else (some y258)))) = some r := h
  clear h
  obtain ⟨y258, hy258⟩ : ∃ y_ : List Int, y_ = (([] : List Int)) := ⟨_, rfl⟩
  replace H : ((greenscreenref14_Has.f a0_0 a0_1 l0_2 a0_3 a1_0).bind fun t261 => (if t261 = true then ((greenscreenref01_Held.f a1_1 0 (l0_2.length : Int)).bind fun t262 => (greenscreenref15_Places.l0 k y258 t262 1 a0_0 a0_1 l0_2 a0_3 a1_0 a1_1 a1_2)) else (some y258))) = some r := by first | (rw [hy258]; with_reducible exact H) | (have H2_ := (Option.bind_some _ _).symm.trans H; rw [hy258]; with_reducible exact H2_) | (have H2_ := (Option.bind_some _ _).symm.trans H; with_reducible exact H2_) | with_reducible exact H | (rw [hy258]; exact H) | exact H
  have Ny258 := Aside0.mk hy258
  clear hy258
  replace H := Option.bind_eq_some_iff.mp H
  obtain ⟨t261, A30, H⟩ := H
  replace H : (if t261 = true then ((greenscreenref01_Held.f a1_1 0 (l0_2.length : Int)).bind fun t262 => (greenscreenref15_Places.l0 k y258 t262 1 a0_0 a0_1 l0_2 a0_3 a1_0 a1_1 a1_2)) else (some y258)) = some r := H
  have A3 := Aside0.mk A30
  clear A30
  by_cases c4 : t261 = true
  · subst c4
    have H1 : ((greenscreenref01_Held.f a1_1 0 (l0_2.length : Int)).bind fun t262 => (greenscreenref15_Places.l0 k y258 t262 1 a0_0 a0_1 l0_2 a0_3 a1_0 a1_1 a1_2)) = some r := by rw [if_pos rfl] at H; exact H
    clear H
    have H := H1
    clear H1
    replace H := Option.bind_eq_some_iff.mp H
    obtain ⟨t262, A50, H⟩ := H
    replace H : (greenscreenref15_Places.l0 k y258 t262 1 a0_0 a0_1 l0_2 a0_3 a1_0 a1_1 a1_2) = some r := H
    have A5 := Aside0.mk A50
    clear A50
    have H' := Aside0.mk H
    clear H
    go_enter Try.func44, Try.ntmps44
    go_wp2_with (first | ((with_reducible refine gate_dst (N := 2) rfl ?_); refine box_event ?hg (N := 2) ?hd (cs := #[.int .i64 a0_0, .int .i64 a0_1, .slice A0_2 l0_2.length c0_2, .int .i64 a0_3]) (t := 30) ?hr ?_; (case hd => rfl); (case hg => rfl); (case hr => first | (go_simp; done) | (go_simp; rfl)); intro gb256 hg w6 hbox hb; have n0_ := Aside0.mk (below_step (by repeat (first | (with_reducible first | exact HB.out | apply below_alloc | apply pw_below_drewN | apply below_drew1) | exact HB.out)) hb); have n1_ := Aside0.mk (hbox); have n2_ := Aside0.mk ((by rw [hg]; exact (below_size (by repeat (first | (with_reducible first | exact HB.out | apply below_alloc | apply pw_below_drewN | apply below_drew1) | exact HB.out))) : w.heap.size ≤ gb256)); have n3_ := Aside0.mk ((by rw [hg]; exact (below_size (by repeat (first | (with_reducible first | exact HB.out | apply below_alloc | apply pw_below_drewN | apply below_drew1) | exact HB.out))) : w.heap.size ≤ gb256)); clear HB; have HB := n0_; have BK256 := n1_; have GW256 := n2_; have GE256 := n3_; clear n0_ n1_ n2_ n3_; clear hb hbox hg) | ((with_reducible refine gate_dst (N := 3) rfl ?_); refine box_event ?hg (N := 3) ?hd (cs := #[.int .i64 a1_0, .int .i64 a1_1, .int .u8 a1_2]) (t := 73) ?hr ?_; (case hd => rfl); (case hg => rfl); (case hr => first | (go_simp; done) | (go_simp; rfl)); intro gb257 hg w7 hbox hb; have n0_ := Aside0.mk (blk_below (g := gb256) (o := .cells #[.int .i64 a0_0, .int .i64 a0_1, .slice A0_2 l0_2.length c0_2, .int .i64 a0_3] 30 (0, 0)) (by (with_reducible repeat (first | refine blk_drewN ?_ _ | refine blk_drew ?_ | refine blk_alloc ?_ _)); exact BK256.out) hb); have n1_ := Aside0.mk (below_step (by repeat (first | (with_reducible first | exact HB.out | apply below_alloc | apply pw_below_drewN | apply below_drew1 | refine below_set ?_ GE256.out) | exact HB.out)) hb); have n2_ := Aside0.mk (hbox); have n3_ := Aside0.mk ((by rw [hg]; exact (below_size (by repeat (first | (with_reducible first | exact HB.out | apply below_alloc | apply pw_below_drewN | apply below_drew1 | refine below_set ?_ GE256.out) | exact HB.out))) : w.heap.size ≤ gb257)); have n4_ := Aside0.mk ((by rw [hg]; exact (below_size (by repeat (first | (with_reducible first | exact HB.out | apply below_alloc | apply pw_below_drewN | apply below_drew1 | refine below_set ?_ GE256.out) | exact HB.out))) : w.heap.size ≤ gb257)); have n5_ := Aside0.mk ((by rw [hg]; exact Nat.ne_of_lt (blk_lt (g := gb256) (o := .cells #[.int .i64 a0_0, .int .i64 a0_1, .slice A0_2 l0_2.length c0_2, .int .i64 a0_3] 30 (0, 0)) (by (with_reducible repeat (first | refine blk_drewN ?_ _ | refine blk_drew ?_ | refine blk_alloc ?_ _)); exact BK256.out)) : gb256 ≠ gb257)); have n6_ := Aside0.mk ((by rw [hg]; exact Nat.ne_of_gt (blk_lt (g := gb256) (o := .cells #[.int .i64 a0_0, .int .i64 a0_1, .slice A0_2 l0_2.length c0_2, .int .i64 a0_3] 30 (0, 0)) (by (with_reducible repeat (first | refine blk_drewN ?_ _ | refine blk_drew ?_ | refine blk_alloc ?_ _)); exact BK256.out)) : gb257 ≠ gb256)); clear BK256; clear HB; have BK256 := n0_; have HB := n1_; have BK257 := n2_; have GW257 := n3_; have GE257 := n4_; have NB256_257 := n5_; have NB257_256 := n6_; clear n0_ n1_ n2_ n3_ n4_ n5_ n6_; clear hb hbox hg) | ((with_reducible refine gate_dst (N := 8) rfl ?_); refine Kd.R_lit (Kd.int .i64) _ 3 ?hg (N := 8) ?hd (xs := ([] : List Int)) (inner := []) (ok := fun _ => True) (okp := fun _ => True) ?hr ?hp (fun _ hk => hk) trivial (Below.refl _ _) (Nat.le_refl _) (by simp) ?_; (case hd => rfl); (case hg => rfl); (case hr => first | (go_simp; done) | (go_simp; rfl)); (case hp => exact (Reps.none _ _)); intro v259 w8 ho9 hb hg_ hnew_; clear hg_ hnew_; (first | rw [← Ny258.out] at ho9 | (simp only [Int.reduceToNat] at ho9; rw [← Ny258.out] at ho9)); have n0_ := Aside0.mk (Kd.R_lower ho9 (below_size (by repeat (first | (with_reducible first | exact HB.out | apply below_alloc | apply pw_below_drewN | apply below_drew1 | refine below_set ?_ GE256.out | refine below_set ?_ GE257.out) | exact HB.out)))); have n1_ := Aside0.mk (blk_below (g := gb256) (o := .cells #[.int .i64 a0_0, .int .i64 a0_1, .slice A0_2 l0_2.length c0_2, .int .i64 a0_3] 30 (0, 0)) (by (with_reducible repeat (first | refine blk_drewN ?_ _ | refine blk_drew ?_ | refine blk_alloc ?_ _)); exact BK256.out) hb); have n2_ := Aside0.mk (blk_below (g := gb257) (o := .cells #[.int .i64 a1_0, .int .i64 a1_1, .int .u8 a1_2] 73 (0, 0)) (by (with_reducible repeat (first | refine blk_drewN ?_ _ | refine blk_drew ?_ | refine blk_alloc ?_ _)); exact BK257.out) hb); have n3_ := Aside0.mk (below_step (by repeat (first | (with_reducible first | exact HB.out | apply below_alloc | apply pw_below_drewN | apply below_drew1 | refine below_set ?_ GE256.out | refine below_set ?_ GE257.out) | exact HB.out)) hb); clear BK256; clear BK257; clear HB; have HO260 := n0_; have BK256 := n1_; have BK257 := n2_; have HB := n3_; clear n0_ n1_ n2_ n3_; clear hb ho9; have hnb10 := NB256_257.out; have hnc10 := NB257_256.out; have hcz11_0 : w8.cell? ⟨gb256, 0, none⟩ = some (.int .i64 a0_0) := (blk_cell BK256.out 0).trans rfl; have hcz11_1 : w8.cell? ⟨gb256, 1, none⟩ = some (.int .i64 a0_1) := (blk_cell BK256.out 1).trans rfl; have hcz11_2 : w8.cell? ⟨gb256, 2, none⟩ = some (.slice A0_2 l0_2.length c0_2) := (blk_cell BK256.out 2).trans rfl; have hcz11_3 : w8.cell? ⟨gb256, 3, none⟩ = some (.int .i64 a0_3) := (blk_cell BK256.out 3).trans rfl; have hfz11_0 := blk_frozen BK256.out 0; have hfz11_1 := blk_frozen BK256.out 1; have hfz11_2 := blk_frozen BK256.out 2; have hfz11_3 := blk_frozen BK256.out 3; have hcz12_0 : w8.cell? ⟨gb257, 0, none⟩ = some (.int .i64 a1_0) := (blk_cell BK257.out 0).trans rfl; have hcz12_1 : w8.cell? ⟨gb257, 1, none⟩ = some (.int .i64 a1_1) := (blk_cell BK257.out 1).trans rfl; have hcz12_2 : w8.cell? ⟨gb257, 2, none⟩ = some (.int .u8 a1_2) := (blk_cell BK257.out 2).trans rfl; have hfz12_0 := blk_frozen BK257.out 0; have hfz12_1 := blk_frozen BK257.out 1; have hfz12_2 := blk_frozen BK257.out 2) | ((with_reducible refine gate_callee (f := 62) rfl ?_); refine goesL_ (some 12) rfl rfl Try.func62 (by kernel_rfl) rfl #[.agg #[.int .i64 a0_0, .int .i64 a0_1, .slice A0_2 l0_2.length c0_2, .int .i64 a0_3], .int .i64 a1_0] rfl (by (try simp only [List.map_toArray, List.map_cons, List.map_nil]); first | done | rfl | (simp only [List.length_drop, List.length_take]; rfl)) ?_; (with_reducible refine (greenscreenref14_Has.calls a0_0 a0_1 _ _ l0_2 a0_3 a1_0 true _ ?side1 ?side2 A3.out).mono ?_); (case side1 => repeat (first | exact (Kd.C_below HR0_2.out HB.out) | (with_reducible refine Kd.C_alloc ?_ _) | (with_reducible refine Kd.C_drewN ?_ _) | (with_reducible refine Kd.C_drew ?_))); (case side2 => exact HC0_2.out); rintro e w13 ⟨rfl, hb⟩; refine ⟨_, rfl, ?_⟩; have n0_ := Aside0.mk (Kd.R_below (by (with_reducible repeat (first | apply Kd.R_alloc | apply Kd.R_drewN | apply Kd.R_drew)); exact HO260.out) hb); have n1_ := Aside0.mk (blk_below (g := gb256) (o := .cells #[.int .i64 a0_0, .int .i64 a0_1, .slice A0_2 l0_2.length c0_2, .int .i64 a0_3] 30 (0, 0)) (by (with_reducible repeat (first | refine blk_drewN ?_ _ | refine blk_drew ?_ | refine blk_alloc ?_ _)); exact BK256.out) hb); have n2_ := Aside0.mk (blk_below (g := gb257) (o := .cells #[.int .i64 a1_0, .int .i64 a1_1, .int .u8 a1_2] 73 (0, 0)) (by (with_reducible repeat (first | refine blk_drewN ?_ _ | refine blk_drew ?_ | refine blk_alloc ?_ _)); exact BK257.out) hb); have n3_ := Aside0.mk (below_step (by repeat (first | (with_reducible first | exact HB.out | apply below_alloc | apply pw_below_drewN | apply below_drew1 | refine below_set ?_ GE256.out | refine below_set ?_ GE257.out) | exact HB.out)) hb); clear HO260; clear BK256; clear BK257; clear HB; have HO260 := n0_; have BK256 := n1_; have BK257 := n2_; have HB := n3_; clear n0_ n1_ n2_ n3_; (try clear hb); (try clear hb2); (try clear hk); (try clear hi); have hcz14_0 : w13.cell? ⟨gb257, 0, none⟩ = some (.int .i64 a1_0) := (blk_cell BK257.out 0).trans rfl; have hcz14_1 : w13.cell? ⟨gb257, 1, none⟩ = some (.int .i64 a1_1) := (blk_cell BK257.out 1).trans rfl; have hcz14_2 : w13.cell? ⟨gb257, 2, none⟩ = some (.int .u8 a1_2) := (blk_cell BK257.out 2).trans rfl; have hfz14_0 := blk_frozen BK257.out 0; have hfz14_1 := blk_frozen BK257.out 1; have hfz14_2 := blk_frozen BK257.out 2; have hcz15_0 : w13.cell? ⟨gb256, 0, none⟩ = some (.int .i64 a0_0) := (blk_cell BK256.out 0).trans rfl; have hcz15_1 : w13.cell? ⟨gb256, 1, none⟩ = some (.int .i64 a0_1) := (blk_cell BK256.out 1).trans rfl; have hcz15_2 : w13.cell? ⟨gb256, 2, none⟩ = some (.slice A0_2 l0_2.length c0_2) := (blk_cell BK256.out 2).trans rfl; have hcz15_3 : w13.cell? ⟨gb256, 3, none⟩ = some (.int .i64 a0_3) := (blk_cell BK256.out 3).trans rfl; have hfz15_0 := blk_frozen BK256.out 0; have hfz15_1 := blk_frozen BK256.out 1; have hfz15_2 := blk_frozen BK256.out 2; have hfz15_3 := blk_frozen BK256.out 3) | ((with_reducible refine gate_callee (f := 63) rfl ?_); refine goesL_ (some 20) rfl rfl Try.func63 (by kernel_rfl) rfl #[.int .i64 a1_1, .int .i64 0, .int .i64 (l0_2.length : Int)] rfl (by (try simp only [List.map_toArray, List.map_cons, List.map_nil]); first | done | rfl | (simp only [List.length_drop, List.length_take]; rfl)) ?_; (with_reducible refine (greenscreenref01_Held.calls a1_1 0 (l0_2.length : Int) t262 _ A5.out).mono ?_); rintro e w' ⟨rfl, ⟨nd, rfl⟩⟩; refine ⟨_, rfl, ?_⟩) | (go_at_call 63; (with_reducible refine (greenscreenref01_Held.calls a1_1 0 (l0_2.length : Int) t262 _ A5.out).mono ?_); rintro e w' ⟨rfl, ⟨nd, rfl⟩⟩))
    go_loopg [5, 7] k (fun kq v5 v7 w' => ∃ (x5_1 : List Int) (x7_1 : Int), v7 = .int .i64 x7_1 ∧ Aside0 (greenscreenref15_Places.l0 kq x5_1 t262 x7_1 a0_0 a0_1 l0_2 a0_3 a1_0 a1_1 a1_2 = some r) ∧ Aside0 (kq ≤ k) ∧ Aside0 (Kd.R (Kd.int .i64) 3 w' w.heap.size (fun _ => True) v5 x5_1) ∧ Aside0 (w'.heap[gb256]? = some (.cells #[.int .i64 a0_0, .int .i64 a0_1, (.slice A0_2 l0_2.length c0_2), .int .i64 a0_3] 30 (0, 0))) ∧ Aside0 (w'.heap[gb257]? = some (.cells #[.int .i64 a1_0, .int .i64 a1_1, .int .u8 a1_2] 73 (0, 0))) ∧ Aside0 (Below w.heap.size w w'))
    case atStart => exact ⟨(y258), (1), (by first | rfl | (simp; done) | (simp [*]; done)), H', ⟨Nat.le_refl _⟩, ⟨by (with_reducible repeat (first | apply Kd.R_alloc | apply Kd.R_drewN | apply Kd.R_drew)); exact HO260.out⟩, ⟨by (with_reducible repeat (first | refine blk_drewN ?_ _ | refine blk_drew ?_ | refine blk_alloc ?_ _)); exact BK256.out⟩, ⟨by (with_reducible repeat (first | refine blk_drewN ?_ _ | refine blk_drew ?_ | refine blk_alloc ?_ _)); exact BK257.out⟩, ⟨by repeat (first | (with_reducible first | exact HB.out | apply below_alloc | apply pw_below_drewN | apply below_drew1 | refine below_set ?_ GE256.out | refine below_set ?_ GE257.out) | exact HB.out)⟩⟩
    case round =>
      clear H'
      try clear c1
      try clear p2
      try clear c4
      try clear c6
      try clear c10
      try clear hcz11_0
      try clear hcz11_1
      try clear hcz11_2
      try clear hcz11_3
      try clear hcz12_0
      try clear hcz12_1
      try clear hcz12_2
      try clear hcz14_0
      try clear hcz14_1
      try clear hcz14_2
      try clear hcz15_0
      try clear hcz15_1
      try clear hcz15_2
      try clear hcz15_3
      try clear hfz11_0
      try clear hfz11_1
      try clear hfz11_2
      try clear hfz11_3
      try clear hfz12_0
      try clear hfz12_1
      try clear hfz12_2
      try clear hfz14_0
      try clear hfz14_1
      try clear hfz14_2
      try clear hfz15_0
      try clear hfz15_1
      try clear hfz15_2
      try clear hfz15_3
      obtain ⟨x5_1, x7_1, rfl, HA, HK1, HO_5, BK256, BK257, HB⟩ := hrel
      cases gk with
      | zero => exact absurd HA.out (by simp [greenscreenref15_Places.l0])
      | succ k1 =>
        have H := HA.out
        clear HA
        simp only [greenscreenref15_Places.l0] at H
        by_cases c16 : x7_1 ≤ t262
        · rw [if_pos c16] at H
          have c16b0 : decide (x7_1 ≤ t262) = true := decide_eq_true c16
          clear c16
          by_cases c17 : (l0_2.length : Int) = 0
          · rw [if_pos c17] at H
            exact absurd H (by simp)
          · rw [if_neg c17] at H
            have c17b0 : ((l0_2.length : Int) == 0) = false := beq_eq_false_iff_ne.mpr c17
            have c17b1 : ((l0_2.length : Int) != 0) = true := bne_iff_ne.mpr c17
            have c17b2 : ¬ (l0_2 = []) := fun h_ => c17 (by rw [h_]; rfl)
            by_cases c18 : x5_1.length < 17592186044416
            · rw [if_pos c18] at H
              have LMc18 := Aside0.mk c18
              clear c18
              obtain ⟨y263, hy263⟩ : ∃ y_ : List Int, y_ = (x5_1 ++ [Int.tmod (wrap64 (a1_0 + x7_1)) (l0_2.length : Int)]) := ⟨_, rfl⟩
              replace H : (greenscreenref15_Places.l0 k1 y263 t262 (wrap64 (x7_1 + 1)) a0_0 a0_1 l0_2 a0_3 a1_0 a1_1 a1_2) = some r := by first | (rw [hy263]; with_reducible exact H) | (have H2_ := (Option.bind_some _ _).symm.trans H; rw [hy263]; with_reducible exact H2_) | (have H2_ := (Option.bind_some _ _).symm.trans H; with_reducible exact H2_) | with_reducible exact H | (rw [hy263]; exact H) | exact H
              have Ny263 := Aside0.mk hy263
              clear hy263
              have H' := Aside0.mk H
              clear H
              have hnb19 := NB257_256.out
              have hnc19 := NB256_257.out
              have hcz20_0 : wr.cell? ⟨gb257, 0, none⟩ = some (.int .i64 a1_0) := (blk_cell BK257.out 0).trans rfl
              have hcz20_1 : wr.cell? ⟨gb257, 1, none⟩ = some (.int .i64 a1_1) := (blk_cell BK257.out 1).trans rfl
              have hcz20_2 : wr.cell? ⟨gb257, 2, none⟩ = some (.int .u8 a1_2) := (blk_cell BK257.out 2).trans rfl
              have hfz20_0 := blk_frozen BK257.out 0
              have hfz20_1 := blk_frozen BK257.out 1
              have hfz20_2 := blk_frozen BK257.out 2
              have hcz21_0 : wr.cell? ⟨gb256, 0, none⟩ = some (.int .i64 a0_0) := (blk_cell BK256.out 0).trans rfl
              have hcz21_1 : wr.cell? ⟨gb256, 1, none⟩ = some (.int .i64 a0_1) := (blk_cell BK256.out 1).trans rfl
              have hcz21_2 : wr.cell? ⟨gb256, 2, none⟩ = some (.slice A0_2 l0_2.length c0_2) := (blk_cell BK256.out 2).trans rfl
              have hcz21_3 : wr.cell? ⟨gb256, 3, none⟩ = some (.int .i64 a0_3) := (blk_cell BK256.out 3).trans rfl
              have hfz21_0 := blk_frozen BK256.out 0
              have hfz21_1 := blk_frozen BK256.out 1
              have hfz21_2 := blk_frozen BK256.out 2
              have hfz21_3 := blk_frozen BK256.out 3
              go_wp2_with (first | ((with_reducible refine gate_builtin (b := .append) (xs := #[.tmp 26, .tmp 35]) rfl ?_); at_builtin; refine Kd.R_append (Kd.int .i64) (w0 := w) w.heap.size rfl (.tmp 26) (.tmp 35) 38 3 (.int .i64 0) 8 rfl Try.underlying38 info3 rfl (by decide) (by omega) u5 x5_1 (Int.tmod (wrap64 (a1_0 + x7_1)) (l0_2.length : Int)) [.int .i64 (Int.tmod (wrap64 (a1_0 + x7_1)) (l0_2.length : Int))] (fun _ => True) (fun _ => False) rfl rfl ?aP (fun _ hk => hk.elim) ?aF ?aO ?aB ?aS ?aL ?_; (case aP => exact rfl); (case aB => exact (by repeat (first | (with_reducible first | exact HB.out | apply below_alloc | apply pw_below_drewN | apply below_drew1 | refine below_set ?_ GE256.out | refine below_set ?_ GE257.out) | exact HB.out))); (case aF => exact (fun _ _ => trivial)); (case aO => exact (by (with_reducible repeat (first | apply Kd.R_alloc | apply Kd.R_drewN | apply Kd.R_drew)); exact HO_5.out)); (case aS => exact (below_size (by repeat (first | (with_reducible first | exact HB.out | apply below_alloc | apply pw_below_drewN | apply below_drew1 | refine below_set ?_ GE256.out | refine below_set ?_ GE257.out) | exact HB.out)))); (case aL => have := LMc18.out; omega); intro v264 w22 ho hb hg hat; rw [← Ny263.out] at ho; have n0_ := Aside0.mk (blk_grown (g := gb256) (o := .cells #[.int .i64 a0_0, .int .i64 a0_1, .slice A0_2 l0_2.length c0_2, .int .i64 a0_3] 30 (0, 0)) (by (with_reducible repeat (first | refine blk_drewN ?_ _ | refine blk_drew ?_ | refine blk_alloc ?_ _)); exact BK256.out) hg (Kd.R_ne HO_5.out BK256.out (by decide))); have n1_ := Aside0.mk (blk_grown (g := gb257) (o := .cells #[.int .i64 a1_0, .int .i64 a1_1, .int .u8 a1_2] 73 (0, 0)) (by (with_reducible repeat (first | refine blk_drewN ?_ _ | refine blk_drew ?_ | refine blk_alloc ?_ _)); exact BK257.out) hg (Kd.R_ne HO_5.out BK257.out (by decide))); have n2_ := Aside0.mk (hb); have n3_ := Aside0.mk (ho); clear BK256; clear BK257; clear HB; clear HO_5; have BK256 := n0_; have BK257 := n1_; have HB := n2_; have HO265 := n3_; clear n0_ n1_ n2_ n3_; clear ho hb hg hat))
              go_roundg k1
              case measure => have := HK1.out; omega
              case rel => exact ⟨(y263), (wrap64 (x7_1 + 1)), (by first | rfl | (simp; done) | (simp [*]; done)), H', ⟨by have := HK1.out; omega⟩, ⟨by (with_reducible repeat (first | apply Kd.R_alloc | apply Kd.R_drewN | apply Kd.R_drew)); exact HO265.out⟩, ⟨by (with_reducible repeat (first | refine blk_drewN ?_ _ | refine blk_drew ?_ | refine blk_alloc ?_ _)); exact BK256.out⟩, ⟨by (with_reducible repeat (first | refine blk_drewN ?_ _ | refine blk_drew ?_ | refine blk_alloc ?_ _)); exact BK257.out⟩, ⟨by repeat (first | (with_reducible first | exact HB.out | apply below_alloc | apply pw_below_drewN | apply below_drew1 | refine below_set ?_ GE256.out | refine below_set ?_ GE257.out) | exact HB.out)⟩⟩
            · rw [if_neg c18] at H
              exact absurd H (by simp)
        · rw [if_neg c16] at H
          have c16b0 : decide (x7_1 ≤ t262) = false := decide_eq_false c16
          clear c16
          obtain rfl := Option.some.inj H
          go_wp2
          go_ret
          exact ⟨_, by first | rfl | (simp [errW_none, errW_some] <;> rfl) | (simp [*, errW_none, errW_some] <;> rfl), by (with_reducible repeat (first | apply Kd.R_alloc | apply Kd.R_drewN | apply Kd.R_drew)); exact HO_5.out, by repeat (first | (with_reducible first | exact HB.out | apply below_alloc | apply pw_below_drewN | apply below_drew1 | refine below_set ?_ GE256.out | refine below_set ?_ GE257.out) | exact HB.out)⟩
  · replace c4 := Bool.eq_false_iff.mpr c4
    subst c4
    have H1 : (some y258) = some r := by rw [if_neg (show ¬ (false = true) by decide)] at H; exact H
    clear H
    have H := H1
    clear H1
    obtain rfl := Option.some.inj H
    go_enter Try.func44, Try.ntmps44
    go_wp2_with (first | ((with_reducible refine gate_dst (N := 2) rfl ?_); refine box_event ?hg (N := 2) ?hd (cs := #[.int .i64 a0_0, .int .i64 a0_1, .slice A0_2 l0_2.length c0_2, .int .i64 a0_3]) (t := 30) ?hr ?_; (case hd => rfl); (case hg => rfl); (case hr => first | (go_simp; done) | (go_simp; rfl)); intro gb256 hg w23 hbox hb; have n0_ := Aside0.mk (below_step (by repeat (first | (with_reducible first | exact HB.out | apply below_alloc | apply pw_below_drewN | apply below_drew1) | exact HB.out)) hb); have n1_ := Aside0.mk (hbox); have n2_ := Aside0.mk ((by rw [hg]; exact (below_size (by repeat (first | (with_reducible first | exact HB.out | apply below_alloc | apply pw_below_drewN | apply below_drew1) | exact HB.out))) : w.heap.size ≤ gb256)); have n3_ := Aside0.mk ((by rw [hg]; exact (below_size (by repeat (first | (with_reducible first | exact HB.out | apply below_alloc | apply pw_below_drewN | apply below_drew1) | exact HB.out))) : w.heap.size ≤ gb256)); clear HB; have HB := n0_; have BK256 := n1_; have GW256 := n2_; have GE256 := n3_; clear n0_ n1_ n2_ n3_; clear hb hbox hg) | ((with_reducible refine gate_dst (N := 3) rfl ?_); refine box_event ?hg (N := 3) ?hd (cs := #[.int .i64 a1_0, .int .i64 a1_1, .int .u8 a1_2]) (t := 73) ?hr ?_; (case hd => rfl); (case hg => rfl); (case hr => first | (go_simp; done) | (go_simp; rfl)); intro gb257 hg w24 hbox hb; have n0_ := Aside0.mk (blk_below (g := gb256) (o := .cells #[.int .i64 a0_0, .int .i64 a0_1, .slice A0_2 l0_2.length c0_2, .int .i64 a0_3] 30 (0, 0)) (by (with_reducible repeat (first | refine blk_drewN ?_ _ | refine blk_drew ?_ | refine blk_alloc ?_ _)); exact BK256.out) hb); have n1_ := Aside0.mk (below_step (by repeat (first | (with_reducible first | exact HB.out | apply below_alloc | apply pw_below_drewN | apply below_drew1 | refine below_set ?_ GE256.out) | exact HB.out)) hb); have n2_ := Aside0.mk (hbox); have n3_ := Aside0.mk ((by rw [hg]; exact (below_size (by repeat (first | (with_reducible first | exact HB.out | apply below_alloc | apply pw_below_drewN | apply below_drew1 | refine below_set ?_ GE256.out) | exact HB.out))) : w.heap.size ≤ gb257)); have n4_ := Aside0.mk ((by rw [hg]; exact (below_size (by repeat (first | (with_reducible first | exact HB.out | apply below_alloc | apply pw_below_drewN | apply below_drew1 | refine below_set ?_ GE256.out) | exact HB.out))) : w.heap.size ≤ gb257)); have n5_ := Aside0.mk ((by rw [hg]; exact Nat.ne_of_lt (blk_lt (g := gb256) (o := .cells #[.int .i64 a0_0, .int .i64 a0_1, .slice A0_2 l0_2.length c0_2, .int .i64 a0_3] 30 (0, 0)) (by (with_reducible repeat (first | refine blk_drewN ?_ _ | refine blk_drew ?_ | refine blk_alloc ?_ _)); exact BK256.out)) : gb256 ≠ gb257)); have n6_ := Aside0.mk ((by rw [hg]; exact Nat.ne_of_gt (blk_lt (g := gb256) (o := .cells #[.int .i64 a0_0, .int .i64 a0_1, .slice A0_2 l0_2.length c0_2, .int .i64 a0_3] 30 (0, 0)) (by (with_reducible repeat (first | refine blk_drewN ?_ _ | refine blk_drew ?_ | refine blk_alloc ?_ _)); exact BK256.out)) : gb257 ≠ gb256)); clear BK256; clear HB; have BK256 := n0_; have HB := n1_; have BK257 := n2_; have GW257 := n3_; have GE257 := n4_; have NB256_257 := n5_; have NB257_256 := n6_; clear n0_ n1_ n2_ n3_ n4_ n5_ n6_; clear hb hbox hg) | ((with_reducible refine gate_dst (N := 8) rfl ?_); refine Kd.R_lit (Kd.int .i64) _ 3 ?hg (N := 8) ?hd (xs := ([] : List Int)) (inner := []) (ok := fun _ => True) (okp := fun _ => True) ?hr ?hp (fun _ hk => hk) trivial (Below.refl _ _) (Nat.le_refl _) (by simp) ?_; (case hd => rfl); (case hg => rfl); (case hr => first | (go_simp; done) | (go_simp; rfl)); (case hp => exact (Reps.none _ _)); intro v259 w25 ho26 hb hg_ hnew_; clear hg_ hnew_; (first | rw [← Ny258.out] at ho26 | (simp only [Int.reduceToNat] at ho26; rw [← Ny258.out] at ho26)); have n0_ := Aside0.mk (Kd.R_lower ho26 (below_size (by repeat (first | (with_reducible first | exact HB.out | apply below_alloc | apply pw_below_drewN | apply below_drew1 | refine below_set ?_ GE256.out | refine below_set ?_ GE257.out) | exact HB.out)))); have n1_ := Aside0.mk (blk_below (g := gb256) (o := .cells #[.int .i64 a0_0, .int .i64 a0_1, .slice A0_2 l0_2.length c0_2, .int .i64 a0_3] 30 (0, 0)) (by (with_reducible repeat (first | refine blk_drewN ?_ _ | refine blk_drew ?_ | refine blk_alloc ?_ _)); exact BK256.out) hb); have n2_ := Aside0.mk (blk_below (g := gb257) (o := .cells #[.int .i64 a1_0, .int .i64 a1_1, .int .u8 a1_2] 73 (0, 0)) (by (with_reducible repeat (first | refine blk_drewN ?_ _ | refine blk_drew ?_ | refine blk_alloc ?_ _)); exact BK257.out) hb); have n3_ := Aside0.mk (below_step (by repeat (first | (with_reducible first | exact HB.out | apply below_alloc | apply pw_below_drewN | apply below_drew1 | refine below_set ?_ GE256.out | refine below_set ?_ GE257.out) | exact HB.out)) hb); clear BK256; clear BK257; clear HB; have HO260 := n0_; have BK256 := n1_; have BK257 := n2_; have HB := n3_; clear n0_ n1_ n2_ n3_; clear hb ho26; have hnb27 := NB256_257.out; have hnc27 := NB257_256.out; have hcz28_0 : w25.cell? ⟨gb256, 0, none⟩ = some (.int .i64 a0_0) := (blk_cell BK256.out 0).trans rfl; have hcz28_1 : w25.cell? ⟨gb256, 1, none⟩ = some (.int .i64 a0_1) := (blk_cell BK256.out 1).trans rfl; have hcz28_2 : w25.cell? ⟨gb256, 2, none⟩ = some (.slice A0_2 l0_2.length c0_2) := (blk_cell BK256.out 2).trans rfl; have hcz28_3 : w25.cell? ⟨gb256, 3, none⟩ = some (.int .i64 a0_3) := (blk_cell BK256.out 3).trans rfl; have hfz28_0 := blk_frozen BK256.out 0; have hfz28_1 := blk_frozen BK256.out 1; have hfz28_2 := blk_frozen BK256.out 2; have hfz28_3 := blk_frozen BK256.out 3; have hcz29_0 : w25.cell? ⟨gb257, 0, none⟩ = some (.int .i64 a1_0) := (blk_cell BK257.out 0).trans rfl; have hcz29_1 : w25.cell? ⟨gb257, 1, none⟩ = some (.int .i64 a1_1) := (blk_cell BK257.out 1).trans rfl; have hcz29_2 : w25.cell? ⟨gb257, 2, none⟩ = some (.int .u8 a1_2) := (blk_cell BK257.out 2).trans rfl; have hfz29_0 := blk_frozen BK257.out 0; have hfz29_1 := blk_frozen BK257.out 1; have hfz29_2 := blk_frozen BK257.out 2) | ((with_reducible refine gate_callee (f := 62) rfl ?_); refine goesL_ (some 12) rfl rfl Try.func62 (by kernel_rfl) rfl #[.agg #[.int .i64 a0_0, .int .i64 a0_1, .slice A0_2 l0_2.length c0_2, .int .i64 a0_3], .int .i64 a1_0] rfl (by (try simp only [List.map_toArray, List.map_cons, List.map_nil]); first | done | rfl | (simp only [List.length_drop, List.length_take]; rfl)) ?_; (with_reducible refine (greenscreenref14_Has.calls a0_0 a0_1 _ _ l0_2 a0_3 a1_0 false _ ?side1 ?side2 A3.out).mono ?_); (case side1 => repeat (first | exact (Kd.C_below HR0_2.out HB.out) | (with_reducible refine Kd.C_alloc ?_ _) | (with_reducible refine Kd.C_drewN ?_ _) | (with_reducible refine Kd.C_drew ?_))); (case side2 => exact HC0_2.out); rintro e w30 ⟨rfl, hb⟩; refine ⟨_, rfl, ?_⟩; have n0_ := Aside0.mk (Kd.R_below (by (with_reducible repeat (first | apply Kd.R_alloc | apply Kd.R_drewN | apply Kd.R_drew)); exact HO260.out) hb); have n1_ := Aside0.mk (blk_below (g := gb256) (o := .cells #[.int .i64 a0_0, .int .i64 a0_1, .slice A0_2 l0_2.length c0_2, .int .i64 a0_3] 30 (0, 0)) (by (with_reducible repeat (first | refine blk_drewN ?_ _ | refine blk_drew ?_ | refine blk_alloc ?_ _)); exact BK256.out) hb); have n2_ := Aside0.mk (blk_below (g := gb257) (o := .cells #[.int .i64 a1_0, .int .i64 a1_1, .int .u8 a1_2] 73 (0, 0)) (by (with_reducible repeat (first | refine blk_drewN ?_ _ | refine blk_drew ?_ | refine blk_alloc ?_ _)); exact BK257.out) hb); have n3_ := Aside0.mk (below_step (by repeat (first | (with_reducible first | exact HB.out | apply below_alloc | apply pw_below_drewN | apply below_drew1 | refine below_set ?_ GE256.out | refine below_set ?_ GE257.out) | exact HB.out)) hb); clear HO260; clear BK256; clear BK257; clear HB; have HO260 := n0_; have BK256 := n1_; have BK257 := n2_; have HB := n3_; clear n0_ n1_ n2_ n3_; (try clear hb); (try clear hb2); (try clear hk); (try clear hi)))
    go_ret
    exact ⟨_, by first | rfl | (simp [errW_none, errW_some] <;> rfl) | (simp [*, errW_none, errW_some] <;> rfl), by (with_reducible repeat (first | apply Kd.R_alloc | apply Kd.R_drewN | apply Kd.R_drew)); exact HO260.out, by repeat (first | (with_reducible first | exact HB.out | apply below_alloc | apply pw_below_drewN | apply below_drew1 | refine below_set ?_ GE256.out | refine below_set ?_ GE257.out) | exact HB.out)⟩

/-! ### greenscreenref12_Plain: function 64 -/
def greenscreenref12_Plain.l0 : Nat → Int → List Int → Int → Option (Bool)
  | 0, _, _, _ => none
  | k + 1, x0, x3, x4 => if x4 < (x3.length : Int) then (if 0 ≤ x4 then (if (rd x3 x4) = x0 then (some true) else (greenscreenref12_Plain.l0 k x0 x3 (wrap64 (x4 + 1)))) else (none)) else (some false)
def greenscreenref12_Plain.f (k : Nat) (a0 : Int) : Option (Bool) := if a0 ≥ 64 then (some true) else (greenscreenref12_Plain.l0 k a0 (([0, 12, 13, 21, 25, 28, 30, 63] : List Int)) 0)
theorem greenscreenref12_Plain.mono_l : ∀ k, (∀ y0 y1 y2, LeO (greenscreenref12_Plain.l0 k y0 y1 y2) (greenscreenref12_Plain.l0 (k + 1) y0 y1 y2))
  | 0 => fun _ _ _ r h => by simp [greenscreenref12_Plain.l0] at h
  | k + 1 => by
    have ih0 := greenscreenref12_Plain.mono_l k
    · intro y0 y1 y2
      unfold greenscreenref12_Plain.l0
      repeat' first
      | (with_reducible exact ih0 _ _ _)
      | (with_reducible exact LeO.refl _)
      | (with_reducible exact LeO.none _)
      | (with_reducible refine LeO.ite ?_ ?_)
      | (with_reducible refine LeO.bind ?_ (fun _ => ?_))
      | exact ih0 _ _ _
      | exact LeO.none _
      | refine LeO.ite ?_ ?_
      | refine LeO.bind ?_ (fun _ => ?_)
theorem greenscreenref12_Plain.mono : ∀ a0 k, LeO (greenscreenref12_Plain.f k a0) (greenscreenref12_Plain.f (k + 1) a0) := by
  intro a0 k
  have ih0 := greenscreenref12_Plain.mono_l k
  unfold greenscreenref12_Plain.f
  repeat' first
      | (with_reducible exact ih0 _ _ _)
      | (with_reducible exact LeO.refl _)
      | (with_reducible exact LeO.none _)
      | (with_reducible refine LeO.ite ?_ ?_)
      | (with_reducible refine LeO.bind ?_ (fun _ => ?_))
      | exact ih0 _ _ _
      | exact LeO.none _
      | refine LeO.ite ?_ ?_
      | refine LeO.bind ?_ (fun _ => ?_)
set_option maxHeartbeats 8000000 in
set_option maxRecDepth 100000 in
theorem greenscreenref12_Plain.calls (k : Nat) (a0 : Int) (r : Bool) (w : World) (h : greenscreenref12_Plain.f k a0 = some r) :
    Calls Try.prog 64 #[.int .u8 a0] w fun e w' => e = .returned (.bool r) ∧ Below w.heap.size w w' := by
  have HB := Aside0.mk (Below.refl w.heap.size w)
  have H : (if a0 ≥ 64 then (some true) else (greenscreenref12_Plain.l0 k a0 (([0, 12, 13, 21, 25, 28, 30, 63] : List Int)) 0)) = some r := h
  clear h
  by_cases c2 : a0 ≥ 64
  · rw [if_pos c2] at H
    have c2b0 : decide (64 ≤ a0) = true := decide_eq_true c2
    clear c2
    obtain rfl := Option.some.inj H
    go_enter Try.func64, Try.ntmps64
    go_wp2
    go_ret
    exact ⟨by first | rfl | (simp [errW_none, errW_some] <;> rfl) | (simp [*, errW_none, errW_some] <;> rfl), by repeat (first | (with_reducible first | exact HB.out | apply below_alloc | apply pw_below_drewN | apply below_drew1) | exact HB.out)⟩
  · rw [if_neg c2] at H
    have c2b0 : decide (64 ≤ a0) = false := decide_eq_false c2
    clear c2
    obtain ⟨y266, hy266⟩ : ∃ y_ : List Int, y_ = (([0, 12, 13, 21, 25, 28, 30, 63] : List Int)) := ⟨_, rfl⟩
    replace H : (greenscreenref12_Plain.l0 k a0 y266 0) = some r := by first | (rw [hy266]; with_reducible exact H) | (have H2_ := (Option.bind_some _ _).symm.trans H; rw [hy266]; with_reducible exact H2_) | (have H2_ := (Option.bind_some _ _).symm.trans H; with_reducible exact H2_) | with_reducible exact H | (rw [hy266]; exact H) | exact H
    have Ny266 := Aside0.mk hy266
    clear hy266
    have H' := Aside0.mk H
    clear H
    go_enter Try.func64, Try.ntmps64
    go_wp2_with (first | ((with_reducible refine gate_dst (N := 7) rfl ?_); refine Kd.R_lit (Kd.int .u8) _ 5 ?hg (N := 7) ?hd (xs := ([0, 12, 13, 21, 25, 28, 30, 63] : List Int)) (inner := [.int .u8 0, .int .u8 12, .int .u8 13, .int .u8 21, .int .u8 25, .int .u8 28, .int .u8 30, .int .u8 63]) (ok := fun _ => True) (okp := fun _ => True) ?hr ?hp (fun _ hk => hk) trivial (Below.refl _ _) (Nat.le_refl _) (by simp) ?_; (case hd => rfl); (case hg => rfl); (case hr => first | (go_simp; done) | (go_simp; rfl)); (case hp => exact (Reps.one (show Kd.M (Kd.int .u8) _ _ _ 0 [.int .u8 0] from rfl) (Reps.one (show Kd.M (Kd.int .u8) _ _ _ 12 [.int .u8 12] from rfl) (Reps.one (show Kd.M (Kd.int .u8) _ _ _ 13 [.int .u8 13] from rfl) (Reps.one (show Kd.M (Kd.int .u8) _ _ _ 21 [.int .u8 21] from rfl) (Reps.one (show Kd.M (Kd.int .u8) _ _ _ 25 [.int .u8 25] from rfl) (Reps.one (show Kd.M (Kd.int .u8) _ _ _ 28 [.int .u8 28] from rfl) (Reps.one (show Kd.M (Kd.int .u8) _ _ _ 30 [.int .u8 30] from rfl) (Reps.one (show Kd.M (Kd.int .u8) _ _ _ 63 [.int .u8 63] from rfl) (Reps.none _ _)))))))))); intro v267 w3 ho4 hb hg_ hnew_; clear hg_ hnew_; (first | rw [← Ny266.out] at ho4 | (simp only [Int.reduceToNat] at ho4; rw [← Ny266.out] at ho4)); have n0_ := Aside0.mk (Kd.R_lower ho4 (below_size (by repeat (first | (with_reducible first | exact HB.out | apply below_alloc | apply pw_below_drewN | apply below_drew1) | exact HB.out)))); have n1_ := Aside0.mk (below_step (by repeat (first | (with_reducible first | exact HB.out | apply below_alloc | apply pw_below_drewN | apply below_drew1) | exact HB.out)) hb); clear HB; have HO268 := n0_; have HB := n1_; clear n0_ n1_; clear hb ho4))
    go_loopg [4] k (fun kq v4 w' => ∃ (x4_1 : Int), v4 = .int .i64 x4_1 ∧ Aside0 (greenscreenref12_Plain.l0 kq a0 y266 x4_1 = some r) ∧ Aside0 (kq ≤ k) ∧ Aside0 (Kd.R (Kd.int .u8) 5 w' w.heap.size (fun _ => True) v267 y266) ∧ Aside0 (Below w.heap.size w w'))
    case atStart => exact ⟨(0), (by first | rfl | (simp; done) | (simp [*]; done)), H', ⟨Nat.le_refl _⟩, ⟨by (with_reducible repeat (first | apply Kd.R_alloc | apply Kd.R_drewN | apply Kd.R_drew)); exact HO268.out⟩, ⟨by repeat (first | (with_reducible first | exact HB.out | apply below_alloc | apply pw_below_drewN | apply below_drew1) | exact HB.out)⟩⟩
    case round =>
      clear H'
      try clear c2
      try clear c2b0
      try clear p2
      obtain ⟨x4_1, rfl, HA, HK1, HO_3, HB⟩ := hrel
      cases gk with
      | zero => exact absurd HA.out (by simp [greenscreenref12_Plain.l0])
      | succ k1 =>
        have H := HA.out
        clear HA
        simp only [greenscreenref12_Plain.l0] at H
        by_cases c5 : x4_1 < (y266.length : Int)
        · rw [if_pos c5] at H
          have c5b0 : decide (x4_1 < (y266.length : Int)) = true := decide_eq_true c5
          clear c5
          by_cases c6 : 0 ≤ x4_1
          · rw [if_pos c6] at H
            have c6b0 : decide (0 ≤ x4_1) = true := decide_eq_true c6
            clear c6
            by_cases c7 : (rd y266 x4_1) = a0
            · rw [if_pos c7] at H
              have c7b0 : ((rd y266 x4_1) == a0) = true := beq_iff_eq.mpr c7
              have c7b1 : ((rd y266 x4_1) != a0) = false := bne_eq_false_iff_eq.mpr c7
              clear c7
              obtain rfl := Option.some.inj H
              obtain ⟨Ao8, co8, eo8⟩ := Kd.R_slice HO_3.out
              subst eo8
              have p269 : 0 ≤ (x4_1 : Int) := of_decide_eq_true (by first | (with_reducible assumption) | assumption)
              have q269 : x4_1 < (y266.length : Int) := of_decide_eq_true (by first | (with_reducible assumption) | assumption)
              obtain ⟨ad269, e269, hx269_0⟩ := Kd.at_int (Kd.R_reads' HO_3.out).2.2 x4_1 p269 q269
              cases e269
              replace p269 := eq_true p269
              replace q269 := eq_true q269
              go_wp2
              go_ret
              exact ⟨by first | rfl | (simp [errW_none, errW_some] <;> rfl) | (simp [*, errW_none, errW_some] <;> rfl), by repeat (first | (with_reducible first | exact HB.out | apply below_alloc | apply pw_below_drewN | apply below_drew1) | exact HB.out)⟩
            · rw [if_neg c7] at H
              have c7b0 : ((rd y266 x4_1) == a0) = false := beq_eq_false_iff_ne.mpr c7
              have c7b1 : ((rd y266 x4_1) != a0) = true := bne_iff_ne.mpr c7
              have H' := Aside0.mk H
              clear H
              obtain ⟨Ao9, co9, eo9⟩ := Kd.R_slice HO_3.out
              subst eo9
              have p269 : 0 ≤ (x4_1 : Int) := of_decide_eq_true (by first | (with_reducible assumption) | assumption)
              have q269 : x4_1 < (y266.length : Int) := of_decide_eq_true (by first | (with_reducible assumption) | assumption)
              obtain ⟨ad269, e269, hx269_0⟩ := Kd.at_int (Kd.R_reads' HO_3.out).2.2 x4_1 p269 q269
              cases e269
              replace p269 := eq_true p269
              replace q269 := eq_true q269
              go_wp2
              go_roundg k1
              case measure => have := HK1.out; omega
              case rel => exact ⟨(wrap64 (x4_1 + 1)), (by first | rfl | (simp; done) | (simp [*]; done)), H', ⟨by have := HK1.out; omega⟩, ⟨by (with_reducible repeat (first | apply Kd.R_alloc | apply Kd.R_drewN | apply Kd.R_drew)); exact HO_3.out⟩, ⟨by repeat (first | (with_reducible first | exact HB.out | apply below_alloc | apply pw_below_drewN | apply below_drew1) | exact HB.out)⟩⟩
          · rw [if_neg c6] at H
            exact absurd H (by simp)
        · rw [if_neg c5] at H
          have c5b0 : decide (x4_1 < (y266.length : Int)) = false := decide_eq_false c5
          clear c5
          obtain rfl := Option.some.inj H
          obtain ⟨Ao10, co10, eo10⟩ := Kd.R_slice HO_3.out
          subst eo10
          go_wp2
          go_ret
          exact ⟨by first | rfl | (simp [errW_none, errW_some] <;> rfl) | (simp [*, errW_none, errW_some] <;> rfl), by repeat (first | (with_reducible first | exact HB.out | apply below_alloc | apply pw_below_drewN | apply below_drew1) | exact HB.out)⟩

/-! ### greenscreenref23_Bytes: function 46 -/
def greenscreenref23_Bytes.f (k : Nat) (a0_0 : Int) (a0_1 : Bool) (a0_2 : Bool) (a0_3 : Int) (a0_4 : Int) : Option (List Int) := if a0_1 = true then (if a0_0 < 64 then (some (([8, 64] : List Int))) else (some (([8, a0_0] : List Int)))) else ((greenscreenref12_Plain.f k a0_0).bind fun t277 => (if t277 = true then (some (([a0_0] : List Int))) else (some (([64] : List Int)))))
theorem greenscreenref23_Bytes.mono : ∀ a0 a1 a2 a3 a4 k, LeO (greenscreenref23_Bytes.f k a0 a1 a2 a3 a4) (greenscreenref23_Bytes.f (k + 1) a0 a1 a2 a3 a4) := by
  intro a0 a1 a2 a3 a4 k
  unfold greenscreenref23_Bytes.f
  repeat' first
      | (with_reducible exact greenscreenref12_Plain.mono _ _)
      | (with_reducible exact LeO.refl _)
      | (with_reducible exact LeO.none _)
      | (with_reducible refine LeO.ite ?_ ?_)
      | (with_reducible refine LeO.bind ?_ (fun _ => ?_))
      | exact greenscreenref12_Plain.mono _ _
      | exact LeO.none _
      | refine LeO.ite ?_ ?_
      | refine LeO.bind ?_ (fun _ => ?_)
set_option maxHeartbeats 8000000 in
set_option maxRecDepth 100000 in
theorem greenscreenref23_Bytes.calls (k : Nat) (a0_0 : Int) (a0_1 : Bool) (a0_2 : Bool) (a0_3 : Int) (a0_4 : Int) (r : List Int) (w : World) (h : greenscreenref23_Bytes.f k a0_0 a0_1 a0_2 a0_3 a0_4 = some r) :
    Calls Try.prog 46 #[.agg #[.int .u8 a0_0, .bool a0_1, .bool a0_2, .int .u8 a0_3, .int .u8 a0_4]] w fun e w' => ∃ v0_ : Value, e = .returned (v0_) ∧ Kd.R (Kd.int .u8) 5 w' w.heap.size (fun _ => True) v0_ r ∧ Below w.heap.size w w' := by
  have hu34 := Try.underlying34
  have HB := Aside0.mk (Below.refl w.heap.size w)
  have H : (if a0_1 = true then (if a0_0 < 64 then (some (([8, 64] : List Int))) else (some (([8, a0_0] : List Int)))) else ((greenscreenref12_Plain.f k a0_0).bind fun t277 => (if t277 = true then (some (([a0_0] : List Int))) else (some (([64] : List Int)))))) = some r := h
  clear h
  by_cases c2 : a0_1 = true
  · subst c2
    have H1 : (if a0_0 < 64 then (some (([8, 64] : List Int))) else (some (([8, a0_0] : List Int)))) = some r := by rw [if_pos rfl] at H; exact H
    clear H
    have H := H1
    clear H1
    by_cases c3 : a0_0 < 64
    · rw [if_pos c3] at H
      have c3b0 : decide (a0_0 < 64) = true := decide_eq_true c3
      clear c3
      obtain ⟨y271, hy271⟩ : ∃ y_ : List Int, y_ = (([8, 64] : List Int)) := ⟨_, rfl⟩
      replace H : (some y271) = some r := by first | (rw [hy271]; with_reducible exact H) | (have H2_ := (Option.bind_some _ _).symm.trans H; rw [hy271]; with_reducible exact H2_) | (have H2_ := (Option.bind_some _ _).symm.trans H; with_reducible exact H2_) | with_reducible exact H | (rw [hy271]; exact H) | exact H
      have Ny271 := Aside0.mk hy271
      clear hy271
      obtain rfl := Option.some.inj H
      go_enter Try.func46, Try.ntmps46
      go_wp2_with (first | ((with_reducible refine gate_dst (N := 1) rfl ?_); refine box_event ?hg (N := 1) ?hd (cs := #[.int .u8 a0_0, .bool true, .bool a0_2, .int .u8 a0_3, .int .u8 a0_4]) (t := 34) ?hr ?_; (case hd => rfl); (case hg => rfl); (case hr => first | (go_simp; done) | (go_simp; rfl)); intro gb270 hg w4 hbox hb; have n0_ := Aside0.mk (below_step (by repeat (first | (with_reducible first | exact HB.out | apply below_alloc | apply pw_below_drewN | apply below_drew1) | exact HB.out)) hb); have n1_ := Aside0.mk (hbox); have n2_ := Aside0.mk ((by rw [hg]; exact (below_size (by repeat (first | (with_reducible first | exact HB.out | apply below_alloc | apply pw_below_drewN | apply below_drew1) | exact HB.out))) : w.heap.size ≤ gb270)); have n3_ := Aside0.mk ((by rw [hg]; exact (below_size (by repeat (first | (with_reducible first | exact HB.out | apply below_alloc | apply pw_below_drewN | apply below_drew1) | exact HB.out))) : w.heap.size ≤ gb270)); clear HB; have HB := n0_; have BK270 := n1_; have GW270 := n2_; have GE270 := n3_; clear n0_ n1_ n2_ n3_; clear hb hbox hg; have hcz5_0 : w4.cell? ⟨gb270, 0, none⟩ = some (.int .u8 a0_0) := (blk_cell BK270.out 0).trans rfl; have hcz5_1 : w4.cell? ⟨gb270, 1, none⟩ = some (.bool true) := (blk_cell BK270.out 1).trans rfl; have hcz5_2 : w4.cell? ⟨gb270, 2, none⟩ = some (.bool a0_2) := (blk_cell BK270.out 2).trans rfl; have hcz5_3 : w4.cell? ⟨gb270, 3, none⟩ = some (.int .u8 a0_3) := (blk_cell BK270.out 3).trans rfl; have hcz5_4 : w4.cell? ⟨gb270, 4, none⟩ = some (.int .u8 a0_4) := (blk_cell BK270.out 4).trans rfl; have hfz5_0 := blk_frozen BK270.out 0; have hfz5_1 := blk_frozen BK270.out 1; have hfz5_2 := blk_frozen BK270.out 2; have hfz5_3 := blk_frozen BK270.out 3; have hfz5_4 := blk_frozen BK270.out 4) | ((with_reducible refine gate_dst (N := 8) rfl ?_); refine Kd.R_lit (Kd.int .u8) _ 5 ?hg (N := 8) ?hd (xs := ([8, 64] : List Int)) (inner := [.int .u8 8, .int .u8 64]) (ok := fun _ => True) (okp := fun _ => True) ?hr ?hp (fun _ hk => hk) trivial (Below.refl _ _) (Nat.le_refl _) (by simp) ?_; (case hd => rfl); (case hg => rfl); (case hr => first | (go_simp; done) | (go_simp; rfl)); (case hp => exact (Reps.one (show Kd.M (Kd.int .u8) _ _ _ 8 [.int .u8 8] from rfl) (Reps.one (show Kd.M (Kd.int .u8) _ _ _ 64 [.int .u8 64] from rfl) (Reps.none _ _)))); intro v272 w6 ho7 hb hg_ hnew_; clear hg_ hnew_; (first | rw [← Ny271.out] at ho7 | (simp only [Int.reduceToNat] at ho7; rw [← Ny271.out] at ho7)); have n0_ := Aside0.mk (Kd.R_lower ho7 (below_size (by repeat (first | (with_reducible first | exact HB.out | apply below_alloc | apply pw_below_drewN | apply below_drew1 | refine below_set ?_ GE270.out) | exact HB.out)))); have n1_ := Aside0.mk (blk_below (g := gb270) (o := .cells #[.int .u8 a0_0, .bool true, .bool a0_2, .int .u8 a0_3, .int .u8 a0_4] 34 (0, 0)) (by (with_reducible repeat (first | refine blk_drewN ?_ _ | refine blk_drew ?_ | refine blk_alloc ?_ _)); exact BK270.out) hb); have n2_ := Aside0.mk (below_step (by repeat (first | (with_reducible first | exact HB.out | apply below_alloc | apply pw_below_drewN | apply below_drew1 | refine below_set ?_ GE270.out) | exact HB.out)) hb); clear BK270; clear HB; have HO273 := n0_; have BK270 := n1_; have HB := n2_; clear n0_ n1_ n2_; clear hb ho7))
      go_ret
      exact ⟨_, by first | rfl | (simp [errW_none, errW_some] <;> rfl) | (simp [*, errW_none, errW_some] <;> rfl), by (with_reducible repeat (first | apply Kd.R_alloc | apply Kd.R_drewN | apply Kd.R_drew)); exact HO273.out, by repeat (first | (with_reducible first | exact HB.out | apply below_alloc | apply pw_below_drewN | apply below_drew1 | refine below_set ?_ GE270.out) | exact HB.out)⟩
    · rw [if_neg c3] at H
      have c3b0 : decide (a0_0 < 64) = false := decide_eq_false c3
      clear c3
      obtain ⟨y274, hy274⟩ : ∃ y_ : List Int, y_ = (([8, a0_0] : List Int)) := ⟨_, rfl⟩
      replace H : (some y274) = some r := by first | (rw [hy274]; with_reducible exact H) | (have H2_ := (Option.bind_some _ _).symm.trans H; rw [hy274]; with_reducible exact H2_) | (have H2_ := (Option.bind_some _ _).symm.trans H; with_reducible exact H2_) | with_reducible exact H | (rw [hy274]; exact H) | exact H
      have Ny274 := Aside0.mk hy274
      clear hy274
      obtain rfl := Option.some.inj H
      go_enter Try.func46, Try.ntmps46
      go_wp2_with (first | ((with_reducible refine gate_dst (N := 1) rfl ?_); refine box_event ?hg (N := 1) ?hd (cs := #[.int .u8 a0_0, .bool true, .bool a0_2, .int .u8 a0_3, .int .u8 a0_4]) (t := 34) ?hr ?_; (case hd => rfl); (case hg => rfl); (case hr => first | (go_simp; done) | (go_simp; rfl)); intro gb270 hg w8 hbox hb; have n0_ := Aside0.mk (below_step (by repeat (first | (with_reducible first | exact HB.out | apply below_alloc | apply pw_below_drewN | apply below_drew1) | exact HB.out)) hb); have n1_ := Aside0.mk (hbox); have n2_ := Aside0.mk ((by rw [hg]; exact (below_size (by repeat (first | (with_reducible first | exact HB.out | apply below_alloc | apply pw_below_drewN | apply below_drew1) | exact HB.out))) : w.heap.size ≤ gb270)); have n3_ := Aside0.mk ((by rw [hg]; exact (below_size (by repeat (first | (with_reducible first | exact HB.out | apply below_alloc | apply pw_below_drewN | apply below_drew1) | exact HB.out))) : w.heap.size ≤ gb270)); clear HB; have HB := n0_; have BK270 := n1_; have GW270 := n2_; have GE270 := n3_; clear n0_ n1_ n2_ n3_; clear hb hbox hg; have hcz9_0 : w8.cell? ⟨gb270, 0, none⟩ = some (.int .u8 a0_0) := (blk_cell BK270.out 0).trans rfl; have hcz9_1 : w8.cell? ⟨gb270, 1, none⟩ = some (.bool true) := (blk_cell BK270.out 1).trans rfl; have hcz9_2 : w8.cell? ⟨gb270, 2, none⟩ = some (.bool a0_2) := (blk_cell BK270.out 2).trans rfl; have hcz9_3 : w8.cell? ⟨gb270, 3, none⟩ = some (.int .u8 a0_3) := (blk_cell BK270.out 3).trans rfl; have hcz9_4 : w8.cell? ⟨gb270, 4, none⟩ = some (.int .u8 a0_4) := (blk_cell BK270.out 4).trans rfl; have hfz9_0 := blk_frozen BK270.out 0; have hfz9_1 := blk_frozen BK270.out 1; have hfz9_2 := blk_frozen BK270.out 2; have hfz9_3 := blk_frozen BK270.out 3; have hfz9_4 := blk_frozen BK270.out 4) | ((with_reducible refine gate_dst (N := 11) rfl ?_); refine Kd.R_lit (Kd.int .u8) _ 5 ?hg (N := 11) ?hd (xs := ([8, a0_0] : List Int)) (inner := [.int .u8 8, .int .u8 a0_0]) (ok := fun _ => True) (okp := fun _ => True) ?hr ?hp (fun _ hk => hk) trivial (Below.refl _ _) (Nat.le_refl _) (by simp) ?_; (case hd => rfl); (case hg => rfl); (case hr => first | (go_simp; done) | (go_simp; rfl)); (case hp => exact (Reps.one (show Kd.M (Kd.int .u8) _ _ _ 8 [.int .u8 8] from rfl) (Reps.one (show Kd.M (Kd.int .u8) _ _ _ a0_0 [.int .u8 a0_0] from rfl) (Reps.none _ _)))); intro v275 w10 ho11 hb hg_ hnew_; clear hg_ hnew_; (first | rw [← Ny274.out] at ho11 | (simp only [Int.reduceToNat] at ho11; rw [← Ny274.out] at ho11)); have n0_ := Aside0.mk (Kd.R_lower ho11 (below_size (by repeat (first | (with_reducible first | exact HB.out | apply below_alloc | apply pw_below_drewN | apply below_drew1 | refine below_set ?_ GE270.out) | exact HB.out)))); have n1_ := Aside0.mk (blk_below (g := gb270) (o := .cells #[.int .u8 a0_0, .bool true, .bool a0_2, .int .u8 a0_3, .int .u8 a0_4] 34 (0, 0)) (by (with_reducible repeat (first | refine blk_drewN ?_ _ | refine blk_drew ?_ | refine blk_alloc ?_ _)); exact BK270.out) hb); have n2_ := Aside0.mk (below_step (by repeat (first | (with_reducible first | exact HB.out | apply below_alloc | apply pw_below_drewN | apply below_drew1 | refine below_set ?_ GE270.out) | exact HB.out)) hb); clear BK270; clear HB; have HO276 := n0_; have BK270 := n1_; have HB := n2_; clear n0_ n1_ n2_; clear hb ho11))
      go_ret
      exact ⟨_, by first | rfl | (simp [errW_none, errW_some] <;> rfl) | (simp [*, errW_none, errW_some] <;> rfl), by (with_reducible repeat (first | apply Kd.R_alloc | apply Kd.R_drewN | apply Kd.R_drew)); exact HO276.out, by repeat (first | (with_reducible first | exact HB.out | apply below_alloc | apply pw_below_drewN | apply below_drew1 | refine below_set ?_ GE270.out) | exact HB.out)⟩
  · replace c2 := Bool.eq_false_iff.mpr c2
    subst c2
    have H1 : ((greenscreenref12_Plain.f k a0_0).bind fun t277 => (if t277 = true then (some (([a0_0] : List Int))) else (some (([64] : List Int))))) = some r := by rw [if_neg (show ¬ (false = true) by decide)] at H; exact H
    clear H
    have H := H1
    clear H1
    replace H := Option.bind_eq_some_iff.mp H
    obtain ⟨t277, A120, H⟩ := H
    replace H : (if t277 = true then (some (([a0_0] : List Int))) else (some (([64] : List Int)))) = some r := H
    have A12 := Aside0.mk A120
    clear A120
    by_cases c13 : t277 = true
    · subst c13
      have H1 : (some (([a0_0] : List Int))) = some r := by rw [if_pos rfl] at H; exact H
      clear H
      have H := H1
      clear H1
      obtain ⟨y278, hy278⟩ : ∃ y_ : List Int, y_ = (([a0_0] : List Int)) := ⟨_, rfl⟩
      replace H : (some y278) = some r := by first | (rw [hy278]; with_reducible exact H) | (have H2_ := (Option.bind_some _ _).symm.trans H; rw [hy278]; with_reducible exact H2_) | (have H2_ := (Option.bind_some _ _).symm.trans H; with_reducible exact H2_) | with_reducible exact H | (rw [hy278]; exact H) | exact H
      have Ny278 := Aside0.mk hy278
      clear hy278
      obtain rfl := Option.some.inj H
      go_enter Try.func46, Try.ntmps46
      go_wp2_with (first | ((with_reducible refine gate_dst (N := 1) rfl ?_); refine box_event ?hg (N := 1) ?hd (cs := #[.int .u8 a0_0, .bool false, .bool a0_2, .int .u8 a0_3, .int .u8 a0_4]) (t := 34) ?hr ?_; (case hd => rfl); (case hg => rfl); (case hr => first | (go_simp; done) | (go_simp; rfl)); intro gb270 hg w14 hbox hb; have n0_ := Aside0.mk (below_step (by repeat (first | (with_reducible first | exact HB.out | apply below_alloc | apply pw_below_drewN | apply below_drew1) | exact HB.out)) hb); have n1_ := Aside0.mk (hbox); have n2_ := Aside0.mk ((by rw [hg]; exact (below_size (by repeat (first | (with_reducible first | exact HB.out | apply below_alloc | apply pw_below_drewN | apply below_drew1) | exact HB.out))) : w.heap.size ≤ gb270)); have n3_ := Aside0.mk ((by rw [hg]; exact (below_size (by repeat (first | (with_reducible first | exact HB.out | apply below_alloc | apply pw_below_drewN | apply below_drew1) | exact HB.out))) : w.heap.size ≤ gb270)); clear HB; have HB := n0_; have BK270 := n1_; have GW270 := n2_; have GE270 := n3_; clear n0_ n1_ n2_ n3_; clear hb hbox hg; have hcz15_0 : w14.cell? ⟨gb270, 0, none⟩ = some (.int .u8 a0_0) := (blk_cell BK270.out 0).trans rfl; have hcz15_1 : w14.cell? ⟨gb270, 1, none⟩ = some (.bool false) := (blk_cell BK270.out 1).trans rfl; have hcz15_2 : w14.cell? ⟨gb270, 2, none⟩ = some (.bool a0_2) := (blk_cell BK270.out 2).trans rfl; have hcz15_3 : w14.cell? ⟨gb270, 3, none⟩ = some (.int .u8 a0_3) := (blk_cell BK270.out 3).trans rfl; have hcz15_4 : w14.cell? ⟨gb270, 4, none⟩ = some (.int .u8 a0_4) := (blk_cell BK270.out 4).trans rfl; have hfz15_0 := blk_frozen BK270.out 0; have hfz15_1 := blk_frozen BK270.out 1; have hfz15_2 := blk_frozen BK270.out 2; have hfz15_3 := blk_frozen BK270.out 3; have hfz15_4 := blk_frozen BK270.out 4) | ((with_reducible refine gate_callee (f := 64) rfl ?_); refine goesL_ (some 14) rfl rfl Try.func64 (by kernel_rfl) rfl #[.int .u8 a0_0] rfl (by (try simp only [List.map_toArray, List.map_cons, List.map_nil]); first | done | rfl | (simp only [List.length_drop, List.length_take]; rfl)) ?_; (with_reducible refine (greenscreenref12_Plain.calls k a0_0 true _ A12.out).mono ?_); rintro e w16 ⟨rfl, hb⟩; refine ⟨_, rfl, ?_⟩; have n0_ := Aside0.mk (blk_below (g := gb270) (o := .cells #[.int .u8 a0_0, .bool false, .bool a0_2, .int .u8 a0_3, .int .u8 a0_4] 34 (0, 0)) (by (with_reducible repeat (first | refine blk_drewN ?_ _ | refine blk_drew ?_ | refine blk_alloc ?_ _)); exact BK270.out) hb); have n1_ := Aside0.mk (below_step (by repeat (first | (with_reducible first | exact HB.out | apply below_alloc | apply pw_below_drewN | apply below_drew1 | refine below_set ?_ GE270.out) | exact HB.out)) hb); clear BK270; clear HB; have BK270 := n0_; have HB := n1_; clear n0_ n1_; (try clear hb); (try clear hb2); (try clear hk); (try clear hi); have hcz17_0 : w16.cell? ⟨gb270, 0, none⟩ = some (.int .u8 a0_0) := (blk_cell BK270.out 0).trans rfl; have hcz17_1 : w16.cell? ⟨gb270, 1, none⟩ = some (.bool false) := (blk_cell BK270.out 1).trans rfl; have hcz17_2 : w16.cell? ⟨gb270, 2, none⟩ = some (.bool a0_2) := (blk_cell BK270.out 2).trans rfl; have hcz17_3 : w16.cell? ⟨gb270, 3, none⟩ = some (.int .u8 a0_3) := (blk_cell BK270.out 3).trans rfl; have hcz17_4 : w16.cell? ⟨gb270, 4, none⟩ = some (.int .u8 a0_4) := (blk_cell BK270.out 4).trans rfl; have hfz17_0 := blk_frozen BK270.out 0; have hfz17_1 := blk_frozen BK270.out 1; have hfz17_2 := blk_frozen BK270.out 2; have hfz17_3 := blk_frozen BK270.out 3; have hfz17_4 := blk_frozen BK270.out 4) | ((with_reducible refine gate_dst (N := 19) rfl ?_); refine Kd.R_lit (Kd.int .u8) _ 5 ?hg (N := 19) ?hd (xs := ([a0_0] : List Int)) (inner := [.int .u8 a0_0]) (ok := fun _ => True) (okp := fun _ => True) ?hr ?hp (fun _ hk => hk) trivial (Below.refl _ _) (Nat.le_refl _) (by simp) ?_; (case hd => rfl); (case hg => rfl); (case hr => first | (go_simp; done) | (go_simp; rfl)); (case hp => exact (Reps.one (show Kd.M (Kd.int .u8) _ _ _ a0_0 [.int .u8 a0_0] from rfl) (Reps.none _ _))); intro v279 w18 ho19 hb hg_ hnew_; clear hg_ hnew_; (first | rw [← Ny278.out] at ho19 | (simp only [Int.reduceToNat] at ho19; rw [← Ny278.out] at ho19)); have n0_ := Aside0.mk (Kd.R_lower ho19 (below_size (by repeat (first | (with_reducible first | exact HB.out | apply below_alloc | apply pw_below_drewN | apply below_drew1 | refine below_set ?_ GE270.out) | exact HB.out)))); have n1_ := Aside0.mk (blk_below (g := gb270) (o := .cells #[.int .u8 a0_0, .bool false, .bool a0_2, .int .u8 a0_3, .int .u8 a0_4] 34 (0, 0)) (by (with_reducible repeat (first | refine blk_drewN ?_ _ | refine blk_drew ?_ | refine blk_alloc ?_ _)); exact BK270.out) hb); have n2_ := Aside0.mk (below_step (by repeat (first | (with_reducible first | exact HB.out | apply below_alloc | apply pw_below_drewN | apply below_drew1 | refine below_set ?_ GE270.out) | exact HB.out)) hb); clear BK270; clear HB; have HO280 := n0_; have BK270 := n1_; have HB := n2_; clear n0_ n1_ n2_; clear hb ho19))
      go_ret
      exact ⟨_, by first | rfl | (simp [errW_none, errW_some] <;> rfl) | (simp [*, errW_none, errW_some] <;> rfl), by (with_reducible repeat (first | apply Kd.R_alloc | apply Kd.R_drewN | apply Kd.R_drew)); exact HO280.out, by repeat (first | (with_reducible first | exact HB.out | apply below_alloc | apply pw_below_drewN | apply below_drew1 | refine below_set ?_ GE270.out) | exact HB.out)⟩
    · replace c13 := Bool.eq_false_iff.mpr c13
      subst c13
      have H1 : (some (([64] : List Int))) = some r := by rw [if_neg (show ¬ (false = true) by decide)] at H; exact H
      clear H
      have H := H1
      clear H1
      obtain ⟨y281, hy281⟩ : ∃ y_ : List Int, y_ = (([64] : List Int)) := ⟨_, rfl⟩
      replace H : (some y281) = some r := by first | (rw [hy281]; with_reducible exact H) | (have H2_ := (Option.bind_some _ _).symm.trans H; rw [hy281]; with_reducible exact H2_) | (have H2_ := (Option.bind_some _ _).symm.trans H; with_reducible exact H2_) | with_reducible exact H | (rw [hy281]; exact H) | exact H
      have Ny281 := Aside0.mk hy281
      clear hy281
      obtain rfl := Option.some.inj H
      go_enter Try.func46, Try.ntmps46
      go_wp2_with (first | ((with_reducible refine gate_dst (N := 1) rfl ?_); refine box_event ?hg (N := 1) ?hd (cs := #[.int .u8 a0_0, .bool false, .bool a0_2, .int .u8 a0_3, .int .u8 a0_4]) (t := 34) ?hr ?_; (case hd => rfl); (case hg => rfl); (case hr => first | (go_simp; done) | (go_simp; rfl)); intro gb270 hg w20 hbox hb; have n0_ := Aside0.mk (below_step (by repeat (first | (with_reducible first | exact HB.out | apply below_alloc | apply pw_below_drewN | apply below_drew1) | exact HB.out)) hb); have n1_ := Aside0.mk (hbox); have n2_ := Aside0.mk ((by rw [hg]; exact (below_size (by repeat (first | (with_reducible first | exact HB.out | apply below_alloc | apply pw_below_drewN | apply below_drew1) | exact HB.out))) : w.heap.size ≤ gb270)); have n3_ := Aside0.mk ((by rw [hg]; exact (below_size (by repeat (first | (with_reducible first | exact HB.out | apply below_alloc | apply pw_below_drewN | apply below_drew1) | exact HB.out))) : w.heap.size ≤ gb270)); clear HB; have HB := n0_; have BK270 := n1_; have GW270 := n2_; have GE270 := n3_; clear n0_ n1_ n2_ n3_; clear hb hbox hg; have hcz21_0 : w20.cell? ⟨gb270, 0, none⟩ = some (.int .u8 a0_0) := (blk_cell BK270.out 0).trans rfl; have hcz21_1 : w20.cell? ⟨gb270, 1, none⟩ = some (.bool false) := (blk_cell BK270.out 1).trans rfl; have hcz21_2 : w20.cell? ⟨gb270, 2, none⟩ = some (.bool a0_2) := (blk_cell BK270.out 2).trans rfl; have hcz21_3 : w20.cell? ⟨gb270, 3, none⟩ = some (.int .u8 a0_3) := (blk_cell BK270.out 3).trans rfl; have hcz21_4 : w20.cell? ⟨gb270, 4, none⟩ = some (.int .u8 a0_4) := (blk_cell BK270.out 4).trans rfl; have hfz21_0 := blk_frozen BK270.out 0; have hfz21_1 := blk_frozen BK270.out 1; have hfz21_2 := blk_frozen BK270.out 2; have hfz21_3 := blk_frozen BK270.out 3; have hfz21_4 := blk_frozen BK270.out 4) | ((with_reducible refine gate_callee (f := 64) rfl ?_); refine goesL_ (some 14) rfl rfl Try.func64 (by kernel_rfl) rfl #[.int .u8 a0_0] rfl (by (try simp only [List.map_toArray, List.map_cons, List.map_nil]); first | done | rfl | (simp only [List.length_drop, List.length_take]; rfl)) ?_; (with_reducible refine (greenscreenref12_Plain.calls k a0_0 false _ A12.out).mono ?_); rintro e w22 ⟨rfl, hb⟩; refine ⟨_, rfl, ?_⟩; have n0_ := Aside0.mk (blk_below (g := gb270) (o := .cells #[.int .u8 a0_0, .bool false, .bool a0_2, .int .u8 a0_3, .int .u8 a0_4] 34 (0, 0)) (by (with_reducible repeat (first | refine blk_drewN ?_ _ | refine blk_drew ?_ | refine blk_alloc ?_ _)); exact BK270.out) hb); have n1_ := Aside0.mk (below_step (by repeat (first | (with_reducible first | exact HB.out | apply below_alloc | apply pw_below_drewN | apply below_drew1 | refine below_set ?_ GE270.out) | exact HB.out)) hb); clear BK270; clear HB; have BK270 := n0_; have HB := n1_; clear n0_ n1_; (try clear hb); (try clear hb2); (try clear hk); (try clear hi)) | ((with_reducible refine gate_dst (N := 16) rfl ?_); refine Kd.R_lit (Kd.int .u8) _ 5 ?hg (N := 16) ?hd (xs := ([64] : List Int)) (inner := [.int .u8 64]) (ok := fun _ => True) (okp := fun _ => True) ?hr ?hp (fun _ hk => hk) trivial (Below.refl _ _) (Nat.le_refl _) (by simp) ?_; (case hd => rfl); (case hg => rfl); (case hr => first | (go_simp; done) | (go_simp; rfl)); (case hp => exact (Reps.one (show Kd.M (Kd.int .u8) _ _ _ 64 [.int .u8 64] from rfl) (Reps.none _ _))); intro v282 w23 ho24 hb hg_ hnew_; clear hg_ hnew_; (first | rw [← Ny281.out] at ho24 | (simp only [Int.reduceToNat] at ho24; rw [← Ny281.out] at ho24)); have n0_ := Aside0.mk (Kd.R_lower ho24 (below_size (by repeat (first | (with_reducible first | exact HB.out | apply below_alloc | apply pw_below_drewN | apply below_drew1 | refine below_set ?_ GE270.out) | exact HB.out)))); have n1_ := Aside0.mk (blk_below (g := gb270) (o := .cells #[.int .u8 a0_0, .bool false, .bool a0_2, .int .u8 a0_3, .int .u8 a0_4] 34 (0, 0)) (by (with_reducible repeat (first | refine blk_drewN ?_ _ | refine blk_drew ?_ | refine blk_alloc ?_ _)); exact BK270.out) hb); have n2_ := Aside0.mk (below_step (by repeat (first | (with_reducible first | exact HB.out | apply below_alloc | apply pw_below_drewN | apply below_drew1 | refine below_set ?_ GE270.out) | exact HB.out)) hb); clear BK270; clear HB; have HO283 := n0_; have BK270 := n1_; have HB := n2_; clear n0_ n1_ n2_; clear hb ho24))
      go_ret
      exact ⟨_, by first | rfl | (simp [errW_none, errW_some] <;> rfl) | (simp [*, errW_none, errW_some] <;> rfl), by (with_reducible repeat (first | apply Kd.R_alloc | apply Kd.R_drewN | apply Kd.R_drew)); exact HO283.out, by repeat (first | (with_reducible first | exact HB.out | apply below_alloc | apply pw_below_drewN | apply below_drew1 | refine below_set ?_ GE270.out) | exact HB.out)⟩

/-! ### greenscreenref20_Empty: function 61 -/
def greenscreenref20_Empty.f (a0_0 : Int) (a0_1 : Bool) (a0_2 : Bool) (a0_3 : Int) (a0_4 : Int) : Option (Bool) := if a0_0 = 0 then (some (!a0_1)) else (some false)
set_option maxHeartbeats 8000000 in
set_option maxRecDepth 100000 in
theorem greenscreenref20_Empty.calls (a0_0 : Int) (a0_1 : Bool) (a0_2 : Bool) (a0_3 : Int) (a0_4 : Int) (r : Bool) (w : World) (h : greenscreenref20_Empty.f a0_0 a0_1 a0_2 a0_3 a0_4 = some r) :
    Calls Try.prog 61 #[.agg #[.int .u8 a0_0, .bool a0_1, .bool a0_2, .int .u8 a0_3, .int .u8 a0_4]] w fun e w' => e = .returned (.bool r) ∧ Below w.heap.size w w' := by
  have hu34 := Try.underlying34
  have HB := Aside0.mk (Below.refl w.heap.size w)
  have H : (if a0_0 = 0 then (some (!a0_1)) else (some false)) = some r := h
  clear h
  by_cases c2 : a0_0 = 0
  · rw [if_pos c2] at H
    have c2b0 : (a0_0 == 0) = true := beq_iff_eq.mpr c2
    have c2b1 : (a0_0 != 0) = false := bne_eq_false_iff_eq.mpr c2
    clear c2
    obtain rfl := Option.some.inj H
    go_enter Try.func61, Try.ntmps61
    go_wp2_with (first | ((with_reducible refine gate_dst (N := 1) rfl ?_); refine box_event ?hg (N := 1) ?hd (cs := #[.int .u8 a0_0, .bool a0_1, .bool a0_2, .int .u8 a0_3, .int .u8 a0_4]) (t := 34) ?hr ?_; (case hd => rfl); (case hg => rfl); (case hr => first | (go_simp; done) | (go_simp; rfl)); intro gb284 hg w3 hbox hb; have n0_ := Aside0.mk (below_step (by repeat (first | (with_reducible first | exact HB.out | apply below_alloc | apply pw_below_drewN | apply below_drew1) | exact HB.out)) hb); have n1_ := Aside0.mk (hbox); have n2_ := Aside0.mk ((by rw [hg]; exact (below_size (by repeat (first | (with_reducible first | exact HB.out | apply below_alloc | apply pw_below_drewN | apply below_drew1) | exact HB.out))) : w.heap.size ≤ gb284)); have n3_ := Aside0.mk ((by rw [hg]; exact (below_size (by repeat (first | (with_reducible first | exact HB.out | apply below_alloc | apply pw_below_drewN | apply below_drew1) | exact HB.out))) : w.heap.size ≤ gb284)); clear HB; have HB := n0_; have BK284 := n1_; have GW284 := n2_; have GE284 := n3_; clear n0_ n1_ n2_ n3_; clear hb hbox hg; have hcz4_0 : w3.cell? ⟨gb284, 0, none⟩ = some (.int .u8 a0_0) := (blk_cell BK284.out 0).trans rfl; have hcz4_1 : w3.cell? ⟨gb284, 1, none⟩ = some (.bool a0_1) := (blk_cell BK284.out 1).trans rfl; have hcz4_2 : w3.cell? ⟨gb284, 2, none⟩ = some (.bool a0_2) := (blk_cell BK284.out 2).trans rfl; have hcz4_3 : w3.cell? ⟨gb284, 3, none⟩ = some (.int .u8 a0_3) := (blk_cell BK284.out 3).trans rfl; have hcz4_4 : w3.cell? ⟨gb284, 4, none⟩ = some (.int .u8 a0_4) := (blk_cell BK284.out 4).trans rfl; have hfz4_0 := blk_frozen BK284.out 0; have hfz4_1 := blk_frozen BK284.out 1; have hfz4_2 := blk_frozen BK284.out 2; have hfz4_3 := blk_frozen BK284.out 3; have hfz4_4 := blk_frozen BK284.out 4))
    go_ret
    exact ⟨by first | rfl | (simp [errW_none, errW_some] <;> rfl) | (simp [*, errW_none, errW_some] <;> rfl), by repeat (first | (with_reducible first | exact HB.out | apply below_alloc | apply pw_below_drewN | apply below_drew1 | refine below_set ?_ GE284.out) | exact HB.out)⟩
  · rw [if_neg c2] at H
    have c2b0 : (a0_0 == 0) = false := beq_eq_false_iff_ne.mpr c2
    have c2b1 : (a0_0 != 0) = true := bne_iff_ne.mpr c2
    obtain rfl := Option.some.inj H
    go_enter Try.func61, Try.ntmps61
    go_wp2_with (first | ((with_reducible refine gate_dst (N := 1) rfl ?_); refine box_event ?hg (N := 1) ?hd (cs := #[.int .u8 a0_0, .bool a0_1, .bool a0_2, .int .u8 a0_3, .int .u8 a0_4]) (t := 34) ?hr ?_; (case hd => rfl); (case hg => rfl); (case hr => first | (go_simp; done) | (go_simp; rfl)); intro gb284 hg w5 hbox hb; have n0_ := Aside0.mk (below_step (by repeat (first | (with_reducible first | exact HB.out | apply below_alloc | apply pw_below_drewN | apply below_drew1) | exact HB.out)) hb); have n1_ := Aside0.mk (hbox); have n2_ := Aside0.mk ((by rw [hg]; exact (below_size (by repeat (first | (with_reducible first | exact HB.out | apply below_alloc | apply pw_below_drewN | apply below_drew1) | exact HB.out))) : w.heap.size ≤ gb284)); have n3_ := Aside0.mk ((by rw [hg]; exact (below_size (by repeat (first | (with_reducible first | exact HB.out | apply below_alloc | apply pw_below_drewN | apply below_drew1) | exact HB.out))) : w.heap.size ≤ gb284)); clear HB; have HB := n0_; have BK284 := n1_; have GW284 := n2_; have GE284 := n3_; clear n0_ n1_ n2_ n3_; clear hb hbox hg; have hcz6_0 : w5.cell? ⟨gb284, 0, none⟩ = some (.int .u8 a0_0) := (blk_cell BK284.out 0).trans rfl; have hcz6_1 : w5.cell? ⟨gb284, 1, none⟩ = some (.bool a0_1) := (blk_cell BK284.out 1).trans rfl; have hcz6_2 : w5.cell? ⟨gb284, 2, none⟩ = some (.bool a0_2) := (blk_cell BK284.out 2).trans rfl; have hcz6_3 : w5.cell? ⟨gb284, 3, none⟩ = some (.int .u8 a0_3) := (blk_cell BK284.out 3).trans rfl; have hcz6_4 : w5.cell? ⟨gb284, 4, none⟩ = some (.int .u8 a0_4) := (blk_cell BK284.out 4).trans rfl; have hfz6_0 := blk_frozen BK284.out 0; have hfz6_1 := blk_frozen BK284.out 1; have hfz6_2 := blk_frozen BK284.out 2; have hfz6_3 := blk_frozen BK284.out 3; have hfz6_4 := blk_frozen BK284.out 4))
    go_ret
    exact ⟨by first | rfl | (simp [errW_none, errW_some] <;> rfl) | (simp [*, errW_none, errW_some] <;> rfl), by repeat (first | (with_reducible first | exact HB.out | apply below_alloc | apply pw_below_drewN | apply below_drew1 | refine below_set ?_ GE284.out) | exact HB.out)⟩

end Go.Proofs.Ytnifkdcjphekpaa.A
