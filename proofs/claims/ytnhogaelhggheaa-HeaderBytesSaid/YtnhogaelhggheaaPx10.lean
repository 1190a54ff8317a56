-- Laid by program out of the translation, some functions' texts by hand (a session's own run, not print.sh's). Lean checks it.
import Derived.Test.YtnhogaelhggheaaPx0
namespace Go.Proofs.Ytnhogaelhggheaa.P
open Go.RowKit Go.Proofs.YtnhogaelhggheaaW.PrintWords Go.Proofs.YtnhogaelhggheaaW.PrintLast Go.Proofs.YtnhogaelhggheaaW.PrintMore
attribute [local go_sem] max2_int min2_int max_two min_two max_three min_three max_four min_four   -- for this text's walks alone
set_option linter.unusedVariables false
set_option linter.unusedSimpArgs false

/-! ### greenscreenref09_Got: function 22 -/
def greenscreenref09_Got.l0 : Nat → Int → List Int → Bool → Int → Int → List Int → Option (Int × List Int × Bool)
  | 0, _, _, _, _, _, _ => none
  | k + 1, x1, x6, x7, x8, x359000, x359001 => if x8 < (x359001.length : Int) then (if 0 ≤ x8 then (if (rd x359001 x8) = x1 then (if x7 = true then (if x6.length < 17592186044416 then (greenscreenref09_Got.l0 k x1 (x6 ++ [rd x359001 x8]) x7 (wrap64 (x8 + 1)) x359000 x359001) else (none)) else (greenscreenref09_Got.l0 k x1 x6 true (wrap64 (x8 + 1)) x359000 x359001)) else (if x6.length < 17592186044416 then (greenscreenref09_Got.l0 k x1 (x6 ++ [rd x359001 x8]) x7 (wrap64 (x8 + 1)) x359000 x359001) else (none))) else (none)) else (some (x359000, x6, x7))
def greenscreenref09_Got.f (k : Nat) (a0_0 : Int) (l0_1 : List Int) (a1 : Int) : Option (Int × List Int × Bool) := greenscreenref09_Got.l0 k a1 (([] : List Int)) false 0 a0_0 l0_1
theorem greenscreenref09_Got.mono_l : ∀ k, (∀ y0 y1 y2 y3 y4 y5, LeO (greenscreenref09_Got.l0 k y0 y1 y2 y3 y4 y5) (greenscreenref09_Got.l0 (k + 1) y0 y1 y2 y3 y4 y5))
  | 0 => fun _ _ _ _ _ _ r h => by simp [greenscreenref09_Got.l0] at h
  | k + 1 => by
    have ih0 := greenscreenref09_Got.mono_l k
    · intro y0 y1 y2 y3 y4 y5
      unfold greenscreenref09_Got.l0
      repeat' first
      | (with_reducible exact ih0 _ _ _ _ _ _)
      | (with_reducible exact LeO.refl _)
      | (with_reducible exact LeO.none _)
      | (with_reducible refine LeO.ite ?_ ?_)
      | (with_reducible refine LeO.bind ?_ (fun _ => ?_))
      | exact ih0 _ _ _ _ _ _
      | exact LeO.none _
      | refine LeO.ite ?_ ?_
      | refine LeO.bind ?_ (fun _ => ?_)
theorem greenscreenref09_Got.mono : ∀ a0 a1 a2 k, LeO (greenscreenref09_Got.f k a0 a1 a2) (greenscreenref09_Got.f (k + 1) a0 a1 a2) := by
  intro a0 a1 a2 k
  have ih0 := greenscreenref09_Got.mono_l k
  unfold greenscreenref09_Got.f
  repeat' first
      | (with_reducible exact ih0 _ _ _ _ _ _)
      | (with_reducible exact LeO.refl _)
      | (with_reducible exact LeO.none _)
      | (with_reducible refine LeO.ite ?_ ?_)
      | (with_reducible refine LeO.bind ?_ (fun _ => ?_))
      | exact ih0 _ _ _ _ _ _
      | exact LeO.none _
      | refine LeO.ite ?_ ?_
      | refine LeO.bind ?_ (fun _ => ?_)
set_option maxHeartbeats 8000000 in
set_option maxRecDepth 100000 in
theorem greenscreenref09_Got.calls (k : Nat) (a0_0 : Int) (A0_1 : Option Addr) (c0_1 : Nat) (l0_1 : List Int) (a1 : Int) (r1 : Int) (r2 : List Int) (r3 : Bool) (w : World) (hr0_1 : Kd.C (Kd.int .i64) w A0_1 l0_1.length l0_1) (hc0_1 : l0_1.length ≤ c0_1) (h : greenscreenref09_Got.f k a0_0 l0_1 a1 = some (r1, r2, r3)) :
    Calls Try.prog 22 #[.agg #[.int .i64 a0_0, .slice A0_1 l0_1.length c0_1], .int .i64 a1] w fun e w' => ∃ v1_ : Value, e = .returned (.tuple #[.agg #[.int .i64 r1, v1_], .bool r3]) ∧ Kd.R (Kd.int .i64) 3 w' w.heap.size (fun _ => True) v1_ r2 ∧ Below w.heap.size w w' := by
  have hu52 := Try.underlying52
  have HR0_1 := Aside0.mk hr0_1
  have HC0_1 := Aside0.mk hc0_1
  clear hr0_1 hc0_1
  have HB := Aside0.mk (Below.refl w.heap.size w)
  have H : (greenscreenref09_Got.l0 k a1 (([] : List Int)) false 0 a0_0 l0_1) = some (r1, r2, r3) := h
  clear h
  obtain ⟨y360, hy360⟩ : ∃ y_ : List Int, y_ = (([] : List Int)) := ⟨_, rfl⟩
  replace H : (greenscreenref09_Got.l0 k a1 y360 false 0 a0_0 l0_1) = some (r1, r2, r3) := by first | (rw [hy360]; with_reducible exact H) | (have H2_ := (Option.bind_some _ _).symm.trans H; rw [hy360]; with_reducible exact H2_) | (have H2_ := (Option.bind_some _ _).symm.trans H; with_reducible exact H2_) | with_reducible exact H | (rw [hy360]; exact H) | exact H
  have Ny360 := Aside0.mk hy360
  clear hy360
  have H' := Aside0.mk H
  clear H
  go_enter Try.func22, Try.ntmps22
  go_wp2_with (first | ((with_reducible refine gate_dst (N := 2) rfl ?_); refine box_event ?hg (N := 2) ?hd (cs := #[.int .i64 a0_0, .slice A0_1 l0_1.length c0_1]) (t := 52) ?hr ?_; (case hd => rfl); (case hg => rfl); (case hr => first | (go_simp; done) | (go_simp; rfl)); intro gb358 hg w3 hbox hb; have n0_ := Aside0.mk (below_step (by repeat (first | (with_reducible first | exact HB.out | apply below_alloc | apply pw_below_drewN | apply below_drew1) | exact HB.out)) hb); have n1_ := Aside0.mk (hbox); have n2_ := Aside0.mk ((by rw [hg]; exact (below_size (by repeat (first | (with_reducible first | exact HB.out | apply below_alloc | apply pw_below_drewN | apply below_drew1) | exact HB.out))) : w.heap.size ≤ gb358)); have n3_ := Aside0.mk ((by rw [hg]; exact (below_size (by repeat (first | (with_reducible first | exact HB.out | apply below_alloc | apply pw_below_drewN | apply below_drew1) | exact HB.out))) : w.heap.size ≤ gb358)); clear HB; have HB := n0_; have BK358 := n1_; have GW358 := n2_; have GE358 := n3_; clear n0_ n1_ n2_ n3_; clear hb hbox hg) | ((with_reducible refine gate_dst (N := 4) rfl ?_); refine box_event ?hg (N := 4) ?hd (cs := #[.int .i64 0, .slice none 0 0]) (t := 52) ?hr ?_; (case hd => rfl); (case hg => rfl); (case hr => first | (go_simp; done) | (go_simp; rfl)); intro gb359 hg w4 hbox hb; have n0_ := Aside0.mk (blk_below (g := gb358) (o := .cells #[.int .i64 a0_0, .slice A0_1 l0_1.length c0_1] 52 (0, 0)) (by (with_reducible repeat (first | refine blk_drewN ?_ _ | refine blk_drew ?_ | refine blk_alloc ?_ _)); exact BK358.out) hb); have n1_ := Aside0.mk (below_step (by repeat (first | (with_reducible first | exact HB.out | apply below_alloc | apply pw_below_drewN | apply below_drew1 | refine below_set ?_ GE358.out) | exact HB.out)) hb); have n2_ := Aside0.mk (hbox); have n3_ := Aside0.mk ((by rw [hg]; exact (below_size (by repeat (first | (with_reducible first | exact HB.out | apply below_alloc | apply pw_below_drewN | apply below_drew1 | refine below_set ?_ GE358.out) | exact HB.out))) : w.heap.size ≤ gb359)); have n4_ := Aside0.mk ((by rw [hg]; exact (below_size (by repeat (first | (with_reducible first | exact HB.out | apply below_alloc | apply pw_below_drewN | apply below_drew1 | refine below_set ?_ GE358.out) | exact HB.out))) : w.heap.size ≤ gb359)); have n5_ := Aside0.mk ((by rw [hg]; exact Nat.ne_of_lt (blk_lt (g := gb358) (o := .cells #[.int .i64 a0_0, .slice A0_1 l0_1.length c0_1] 52 (0, 0)) (by (with_reducible repeat (first | refine blk_drewN ?_ _ | refine blk_drew ?_ | refine blk_alloc ?_ _)); exact BK358.out)) : gb358 ≠ gb359)); have n6_ := Aside0.mk ((by rw [hg]; exact Nat.ne_of_gt (blk_lt (g := gb358) (o := .cells #[.int .i64 a0_0, .slice A0_1 l0_1.length c0_1] 52 (0, 0)) (by (with_reducible repeat (first | refine blk_drewN ?_ _ | refine blk_drew ?_ | refine blk_alloc ?_ _)); exact BK358.out)) : gb359 ≠ gb358)); clear BK358; clear HB; have BK358 := n0_; have HB := n1_; have BK359 := n2_; have GW359 := n3_; have GE359 := n4_; have NB358_359 := n5_; have NB359_358 := n6_; clear n0_ n1_ n2_ n3_ n4_ n5_ n6_; clear hb hbox hg) | ((with_reducible refine gate_dst (N := 9) rfl ?_); refine Kd.R_lit (Kd.int .i64) _ 3 ?hg (N := 9) ?hd (xs := ([] : List Int)) (inner := []) (ok := fun _ => True) (okp := fun _ => True) ?hr ?hp (fun _ hk => hk) trivial (Below.refl _ _) (Nat.le_refl _) (by simp) ?_; (case hd => rfl); (case hg => rfl); (case hr => first | (go_simp; done) | (go_simp; rfl)); (case hp => exact (Reps.none _ _)); intro v361 w5 ho6 hb hg_ hnew_; clear hg_ hnew_; (first | rw [← Ny360.out] at ho6 | (simp only [Int.reduceToNat] at ho6; rw [← Ny360.out] at ho6)); have n0_ := Aside0.mk (Kd.R_lower ho6 (below_size (by repeat (first | (with_reducible first | exact HB.out | apply below_alloc | apply pw_below_drewN | apply below_drew1 | refine below_set ?_ GE358.out | refine below_set ?_ GE359.out) | exact HB.out)))); have n1_ := Aside0.mk (blk_below (g := gb358) (o := .cells #[.int .i64 a0_0, .slice A0_1 l0_1.length c0_1] 52 (0, 0)) (by (with_reducible repeat (first | refine blk_drewN ?_ _ | refine blk_drew ?_ | refine blk_alloc ?_ _)); exact BK358.out) hb); have n2_ := Aside0.mk (blk_below (g := gb359) (o := .cells #[.int .i64 0, .slice none 0 0] 52 (0, 0)) (by (with_reducible repeat (first | refine blk_drewN ?_ _ | refine blk_drew ?_ | refine blk_alloc ?_ _)); exact BK359.out) hb); have n3_ := Aside0.mk (below_step (by repeat (first | (with_reducible first | exact HB.out | apply below_alloc | apply pw_below_drewN | apply below_drew1 | refine below_set ?_ GE358.out | refine below_set ?_ GE359.out) | exact HB.out)) hb); clear BK358; clear BK359; clear HB; have HO362 := n0_; have BK358 := n1_; have BK359 := n2_; have HB := n3_; clear n0_ n1_ n2_ n3_; clear hb ho6))
  go_loopg [6, 7, 8] k (fun kq v6 v7 v8 w' => ∃ (x6_1 : List Int) (x7_1 : Bool) (x8_1 : Int), v7 = .bool x7_1 ∧ v8 = .int .i64 x8_1 ∧ Aside0 (greenscreenref09_Got.l0 kq a1 x6_1 x7_1 x8_1 a0_0 l0_1 = some (r1, r2, r3)) ∧ Aside0 (kq ≤ k) ∧ Aside0 (Kd.R (Kd.int .i64) 3 w' w.heap.size (fun _ => True) v6 x6_1) ∧ Aside0 (w'.heap[gb358]? = some (.cells #[.int .i64 a0_0, (.slice A0_1 l0_1.length c0_1)] 52 (0, 0))) ∧ Aside0 (w'.heap[gb359]? = some (.cells #[.int .i64 0, (.slice none 0 0)] 52 (0, 0))) ∧ Aside0 (Below w.heap.size w w'))
  case atStart => exact ⟨(y360), (false), (0), (by first | rfl | (simp; done) | (simp [*]; done)), (by first | rfl | (simp; done) | (simp [*]; done)), H', ⟨Nat.le_refl _⟩, ⟨by (with_reducible repeat (first | apply Kd.R_alloc | apply Kd.R_drewN | apply Kd.R_drew)); exact HO362.out⟩, ⟨by (with_reducible repeat (first | refine blk_drewN ?_ _ | refine blk_drew ?_ | refine blk_alloc ?_ _)); exact BK358.out⟩, ⟨by (with_reducible repeat (first | refine blk_drewN ?_ _ | refine blk_drew ?_ | refine blk_alloc ?_ _)); exact BK359.out⟩, ⟨by repeat (first | (with_reducible first | exact HB.out | apply below_alloc | apply pw_below_drewN | apply below_drew1 | refine below_set ?_ GE358.out | refine below_set ?_ GE359.out) | exact HB.out)⟩⟩
  case round =>
    clear H'
    try clear c2
    try clear p2
    obtain ⟨x6_1, x7_1, x8_1, rfl, rfl, HA, HK1, HO_6, BK358, BK359, HB⟩ := hrel
    cases gk with
    | zero => exact absurd HA.out (by simp [greenscreenref09_Got.l0])
    | succ k1 =>
      have H := HA.out
      clear HA
      simp only [greenscreenref09_Got.l0] at H
      by_cases c7 : x8_1 < (l0_1.length : Int)
      · rw [if_pos c7] at H
        have c7b0 : decide (x8_1 < (l0_1.length : Int)) = true := decide_eq_true c7
        clear c7
        by_cases c8 : 0 ≤ x8_1
        · rw [if_pos c8] at H
          have c8b0 : decide (0 ≤ x8_1) = true := decide_eq_true c8
          clear c8
          by_cases c9 : (rd l0_1 x8_1) = a1
          · rw [if_pos c9] at H
            have c9b0 : ((rd l0_1 x8_1) == a1) = true := beq_iff_eq.mpr c9
            have c9b1 : ((rd l0_1 x8_1) != a1) = false := bne_eq_false_iff_eq.mpr c9
            clear c9
            by_cases c10 : x7_1 = true
            · subst c10
              have H1 : (if x6_1.length < 17592186044416 then (greenscreenref09_Got.l0 k1 a1 (x6_1 ++ [rd l0_1 x8_1]) true (wrap64 (x8_1 + 1)) a0_0 l0_1) else (none)) = some (r1, r2, r3) := by rw [if_pos rfl] at H; exact H
              clear H
              have H := H1
              clear H1
              by_cases c11 : x6_1.length < 17592186044416
              · rw [if_pos c11] at H
                have LMc11 := Aside0.mk c11
                clear c11
                obtain ⟨y365, hy365⟩ : ∃ y_ : List Int, y_ = (x6_1 ++ [rd l0_1 x8_1]) := ⟨_, rfl⟩
                replace H : (greenscreenref09_Got.l0 k1 a1 y365 true (wrap64 (x8_1 + 1)) a0_0 l0_1) = some (r1, r2, r3) := by first | (rw [hy365]; with_reducible exact H) | (have H2_ := (Option.bind_some _ _).symm.trans H; rw [hy365]; with_reducible exact H2_) | (have H2_ := (Option.bind_some _ _).symm.trans H; with_reducible exact H2_) | with_reducible exact H | (rw [hy365]; exact H) | exact H
                have Ny365 := Aside0.mk hy365
                clear hy365
                have H' := Aside0.mk H
                clear H
                have hnb12 := NB358_359.out
                have hnc12 := NB359_358.out
                have hcz13_0 : wr.cell? ⟨gb358, 0, none⟩ = some (.int .i64 a0_0) := (blk_cell BK358.out 0).trans rfl
                have hcz13_1 : wr.cell? ⟨gb358, 1, none⟩ = some (.slice A0_1 l0_1.length c0_1) := (blk_cell BK358.out 1).trans rfl
                have hfz13_0 := blk_frozen BK358.out 0
                have hfz13_1 := blk_frozen BK358.out 1
                have p363 : 0 ≤ (x8_1 : Int) := of_decide_eq_true (by first | (with_reducible assumption) | assumption)
                have q363 : x8_1 < (l0_1.length : Int) := of_decide_eq_true (by first | (with_reducible assumption) | assumption)
                obtain ⟨ad363, e363, hx363_0⟩ := Kd.at_int HR0_1.out x8_1 p363 q363
                cases e363
                replace hx363_0 := (HB.out.cell (World.block_lt_of_cell? w _ hx363_0)).trans hx363_0
                replace p363 := eq_true p363
                replace q363 := eq_true q363
                have p364 : 0 ≤ (x8_1 : Int) := of_decide_eq_true (by first | (with_reducible assumption) | assumption)
                have q364 : x8_1 < (l0_1.length : Int) := of_decide_eq_true (by first | (with_reducible assumption) | assumption)
                obtain ⟨ad364, e364, hx364_0⟩ := Kd.at_int HR0_1.out x8_1 p364 q364
                obtain rfl : ad363 = ad364 := (by injection e364)
                replace hx364_0 := (HB.out.cell (World.block_lt_of_cell? w _ hx364_0)).trans hx364_0
                replace p364 := eq_true p364
                replace q364 := eq_true q364
                go_wp2_with (first | ((with_reducible refine gate_builtin (b := .append) (xs := #[.tmp 28, .tmp 34]) rfl ?_); at_builtin; refine Kd.R_append (Kd.int .i64) (w0 := w) w.heap.size rfl (.tmp 28) (.tmp 34) 47 3 (.int .i64 0) 8 rfl Try.underlying47 info3 rfl (by decide) (by omega) u6 x6_1 (rd l0_1 x8_1) [.int .i64 (rd l0_1 x8_1)] (fun _ => True) (fun _ => False) rfl rfl ?aP (fun _ hk => hk.elim) ?aF ?aO ?aB ?aS ?aL ?_; (case aP => exact rfl); (case aB => exact (by repeat (first | (with_reducible first | exact HB.out | apply below_alloc | apply pw_below_drewN | apply below_drew1 | refine below_set ?_ GE358.out | refine below_set ?_ GE359.out) | exact HB.out))); (case aF => exact (fun _ _ => trivial)); (case aO => exact (by (with_reducible repeat (first | apply Kd.R_alloc | apply Kd.R_drewN | apply Kd.R_drew)); exact HO_6.out)); (case aS => exact (below_size (by repeat (first | (with_reducible first | exact HB.out | apply below_alloc | apply pw_below_drewN | apply below_drew1 | refine below_set ?_ GE358.out | refine below_set ?_ GE359.out) | exact HB.out)))); (case aL => have := LMc11.out; omega); intro v366 w14 ho hb hg hat; rw [← Ny365.out] at ho; have n0_ := Aside0.mk (blk_grown (g := gb358) (o := .cells #[.int .i64 a0_0, .slice (some ad363) l0_1.length c0_1] 52 (0, 0)) (by (with_reducible repeat (first | refine blk_drewN ?_ _ | refine blk_drew ?_ | refine blk_alloc ?_ _)); exact BK358.out) hg (Kd.R_ne HO_6.out BK358.out (by decide))); have n1_ := Aside0.mk (blk_grown (g := gb359) (o := .cells #[.int .i64 0, .slice none 0 0] 52 (0, 0)) (by (with_reducible repeat (first | refine blk_drewN ?_ _ | refine blk_drew ?_ | refine blk_alloc ?_ _)); exact BK359.out) hg (Kd.R_ne HO_6.out BK359.out (by decide))); have n2_ := Aside0.mk (hb); have n3_ := Aside0.mk (ho); clear BK358; clear BK359; clear HB; clear HO_6; have BK358 := n0_; have BK359 := n1_; have HB := n2_; have HO367 := n3_; clear n0_ n1_ n2_ n3_; clear ho hb hg hat))
                go_roundg k1
                case measure => have := HK1.out; omega
                case rel => exact ⟨(y365), (true), (wrap64 (x8_1 + 1)), (by first | rfl | (simp; done) | (simp [*]; done)), (by first | rfl | (simp; done) | (simp [*]; done)), H', ⟨by have := HK1.out; omega⟩, ⟨by (with_reducible repeat (first | apply Kd.R_alloc | apply Kd.R_drewN | apply Kd.R_drew)); exact HO367.out⟩, ⟨by (with_reducible repeat (first | refine blk_drewN ?_ _ | refine blk_drew ?_ | refine blk_alloc ?_ _)); exact BK358.out⟩, ⟨by (with_reducible repeat (first | refine blk_drewN ?_ _ | refine blk_drew ?_ | refine blk_alloc ?_ _)); exact BK359.out⟩, ⟨by repeat (first | (with_reducible first | exact HB.out | apply below_alloc | apply pw_below_drewN | apply below_drew1 | refine below_set ?_ GE358.out | refine below_set ?_ GE359.out) | exact HB.out)⟩⟩
              · rw [if_neg c11] at H
                exact absurd H (by simp)
            · replace c10 := Bool.eq_false_iff.mpr c10
              subst c10
              have H1 : (greenscreenref09_Got.l0 k1 a1 x6_1 true (wrap64 (x8_1 + 1)) a0_0 l0_1) = some (r1, r2, r3) := by rw [if_neg (show ¬ (false = true) by decide)] at H; exact H
              clear H
              have H := H1
              clear H1
              have H' := Aside0.mk H
              clear H
              have hnb15 := NB358_359.out
              have hnc15 := NB359_358.out
              have hcz16_0 : wr.cell? ⟨gb358, 0, none⟩ = some (.int .i64 a0_0) := (blk_cell BK358.out 0).trans rfl
              have hcz16_1 : wr.cell? ⟨gb358, 1, none⟩ = some (.slice A0_1 l0_1.length c0_1) := (blk_cell BK358.out 1).trans rfl
              have hfz16_0 := blk_frozen BK358.out 0
              have hfz16_1 := blk_frozen BK358.out 1
              have p363 : 0 ≤ (x8_1 : Int) := of_decide_eq_true (by first | (with_reducible assumption) | assumption)
              have q363 : x8_1 < (l0_1.length : Int) := of_decide_eq_true (by first | (with_reducible assumption) | assumption)
              obtain ⟨ad363, e363, hx363_0⟩ := Kd.at_int HR0_1.out x8_1 p363 q363
              cases e363
              replace hx363_0 := (HB.out.cell (World.block_lt_of_cell? w _ hx363_0)).trans hx363_0
              replace p363 := eq_true p363
              replace q363 := eq_true q363
              go_wp2
              go_roundg k1
              case measure => have := HK1.out; omega
              case rel => exact ⟨(x6_1), (true), (wrap64 (x8_1 + 1)), (by first | rfl | (simp; done) | (simp [*]; done)), (by first | rfl | (simp; done) | (simp [*]; done)), H', ⟨by have := HK1.out; omega⟩, ⟨by (with_reducible repeat (first | apply Kd.R_alloc | apply Kd.R_drewN | apply Kd.R_drew)); exact HO_6.out⟩, ⟨by (with_reducible repeat (first | refine blk_drewN ?_ _ | refine blk_drew ?_ | refine blk_alloc ?_ _)); exact BK358.out⟩, ⟨by (with_reducible repeat (first | refine blk_drewN ?_ _ | refine blk_drew ?_ | refine blk_alloc ?_ _)); exact BK359.out⟩, ⟨by repeat (first | (with_reducible first | exact HB.out | apply below_alloc | apply pw_below_drewN | apply below_drew1 | refine below_set ?_ GE358.out | refine below_set ?_ GE359.out) | exact HB.out)⟩⟩
          · rw [if_neg c9] at H
            have c9b0 : ((rd l0_1 x8_1) == a1) = false := beq_eq_false_iff_ne.mpr c9
            have c9b1 : ((rd l0_1 x8_1) != a1) = true := bne_iff_ne.mpr c9
            by_cases c17 : x6_1.length < 17592186044416
            · rw [if_pos c17] at H
              have LMc17 := Aside0.mk c17
              clear c17
              obtain ⟨y369, hy369⟩ : ∃ y_ : List Int, y_ = (x6_1 ++ [rd l0_1 x8_1]) := ⟨_, rfl⟩
              replace H : (greenscreenref09_Got.l0 k1 a1 y369 x7_1 (wrap64 (x8_1 + 1)) a0_0 l0_1) = some (r1, r2, r3) := by first | (rw [hy369]; with_reducible exact H) | (have H2_ := (Option.bind_some _ _).symm.trans H; rw [hy369]; with_reducible exact H2_) | (have H2_ := (Option.bind_some _ _).symm.trans H; with_reducible exact H2_) | with_reducible exact H | (rw [hy369]; exact H) | exact H
              have Ny369 := Aside0.mk hy369
              clear hy369
              have H' := Aside0.mk H
              clear H
              have hnb18 := NB358_359.out
              have hnc18 := NB359_358.out
              have hcz19_0 : wr.cell? ⟨gb358, 0, none⟩ = some (.int .i64 a0_0) := (blk_cell BK358.out 0).trans rfl
              have hcz19_1 : wr.cell? ⟨gb358, 1, none⟩ = some (.slice A0_1 l0_1.length c0_1) := (blk_cell BK358.out 1).trans rfl
              have hfz19_0 := blk_frozen BK358.out 0
              have hfz19_1 := blk_frozen BK358.out 1
              have p363 : 0 ≤ (x8_1 : Int) := of_decide_eq_true (by first | (with_reducible assumption) | assumption)
              have q363 : x8_1 < (l0_1.length : Int) := of_decide_eq_true (by first | (with_reducible assumption) | assumption)
              obtain ⟨ad363, e363, hx363_0⟩ := Kd.at_int HR0_1.out x8_1 p363 q363
              cases e363
              replace hx363_0 := (HB.out.cell (World.block_lt_of_cell? w _ hx363_0)).trans hx363_0
              replace p363 := eq_true p363
              replace q363 := eq_true q363
              have p368 : 0 ≤ (x8_1 : Int) := of_decide_eq_true (by first | (with_reducible assumption) | assumption)
              have q368 : x8_1 < (l0_1.length : Int) := of_decide_eq_true (by first | (with_reducible assumption) | assumption)
              obtain ⟨ad368, e368, hx368_0⟩ := Kd.at_int HR0_1.out x8_1 p368 q368
              obtain rfl : ad363 = ad368 := (by injection e368)
              replace hx368_0 := (HB.out.cell (World.block_lt_of_cell? w _ hx368_0)).trans hx368_0
              replace p368 := eq_true p368
              replace q368 := eq_true q368
              go_wp2_with (first | ((with_reducible refine gate_builtin (b := .append) (xs := #[.tmp 28, .tmp 34]) rfl ?_); at_builtin; refine Kd.R_append (Kd.int .i64) (w0 := w) w.heap.size rfl (.tmp 28) (.tmp 34) 47 3 (.int .i64 0) 8 rfl Try.underlying47 info3 rfl (by decide) (by omega) u6 x6_1 (rd l0_1 x8_1) [.int .i64 (rd l0_1 x8_1)] (fun _ => True) (fun _ => False) rfl rfl ?aP (fun _ hk => hk.elim) ?aF ?aO ?aB ?aS ?aL ?_; (case aP => exact rfl); (case aB => exact (by repeat (first | (with_reducible first | exact HB.out | apply below_alloc | apply pw_below_drewN | apply below_drew1 | refine below_set ?_ GE358.out | refine below_set ?_ GE359.out) | exact HB.out))); (case aF => exact (fun _ _ => trivial)); (case aO => exact (by (with_reducible repeat (first | apply Kd.R_alloc | apply Kd.R_drewN | apply Kd.R_drew)); exact HO_6.out)); (case aS => exact (below_size (by repeat (first | (with_reducible first | exact HB.out | apply below_alloc | apply pw_below_drewN | apply below_drew1 | refine below_set ?_ GE358.out | refine below_set ?_ GE359.out) | exact HB.out)))); (case aL => have := LMc17.out; omega); intro v370 w20 ho hb hg hat; rw [← Ny369.out] at ho; have n0_ := Aside0.mk (blk_grown (g := gb358) (o := .cells #[.int .i64 a0_0, .slice (some ad363) l0_1.length c0_1] 52 (0, 0)) (by (with_reducible repeat (first | refine blk_drewN ?_ _ | refine blk_drew ?_ | refine blk_alloc ?_ _)); exact BK358.out) hg (Kd.R_ne HO_6.out BK358.out (by decide))); have n1_ := Aside0.mk (blk_grown (g := gb359) (o := .cells #[.int .i64 0, .slice none 0 0] 52 (0, 0)) (by (with_reducible repeat (first | refine blk_drewN ?_ _ | refine blk_drew ?_ | refine blk_alloc ?_ _)); exact BK359.out) hg (Kd.R_ne HO_6.out BK359.out (by decide))); have n2_ := Aside0.mk (hb); have n3_ := Aside0.mk (ho); clear BK358; clear BK359; clear HB; clear HO_6; have BK358 := n0_; have BK359 := n1_; have HB := n2_; have HO371 := n3_; clear n0_ n1_ n2_ n3_; clear ho hb hg hat))
              go_roundg k1
              case measure => have := HK1.out; omega
              case rel => exact ⟨(y369), (x7_1), (wrap64 (x8_1 + 1)), (by first | rfl | (simp; done) | (simp [*]; done)), (by first | rfl | (simp; done) | (simp [*]; done)), H', ⟨by have := HK1.out; omega⟩, ⟨by (with_reducible repeat (first | apply Kd.R_alloc | apply Kd.R_drewN | apply Kd.R_drew)); exact HO371.out⟩, ⟨by (with_reducible repeat (first | refine blk_drewN ?_ _ | refine blk_drew ?_ | refine blk_alloc ?_ _)); exact BK358.out⟩, ⟨by (with_reducible repeat (first | refine blk_drewN ?_ _ | refine blk_drew ?_ | refine blk_alloc ?_ _)); exact BK359.out⟩, ⟨by repeat (first | (with_reducible first | exact HB.out | apply below_alloc | apply pw_below_drewN | apply below_drew1 | refine below_set ?_ GE358.out | refine below_set ?_ GE359.out) | exact HB.out)⟩⟩
            · rw [if_neg c17] at H
              exact absurd H (by simp)
        · rw [if_neg c8] at H
          exact absurd H (by simp)
      · rw [if_neg c7] at H
        have c7b0 : decide (x8_1 < (l0_1.length : Int)) = false := decide_eq_false c7
        clear c7
        simp only [Option.some.injEq, Prod.mk.injEq] at H
        obtain ⟨rfl, rfl, rfl⟩ := H
        have hnb21 := NB358_359.out
        have hnc21 := NB359_358.out
        have hcz22_0 : wr.cell? ⟨gb358, 0, none⟩ = some (.int .i64 a0_0) := (blk_cell BK358.out 0).trans rfl
        have hcz22_1 : wr.cell? ⟨gb358, 1, none⟩ = some (.slice A0_1 l0_1.length c0_1) := (blk_cell BK358.out 1).trans rfl
        have hfz22_0 := blk_frozen BK358.out 0
        have hfz22_1 := blk_frozen BK358.out 1
        obtain ⟨Ao23, co23, eo23⟩ := Kd.R_slice HO_6.out
        subst eo23
        have hcz24_0 : wr.cell? ⟨gb359, 0, none⟩ = some (.int .i64 0) := (blk_cell BK359.out 0).trans rfl
        have hcz24_1 : wr.cell? ⟨gb359, 1, none⟩ = some (.slice none 0 0) := (blk_cell BK359.out 1).trans rfl
        have hfz24_0 := blk_frozen BK359.out 0
        have hfz24_1 := blk_frozen BK359.out 1
        go_wp2
        refine bodyPost_ret (results_ct rfl _ _ gb359 52 #[.int .i64 a0_0, .slice Ao23 x6_1.length co23] (0, 0) _ rfl (by (with_reducible repeat (first | refine blk_drewN ?_ _ | refine blk_drew ?_ | refine blk_alloc ?_ _)); refine blk_put (cs := #[.int .i64 a0_0, .slice none 0 0]) ?_ 1 _ rfl; (with_reducible repeat (first | refine blk_drewN ?_ _ | refine blk_drew ?_ | refine blk_alloc ?_ _)); refine blk_put (cs := #[.int .i64 0, .slice none 0 0]) ?_ 0 _ rfl; (with_reducible repeat (first | refine blk_drewN ?_ _ | refine blk_drew ?_ | refine blk_alloc ?_ _)); refine blk_far ?_ NB359_358.out _; (with_reducible repeat (first | refine blk_drewN ?_ _ | refine blk_drew ?_ | refine blk_alloc ?_ _)); exact BK359.out) Try.underlying52 rfl (by kernel_rfl)) rfl ?_
        exact ⟨_, by first | rfl | (simp [errW_none, errW_some] <;> rfl) | (simp [*, errW_none, errW_some] <;> rfl), by (with_reducible repeat (first | apply Kd.R_alloc | apply Kd.R_drewN | apply Kd.R_drew)); exact Kd.R_mono (Kd.R_far (p := ⟨gb359, 1, none⟩) (Kd.R_far (p := ⟨gb359, 0, none⟩) (Kd.R_far (p := ⟨gb358, 1, none⟩) (Kd.R_types (Kd.R_types HO_6.out BK358.out (by decide)) BK359.out (by decide)) (fun _ hk => hk.1.2) (.slice Ao23 x6_1.length co23)) (fun _ hk => hk.2) (.int .i64 a0_0)) (fun _ hk => hk.2) (.slice Ao23 x6_1.length co23)) (fun _ hk => trivial), by repeat (first | (with_reducible first | exact HB.out | apply below_alloc | apply pw_below_drewN | apply below_drew1 | refine below_set ?_ GE358.out | refine below_set ?_ GE359.out) | exact HB.out)⟩

end Go.Proofs.Ytnhogaelhggheaa.P
