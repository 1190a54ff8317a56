-- Laid by program out of the translation, some functions' texts by hand (a session's own run, not print.sh's). Lean checks it.
import Derived.Test.YthimdjdnpfaamaaPx0
import Derived.Test.YthimdjdnpfaamaaPx1
import Derived.Test.YthimdjdnpfaamaaPx2
namespace Go.Proofs.Ythimdjdnpfaamaa.P
open Go.RowKit Go.Proofs.YthimdjdnpfaamaaW.PrintWords Go.Proofs.YthimdjdnpfaamaaW.PrintLast Go.Proofs.YthimdjdnpfaamaaW.PrintMore
attribute [local go_sem] max2_int min2_int max_two min_two max_three min_three max_four min_four   -- for this text's walks alone
set_option linter.unusedVariables false
set_option linter.unusedSimpArgs false

attribute [local go_sem high] eqA33
/-! ### attr_Dress: function 24 -/
def attr_Dress.l0 : Nat → List (S36) → Int → Int → Int → Bool → Bool → Int → Int → Option (Int × Bool × Bool × Int × Int)
  | 0, _, _, _, _, _, _, _, _ => none
  | k + 1, x7, x8, x9, x111000, x111001, x111002, x111003, x111004 => if x9 < x8 then (if 0 ≤ x9 then (if x9 < (x7.length : Int) then (if ((rd_T36 x7 x9).f0) = 192 then (attr_Dress.l0 k x7 x8 (wrap64 (x9 + 1)) (Go.bits .and .u8 ((rd_T36 x7 x9).f1) 63) x111001 x111002 x111003 x111004) else (if ((rd_T36 x7 x9).f0) = 65 then (attr_Dress.l0 k x7 x8 (wrap64 (x9 + 1)) x111000 x111001 x111002 ((rd_T36 x7 x9).f1) x111004) else (if ((rd_T36 x7 x9).f0) = 66 then (attr_Dress.l0 k x7 x8 (wrap64 (x9 + 1)) x111000 x111001 x111002 x111003 ((rd_T36 x7 x9).f1)) else (if ((rd_T36 x7 x9).f0) = 0 then (attr_Dress.l0 k x7 x8 (wrap64 (x9 + 1)) x111000 x111001 x111002 0 0) else (attr_Dress.l0 k x7 x8 (wrap64 (x9 + 1)) x111000 x111001 x111002 x111003 x111004))))) else (none)) else (none)) else (some (x111000, x111001, x111002, x111003, x111004))
def attr_Dress.f (k : Nat) (a0_0 : Int) (a0_1 : Bool) (a0_2 : Bool) (a0_3 : Int) (a0_4 : Int) (l1 : List (S36)) : Option (Int × Bool × Bool × Int × Int) := attr_Dress.l0 k l1 (l1.length : Int) 0 a0_0 a0_1 a0_2 a0_3 a0_4
theorem attr_Dress.mono_l : ∀ k, (∀ y0 y1 y2 y3 y4 y5 y6 y7, LeO (attr_Dress.l0 k y0 y1 y2 y3 y4 y5 y6 y7) (attr_Dress.l0 (k + 1) y0 y1 y2 y3 y4 y5 y6 y7))
  | 0 => fun _ _ _ _ _ _ _ _ r h => by simp [attr_Dress.l0] at h
  | k + 1 => by
    have ih0 := attr_Dress.mono_l k
    · intro y0 y1 y2 y3 y4 y5 y6 y7
      unfold attr_Dress.l0
      repeat' first
      | (with_reducible exact ih0 _ _ _ _ _ _ _ _)
      | (with_reducible exact LeO.refl _)
      | (with_reducible exact LeO.none _)
      | (with_reducible refine LeO.ite ?_ ?_)
      | (with_reducible refine LeO.bind ?_ (fun _ => ?_))
      | exact ih0 _ _ _ _ _ _ _ _
      | exact LeO.none _
      | refine LeO.ite ?_ ?_
      | refine LeO.bind ?_ (fun _ => ?_)
theorem attr_Dress.mono : ∀ a0 a1 a2 a3 a4 a5 k, LeO (attr_Dress.f k a0 a1 a2 a3 a4 a5) (attr_Dress.f (k + 1) a0 a1 a2 a3 a4 a5) := by
  intro a0 a1 a2 a3 a4 a5 k
  have ih0 := attr_Dress.mono_l k
  unfold attr_Dress.f
  repeat' first
      | (with_reducible exact ih0 _ _ _ _ _ _ _ _)
      | (with_reducible exact LeO.refl _)
      | (with_reducible exact LeO.none _)
      | (with_reducible refine LeO.ite ?_ ?_)
      | (with_reducible refine LeO.bind ?_ (fun _ => ?_))
      | exact ih0 _ _ _ _ _ _ _ _
      | exact LeO.none _
      | refine LeO.ite ?_ ?_
      | refine LeO.bind ?_ (fun _ => ?_)
set_option maxHeartbeats 8000000 in
set_option maxRecDepth 100000 in
theorem attr_Dress.calls (k : Nat) (a0_0 : Int) (a0_1 : Bool) (a0_2 : Bool) (a0_3 : Int) (a0_4 : Int) (A1 : Option Addr) (c1 : Nat) (l1 : List (S36)) (r1 : Int) (r2 : Bool) (r3 : Bool) (r4 : Int) (r5 : Int) (w : World) (hr1 : Kd.C k36 w A1 l1.length l1) (hc1 : l1.length ≤ c1) (h : attr_Dress.f k a0_0 a0_1 a0_2 a0_3 a0_4 l1 = some (r1, r2, r3, r4, r5)) :
    Calls Try.prog 24 #[.agg #[.int .u8 a0_0, .bool a0_1, .bool a0_2, .int .u8 a0_3, .int .u8 a0_4], .slice A1 l1.length c1] w fun e w' => e = .returned (.agg #[.int .u8 r1, .bool r2, .bool r3, .int .u8 r4, .int .u8 r5]) ∧ Below w.heap.size w w' := by
  have hu33 := Try.underlying33
  have hu36 := Try.underlying36
  have HR1 := Aside0.mk hr1
  have HC1 := Aside0.mk hc1
  clear hr1 hc1
  have HB := Aside0.mk (Below.refl w.heap.size w)
  have H : (attr_Dress.l0 k l1 (l1.length : Int) 0 a0_0 a0_1 a0_2 a0_3 a0_4) = some (r1, r2, r3, r4, r5) := h
  clear h
  have H' := Aside0.mk H
  clear H
  go_enter Try.func24, Try.ntmps24
  go_wp2_with (first | ((with_reducible refine gate_dst (N := 2) rfl ?_); refine box_event ?hg (N := 2) ?hd (cs := #[.int .u8 a0_0, .bool a0_1, .bool a0_2, .int .u8 a0_3, .int .u8 a0_4]) (t := 33) ?hr ?_; (case hd => rfl); (case hg => rfl); (case hr => first | (go_simp; done) | (go_simp; rfl)); intro gb110 hg w3 hbox hb; have n0_ := Aside0.mk (below_step (by repeat (first | (with_reducible first | exact HB.out | apply below_alloc | apply pw_below_drewN | apply below_drew1) | exact HB.out)) hb); have n1_ := Aside0.mk (hbox); have n2_ := Aside0.mk ((by rw [hg]; exact (below_size (by repeat (first | (with_reducible first | exact HB.out | apply below_alloc | apply pw_below_drewN | apply below_drew1) | exact HB.out))) : w.heap.size ≤ gb110)); have n3_ := Aside0.mk ((by rw [hg]; exact (below_size (by repeat (first | (with_reducible first | exact HB.out | apply below_alloc | apply pw_below_drewN | apply below_drew1) | exact HB.out))) : w.heap.size ≤ gb110)); clear HB; have HB := n0_; have BK110 := n1_; have GW110 := n2_; have GE110 := n3_; clear n0_ n1_ n2_ n3_; clear hb hbox hg) | ((with_reducible refine gate_dst (N := 4) rfl ?_); refine box_event ?hg (N := 4) ?hd (cs := #[.int .u8 0, .bool false, .bool false, .int .u8 0, .int .u8 0]) (t := 33) ?hr ?_; (case hd => rfl); (case hg => rfl); (case hr => first | (go_simp; done) | (go_simp; rfl)); intro gb111 hg w4 hbox hb; have n0_ := Aside0.mk (blk_below (g := gb110) (o := .cells #[.int .u8 a0_0, .bool a0_1, .bool a0_2, .int .u8 a0_3, .int .u8 a0_4] 33 (0, 0)) (by (with_reducible repeat (first | refine blk_drewN ?_ _ | refine blk_drew ?_ | refine blk_alloc ?_ _)); exact BK110.out) hb); have n1_ := Aside0.mk (below_step (by repeat (first | (with_reducible first | exact HB.out | apply below_alloc | apply pw_below_drewN | apply below_drew1 | refine below_set ?_ GE110.out) | exact HB.out)) hb); have n2_ := Aside0.mk (hbox); have n3_ := Aside0.mk ((by rw [hg]; exact (below_size (by repeat (first | (with_reducible first | exact HB.out | apply below_alloc | apply pw_below_drewN | apply below_drew1 | refine below_set ?_ GE110.out) | exact HB.out))) : w.heap.size ≤ gb111)); have n4_ := Aside0.mk ((by rw [hg]; exact (below_size (by repeat (first | (with_reducible first | exact HB.out | apply below_alloc | apply pw_below_drewN | apply below_drew1 | refine below_set ?_ GE110.out) | exact HB.out))) : w.heap.size ≤ gb111)); have n5_ := Aside0.mk ((by rw [hg]; exact Nat.ne_of_lt (blk_lt (g := gb110) (o := .cells #[.int .u8 a0_0, .bool a0_1, .bool a0_2, .int .u8 a0_3, .int .u8 a0_4] 33 (0, 0)) (by (with_reducible repeat (first | refine blk_drewN ?_ _ | refine blk_drew ?_ | refine blk_alloc ?_ _)); exact BK110.out)) : gb110 ≠ gb111)); have n6_ := Aside0.mk ((by rw [hg]; exact Nat.ne_of_gt (blk_lt (g := gb110) (o := .cells #[.int .u8 a0_0, .bool a0_1, .bool a0_2, .int .u8 a0_3, .int .u8 a0_4] 33 (0, 0)) (by (with_reducible repeat (first | refine blk_drewN ?_ _ | refine blk_drew ?_ | refine blk_alloc ?_ _)); exact BK110.out)) : gb111 ≠ gb110)); clear BK110; clear HB; have BK110 := n0_; have HB := n1_; have BK111 := n2_; have GW111 := n3_; have GE111 := n4_; have NB110_111 := n5_; have NB111_110 := n6_; clear n0_ n1_ n2_ n3_ n4_ n5_ n6_; clear hb hbox hg))
  go_loopg [9] k (fun kq v9 w' => ∃ (x9_1 : Int) (x111000_1 : Int) (x111003_1 : Int) (x111004_1 : Int), v9 = .int .i64 x9_1 ∧ Aside0 (attr_Dress.l0 kq l1 (l1.length : Int) x9_1 x111000_1 a0_1 a0_2 x111003_1 x111004_1 = some (r1, r2, r3, r4, r5)) ∧ Aside0 (kq ≤ k) ∧ Aside0 (w'.heap[gb110]? = some (.cells #[.int .u8 x111000_1, .bool a0_1, .bool a0_2, .int .u8 x111003_1, .int .u8 x111004_1] 33 (0, 0))) ∧ Aside0 (w'.heap[gb111]? = some (.cells #[.int .u8 0, .bool false, .bool false, .int .u8 0, .int .u8 0] 33 (0, 0))) ∧ Aside0 (Below w.heap.size w w'))
  case atStart => exact ⟨(0), (a0_0), (a0_3), (a0_4), (by first | rfl | (simp; done) | (simp [*]; done)), H', ⟨Nat.le_refl _⟩, ⟨by (with_reducible repeat (first | refine blk_drewN ?_ _ | refine blk_drew ?_ | refine blk_alloc ?_ _)); exact BK110.out⟩, ⟨by (with_reducible repeat (first | refine blk_drewN ?_ _ | refine blk_drew ?_ | refine blk_alloc ?_ _)); exact BK111.out⟩, ⟨by repeat (first | (with_reducible first | exact HB.out | apply below_alloc | apply pw_below_drewN | apply below_drew1 | refine below_set ?_ GE110.out | refine below_set ?_ GE111.out) | exact HB.out)⟩⟩
  case round =>
    clear H'
    try clear c1
    try clear c2
    try clear p2
    obtain ⟨x9_1, x111000_1, x111003_1, x111004_1, rfl, HA, HK1, BK110, BK111, HB⟩ := hrel
    cases gk with
    | zero => exact absurd HA.out (by simp [attr_Dress.l0])
    | succ k1 =>
      have H := HA.out
      clear HA
      simp only [attr_Dress.l0] at H
      by_cases c5 : x9_1 < (l1.length : Int)
      · rw [if_pos c5] at H
        have c5b0 : decide (x9_1 < (l1.length : Int)) = true := decide_eq_true c5
        clear c5
        by_cases c6 : 0 ≤ x9_1
        · rw [if_pos c6] at H
          have c6b0 : decide (0 ≤ x9_1) = true := decide_eq_true c6
          clear c6
          by_cases c7 : x9_1 < (l1.length : Int)
          · rw [if_pos c7] at H
            have c7b0 : decide (x9_1 < (l1.length : Int)) = true := decide_eq_true c7
            clear c7
            by_cases c8 : ((rd_T36 l1 x9_1).f0) = 192
            · rw [if_pos c8] at H
              have c8b0 : (((rd_T36 l1 x9_1).f0) == 192) = true := beq_iff_eq.mpr c8
              have c8b1 : (((rd_T36 l1 x9_1).f0) != 192) = false := bne_eq_false_iff_eq.mpr c8
              clear c8
              have H' := Aside0.mk H
              clear H
              have p112 : 0 ≤ (x9_1 : Int) := of_decide_eq_true (by first | (with_reducible assumption) | assumption)
              have q112 : x9_1 < (l1.length : Int) := of_decide_eq_true (by first | (with_reducible assumption) | assumption)
              obtain ⟨ad112, e112, hx112_0, hx112_1⟩ := at_T36 HR1.out x9_1 p112 q112
              cases e112
              replace hx112_0 := (HB.out.cell (World.block_lt_of_cell? w _ hx112_0)).trans hx112_0
              replace hx112_1 := (HB.out.cell (World.block_lt_of_cell? w _ hx112_1)).trans hx112_1
              replace p112 := eq_true p112
              replace q112 := eq_true q112
              go_wp2_with (first | ((with_reducible refine gate_dst (N := 6) rfl ?_); refine box_event ?hg (N := 6) ?hd (cs := #[.int .u8 0, .int .u8 0]) (t := 36) ?hr ?_; (case hd => rfl); (case hg => rfl); (case hr => first | (go_simp; done) | (go_simp; rfl)); intro gb113 hg w9 hbox hb; have n0_ := Aside0.mk (blk_below (g := gb110) (o := .cells #[.int .u8 x111000_1, .bool a0_1, .bool a0_2, .int .u8 x111003_1, .int .u8 x111004_1] 33 (0, 0)) (by (with_reducible repeat (first | refine blk_drewN ?_ _ | refine blk_drew ?_ | refine blk_alloc ?_ _)); exact BK110.out) hb); have n1_ := Aside0.mk (blk_below (g := gb111) (o := .cells #[.int .u8 0, .bool false, .bool false, .int .u8 0, .int .u8 0] 33 (0, 0)) (by (with_reducible repeat (first | refine blk_drewN ?_ _ | refine blk_drew ?_ | refine blk_alloc ?_ _)); exact BK111.out) hb); have n2_ := Aside0.mk (below_step (by repeat (first | (with_reducible first | exact HB.out | apply below_alloc | apply pw_below_drewN | apply below_drew1 | refine below_set ?_ GE110.out | refine below_set ?_ GE111.out) | exact HB.out)) hb); have n3_ := Aside0.mk (hbox); have n4_ := Aside0.mk ((by rw [hg]; exact (below_size (by repeat (first | (with_reducible first | exact HB.out | apply below_alloc | apply pw_below_drewN | apply below_drew1 | refine below_set ?_ GE110.out | refine below_set ?_ GE111.out) | exact HB.out))) : w.heap.size ≤ gb113)); have n5_ := Aside0.mk ((by rw [hg]; exact (below_size (by repeat (first | (with_reducible first | exact HB.out | apply below_alloc | apply pw_below_drewN | apply below_drew1 | refine below_set ?_ GE110.out | refine below_set ?_ GE111.out) | exact HB.out))) : w.heap.size ≤ gb113)); have n6_ := Aside0.mk ((by rw [hg]; exact Nat.ne_of_lt (blk_lt (g := gb110) (o := .cells #[.int .u8 x111000_1, .bool a0_1, .bool a0_2, .int .u8 x111003_1, .int .u8 x111004_1] 33 (0, 0)) (by (with_reducible repeat (first | refine blk_drewN ?_ _ | refine blk_drew ?_ | refine blk_alloc ?_ _)); exact BK110.out)) : gb110 ≠ gb113)); have n7_ := Aside0.mk ((by rw [hg]; exact Nat.ne_of_gt (blk_lt (g := gb110) (o := .cells #[.int .u8 x111000_1, .bool a0_1, .bool a0_2, .int .u8 x111003_1, .int .u8 x111004_1] 33 (0, 0)) (by (with_reducible repeat (first | refine blk_drewN ?_ _ | refine blk_drew ?_ | refine blk_alloc ?_ _)); exact BK110.out)) : gb113 ≠ gb110)); have n8_ := Aside0.mk ((by rw [hg]; exact Nat.ne_of_lt (blk_lt (g := gb111) (o := .cells #[.int .u8 0, .bool false, .bool false, .int .u8 0, .int .u8 0] 33 (0, 0)) (by (with_reducible repeat (first | refine blk_drewN ?_ _ | refine blk_drew ?_ | refine blk_alloc ?_ _)); exact BK111.out)) : gb111 ≠ gb113)); have n9_ := Aside0.mk ((by rw [hg]; exact Nat.ne_of_gt (blk_lt (g := gb111) (o := .cells #[.int .u8 0, .bool false, .bool false, .int .u8 0, .int .u8 0] 33 (0, 0)) (by (with_reducible repeat (first | refine blk_drewN ?_ _ | refine blk_drew ?_ | refine blk_alloc ?_ _)); exact BK111.out)) : gb113 ≠ gb111)); clear BK110; clear BK111; clear HB; have BK110 := n0_; have BK111 := n1_; have HB := n2_; have BK113 := n3_; have GW113 := n4_; have GE113 := n5_; have NB110_113 := n6_; have NB113_110 := n7_; have NB111_113 := n8_; have NB113_111 := n9_; clear n0_ n1_ n2_ n3_ n4_ n5_ n6_ n7_ n8_ n9_; clear hb hbox hg; have hnb10 := NB113_110.out; have hnc10 := NB110_113.out; have hnb11 := NB113_111.out; have hnc11 := NB111_113.out; have hcz12_0 : w9.cell? ⟨gb113, 0, none⟩ = some (.int .u8 0) := (blk_cell BK113.out 0).trans rfl; have hcz12_1 : w9.cell? ⟨gb113, 1, none⟩ = some (.int .u8 0) := (blk_cell BK113.out 1).trans rfl; have hfz12_0 := blk_frozen BK113.out 0; have hfz12_1 := blk_frozen BK113.out 1; have hnb13 := NB110_111.out; have hnc13 := NB111_110.out; have hcz14_0 : w9.cell? ⟨gb110, 0, none⟩ = some (.int .u8 x111000_1) := (blk_cell BK110.out 0).trans rfl; have hcz14_1 : w9.cell? ⟨gb110, 1, none⟩ = some (.bool a0_1) := (blk_cell BK110.out 1).trans rfl; have hcz14_2 : w9.cell? ⟨gb110, 2, none⟩ = some (.bool a0_2) := (blk_cell BK110.out 2).trans rfl; have hcz14_3 : w9.cell? ⟨gb110, 3, none⟩ = some (.int .u8 x111003_1) := (blk_cell BK110.out 3).trans rfl; have hcz14_4 : w9.cell? ⟨gb110, 4, none⟩ = some (.int .u8 x111004_1) := (blk_cell BK110.out 4).trans rfl; have hfz14_0 := blk_frozen BK110.out 0; have hfz14_1 := blk_frozen BK110.out 1; have hfz14_2 := blk_frozen BK110.out 2; have hfz14_3 := blk_frozen BK110.out 3; have hfz14_4 := blk_frozen BK110.out 4))
              go_roundg k1
              case measure => have := HK1.out; omega
              case rel => exact ⟨(wrap64 (x9_1 + 1)), (Go.bits .and .u8 ((rd_T36 l1 x9_1).f1) 63), (x111003_1), (x111004_1), (by first | rfl | (simp; done) | (simp [*]; done)), H', ⟨by have := HK1.out; omega⟩, ⟨by (with_reducible repeat (first | refine blk_drewN ?_ _ | refine blk_drew ?_ | refine blk_alloc ?_ _)); refine blk_put (cs := #[.int .u8 x111000_1, .bool a0_1, .bool a0_2, .int .u8 x111003_1, .int .u8 x111004_1]) ?_ 0 _ rfl; (with_reducible repeat (first | refine blk_drewN ?_ _ | refine blk_drew ?_ | refine blk_alloc ?_ _)); refine blk_far ?_ NB110_113.out _; (with_reducible repeat (first | refine blk_drewN ?_ _ | refine blk_drew ?_ | refine blk_alloc ?_ _)); refine blk_far ?_ NB110_113.out _; (with_reducible repeat (first | refine blk_drewN ?_ _ | refine blk_drew ?_ | refine blk_alloc ?_ _)); exact BK110.out⟩, ⟨by (with_reducible repeat (first | refine blk_drewN ?_ _ | refine blk_drew ?_ | refine blk_alloc ?_ _)); refine blk_far ?_ NB111_110.out _; (with_reducible repeat (first | refine blk_drewN ?_ _ | refine blk_drew ?_ | refine blk_alloc ?_ _)); refine blk_far ?_ NB111_113.out _; (with_reducible repeat (first | refine blk_drewN ?_ _ | refine blk_drew ?_ | refine blk_alloc ?_ _)); refine blk_far ?_ NB111_113.out _; (with_reducible repeat (first | refine blk_drewN ?_ _ | refine blk_drew ?_ | refine blk_alloc ?_ _)); exact BK111.out⟩, ⟨by repeat (first | (with_reducible first | exact HB.out | apply below_alloc | apply pw_below_drewN | apply below_drew1 | refine below_set ?_ GE110.out | refine below_set ?_ GE111.out | refine below_set ?_ GE113.out) | exact HB.out)⟩⟩
            · rw [if_neg c8] at H
              have c8b0 : (((rd_T36 l1 x9_1).f0) == 192) = false := beq_eq_false_iff_ne.mpr c8
              have c8b1 : (((rd_T36 l1 x9_1).f0) != 192) = true := bne_iff_ne.mpr c8
              by_cases c15 : ((rd_T36 l1 x9_1).f0) = 65
              · rw [if_pos c15] at H
                have c15b0 : (((rd_T36 l1 x9_1).f0) == 65) = true := beq_iff_eq.mpr c15
                have c15b1 : (((rd_T36 l1 x9_1).f0) != 65) = false := bne_eq_false_iff_eq.mpr c15
                clear c15
                have H' := Aside0.mk H
                clear H
                have p112 : 0 ≤ (x9_1 : Int) := of_decide_eq_true (by first | (with_reducible assumption) | assumption)
                have q112 : x9_1 < (l1.length : Int) := of_decide_eq_true (by first | (with_reducible assumption) | assumption)
                obtain ⟨ad112, e112, hx112_0, hx112_1⟩ := at_T36 HR1.out x9_1 p112 q112
                cases e112
                replace hx112_0 := (HB.out.cell (World.block_lt_of_cell? w _ hx112_0)).trans hx112_0
                replace hx112_1 := (HB.out.cell (World.block_lt_of_cell? w _ hx112_1)).trans hx112_1
                replace p112 := eq_true p112
                replace q112 := eq_true q112
                go_wp2_with (first | ((with_reducible refine gate_dst (N := 6) rfl ?_); refine box_event ?hg (N := 6) ?hd (cs := #[.int .u8 0, .int .u8 0]) (t := 36) ?hr ?_; (case hd => rfl); (case hg => rfl); (case hr => first | (go_simp; done) | (go_simp; rfl)); intro gb113 hg w16 hbox hb; have n0_ := Aside0.mk (blk_below (g := gb110) (o := .cells #[.int .u8 x111000_1, .bool a0_1, .bool a0_2, .int .u8 x111003_1, .int .u8 x111004_1] 33 (0, 0)) (by (with_reducible repeat (first | refine blk_drewN ?_ _ | refine blk_drew ?_ | refine blk_alloc ?_ _)); exact BK110.out) hb); have n1_ := Aside0.mk (blk_below (g := gb111) (o := .cells #[.int .u8 0, .bool false, .bool false, .int .u8 0, .int .u8 0] 33 (0, 0)) (by (with_reducible repeat (first | refine blk_drewN ?_ _ | refine blk_drew ?_ | refine blk_alloc ?_ _)); exact BK111.out) hb); have n2_ := Aside0.mk (below_step (by repeat (first | (with_reducible first | exact HB.out | apply below_alloc | apply pw_below_drewN | apply below_drew1 | refine below_set ?_ GE110.out | refine below_set ?_ GE111.out) | exact HB.out)) hb); have n3_ := Aside0.mk (hbox); have n4_ := Aside0.mk ((by rw [hg]; exact (below_size (by repeat (first | (with_reducible first | exact HB.out | apply below_alloc | apply pw_below_drewN | apply below_drew1 | refine below_set ?_ GE110.out | refine below_set ?_ GE111.out) | exact HB.out))) : w.heap.size ≤ gb113)); have n5_ := Aside0.mk ((by rw [hg]; exact (below_size (by repeat (first | (with_reducible first | exact HB.out | apply below_alloc | apply pw_below_drewN | apply below_drew1 | refine below_set ?_ GE110.out | refine below_set ?_ GE111.out) | exact HB.out))) : w.heap.size ≤ gb113)); have n6_ := Aside0.mk ((by rw [hg]; exact Nat.ne_of_lt (blk_lt (g := gb110) (o := .cells #[.int .u8 x111000_1, .bool a0_1, .bool a0_2, .int .u8 x111003_1, .int .u8 x111004_1] 33 (0, 0)) (by (with_reducible repeat (first | refine blk_drewN ?_ _ | refine blk_drew ?_ | refine blk_alloc ?_ _)); exact BK110.out)) : gb110 ≠ gb113)); have n7_ := Aside0.mk ((by rw [hg]; exact Nat.ne_of_gt (blk_lt (g := gb110) (o := .cells #[.int .u8 x111000_1, .bool a0_1, .bool a0_2, .int .u8 x111003_1, .int .u8 x111004_1] 33 (0, 0)) (by (with_reducible repeat (first | refine blk_drewN ?_ _ | refine blk_drew ?_ | refine blk_alloc ?_ _)); exact BK110.out)) : gb113 ≠ gb110)); have n8_ := Aside0.mk ((by rw [hg]; exact Nat.ne_of_lt (blk_lt (g := gb111) (o := .cells #[.int .u8 0, .bool false, .bool false, .int .u8 0, .int .u8 0] 33 (0, 0)) (by (with_reducible repeat (first | refine blk_drewN ?_ _ | refine blk_drew ?_ | refine blk_alloc ?_ _)); exact BK111.out)) : gb111 ≠ gb113)); have n9_ := Aside0.mk ((by rw [hg]; exact Nat.ne_of_gt (blk_lt (g := gb111) (o := .cells #[.int .u8 0, .bool false, .bool false, .int .u8 0, .int .u8 0] 33 (0, 0)) (by (with_reducible repeat (first | refine blk_drewN ?_ _ | refine blk_drew ?_ | refine blk_alloc ?_ _)); exact BK111.out)) : gb113 ≠ gb111)); clear BK110; clear BK111; clear HB; have BK110 := n0_; have BK111 := n1_; have HB := n2_; have BK113 := n3_; have GW113 := n4_; have GE113 := n5_; have NB110_113 := n6_; have NB113_110 := n7_; have NB111_113 := n8_; have NB113_111 := n9_; clear n0_ n1_ n2_ n3_ n4_ n5_ n6_ n7_ n8_ n9_; clear hb hbox hg; have hnb17 := NB113_110.out; have hnc17 := NB110_113.out; have hnb18 := NB113_111.out; have hnc18 := NB111_113.out; have hcz19_0 : w16.cell? ⟨gb113, 0, none⟩ = some (.int .u8 0) := (blk_cell BK113.out 0).trans rfl; have hcz19_1 : w16.cell? ⟨gb113, 1, none⟩ = some (.int .u8 0) := (blk_cell BK113.out 1).trans rfl; have hfz19_0 := blk_frozen BK113.out 0; have hfz19_1 := blk_frozen BK113.out 1; have hnb20 := NB110_111.out; have hnc20 := NB111_110.out; have hcz21_0 : w16.cell? ⟨gb110, 0, none⟩ = some (.int .u8 x111000_1) := (blk_cell BK110.out 0).trans rfl; have hcz21_1 : w16.cell? ⟨gb110, 1, none⟩ = some (.bool a0_1) := (blk_cell BK110.out 1).trans rfl; have hcz21_2 : w16.cell? ⟨gb110, 2, none⟩ = some (.bool a0_2) := (blk_cell BK110.out 2).trans rfl; have hcz21_3 : w16.cell? ⟨gb110, 3, none⟩ = some (.int .u8 x111003_1) := (blk_cell BK110.out 3).trans rfl; have hcz21_4 : w16.cell? ⟨gb110, 4, none⟩ = some (.int .u8 x111004_1) := (blk_cell BK110.out 4).trans rfl; have hfz21_0 := blk_frozen BK110.out 0; have hfz21_1 := blk_frozen BK110.out 1; have hfz21_2 := blk_frozen BK110.out 2; have hfz21_3 := blk_frozen BK110.out 3; have hfz21_4 := blk_frozen BK110.out 4))
                go_roundg k1
                case measure => have := HK1.out; omega
                case rel => exact ⟨(wrap64 (x9_1 + 1)), (x111000_1), ((rd_T36 l1 x9_1).f1), (x111004_1), (by first | rfl | (simp; done) | (simp [*]; done)), H', ⟨by have := HK1.out; omega⟩, ⟨by (with_reducible repeat (first | refine blk_drewN ?_ _ | refine blk_drew ?_ | refine blk_alloc ?_ _)); refine blk_put (cs := #[.int .u8 x111000_1, .bool a0_1, .bool a0_2, .int .u8 x111003_1, .int .u8 x111004_1]) ?_ 3 _ rfl; (with_reducible repeat (first | refine blk_drewN ?_ _ | refine blk_drew ?_ | refine blk_alloc ?_ _)); refine blk_far ?_ NB110_113.out _; (with_reducible repeat (first | refine blk_drewN ?_ _ | refine blk_drew ?_ | refine blk_alloc ?_ _)); refine blk_far ?_ NB110_113.out _; (with_reducible repeat (first | refine blk_drewN ?_ _ | refine blk_drew ?_ | refine blk_alloc ?_ _)); exact BK110.out⟩, ⟨by (with_reducible repeat (first | refine blk_drewN ?_ _ | refine blk_drew ?_ | refine blk_alloc ?_ _)); refine blk_far ?_ NB111_110.out _; (with_reducible repeat (first | refine blk_drewN ?_ _ | refine blk_drew ?_ | refine blk_alloc ?_ _)); refine blk_far ?_ NB111_113.out _; (with_reducible repeat (first | refine blk_drewN ?_ _ | refine blk_drew ?_ | refine blk_alloc ?_ _)); refine blk_far ?_ NB111_113.out _; (with_reducible repeat (first | refine blk_drewN ?_ _ | refine blk_drew ?_ | refine blk_alloc ?_ _)); exact BK111.out⟩, ⟨by repeat (first | (with_reducible first | exact HB.out | apply below_alloc | apply pw_below_drewN | apply below_drew1 | refine below_set ?_ GE110.out | refine below_set ?_ GE111.out | refine below_set ?_ GE113.out) | exact HB.out)⟩⟩
              · rw [if_neg c15] at H
                have c15b0 : (((rd_T36 l1 x9_1).f0) == 65) = false := beq_eq_false_iff_ne.mpr c15
                have c15b1 : (((rd_T36 l1 x9_1).f0) != 65) = true := bne_iff_ne.mpr c15
                by_cases c22 : ((rd_T36 l1 x9_1).f0) = 66
                · rw [if_pos c22] at H
                  have c22b0 : (((rd_T36 l1 x9_1).f0) == 66) = true := beq_iff_eq.mpr c22
                  have c22b1 : (((rd_T36 l1 x9_1).f0) != 66) = false := bne_eq_false_iff_eq.mpr c22
                  clear c22
                  have H' := Aside0.mk H
                  clear H
                  have p112 : 0 ≤ (x9_1 : Int) := of_decide_eq_true (by first | (with_reducible assumption) | assumption)
                  have q112 : x9_1 < (l1.length : Int) := of_decide_eq_true (by first | (with_reducible assumption) | assumption)
                  obtain ⟨ad112, e112, hx112_0, hx112_1⟩ := at_T36 HR1.out x9_1 p112 q112
                  cases e112
                  replace hx112_0 := (HB.out.cell (World.block_lt_of_cell? w _ hx112_0)).trans hx112_0
                  replace hx112_1 := (HB.out.cell (World.block_lt_of_cell? w _ hx112_1)).trans hx112_1
                  replace p112 := eq_true p112
                  replace q112 := eq_true q112
                  go_wp2_with (first | ((with_reducible refine gate_dst (N := 6) rfl ?_); refine box_event ?hg (N := 6) ?hd (cs := #[.int .u8 0, .int .u8 0]) (t := 36) ?hr ?_; (case hd => rfl); (case hg => rfl); (case hr => first | (go_simp; done) | (go_simp; rfl)); intro gb113 hg w23 hbox hb; have n0_ := Aside0.mk (blk_below (g := gb110) (o := .cells #[.int .u8 x111000_1, .bool a0_1, .bool a0_2, .int .u8 x111003_1, .int .u8 x111004_1] 33 (0, 0)) (by (with_reducible repeat (first | refine blk_drewN ?_ _ | refine blk_drew ?_ | refine blk_alloc ?_ _)); exact BK110.out) hb); have n1_ := Aside0.mk (blk_below (g := gb111) (o := .cells #[.int .u8 0, .bool false, .bool false, .int .u8 0, .int .u8 0] 33 (0, 0)) (by (with_reducible repeat (first | refine blk_drewN ?_ _ | refine blk_drew ?_ | refine blk_alloc ?_ _)); exact BK111.out) hb); have n2_ := Aside0.mk (below_step (by repeat (first | (with_reducible first | exact HB.out | apply below_alloc | apply pw_below_drewN | apply below_drew1 | refine below_set ?_ GE110.out | refine below_set ?_ GE111.out) | exact HB.out)) hb); have n3_ := Aside0.mk (hbox); have n4_ := Aside0.mk ((by rw [hg]; exact (below_size (by repeat (first | (with_reducible first | exact HB.out | apply below_alloc | apply pw_below_drewN | apply below_drew1 | refine below_set ?_ GE110.out | refine below_set ?_ GE111.out) | exact HB.out))) : w.heap.size ≤ gb113)); have n5_ := Aside0.mk ((by rw [hg]; exact (below_size (by repeat (first | (with_reducible first | exact HB.out | apply below_alloc | apply pw_below_drewN | apply below_drew1 | refine below_set ?_ GE110.out | refine below_set ?_ GE111.out) | exact HB.out))) : w.heap.size ≤ gb113)); have n6_ := Aside0.mk ((by rw [hg]; exact Nat.ne_of_lt (blk_lt (g := gb110) (o := .cells #[.int .u8 x111000_1, .bool a0_1, .bool a0_2, .int .u8 x111003_1, .int .u8 x111004_1] 33 (0, 0)) (by (with_reducible repeat (first | refine blk_drewN ?_ _ | refine blk_drew ?_ | refine blk_alloc ?_ _)); exact BK110.out)) : gb110 ≠ gb113)); have n7_ := Aside0.mk ((by rw [hg]; exact Nat.ne_of_gt (blk_lt (g := gb110) (o := .cells #[.int .u8 x111000_1, .bool a0_1, .bool a0_2, .int .u8 x111003_1, .int .u8 x111004_1] 33 (0, 0)) (by (with_reducible repeat (first | refine blk_drewN ?_ _ | refine blk_drew ?_ | refine blk_alloc ?_ _)); exact BK110.out)) : gb113 ≠ gb110)); have n8_ := Aside0.mk ((by rw [hg]; exact Nat.ne_of_lt (blk_lt (g := gb111) (o := .cells #[.int .u8 0, .bool false, .bool false, .int .u8 0, .int .u8 0] 33 (0, 0)) (by (with_reducible repeat (first | refine blk_drewN ?_ _ | refine blk_drew ?_ | refine blk_alloc ?_ _)); exact BK111.out)) : gb111 ≠ gb113)); have n9_ := Aside0.mk ((by rw [hg]; exact Nat.ne_of_gt (blk_lt (g := gb111) (o := .cells #[.int .u8 0, .bool false, .bool false, .int .u8 0, .int .u8 0] 33 (0, 0)) (by (with_reducible repeat (first | refine blk_drewN ?_ _ | refine blk_drew ?_ | refine blk_alloc ?_ _)); exact BK111.out)) : gb113 ≠ gb111)); clear BK110; clear BK111; clear HB; have BK110 := n0_; have BK111 := n1_; have HB := n2_; have BK113 := n3_; have GW113 := n4_; have GE113 := n5_; have NB110_113 := n6_; have NB113_110 := n7_; have NB111_113 := n8_; have NB113_111 := n9_; clear n0_ n1_ n2_ n3_ n4_ n5_ n6_ n7_ n8_ n9_; clear hb hbox hg; have hnb24 := NB113_110.out; have hnc24 := NB110_113.out; have hnb25 := NB113_111.out; have hnc25 := NB111_113.out; have hcz26_0 : w23.cell? ⟨gb113, 0, none⟩ = some (.int .u8 0) := (blk_cell BK113.out 0).trans rfl; have hcz26_1 : w23.cell? ⟨gb113, 1, none⟩ = some (.int .u8 0) := (blk_cell BK113.out 1).trans rfl; have hfz26_0 := blk_frozen BK113.out 0; have hfz26_1 := blk_frozen BK113.out 1; have hnb27 := NB110_111.out; have hnc27 := NB111_110.out; have hcz28_0 : w23.cell? ⟨gb110, 0, none⟩ = some (.int .u8 x111000_1) := (blk_cell BK110.out 0).trans rfl; have hcz28_1 : w23.cell? ⟨gb110, 1, none⟩ = some (.bool a0_1) := (blk_cell BK110.out 1).trans rfl; have hcz28_2 : w23.cell? ⟨gb110, 2, none⟩ = some (.bool a0_2) := (blk_cell BK110.out 2).trans rfl; have hcz28_3 : w23.cell? ⟨gb110, 3, none⟩ = some (.int .u8 x111003_1) := (blk_cell BK110.out 3).trans rfl; have hcz28_4 : w23.cell? ⟨gb110, 4, none⟩ = some (.int .u8 x111004_1) := (blk_cell BK110.out 4).trans rfl; have hfz28_0 := blk_frozen BK110.out 0; have hfz28_1 := blk_frozen BK110.out 1; have hfz28_2 := blk_frozen BK110.out 2; have hfz28_3 := blk_frozen BK110.out 3; have hfz28_4 := blk_frozen BK110.out 4))
                  go_roundg k1
                  case measure => have := HK1.out; omega
                  case rel => exact ⟨(wrap64 (x9_1 + 1)), (x111000_1), (x111003_1), ((rd_T36 l1 x9_1).f1), (by first | rfl | (simp; done) | (simp [*]; done)), H', ⟨by have := HK1.out; omega⟩, ⟨by (with_reducible repeat (first | refine blk_drewN ?_ _ | refine blk_drew ?_ | refine blk_alloc ?_ _)); refine blk_put (cs := #[.int .u8 x111000_1, .bool a0_1, .bool a0_2, .int .u8 x111003_1, .int .u8 x111004_1]) ?_ 4 _ rfl; (with_reducible repeat (first | refine blk_drewN ?_ _ | refine blk_drew ?_ | refine blk_alloc ?_ _)); refine blk_far ?_ NB110_113.out _; (with_reducible repeat (first | refine blk_drewN ?_ _ | refine blk_drew ?_ | refine blk_alloc ?_ _)); refine blk_far ?_ NB110_113.out _; (with_reducible repeat (first | refine blk_drewN ?_ _ | refine blk_drew ?_ | refine blk_alloc ?_ _)); exact BK110.out⟩, ⟨by (with_reducible repeat (first | refine blk_drewN ?_ _ | refine blk_drew ?_ | refine blk_alloc ?_ _)); refine blk_far ?_ NB111_110.out _; (with_reducible repeat (first | refine blk_drewN ?_ _ | refine blk_drew ?_ | refine blk_alloc ?_ _)); refine blk_far ?_ NB111_113.out _; (with_reducible repeat (first | refine blk_drewN ?_ _ | refine blk_drew ?_ | refine blk_alloc ?_ _)); refine blk_far ?_ NB111_113.out _; (with_reducible repeat (first | refine blk_drewN ?_ _ | refine blk_drew ?_ | refine blk_alloc ?_ _)); exact BK111.out⟩, ⟨by repeat (first | (with_reducible first | exact HB.out | apply below_alloc | apply pw_below_drewN | apply below_drew1 | refine below_set ?_ GE110.out | refine below_set ?_ GE111.out | refine below_set ?_ GE113.out) | exact HB.out)⟩⟩
                · rw [if_neg c22] at H
                  have c22b0 : (((rd_T36 l1 x9_1).f0) == 66) = false := beq_eq_false_iff_ne.mpr c22
                  have c22b1 : (((rd_T36 l1 x9_1).f0) != 66) = true := bne_iff_ne.mpr c22
                  by_cases c29 : ((rd_T36 l1 x9_1).f0) = 0
                  · rw [if_pos c29] at H
                    have c29b0 : (((rd_T36 l1 x9_1).f0) == 0) = true := beq_iff_eq.mpr c29
                    have c29b1 : (((rd_T36 l1 x9_1).f0) != 0) = false := bne_eq_false_iff_eq.mpr c29
                    clear c29
                    have H' := Aside0.mk H
                    clear H
                    have p112 : 0 ≤ (x9_1 : Int) := of_decide_eq_true (by first | (with_reducible assumption) | assumption)
                    have q112 : x9_1 < (l1.length : Int) := of_decide_eq_true (by first | (with_reducible assumption) | assumption)
                    obtain ⟨ad112, e112, hx112_0, hx112_1⟩ := at_T36 HR1.out x9_1 p112 q112
                    cases e112
                    replace hx112_0 := (HB.out.cell (World.block_lt_of_cell? w _ hx112_0)).trans hx112_0
                    replace hx112_1 := (HB.out.cell (World.block_lt_of_cell? w _ hx112_1)).trans hx112_1
                    replace p112 := eq_true p112
                    replace q112 := eq_true q112
                    go_wp2_with (first | ((with_reducible refine gate_dst (N := 6) rfl ?_); refine box_event ?hg (N := 6) ?hd (cs := #[.int .u8 0, .int .u8 0]) (t := 36) ?hr ?_; (case hd => rfl); (case hg => rfl); (case hr => first | (go_simp; done) | (go_simp; rfl)); intro gb113 hg w30 hbox hb; have n0_ := Aside0.mk (blk_below (g := gb110) (o := .cells #[.int .u8 x111000_1, .bool a0_1, .bool a0_2, .int .u8 x111003_1, .int .u8 x111004_1] 33 (0, 0)) (by (with_reducible repeat (first | refine blk_drewN ?_ _ | refine blk_drew ?_ | refine blk_alloc ?_ _)); exact BK110.out) hb); have n1_ := Aside0.mk (blk_below (g := gb111) (o := .cells #[.int .u8 0, .bool false, .bool false, .int .u8 0, .int .u8 0] 33 (0, 0)) (by (with_reducible repeat (first | refine blk_drewN ?_ _ | refine blk_drew ?_ | refine blk_alloc ?_ _)); exact BK111.out) hb); have n2_ := Aside0.mk (below_step (by repeat (first | (with_reducible first | exact HB.out | apply below_alloc | apply pw_below_drewN | apply below_drew1 | refine below_set ?_ GE110.out | refine below_set ?_ GE111.out) | exact HB.out)) hb); have n3_ := Aside0.mk (hbox); have n4_ := Aside0.mk ((by rw [hg]; exact (below_size (by repeat (first | (with_reducible first | exact HB.out | apply below_alloc | apply pw_below_drewN | apply below_drew1 | refine below_set ?_ GE110.out | refine below_set ?_ GE111.out) | exact HB.out))) : w.heap.size ≤ gb113)); have n5_ := Aside0.mk ((by rw [hg]; exact (below_size (by repeat (first | (with_reducible first | exact HB.out | apply below_alloc | apply pw_below_drewN | apply below_drew1 | refine below_set ?_ GE110.out | refine below_set ?_ GE111.out) | exact HB.out))) : w.heap.size ≤ gb113)); have n6_ := Aside0.mk ((by rw [hg]; exact Nat.ne_of_lt (blk_lt (g := gb110) (o := .cells #[.int .u8 x111000_1, .bool a0_1, .bool a0_2, .int .u8 x111003_1, .int .u8 x111004_1] 33 (0, 0)) (by (with_reducible repeat (first | refine blk_drewN ?_ _ | refine blk_drew ?_ | refine blk_alloc ?_ _)); exact BK110.out)) : gb110 ≠ gb113)); have n7_ := Aside0.mk ((by rw [hg]; exact Nat.ne_of_gt (blk_lt (g := gb110) (o := .cells #[.int .u8 x111000_1, .bool a0_1, .bool a0_2, .int .u8 x111003_1, .int .u8 x111004_1] 33 (0, 0)) (by (with_reducible repeat (first | refine blk_drewN ?_ _ | refine blk_drew ?_ | refine blk_alloc ?_ _)); exact BK110.out)) : gb113 ≠ gb110)); have n8_ := Aside0.mk ((by rw [hg]; exact Nat.ne_of_lt (blk_lt (g := gb111) (o := .cells #[.int .u8 0, .bool false, .bool false, .int .u8 0, .int .u8 0] 33 (0, 0)) (by (with_reducible repeat (first | refine blk_drewN ?_ _ | refine blk_drew ?_ | refine blk_alloc ?_ _)); exact BK111.out)) : gb111 ≠ gb113)); have n9_ := Aside0.mk ((by rw [hg]; exact Nat.ne_of_gt (blk_lt (g := gb111) (o := .cells #[.int .u8 0, .bool false, .bool false, .int .u8 0, .int .u8 0] 33 (0, 0)) (by (with_reducible repeat (first | refine blk_drewN ?_ _ | refine blk_drew ?_ | refine blk_alloc ?_ _)); exact BK111.out)) : gb113 ≠ gb111)); clear BK110; clear BK111; clear HB; have BK110 := n0_; have BK111 := n1_; have HB := n2_; have BK113 := n3_; have GW113 := n4_; have GE113 := n5_; have NB110_113 := n6_; have NB113_110 := n7_; have NB111_113 := n8_; have NB113_111 := n9_; clear n0_ n1_ n2_ n3_ n4_ n5_ n6_ n7_ n8_ n9_; clear hb hbox hg; have hnb31 := NB113_110.out; have hnc31 := NB110_113.out; have hnb32 := NB113_111.out; have hnc32 := NB111_113.out; have hcz33_0 : w30.cell? ⟨gb113, 0, none⟩ = some (.int .u8 0) := (blk_cell BK113.out 0).trans rfl; have hcz33_1 : w30.cell? ⟨gb113, 1, none⟩ = some (.int .u8 0) := (blk_cell BK113.out 1).trans rfl; have hfz33_0 := blk_frozen BK113.out 0; have hfz33_1 := blk_frozen BK113.out 1; have hnb34 := NB110_111.out; have hnc34 := NB111_110.out; have hcz35_0 : w30.cell? ⟨gb110, 0, none⟩ = some (.int .u8 x111000_1) := (blk_cell BK110.out 0).trans rfl; have hcz35_1 : w30.cell? ⟨gb110, 1, none⟩ = some (.bool a0_1) := (blk_cell BK110.out 1).trans rfl; have hcz35_2 : w30.cell? ⟨gb110, 2, none⟩ = some (.bool a0_2) := (blk_cell BK110.out 2).trans rfl; have hcz35_3 : w30.cell? ⟨gb110, 3, none⟩ = some (.int .u8 x111003_1) := (blk_cell BK110.out 3).trans rfl; have hcz35_4 : w30.cell? ⟨gb110, 4, none⟩ = some (.int .u8 x111004_1) := (blk_cell BK110.out 4).trans rfl; have hfz35_0 := blk_frozen BK110.out 0; have hfz35_1 := blk_frozen BK110.out 1; have hfz35_2 := blk_frozen BK110.out 2; have hfz35_3 := blk_frozen BK110.out 3; have hfz35_4 := blk_frozen BK110.out 4))
                    go_roundg k1
                    case measure => have := HK1.out; omega
                    case rel => exact ⟨(wrap64 (x9_1 + 1)), (x111000_1), (0), (0), (by first | rfl | (simp; done) | (simp [*]; done)), H', ⟨by have := HK1.out; omega⟩, ⟨by (with_reducible repeat (first | refine blk_drewN ?_ _ | refine blk_drew ?_ | refine blk_alloc ?_ _)); refine blk_put (cs := #[.int .u8 x111000_1, .bool a0_1, .bool a0_2, .int .u8 0, .int .u8 x111004_1]) ?_ 4 _ rfl; (with_reducible repeat (first | refine blk_drewN ?_ _ | refine blk_drew ?_ | refine blk_alloc ?_ _)); refine blk_put (cs := #[.int .u8 x111000_1, .bool a0_1, .bool a0_2, .int .u8 x111003_1, .int .u8 x111004_1]) ?_ 3 _ rfl; (with_reducible repeat (first | refine blk_drewN ?_ _ | refine blk_drew ?_ | refine blk_alloc ?_ _)); refine blk_far ?_ NB110_113.out _; (with_reducible repeat (first | refine blk_drewN ?_ _ | refine blk_drew ?_ | refine blk_alloc ?_ _)); refine blk_far ?_ NB110_113.out _; (with_reducible repeat (first | refine blk_drewN ?_ _ | refine blk_drew ?_ | refine blk_alloc ?_ _)); exact BK110.out⟩, ⟨by (with_reducible repeat (first | refine blk_drewN ?_ _ | refine blk_drew ?_ | refine blk_alloc ?_ _)); refine blk_far ?_ NB111_110.out _; (with_reducible repeat (first | refine blk_drewN ?_ _ | refine blk_drew ?_ | refine blk_alloc ?_ _)); refine blk_far ?_ NB111_110.out _; (with_reducible repeat (first | refine blk_drewN ?_ _ | refine blk_drew ?_ | refine blk_alloc ?_ _)); refine blk_far ?_ NB111_113.out _; (with_reducible repeat (first | refine blk_drewN ?_ _ | refine blk_drew ?_ | refine blk_alloc ?_ _)); refine blk_far ?_ NB111_113.out _; (with_reducible repeat (first | refine blk_drewN ?_ _ | refine blk_drew ?_ | refine blk_alloc ?_ _)); exact BK111.out⟩, ⟨by repeat (first | (with_reducible first | exact HB.out | apply below_alloc | apply pw_below_drewN | apply below_drew1 | refine below_set ?_ GE110.out | refine below_set ?_ GE111.out | refine below_set ?_ GE113.out) | exact HB.out)⟩⟩
                  · rw [if_neg c29] at H
                    have c29b0 : (((rd_T36 l1 x9_1).f0) == 0) = false := beq_eq_false_iff_ne.mpr c29
                    have c29b1 : (((rd_T36 l1 x9_1).f0) != 0) = true := bne_iff_ne.mpr c29
                    have H' := Aside0.mk H
                    clear H
                    have p112 : 0 ≤ (x9_1 : Int) := of_decide_eq_true (by first | (with_reducible assumption) | assumption)
                    have q112 : x9_1 < (l1.length : Int) := of_decide_eq_true (by first | (with_reducible assumption) | assumption)
                    obtain ⟨ad112, e112, hx112_0, hx112_1⟩ := at_T36 HR1.out x9_1 p112 q112
                    cases e112
                    replace hx112_0 := (HB.out.cell (World.block_lt_of_cell? w _ hx112_0)).trans hx112_0
                    replace hx112_1 := (HB.out.cell (World.block_lt_of_cell? w _ hx112_1)).trans hx112_1
                    replace p112 := eq_true p112
                    replace q112 := eq_true q112
                    go_wp2_with (first | ((with_reducible refine gate_dst (N := 6) rfl ?_); refine box_event ?hg (N := 6) ?hd (cs := #[.int .u8 0, .int .u8 0]) (t := 36) ?hr ?_; (case hd => rfl); (case hg => rfl); (case hr => first | (go_simp; done) | (go_simp; rfl)); intro gb113 hg w36 hbox hb; have n0_ := Aside0.mk (blk_below (g := gb110) (o := .cells #[.int .u8 x111000_1, .bool a0_1, .bool a0_2, .int .u8 x111003_1, .int .u8 x111004_1] 33 (0, 0)) (by (with_reducible repeat (first | refine blk_drewN ?_ _ | refine blk_drew ?_ | refine blk_alloc ?_ _)); exact BK110.out) hb); have n1_ := Aside0.mk (blk_below (g := gb111) (o := .cells #[.int .u8 0, .bool false, .bool false, .int .u8 0, .int .u8 0] 33 (0, 0)) (by (with_reducible repeat (first | refine blk_drewN ?_ _ | refine blk_drew ?_ | refine blk_alloc ?_ _)); exact BK111.out) hb); have n2_ := Aside0.mk (below_step (by repeat (first | (with_reducible first | exact HB.out | apply below_alloc | apply pw_below_drewN | apply below_drew1 | refine below_set ?_ GE110.out | refine below_set ?_ GE111.out) | exact HB.out)) hb); have n3_ := Aside0.mk (hbox); have n4_ := Aside0.mk ((by rw [hg]; exact (below_size (by repeat (first | (with_reducible first | exact HB.out | apply below_alloc | apply pw_below_drewN | apply below_drew1 | refine below_set ?_ GE110.out | refine below_set ?_ GE111.out) | exact HB.out))) : w.heap.size ≤ gb113)); have n5_ := Aside0.mk ((by rw [hg]; exact (below_size (by repeat (first | (with_reducible first | exact HB.out | apply below_alloc | apply pw_below_drewN | apply below_drew1 | refine below_set ?_ GE110.out | refine below_set ?_ GE111.out) | exact HB.out))) : w.heap.size ≤ gb113)); have n6_ := Aside0.mk ((by rw [hg]; exact Nat.ne_of_lt (blk_lt (g := gb110) (o := .cells #[.int .u8 x111000_1, .bool a0_1, .bool a0_2, .int .u8 x111003_1, .int .u8 x111004_1] 33 (0, 0)) (by (with_reducible repeat (first | refine blk_drewN ?_ _ | refine blk_drew ?_ | refine blk_alloc ?_ _)); exact BK110.out)) : gb110 ≠ gb113)); have n7_ := Aside0.mk ((by rw [hg]; exact Nat.ne_of_gt (blk_lt (g := gb110) (o := .cells #[.int .u8 x111000_1, .bool a0_1, .bool a0_2, .int .u8 x111003_1, .int .u8 x111004_1] 33 (0, 0)) (by (with_reducible repeat (first | refine blk_drewN ?_ _ | refine blk_drew ?_ | refine blk_alloc ?_ _)); exact BK110.out)) : gb113 ≠ gb110)); have n8_ := Aside0.mk ((by rw [hg]; exact Nat.ne_of_lt (blk_lt (g := gb111) (o := .cells #[.int .u8 0, .bool false, .bool false, .int .u8 0, .int .u8 0] 33 (0, 0)) (by (with_reducible repeat (first | refine blk_drewN ?_ _ | refine blk_drew ?_ | refine blk_alloc ?_ _)); exact BK111.out)) : gb111 ≠ gb113)); have n9_ := Aside0.mk ((by rw [hg]; exact Nat.ne_of_gt (blk_lt (g := gb111) (o := .cells #[.int .u8 0, .bool false, .bool false, .int .u8 0, .int .u8 0] 33 (0, 0)) (by (with_reducible repeat (first | refine blk_drewN ?_ _ | refine blk_drew ?_ | refine blk_alloc ?_ _)); exact BK111.out)) : gb113 ≠ gb111)); clear BK110; clear BK111; clear HB; have BK110 := n0_; have BK111 := n1_; have HB := n2_; have BK113 := n3_; have GW113 := n4_; have GE113 := n5_; have NB110_113 := n6_; have NB113_110 := n7_; have NB111_113 := n8_; have NB113_111 := n9_; clear n0_ n1_ n2_ n3_ n4_ n5_ n6_ n7_ n8_ n9_; clear hb hbox hg; have hnb37 := NB113_110.out; have hnc37 := NB110_113.out; have hnb38 := NB113_111.out; have hnc38 := NB111_113.out; have hcz39_0 : w36.cell? ⟨gb113, 0, none⟩ = some (.int .u8 0) := (blk_cell BK113.out 0).trans rfl; have hcz39_1 : w36.cell? ⟨gb113, 1, none⟩ = some (.int .u8 0) := (blk_cell BK113.out 1).trans rfl; have hfz39_0 := blk_frozen BK113.out 0; have hfz39_1 := blk_frozen BK113.out 1))
                    go_roundg k1
                    case measure => have := HK1.out; omega
                    case rel => exact ⟨(wrap64 (x9_1 + 1)), (x111000_1), (x111003_1), (x111004_1), (by first | rfl | (simp; done) | (simp [*]; done)), H', ⟨by have := HK1.out; omega⟩, ⟨by (with_reducible repeat (first | refine blk_drewN ?_ _ | refine blk_drew ?_ | refine blk_alloc ?_ _)); refine blk_far ?_ NB110_113.out _; (with_reducible repeat (first | refine blk_drewN ?_ _ | refine blk_drew ?_ | refine blk_alloc ?_ _)); refine blk_far ?_ NB110_113.out _; (with_reducible repeat (first | refine blk_drewN ?_ _ | refine blk_drew ?_ | refine blk_alloc ?_ _)); exact BK110.out⟩, ⟨by (with_reducible repeat (first | refine blk_drewN ?_ _ | refine blk_drew ?_ | refine blk_alloc ?_ _)); refine blk_far ?_ NB111_113.out _; (with_reducible repeat (first | refine blk_drewN ?_ _ | refine blk_drew ?_ | refine blk_alloc ?_ _)); refine blk_far ?_ NB111_113.out _; (with_reducible repeat (first | refine blk_drewN ?_ _ | refine blk_drew ?_ | refine blk_alloc ?_ _)); exact BK111.out⟩, ⟨by repeat (first | (with_reducible first | exact HB.out | apply below_alloc | apply pw_below_drewN | apply below_drew1 | refine below_set ?_ GE110.out | refine below_set ?_ GE111.out | refine below_set ?_ GE113.out) | exact HB.out)⟩⟩
          · rw [if_neg c7] at H
            exact absurd H (by simp)
        · rw [if_neg c6] at H
          exact absurd H (by simp)
      · rw [if_neg c5] at H
        have c5b0 : decide (x9_1 < (l1.length : Int)) = false := decide_eq_false c5
        clear c5
        simp only [Option.some.injEq, Prod.mk.injEq] at H
        obtain ⟨rfl, rfl, rfl, rfl, rfl⟩ := H
        have hnb40 := NB110_111.out
        have hnc40 := NB111_110.out
        have hcz41_0 : wr.cell? ⟨gb110, 0, none⟩ = some (.int .u8 x111000_1) := (blk_cell BK110.out 0).trans rfl
        have hcz41_1 : wr.cell? ⟨gb110, 1, none⟩ = some (.bool a0_1) := (blk_cell BK110.out 1).trans rfl
        have hcz41_2 : wr.cell? ⟨gb110, 2, none⟩ = some (.bool a0_2) := (blk_cell BK110.out 2).trans rfl
        have hcz41_3 : wr.cell? ⟨gb110, 3, none⟩ = some (.int .u8 x111003_1) := (blk_cell BK110.out 3).trans rfl
        have hcz41_4 : wr.cell? ⟨gb110, 4, none⟩ = some (.int .u8 x111004_1) := (blk_cell BK110.out 4).trans rfl
        have hfz41_0 := blk_frozen BK110.out 0
        have hfz41_1 := blk_frozen BK110.out 1
        have hfz41_2 := blk_frozen BK110.out 2
        have hfz41_3 := blk_frozen BK110.out 3
        have hfz41_4 := blk_frozen BK110.out 4
        have hcz42_0 : wr.cell? ⟨gb111, 0, none⟩ = some (.int .u8 0) := (blk_cell BK111.out 0).trans rfl
        have hcz42_1 : wr.cell? ⟨gb111, 1, none⟩ = some (.bool false) := (blk_cell BK111.out 1).trans rfl
        have hcz42_2 : wr.cell? ⟨gb111, 2, none⟩ = some (.bool false) := (blk_cell BK111.out 2).trans rfl
        have hcz42_3 : wr.cell? ⟨gb111, 3, none⟩ = some (.int .u8 0) := (blk_cell BK111.out 3).trans rfl
        have hcz42_4 : wr.cell? ⟨gb111, 4, none⟩ = some (.int .u8 0) := (blk_cell BK111.out 4).trans rfl
        have hfz42_0 := blk_frozen BK111.out 0
        have hfz42_1 := blk_frozen BK111.out 1
        have hfz42_2 := blk_frozen BK111.out 2
        have hfz42_3 := blk_frozen BK111.out 3
        have hfz42_4 := blk_frozen BK111.out 4
        go_wp2
        refine bodyPost_ret (results_cell_row rfl _ _ gb111 33 #[.int .u8 x111000_1, .bool a0_1, .bool a0_2, .int .u8 x111003_1, .int .u8 x111004_1] (0, 0) _ rfl (by (with_reducible repeat (first | refine blk_drewN ?_ _ | refine blk_drew ?_ | refine blk_alloc ?_ _)); refine blk_put (cs := #[.int .u8 x111000_1, .bool a0_1, .bool a0_2, .int .u8 x111003_1, .int .u8 0]) ?_ 4 _ rfl; (with_reducible repeat (first | refine blk_drewN ?_ _ | refine blk_drew ?_ | refine blk_alloc ?_ _)); refine blk_put (cs := #[.int .u8 x111000_1, .bool a0_1, .bool a0_2, .int .u8 0, .int .u8 0]) ?_ 3 _ rfl; (with_reducible repeat (first | refine blk_drewN ?_ _ | refine blk_drew ?_ | refine blk_alloc ?_ _)); refine blk_put (cs := #[.int .u8 x111000_1, .bool a0_1, .bool false, .int .u8 0, .int .u8 0]) ?_ 2 _ rfl; (with_reducible repeat (first | refine blk_drewN ?_ _ | refine blk_drew ?_ | refine blk_alloc ?_ _)); refine blk_put (cs := #[.int .u8 x111000_1, .bool false, .bool false, .int .u8 0, .int .u8 0]) ?_ 1 _ rfl; (with_reducible repeat (first | refine blk_drewN ?_ _ | refine blk_drew ?_ | refine blk_alloc ?_ _)); refine blk_put (cs := #[.int .u8 0, .bool false, .bool false, .int .u8 0, .int .u8 0]) ?_ 0 _ rfl; (with_reducible repeat (first | refine blk_drewN ?_ _ | refine blk_drew ?_ | refine blk_alloc ?_ _)); exact BK111.out) Try.underlying33 rfl (by kernel_rfl)) rfl ?_
        exact ⟨by first | rfl | (simp [errW_none, errW_some] <;> rfl) | (simp [*, errW_none, errW_some] <;> rfl), by repeat (first | (with_reducible first | exact HB.out | apply below_alloc | apply pw_below_drewN | apply below_drew1 | refine below_set ?_ GE110.out | refine below_set ?_ GE111.out) | exact HB.out)⟩

/-! ### greenscreenlaw11_alive: function 7 -/
def greenscreenlaw11_alive.f (k : Nat)  : Option (Bool) := (attr_Dress.f k 1 false true 0 0 (([(⟨192, 240⟩ : S36), (⟨65, 242⟩ : S36), (⟨66, 241⟩ : S36), (⟨66, 244⟩ : S36)] : List (S36)))).bind fun bt117 => ((attr_Text.f k 240).bind fun t123 => (if t123.toList = ([80, 78, 45] : List UInt8) then ((attr_Protected.f 32).bind fun t124 => (if t124 = true then ((attr_Protected.f 16).bind fun t125 => (if t125 = true then (some false) else ((attr_Numeric.f 16).bind fun t126 => (if t126 = true then ((attr_Skip.f 48).bind fun t127 => (if t127 = true then ((attr_Skip.f 32).bind fun t128 => (if t128 = true then (some false) else ((attr_Shown.f 12).bind fun t129 => (if t129 = 3 then ((attr_Modified.f 1).bind fun t130 => (if t130 = true then ((attr_Modify.f 32 true).bind fun t131 => (if t131 = 33 then ((attr_Byte.f 0).bind fun t132 => (if t132 = 64 then ((attr_Same.f 64 0).bind fun t133 => (if t133 = true then ((attr_Check.f k 41 192 0).bind fun t134 => (if t134 = 0 then ((attr_Check.f k 40 192 0).bind fun t135 => (if t135 = 33 then (some (bt117.1 == 48 && (!bt117.2.1 && (bt117.2.2.1 && (bt117.2.2.2.1 == 242 && (bt117.2.2.2.2 == 244)))))) else (some false))) else (some false))) else (some false))) else (some false))) else (some false))) else (some false))) else (some false))))) else (some false))) else (some false))))) else (some false))) else (some false)))
theorem greenscreenlaw11_alive.mono : ∀ k, LeO (greenscreenlaw11_alive.f k ) (greenscreenlaw11_alive.f (k + 1) ) := by
  intro  k
  unfold greenscreenlaw11_alive.f
  repeat' first
      | (with_reducible exact attr_Check.mono _ _ _ _)
      | (with_reducible exact attr_Dress.mono _ _ _ _ _ _ _)
      | (with_reducible exact attr_Text.mono _ _)
      | (with_reducible exact LeO.refl _)
      | (with_reducible exact LeO.none _)
      | (with_reducible refine LeO.ite ?_ ?_)
      | (with_reducible refine LeO.bind ?_ (fun _ => ?_))
      | exact attr_Check.mono _ _ _ _
      | exact attr_Dress.mono _ _ _ _ _ _ _
      | exact attr_Text.mono _ _
      | exact LeO.none _
      | refine LeO.ite ?_ ?_
      | refine LeO.bind ?_ (fun _ => ?_)
set_option maxHeartbeats 8000000 in
set_option maxRecDepth 100000 in
theorem greenscreenlaw11_alive.calls (k : Nat)  (r : Bool) (hr_ : r = true) (w : World) (h : greenscreenlaw11_alive.f k  = some r) :
    Calls Try.prog 7 #[] w fun e w' => e = .returned (.bool r) ∧ Below w.heap.size w w' := by
  have hu33 := Try.underlying33
  have hu36 := Try.underlying36
  have HB := Aside0.mk (Below.refl w.heap.size w)
  have H : ((attr_Dress.f k 1 false true 0 0 (([(⟨192, 240⟩ : S36), (⟨65, 242⟩ : S36), (⟨66, 241⟩ : S36), (⟨66, 244⟩ : S36)] : List (S36)))).bind fun bt117 => ((attr_Text.f k 240).bind fun t123 => (if t123.toList = ([80, 78, 45] : List UInt8) then ((attr_Protected.f 32).bind fun t124 => (if t124 = true then ((attr_Protected.f 16).bind fun t125 => (if t125 = true then (some false) else ((attr_Numeric.f 16).bind fun t126 => (if t126 = true then ((attr_Skip.f 48).bind fun t127 => (if t127 = true then ((attr_Skip.f 32).bind fun t128 => (if t128 = true then (some false) else ((attr_Shown.f 12).bind fun t129 => (if t129 = 3 then ((attr_Modified.f 1).bind fun t130 => (if t130 = true then ((attr_Modify.f 32 true).bind fun t131 => (if t131 = 33 then ((attr_Byte.f 0).bind fun t132 => (if t132 = 64 then ((attr_Same.f 64 0).bind fun t133 => (if t133 = true then ((attr_Check.f k 41 192 0).bind fun t134 => (if t134 = 0 then ((attr_Check.f k 40 192 0).bind fun t135 => (if t135 = 33 then (some (bt117.1 == 48 && (!bt117.2.1 && (bt117.2.2.1 && (bt117.2.2.2.1 == 242 && (bt117.2.2.2.2 == 244)))))) else (some false))) else (some false))) else (some false))) else (some false))) else (some false))) else (some false))) else (some false))))) else (some false))) else (some false))))) else (some false))) else (some false)))) = some r := h
  clear h
  obtain ⟨y114, hy114⟩ : ∃ y_ : List (S36), y_ = (([(⟨192, 240⟩ : S36), (⟨65, 242⟩ : S36), (⟨66, 241⟩ : S36), (⟨66, 244⟩ : S36)] : List (S36))) := ⟨_, rfl⟩
  replace H : ((attr_Dress.f k 1 false true 0 0 y114).bind fun bt117 => ((attr_Text.f k 240).bind fun t123 => (if t123.toList = ([80, 78, 45] : List UInt8) then ((attr_Protected.f 32).bind fun t124 => (if t124 = true then ((attr_Protected.f 16).bind fun t125 => (if t125 = true then (some false) else ((attr_Numeric.f 16).bind fun t126 => (if t126 = true then ((attr_Skip.f 48).bind fun t127 => (if t127 = true then ((attr_Skip.f 32).bind fun t128 => (if t128 = true then (some false) else ((attr_Shown.f 12).bind fun t129 => (if t129 = 3 then ((attr_Modified.f 1).bind fun t130 => (if t130 = true then ((attr_Modify.f 32 true).bind fun t131 => (if t131 = 33 then ((attr_Byte.f 0).bind fun t132 => (if t132 = 64 then ((attr_Same.f 64 0).bind fun t133 => (if t133 = true then ((attr_Check.f k 41 192 0).bind fun t134 => (if t134 = 0 then ((attr_Check.f k 40 192 0).bind fun t135 => (if t135 = 33 then (some (bt117.1 == 48 && (!bt117.2.1 && (bt117.2.2.1 && (bt117.2.2.2.1 == 242 && (bt117.2.2.2.2 == 244)))))) else (some false))) else (some false))) else (some false))) else (some false))) else (some false))) else (some false))) else (some false))))) else (some false))) else (some false))))) else (some false))) else (some false)))) = some r := by first | (rw [hy114]; with_reducible exact H) | (have H2_ := (Option.bind_some _ _).symm.trans H; rw [hy114]; with_reducible exact H2_) | (have H2_ := (Option.bind_some _ _).symm.trans H; with_reducible exact H2_) | with_reducible exact H | (rw [hy114]; exact H) | exact H
  have Ny114 := Aside0.mk hy114
  clear hy114
  replace H := Option.bind_eq_some_iff.mp H
  obtain ⟨⟨t117, t118, t119, t120, t121⟩, A10, H⟩ := H
  replace H : ((attr_Text.f k 240).bind fun t123 => (if t123.toList = ([80, 78, 45] : List UInt8) then ((attr_Protected.f 32).bind fun t124 => (if t124 = true then ((attr_Protected.f 16).bind fun t125 => (if t125 = true then (some false) else ((attr_Numeric.f 16).bind fun t126 => (if t126 = true then ((attr_Skip.f 48).bind fun t127 => (if t127 = true then ((attr_Skip.f 32).bind fun t128 => (if t128 = true then (some false) else ((attr_Shown.f 12).bind fun t129 => (if t129 = 3 then ((attr_Modified.f 1).bind fun t130 => (if t130 = true then ((attr_Modify.f 32 true).bind fun t131 => (if t131 = 33 then ((attr_Byte.f 0).bind fun t132 => (if t132 = 64 then ((attr_Same.f 64 0).bind fun t133 => (if t133 = true then ((attr_Check.f k 41 192 0).bind fun t134 => (if t134 = 0 then ((attr_Check.f k 40 192 0).bind fun t135 => (if t135 = 33 then (some (t117 == 48 && (!t118 && (t119 && (t120 == 242 && (t121 == 244)))))) else (some false))) else (some false))) else (some false))) else (some false))) else (some false))) else (some false))) else (some false))))) else (some false))) else (some false))))) else (some false))) else (some false))) = some r := H
  have A1 := Aside0.mk A10
  clear A10
  replace H := Option.bind_eq_some_iff.mp H
  obtain ⟨t123, A20, H⟩ := H
  replace H : (if t123.toList = ([80, 78, 45] : List UInt8) then ((attr_Protected.f 32).bind fun t124 => (if t124 = true then ((attr_Protected.f 16).bind fun t125 => (if t125 = true then (some false) else ((attr_Numeric.f 16).bind fun t126 => (if t126 = true then ((attr_Skip.f 48).bind fun t127 => (if t127 = true then ((attr_Skip.f 32).bind fun t128 => (if t128 = true then (some false) else ((attr_Shown.f 12).bind fun t129 => (if t129 = 3 then ((attr_Modified.f 1).bind fun t130 => (if t130 = true then ((attr_Modify.f 32 true).bind fun t131 => (if t131 = 33 then ((attr_Byte.f 0).bind fun t132 => (if t132 = 64 then ((attr_Same.f 64 0).bind fun t133 => (if t133 = true then ((attr_Check.f k 41 192 0).bind fun t134 => (if t134 = 0 then ((attr_Check.f k 40 192 0).bind fun t135 => (if t135 = 33 then (some (t117 == 48 && (!t118 && (t119 && (t120 == 242 && (t121 == 244)))))) else (some false))) else (some false))) else (some false))) else (some false))) else (some false))) else (some false))) else (some false))))) else (some false))) else (some false))))) else (some false))) else (some false)) = some r := H
  have A2 := Aside0.mk A20
  clear A20
  by_cases c3 : t123.toList = ([80, 78, 45] : List UInt8)
  · rw [if_pos c3] at H
    have c3b0 : (t123.toList == ([80, 78, 45] : List UInt8)) = true := beq_iff_eq.mpr c3
    have c3b1 : (t123.toList != ([80, 78, 45] : List UInt8)) = false := bne_eq_false_iff_eq.mpr c3
    clear c3
    replace H := Option.bind_eq_some_iff.mp H
    obtain ⟨t124, A40, H⟩ := H
    replace H : (if t124 = true then ((attr_Protected.f 16).bind fun t125 => (if t125 = true then (some false) else ((attr_Numeric.f 16).bind fun t126 => (if t126 = true then ((attr_Skip.f 48).bind fun t127 => (if t127 = true then ((attr_Skip.f 32).bind fun t128 => (if t128 = true then (some false) else ((attr_Shown.f 12).bind fun t129 => (if t129 = 3 then ((attr_Modified.f 1).bind fun t130 => (if t130 = true then ((attr_Modify.f 32 true).bind fun t131 => (if t131 = 33 then ((attr_Byte.f 0).bind fun t132 => (if t132 = 64 then ((attr_Same.f 64 0).bind fun t133 => (if t133 = true then ((attr_Check.f k 41 192 0).bind fun t134 => (if t134 = 0 then ((attr_Check.f k 40 192 0).bind fun t135 => (if t135 = 33 then (some (t117 == 48 && (!t118 && (t119 && (t120 == 242 && (t121 == 244)))))) else (some false))) else (some false))) else (some false))) else (some false))) else (some false))) else (some false))) else (some false))))) else (some false))) else (some false))))) else (some false)) = some r := H
    have A4 := Aside0.mk A40
    clear A40
    by_cases c5 : t124 = true
    · subst c5
      have H1 : ((attr_Protected.f 16).bind fun t125 => (if t125 = true then (some false) else ((attr_Numeric.f 16).bind fun t126 => (if t126 = true then ((attr_Skip.f 48).bind fun t127 => (if t127 = true then ((attr_Skip.f 32).bind fun t128 => (if t128 = true then (some false) else ((attr_Shown.f 12).bind fun t129 => (if t129 = 3 then ((attr_Modified.f 1).bind fun t130 => (if t130 = true then ((attr_Modify.f 32 true).bind fun t131 => (if t131 = 33 then ((attr_Byte.f 0).bind fun t132 => (if t132 = 64 then ((attr_Same.f 64 0).bind fun t133 => (if t133 = true then ((attr_Check.f k 41 192 0).bind fun t134 => (if t134 = 0 then ((attr_Check.f k 40 192 0).bind fun t135 => (if t135 = 33 then (some (t117 == 48 && (!t118 && (t119 && (t120 == 242 && (t121 == 244)))))) else (some false))) else (some false))) else (some false))) else (some false))) else (some false))) else (some false))) else (some false))))) else (some false))) else (some false))))) = some r := by rw [if_pos rfl] at H; exact H
      clear H
      have H := H1
      clear H1
      replace H := Option.bind_eq_some_iff.mp H
      obtain ⟨t125, A60, H⟩ := H
      replace H : (if t125 = true then (some false) else ((attr_Numeric.f 16).bind fun t126 => (if t126 = true then ((attr_Skip.f 48).bind fun t127 => (if t127 = true then ((attr_Skip.f 32).bind fun t128 => (if t128 = true then (some false) else ((attr_Shown.f 12).bind fun t129 => (if t129 = 3 then ((attr_Modified.f 1).bind fun t130 => (if t130 = true then ((attr_Modify.f 32 true).bind fun t131 => (if t131 = 33 then ((attr_Byte.f 0).bind fun t132 => (if t132 = 64 then ((attr_Same.f 64 0).bind fun t133 => (if t133 = true then ((attr_Check.f k 41 192 0).bind fun t134 => (if t134 = 0 then ((attr_Check.f k 40 192 0).bind fun t135 => (if t135 = 33 then (some (t117 == 48 && (!t118 && (t119 && (t120 == 242 && (t121 == 244)))))) else (some false))) else (some false))) else (some false))) else (some false))) else (some false))) else (some false))) else (some false))))) else (some false))) else (some false)))) = some r := H
      have A6 := Aside0.mk A60
      clear A60
      by_cases c7 : t125 = true
      · subst c7
        have H1 : (some false) = some r := by rw [if_pos rfl] at H; exact H
        clear H
        have H := H1
        clear H1
        obtain rfl := Option.some.inj H
        exact absurd hr_ (by decide)
      · replace c7 := Bool.eq_false_iff.mpr c7
        subst c7
        have H1 : ((attr_Numeric.f 16).bind fun t126 => (if t126 = true then ((attr_Skip.f 48).bind fun t127 => (if t127 = true then ((attr_Skip.f 32).bind fun t128 => (if t128 = true then (some false) else ((attr_Shown.f 12).bind fun t129 => (if t129 = 3 then ((attr_Modified.f 1).bind fun t130 => (if t130 = true then ((attr_Modify.f 32 true).bind fun t131 => (if t131 = 33 then ((attr_Byte.f 0).bind fun t132 => (if t132 = 64 then ((attr_Same.f 64 0).bind fun t133 => (if t133 = true then ((attr_Check.f k 41 192 0).bind fun t134 => (if t134 = 0 then ((attr_Check.f k 40 192 0).bind fun t135 => (if t135 = 33 then (some (t117 == 48 && (!t118 && (t119 && (t120 == 242 && (t121 == 244)))))) else (some false))) else (some false))) else (some false))) else (some false))) else (some false))) else (some false))) else (some false))))) else (some false))) else (some false))) = some r := by rw [if_neg (show ¬ (false = true) by decide)] at H; exact H
        clear H
        have H := H1
        clear H1
        replace H := Option.bind_eq_some_iff.mp H
        obtain ⟨t126, A140, H⟩ := H
        replace H : (if t126 = true then ((attr_Skip.f 48).bind fun t127 => (if t127 = true then ((attr_Skip.f 32).bind fun t128 => (if t128 = true then (some false) else ((attr_Shown.f 12).bind fun t129 => (if t129 = 3 then ((attr_Modified.f 1).bind fun t130 => (if t130 = true then ((attr_Modify.f 32 true).bind fun t131 => (if t131 = 33 then ((attr_Byte.f 0).bind fun t132 => (if t132 = 64 then ((attr_Same.f 64 0).bind fun t133 => (if t133 = true then ((attr_Check.f k 41 192 0).bind fun t134 => (if t134 = 0 then ((attr_Check.f k 40 192 0).bind fun t135 => (if t135 = 33 then (some (t117 == 48 && (!t118 && (t119 && (t120 == 242 && (t121 == 244)))))) else (some false))) else (some false))) else (some false))) else (some false))) else (some false))) else (some false))) else (some false))))) else (some false))) else (some false)) = some r := H
        have A14 := Aside0.mk A140
        clear A140
        by_cases c15 : t126 = true
        · subst c15
          have H1 : ((attr_Skip.f 48).bind fun t127 => (if t127 = true then ((attr_Skip.f 32).bind fun t128 => (if t128 = true then (some false) else ((attr_Shown.f 12).bind fun t129 => (if t129 = 3 then ((attr_Modified.f 1).bind fun t130 => (if t130 = true then ((attr_Modify.f 32 true).bind fun t131 => (if t131 = 33 then ((attr_Byte.f 0).bind fun t132 => (if t132 = 64 then ((attr_Same.f 64 0).bind fun t133 => (if t133 = true then ((attr_Check.f k 41 192 0).bind fun t134 => (if t134 = 0 then ((attr_Check.f k 40 192 0).bind fun t135 => (if t135 = 33 then (some (t117 == 48 && (!t118 && (t119 && (t120 == 242 && (t121 == 244)))))) else (some false))) else (some false))) else (some false))) else (some false))) else (some false))) else (some false))) else (some false))))) else (some false))) = some r := by rw [if_pos rfl] at H; exact H
          clear H
          have H := H1
          clear H1
          replace H := Option.bind_eq_some_iff.mp H
          obtain ⟨t127, A160, H⟩ := H
          replace H : (if t127 = true then ((attr_Skip.f 32).bind fun t128 => (if t128 = true then (some false) else ((attr_Shown.f 12).bind fun t129 => (if t129 = 3 then ((attr_Modified.f 1).bind fun t130 => (if t130 = true then ((attr_Modify.f 32 true).bind fun t131 => (if t131 = 33 then ((attr_Byte.f 0).bind fun t132 => (if t132 = 64 then ((attr_Same.f 64 0).bind fun t133 => (if t133 = true then ((attr_Check.f k 41 192 0).bind fun t134 => (if t134 = 0 then ((attr_Check.f k 40 192 0).bind fun t135 => (if t135 = 33 then (some (t117 == 48 && (!t118 && (t119 && (t120 == 242 && (t121 == 244)))))) else (some false))) else (some false))) else (some false))) else (some false))) else (some false))) else (some false))) else (some false))))) else (some false)) = some r := H
          have A16 := Aside0.mk A160
          clear A160
          by_cases c17 : t127 = true
          · subst c17
            have H1 : ((attr_Skip.f 32).bind fun t128 => (if t128 = true then (some false) else ((attr_Shown.f 12).bind fun t129 => (if t129 = 3 then ((attr_Modified.f 1).bind fun t130 => (if t130 = true then ((attr_Modify.f 32 true).bind fun t131 => (if t131 = 33 then ((attr_Byte.f 0).bind fun t132 => (if t132 = 64 then ((attr_Same.f 64 0).bind fun t133 => (if t133 = true then ((attr_Check.f k 41 192 0).bind fun t134 => (if t134 = 0 then ((attr_Check.f k 40 192 0).bind fun t135 => (if t135 = 33 then (some (t117 == 48 && (!t118 && (t119 && (t120 == 242 && (t121 == 244)))))) else (some false))) else (some false))) else (some false))) else (some false))) else (some false))) else (some false))) else (some false))))) = some r := by rw [if_pos rfl] at H; exact H
            clear H
            have H := H1
            clear H1
            replace H := Option.bind_eq_some_iff.mp H
            obtain ⟨t128, A180, H⟩ := H
            replace H : (if t128 = true then (some false) else ((attr_Shown.f 12).bind fun t129 => (if t129 = 3 then ((attr_Modified.f 1).bind fun t130 => (if t130 = true then ((attr_Modify.f 32 true).bind fun t131 => (if t131 = 33 then ((attr_Byte.f 0).bind fun t132 => (if t132 = 64 then ((attr_Same.f 64 0).bind fun t133 => (if t133 = true then ((attr_Check.f k 41 192 0).bind fun t134 => (if t134 = 0 then ((attr_Check.f k 40 192 0).bind fun t135 => (if t135 = 33 then (some (t117 == 48 && (!t118 && (t119 && (t120 == 242 && (t121 == 244)))))) else (some false))) else (some false))) else (some false))) else (some false))) else (some false))) else (some false))) else (some false)))) = some r := H
            have A18 := Aside0.mk A180
            clear A180
            by_cases c19 : t128 = true
            · subst c19
              have H1 : (some false) = some r := by rw [if_pos rfl] at H; exact H
              clear H
              have H := H1
              clear H1
              obtain rfl := Option.some.inj H
              exact absurd hr_ (by decide)
            · replace c19 := Bool.eq_false_iff.mpr c19
              subst c19
              have H1 : ((attr_Shown.f 12).bind fun t129 => (if t129 = 3 then ((attr_Modified.f 1).bind fun t130 => (if t130 = true then ((attr_Modify.f 32 true).bind fun t131 => (if t131 = 33 then ((attr_Byte.f 0).bind fun t132 => (if t132 = 64 then ((attr_Same.f 64 0).bind fun t133 => (if t133 = true then ((attr_Check.f k 41 192 0).bind fun t134 => (if t134 = 0 then ((attr_Check.f k 40 192 0).bind fun t135 => (if t135 = 33 then (some (t117 == 48 && (!t118 && (t119 && (t120 == 242 && (t121 == 244)))))) else (some false))) else (some false))) else (some false))) else (some false))) else (some false))) else (some false))) else (some false))) = some r := by rw [if_neg (show ¬ (false = true) by decide)] at H; exact H
              clear H
              have H := H1
              clear H1
              replace H := Option.bind_eq_some_iff.mp H
              obtain ⟨t129, A260, H⟩ := H
              replace H : (if t129 = 3 then ((attr_Modified.f 1).bind fun t130 => (if t130 = true then ((attr_Modify.f 32 true).bind fun t131 => (if t131 = 33 then ((attr_Byte.f 0).bind fun t132 => (if t132 = 64 then ((attr_Same.f 64 0).bind fun t133 => (if t133 = true then ((attr_Check.f k 41 192 0).bind fun t134 => (if t134 = 0 then ((attr_Check.f k 40 192 0).bind fun t135 => (if t135 = 33 then (some (t117 == 48 && (!t118 && (t119 && (t120 == 242 && (t121 == 244)))))) else (some false))) else (some false))) else (some false))) else (some false))) else (some false))) else (some false))) else (some false)) = some r := H
              have A26 := Aside0.mk A260
              clear A260
              by_cases c27 : t129 = 3
              · rw [if_pos c27] at H
                have c27b0 : (t129 == 3) = true := beq_iff_eq.mpr c27
                have c27b1 : (t129 != 3) = false := bne_eq_false_iff_eq.mpr c27
                clear c27
                replace H := Option.bind_eq_some_iff.mp H
                obtain ⟨t130, A280, H⟩ := H
                replace H : (if t130 = true then ((attr_Modify.f 32 true).bind fun t131 => (if t131 = 33 then ((attr_Byte.f 0).bind fun t132 => (if t132 = 64 then ((attr_Same.f 64 0).bind fun t133 => (if t133 = true then ((attr_Check.f k 41 192 0).bind fun t134 => (if t134 = 0 then ((attr_Check.f k 40 192 0).bind fun t135 => (if t135 = 33 then (some (t117 == 48 && (!t118 && (t119 && (t120 == 242 && (t121 == 244)))))) else (some false))) else (some false))) else (some false))) else (some false))) else (some false))) else (some false)) = some r := H
                have A28 := Aside0.mk A280
                clear A280
                by_cases c29 : t130 = true
                · subst c29
                  have H1 : ((attr_Modify.f 32 true).bind fun t131 => (if t131 = 33 then ((attr_Byte.f 0).bind fun t132 => (if t132 = 64 then ((attr_Same.f 64 0).bind fun t133 => (if t133 = true then ((attr_Check.f k 41 192 0).bind fun t134 => (if t134 = 0 then ((attr_Check.f k 40 192 0).bind fun t135 => (if t135 = 33 then (some (t117 == 48 && (!t118 && (t119 && (t120 == 242 && (t121 == 244)))))) else (some false))) else (some false))) else (some false))) else (some false))) else (some false))) = some r := by rw [if_pos rfl] at H; exact H
                  clear H
                  have H := H1
                  clear H1
                  replace H := Option.bind_eq_some_iff.mp H
                  obtain ⟨t131, A300, H⟩ := H
                  replace H : (if t131 = 33 then ((attr_Byte.f 0).bind fun t132 => (if t132 = 64 then ((attr_Same.f 64 0).bind fun t133 => (if t133 = true then ((attr_Check.f k 41 192 0).bind fun t134 => (if t134 = 0 then ((attr_Check.f k 40 192 0).bind fun t135 => (if t135 = 33 then (some (t117 == 48 && (!t118 && (t119 && (t120 == 242 && (t121 == 244)))))) else (some false))) else (some false))) else (some false))) else (some false))) else (some false)) = some r := H
                  have A30 := Aside0.mk A300
                  clear A300
                  by_cases c31 : t131 = 33
                  · rw [if_pos c31] at H
                    have c31b0 : (t131 == 33) = true := beq_iff_eq.mpr c31
                    have c31b1 : (t131 != 33) = false := bne_eq_false_iff_eq.mpr c31
                    clear c31
                    replace H := Option.bind_eq_some_iff.mp H
                    obtain ⟨t132, A320, H⟩ := H
                    replace H : (if t132 = 64 then ((attr_Same.f 64 0).bind fun t133 => (if t133 = true then ((attr_Check.f k 41 192 0).bind fun t134 => (if t134 = 0 then ((attr_Check.f k 40 192 0).bind fun t135 => (if t135 = 33 then (some (t117 == 48 && (!t118 && (t119 && (t120 == 242 && (t121 == 244)))))) else (some false))) else (some false))) else (some false))) else (some false)) = some r := H
                    have A32 := Aside0.mk A320
                    clear A320
                    by_cases c33 : t132 = 64
                    · rw [if_pos c33] at H
                      have c33b0 : (t132 == 64) = true := beq_iff_eq.mpr c33
                      have c33b1 : (t132 != 64) = false := bne_eq_false_iff_eq.mpr c33
                      clear c33
                      replace H := Option.bind_eq_some_iff.mp H
                      obtain ⟨t133, A340, H⟩ := H
                      replace H : (if t133 = true then ((attr_Check.f k 41 192 0).bind fun t134 => (if t134 = 0 then ((attr_Check.f k 40 192 0).bind fun t135 => (if t135 = 33 then (some (t117 == 48 && (!t118 && (t119 && (t120 == 242 && (t121 == 244)))))) else (some false))) else (some false))) else (some false)) = some r := H
                      have A34 := Aside0.mk A340
                      clear A340
                      by_cases c35 : t133 = true
                      · subst c35
                        have H1 : ((attr_Check.f k 41 192 0).bind fun t134 => (if t134 = 0 then ((attr_Check.f k 40 192 0).bind fun t135 => (if t135 = 33 then (some (t117 == 48 && (!t118 && (t119 && (t120 == 242 && (t121 == 244)))))) else (some false))) else (some false))) = some r := by rw [if_pos rfl] at H; exact H
                        clear H
                        have H := H1
                        clear H1
                        replace H := Option.bind_eq_some_iff.mp H
                        obtain ⟨t134, A360, H⟩ := H
                        replace H : (if t134 = 0 then ((attr_Check.f k 40 192 0).bind fun t135 => (if t135 = 33 then (some (t117 == 48 && (!t118 && (t119 && (t120 == 242 && (t121 == 244)))))) else (some false))) else (some false)) = some r := H
                        have A36 := Aside0.mk A360
                        clear A360
                        by_cases c37 : t134 = 0
                        · rw [if_pos c37] at H
                          have c37b0 : (t134 == 0) = true := beq_iff_eq.mpr c37
                          have c37b1 : (t134 != 0) = false := bne_eq_false_iff_eq.mpr c37
                          clear c37
                          replace H := Option.bind_eq_some_iff.mp H
                          obtain ⟨t135, A380, H⟩ := H
                          replace H : (if t135 = 33 then (some (t117 == 48 && (!t118 && (t119 && (t120 == 242 && (t121 == 244)))))) else (some false)) = some r := H
                          have A38 := Aside0.mk A380
                          clear A380
                          by_cases c39 : t135 = 33
                          · rw [if_pos c39] at H
                            have c39b0 : (t135 == 33) = true := beq_iff_eq.mpr c39
                            have c39b1 : (t135 != 33) = false := bne_eq_false_iff_eq.mpr c39
                            clear c39
                            obtain rfl := Option.some.inj H
                            go_enter Try.func7, Try.ntmps7
                            go_wp2_with (first | ((with_reducible refine gate_dst (N := 7) rfl ?_); refine Kd.R_lit k36 _ 36 ?hg (N := 7) ?hd (xs := ([(⟨192, 240⟩ : S36), (⟨65, 242⟩ : S36), (⟨66, 241⟩ : S36), (⟨66, 244⟩ : S36)] : List (S36))) (inner := [.int .u8 192, .int .u8 240, .int .u8 65, .int .u8 242, .int .u8 66, .int .u8 241, .int .u8 66, .int .u8 244]) (ok := fun _ => True) (okp := fun _ => True) ?hr ?hp (fun _ hk => hk) trivial (Below.refl _ _) (Nat.le_refl _) (by simp) ?_; (case hd => rfl); (case hg => rfl); (case hr => first | (go_simp; done) | (go_simp; rfl)); (case hp => exact (Reps.c2 (show Kd.M k36 _ _ _ (⟨192, 240⟩ : S36) [.int .u8 192, .int .u8 240] from (k36_mkM _ _ _ (⟨192, 240⟩ : S36) )) (Reps.c2 (show Kd.M k36 _ _ _ (⟨65, 242⟩ : S36) [.int .u8 65, .int .u8 242] from (k36_mkM _ _ _ (⟨65, 242⟩ : S36) )) (Reps.c2 (show Kd.M k36 _ _ _ (⟨66, 241⟩ : S36) [.int .u8 66, .int .u8 241] from (k36_mkM _ _ _ (⟨66, 241⟩ : S36) )) (Reps.c2 (show Kd.M k36 _ _ _ (⟨66, 244⟩ : S36) [.int .u8 66, .int .u8 244] from (k36_mkM _ _ _ (⟨66, 244⟩ : S36) )) (Reps.none _ _)))))); intro v115 w40 ho41 hb hg_ hnew_; clear hg_ hnew_; (first | rw [← Ny114.out] at ho41 | (simp only [Int.reduceToNat] at ho41; rw [← Ny114.out] at ho41)); have n0_ := Aside0.mk (Kd.R_lower ho41 (below_size (by repeat (first | (with_reducible first | exact HB.out | apply below_alloc | apply pw_below_drewN | apply below_drew1) | exact HB.out)))); have n1_ := Aside0.mk (below_step (by repeat (first | (with_reducible first | exact HB.out | apply below_alloc | apply pw_below_drewN | apply below_drew1) | exact HB.out)) hb); clear HB; have HO116 := n0_; have HB := n1_; clear n0_ n1_; clear hb ho41; obtain ⟨Ao42, co42, eo42⟩ := Kd.R_slice HO116.out; subst eo42) | ((with_reducible refine gate_callee (f := 24) rfl ?_); refine goesL_ (some 8) rfl rfl Try.func24 (by kernel_rfl) rfl #[.agg #[.int .u8 1, .bool false, .bool true, .int .u8 0, .int .u8 0], .slice Ao42 y114.length co42] rfl (by (try simp only [List.map_toArray, List.map_cons, List.map_nil]); first | done | rfl | (simp only [List.length_drop, List.length_take]; rfl)) ?_; (with_reducible refine (attr_Dress.calls k 1 false true 0 0 _ _ y114 t117 t118 t119 t120 t121 _ ?side1 ?side2 A1.out).mono ?_); (case side1 => repeat (first | exact (Kd.R_reads' HO116.out).2.2 | (with_reducible refine Kd.C_alloc ?_ _) | (with_reducible refine Kd.C_drewN ?_ _) | (with_reducible refine Kd.C_drew ?_))); (case side2 => exact (Kd.R_reads' HO116.out).2.1); rintro e w43 ⟨rfl, hb⟩; refine ⟨_, rfl, ?_⟩; have n0_ := Aside0.mk (Kd.R_below (by (with_reducible repeat (first | apply Kd.R_alloc | apply Kd.R_drewN | apply Kd.R_drew)); exact HO116.out) hb); have n1_ := Aside0.mk (below_step (by repeat (first | (with_reducible first | exact HB.out | apply below_alloc | apply pw_below_drewN | apply below_drew1) | exact HB.out)) hb); clear HO116; clear HB; have HO116 := n0_; have HB := n1_; clear n0_ n1_; (try clear hb); (try clear hb2); (try clear hk); (try clear hi)) | ((with_reducible refine gate_dst (N := 1) rfl ?_); refine box_event ?hg (N := 1) ?hd (cs := #[.int .u8 0, .bool false, .bool false, .int .u8 0, .int .u8 0]) (t := 33) ?hr ?_; (case hd => rfl); (case hg => rfl); (case hr => first | (go_simp; done) | (go_simp; rfl)); intro gb122 hg w44 hbox hb; have n0_ := Aside0.mk (Kd.R_below (by (with_reducible repeat (first | apply Kd.R_alloc | apply Kd.R_drewN | apply Kd.R_drew)); exact HO116.out) hb); have n1_ := Aside0.mk (below_step (by repeat (first | (with_reducible first | exact HB.out | apply below_alloc | apply pw_below_drewN | apply below_drew1) | exact HB.out)) hb); have n2_ := Aside0.mk (hbox); have n3_ := Aside0.mk ((by rw [hg]; exact (below_size (by repeat (first | (with_reducible first | exact HB.out | apply below_alloc | apply pw_below_drewN | apply below_drew1) | exact HB.out))) : w.heap.size ≤ gb122)); have n4_ := Aside0.mk ((by rw [hg]; exact (below_size (by repeat (first | (with_reducible first | exact HB.out | apply below_alloc | apply pw_below_drewN | apply below_drew1) | exact HB.out))) : w.heap.size ≤ gb122)); clear HO116; clear HB; have HO116 := n0_; have HB := n1_; have BK122 := n2_; have GW122 := n3_; have GE122 := n4_; clear n0_ n1_ n2_ n3_ n4_; clear hb hbox hg; have hcz45_0 : w44.cell? ⟨gb122, 0, none⟩ = some (.int .u8 0) := (blk_cell BK122.out 0).trans rfl; have hcz45_1 : w44.cell? ⟨gb122, 1, none⟩ = some (.bool false) := (blk_cell BK122.out 1).trans rfl; have hcz45_2 : w44.cell? ⟨gb122, 2, none⟩ = some (.bool false) := (blk_cell BK122.out 2).trans rfl; have hcz45_3 : w44.cell? ⟨gb122, 3, none⟩ = some (.int .u8 0) := (blk_cell BK122.out 3).trans rfl; have hcz45_4 : w44.cell? ⟨gb122, 4, none⟩ = some (.int .u8 0) := (blk_cell BK122.out 4).trans rfl; have hfz45_0 := blk_frozen BK122.out 0; have hfz45_1 := blk_frozen BK122.out 1; have hfz45_2 := blk_frozen BK122.out 2; have hfz45_3 := blk_frozen BK122.out 3; have hfz45_4 := blk_frozen BK122.out 4) | ((with_reducible refine gate_callee (f := 20) rfl ?_); refine goesL_ (some 9) rfl rfl Try.func20 (by kernel_rfl) rfl #[.int .u8 240] rfl (by (try simp only [List.map_toArray, List.map_cons, List.map_nil]); first | done | rfl | (simp only [List.length_drop, List.length_take]; rfl)) ?_; (with_reducible refine (attr_Text.calls k 240 t123 _ A2.out).mono ?_); rintro e w' ⟨rfl, ⟨nd, rfl⟩⟩; refine ⟨_, rfl, ?_⟩) | (go_at_call 9; (with_reducible refine (attr_Protected.calls 32 true _ A4.out).mono ?_); rintro e w' ⟨rfl, ⟨nd, rfl⟩⟩) | (go_at_call 9; (with_reducible refine (attr_Protected.calls 16 false _ A6.out).mono ?_); rintro e w' ⟨rfl, ⟨nd, rfl⟩⟩) | (go_at_call 10; (with_reducible refine (attr_Numeric.calls 16 true _ A14.out).mono ?_); rintro e w' ⟨rfl, ⟨nd, rfl⟩⟩) | (go_at_call 11; (with_reducible refine (attr_Skip.calls 48 true _ A16.out).mono ?_); rintro e w' ⟨rfl, ⟨nd, rfl⟩⟩) | (go_at_call 11; (with_reducible refine (attr_Skip.calls 32 false _ A18.out).mono ?_); rintro e w' ⟨rfl, ⟨nd, rfl⟩⟩) | (go_at_call 12; (with_reducible refine (attr_Shown.calls 12 t129 _ A26.out).mono ?_); rintro e w' ⟨rfl, ⟨nd, rfl⟩⟩) | (go_at_call 14; (with_reducible refine (attr_Modified.calls 1 true _ A28.out).mono ?_); rintro e w' ⟨rfl, ⟨nd, rfl⟩⟩) | (go_at_call 15; (with_reducible refine (attr_Modify.calls 32 true t131 _ A30.out).mono ?_); rintro e w' ⟨rfl, ⟨nd, rfl⟩⟩) | (go_at_call 17; (with_reducible refine (attr_Byte.calls 0 t132 _ A32.out).mono ?_); rintro e w' ⟨rfl, ⟨nd, rfl⟩⟩) | (go_at_call 19; (with_reducible refine (attr_Same.calls 64 0 true _ A34.out).mono ?_); rintro e w' ⟨rfl, ⟨nd, rfl⟩⟩) | (go_at_call 22; (with_reducible refine (attr_Check.calls k 41 192 0 t134 _ A36.out).mono ?_); rintro e w46 ⟨rfl, hb⟩; have n0_ := Aside0.mk (Kd.R_below (by (with_reducible repeat (first | apply Kd.R_alloc | apply Kd.R_drewN | apply Kd.R_drew)); exact (Kd.R_mono (Kd.R_far (p := ⟨gb122, 4, none⟩) (Kd.R_far (p := ⟨gb122, 3, none⟩) (Kd.R_far (p := ⟨gb122, 2, none⟩) (Kd.R_far (p := ⟨gb122, 1, none⟩) (Kd.R_far (p := ⟨gb122, 0, none⟩) (Kd.R_types HO116.out BK122.out (by decide)) (fun _ hk => hk.2) (.int .u8 t117)) (fun _ hk => hk.2) (.bool t118)) (fun _ hk => hk.2) (.bool t119)) (fun _ hk => hk.2) (.int .u8 t120)) (fun _ hk => hk.2) (.int .u8 t121)) (fun _ h_ => h_.1))) hb); have n1_ := Aside0.mk (blk_below (g := gb122) (o := .cells #[.int .u8 t117, .bool t118, .bool t119, .int .u8 t120, .int .u8 t121] 33 (0, 0)) (by (with_reducible repeat (first | refine blk_drewN ?_ _ | refine blk_drew ?_ | refine blk_alloc ?_ _)); refine blk_put (cs := #[.int .u8 t117, .bool t118, .bool t119, .int .u8 t120, .int .u8 0]) ?_ 4 _ rfl; (with_reducible repeat (first | refine blk_drewN ?_ _ | refine blk_drew ?_ | refine blk_alloc ?_ _)); refine blk_put (cs := #[.int .u8 t117, .bool t118, .bool t119, .int .u8 0, .int .u8 0]) ?_ 3 _ rfl; (with_reducible repeat (first | refine blk_drewN ?_ _ | refine blk_drew ?_ | refine blk_alloc ?_ _)); refine blk_put (cs := #[.int .u8 t117, .bool t118, .bool false, .int .u8 0, .int .u8 0]) ?_ 2 _ rfl; (with_reducible repeat (first | refine blk_drewN ?_ _ | refine blk_drew ?_ | refine blk_alloc ?_ _)); refine blk_put (cs := #[.int .u8 t117, .bool false, .bool false, .int .u8 0, .int .u8 0]) ?_ 1 _ rfl; (with_reducible repeat (first | refine blk_drewN ?_ _ | refine blk_drew ?_ | refine blk_alloc ?_ _)); refine blk_put (cs := #[.int .u8 0, .bool false, .bool false, .int .u8 0, .int .u8 0]) ?_ 0 _ rfl; (with_reducible repeat (first | refine blk_drewN ?_ _ | refine blk_drew ?_ | refine blk_alloc ?_ _)); exact BK122.out) hb); have n2_ := Aside0.mk (below_step (by repeat (first | (with_reducible first | exact HB.out | apply below_alloc | apply pw_below_drewN | apply below_drew1 | refine below_set ?_ GE122.out) | exact HB.out)) hb); clear HO116; clear BK122; clear HB; have HO116 := n0_; have BK122 := n1_; have HB := n2_; clear n0_ n1_ n2_; (try clear hb); (try clear hb2); (try clear hk); (try clear hi)) | (go_at_call 22; (with_reducible refine (attr_Check.calls k 40 192 0 t135 _ A38.out).mono ?_); rintro e w47 ⟨rfl, hb⟩; have n0_ := Aside0.mk (Kd.R_below (by (with_reducible repeat (first | apply Kd.R_alloc | apply Kd.R_drewN | apply Kd.R_drew)); exact HO116.out) hb); have n1_ := Aside0.mk (blk_below (g := gb122) (o := .cells #[.int .u8 t117, .bool t118, .bool t119, .int .u8 t120, .int .u8 t121] 33 (0, 0)) (by (with_reducible repeat (first | refine blk_drewN ?_ _ | refine blk_drew ?_ | refine blk_alloc ?_ _)); exact BK122.out) hb); have n2_ := Aside0.mk (below_step (by repeat (first | (with_reducible first | exact HB.out | apply below_alloc | apply pw_below_drewN | apply below_drew1 | refine below_set ?_ GE122.out) | exact HB.out)) hb); clear HO116; clear BK122; clear HB; have HO116 := n0_; have BK122 := n1_; have HB := n2_; clear n0_ n1_ n2_; (try clear hb); (try clear hb2); (try clear hk); (try clear hi); have hcz48_0 : w47.cell? ⟨gb122, 0, none⟩ = some (.int .u8 t117) := (blk_cell BK122.out 0).trans rfl; have hcz48_1 : w47.cell? ⟨gb122, 1, none⟩ = some (.bool t118) := (blk_cell BK122.out 1).trans rfl; have hcz48_2 : w47.cell? ⟨gb122, 2, none⟩ = some (.bool t119) := (blk_cell BK122.out 2).trans rfl; have hcz48_3 : w47.cell? ⟨gb122, 3, none⟩ = some (.int .u8 t120) := (blk_cell BK122.out 3).trans rfl; have hcz48_4 : w47.cell? ⟨gb122, 4, none⟩ = some (.int .u8 t121) := (blk_cell BK122.out 4).trans rfl; have hfz48_0 := blk_frozen BK122.out 0; have hfz48_1 := blk_frozen BK122.out 1; have hfz48_2 := blk_frozen BK122.out 2; have hfz48_3 := blk_frozen BK122.out 3; have hfz48_4 := blk_frozen BK122.out 4) | (go_at_call 20; (with_reducible refine (attr_Text.calls k 240 t123 _ A2.out).mono ?_); rintro e w' ⟨rfl, ⟨nd, rfl⟩⟩))
                            go_ret
                            exact ⟨by first | rfl | (simp [errW_none, errW_some] <;> rfl) | (simp [*, errW_none, errW_some] <;> rfl), by repeat (first | (with_reducible first | exact HB.out | apply below_alloc | apply pw_below_drewN | apply below_drew1 | refine below_set ?_ GE122.out) | exact HB.out)⟩
                          · rw [if_neg c39] at H
                            have c39b0 : (t135 == 33) = false := beq_eq_false_iff_ne.mpr c39
                            have c39b1 : (t135 != 33) = true := bne_iff_ne.mpr c39
                            obtain rfl := Option.some.inj H
                            exact absurd hr_ (by decide)
                        · rw [if_neg c37] at H
                          have c37b0 : (t134 == 0) = false := beq_eq_false_iff_ne.mpr c37
                          have c37b1 : (t134 != 0) = true := bne_iff_ne.mpr c37
                          obtain rfl := Option.some.inj H
                          exact absurd hr_ (by decide)
                      · replace c35 := Bool.eq_false_iff.mpr c35
                        subst c35
                        have H1 : (some false) = some r := by rw [if_neg (show ¬ (false = true) by decide)] at H; exact H
                        clear H
                        have H := H1
                        clear H1
                        obtain rfl := Option.some.inj H
                        exact absurd hr_ (by decide)
                    · rw [if_neg c33] at H
                      have c33b0 : (t132 == 64) = false := beq_eq_false_iff_ne.mpr c33
                      have c33b1 : (t132 != 64) = true := bne_iff_ne.mpr c33
                      obtain rfl := Option.some.inj H
                      exact absurd hr_ (by decide)
                  · rw [if_neg c31] at H
                    have c31b0 : (t131 == 33) = false := beq_eq_false_iff_ne.mpr c31
                    have c31b1 : (t131 != 33) = true := bne_iff_ne.mpr c31
                    obtain rfl := Option.some.inj H
                    exact absurd hr_ (by decide)
                · replace c29 := Bool.eq_false_iff.mpr c29
                  subst c29
                  have H1 : (some false) = some r := by rw [if_neg (show ¬ (false = true) by decide)] at H; exact H
                  clear H
                  have H := H1
                  clear H1
                  obtain rfl := Option.some.inj H
                  exact absurd hr_ (by decide)
              · rw [if_neg c27] at H
                have c27b0 : (t129 == 3) = false := beq_eq_false_iff_ne.mpr c27
                have c27b1 : (t129 != 3) = true := bne_iff_ne.mpr c27
                obtain rfl := Option.some.inj H
                exact absurd hr_ (by decide)
          · replace c17 := Bool.eq_false_iff.mpr c17
            subst c17
            have H1 : (some false) = some r := by rw [if_neg (show ¬ (false = true) by decide)] at H; exact H
            clear H
            have H := H1
            clear H1
            obtain rfl := Option.some.inj H
            exact absurd hr_ (by decide)
        · replace c15 := Bool.eq_false_iff.mpr c15
          subst c15
          have H1 : (some false) = some r := by rw [if_neg (show ¬ (false = true) by decide)] at H; exact H
          clear H
          have H := H1
          clear H1
          obtain rfl := Option.some.inj H
          exact absurd hr_ (by decide)
    · replace c5 := Bool.eq_false_iff.mpr c5
      subst c5
      have H1 : (some false) = some r := by rw [if_neg (show ¬ (false = true) by decide)] at H; exact H
      clear H
      have H := H1
      clear H1
      obtain rfl := Option.some.inj H
      exact absurd hr_ (by decide)
  · rw [if_neg c3] at H
    have c3b0 : (t123.toList == ([80, 78, 45] : List UInt8)) = false := beq_eq_false_iff_ne.mpr c3
    have c3b1 : (t123.toList != ([80, 78, 45] : List UInt8)) = true := bne_iff_ne.mpr c3
    obtain rfl := Option.some.inj H
    exact absurd hr_ (by decide)

/-! ### greenscreenref11_Bit: function 8 -/
def greenscreenref11_Bit.f (a0 : Int) (a1 : Int) : Option (Bool) := if a1 = 0 then (none) else (some ((Int.tmod (wrap64 (Int.tdiv (wrap64 (a0)) a1)) 2) == 1))
set_option maxHeartbeats 8000000 in
set_option maxRecDepth 100000 in
theorem greenscreenref11_Bit.calls (a0 : Int) (a1 : Int) (r : Bool) (w : World) (h : greenscreenref11_Bit.f a0 a1 = some r) :
    Calls Try.prog 8 #[.int .u8 a0, .int .i64 a1] w fun e w' => e = .returned (.bool r) ∧ Drawn0 w w' := by
  have H : (if a1 = 0 then (none) else (some ((Int.tmod (wrap64 (Int.tdiv (wrap64 (a0)) a1)) 2) == 1))) = some r := h
  clear h
  by_cases c3 : a1 = 0
  · rw [if_pos c3] at H
    exact absurd H (by simp)
  · rw [if_neg c3] at H
    have c3b0 : (a1 == 0) = false := beq_eq_false_iff_ne.mpr c3
    have c3b1 : (a1 != 0) = true := bne_iff_ne.mpr c3
    obtain rfl := Option.some.inj H
    go_enter Try.func8, Try.ntmps8
    go_wp2
    go_ret
    exact ⟨by first | rfl | (simp; done) | (simp [*]; done), by repeat (first | exact Drawn0.refl _ | apply Drawn0.step)⟩

/-! ### greenscreenref11_Shown: function 13 -/
def greenscreenref11_Shown.f (a0 : Int) : Option (Int) := some (Int.tmod (wrap64 (Int.tdiv (wrap64 (a0)) 4)) 4)
set_option maxHeartbeats 8000000 in
set_option maxRecDepth 100000 in
theorem greenscreenref11_Shown.calls (a0 : Int) (r : Int) (w : World) (h : greenscreenref11_Shown.f a0 = some r) :
    Calls Try.prog 13 #[.int .u8 a0] w fun e w' => e = .returned (.int .i64 r) ∧ Drawn0 w w' := by
  have H : (some (Int.tmod (wrap64 (Int.tdiv (wrap64 (a0)) 4)) 4)) = some r := h
  clear h
  obtain rfl := Option.some.inj H
  go_enter Try.func13, Try.ntmps13
  go_wp2
  go_ret
  exact ⟨by first | rfl | (simp; done) | (simp [*]; done), by repeat (first | exact Drawn0.refl _ | apply Drawn0.step)⟩

/-! ### greenscreenref11_Modify: function 16 -/
def greenscreenref11_Modify.f (a0 : Int) (a1 : Bool) : Option (Int) := if a1 = true then (some ((((a0 - (Int.tmod a0 2)) % 256) + 1) % 256)) else (some ((a0 - (Int.tmod a0 2)) % 256))
set_option maxHeartbeats 8000000 in
set_option maxRecDepth 100000 in
theorem greenscreenref11_Modify.calls (a0 : Int) (a1 : Bool) (r : Int) (w : World) (h : greenscreenref11_Modify.f a0 a1 = some r) :
    Calls Try.prog 16 #[.int .u8 a0, .bool a1] w fun e w' => e = .returned (.int .u8 r) ∧ Drawn0 w w' := by
  have H : (if a1 = true then (some ((((a0 - (Int.tmod a0 2)) % 256) + 1) % 256)) else (some ((a0 - (Int.tmod a0 2)) % 256))) = some r := h
  clear h
  by_cases c3 : a1 = true
  · subst c3
    have H1 : (some ((((a0 - (Int.tmod a0 2)) % 256) + 1) % 256)) = some r := by rw [if_pos rfl] at H; exact H
    clear H
    have H := H1
    clear H1
    obtain rfl := Option.some.inj H
    go_enter Try.func16, Try.ntmps16
    go_wp2
    go_ret
    exact ⟨by first | rfl | (simp; done) | (simp [*]; done), by repeat (first | exact Drawn0.refl _ | apply Drawn0.step)⟩
  · replace c3 := Bool.eq_false_iff.mpr c3
    subst c3
    have H1 : (some ((a0 - (Int.tmod a0 2)) % 256)) = some r := by rw [if_neg (show ¬ (false = true) by decide)] at H; exact H
    clear H
    have H := H1
    clear H1
    obtain rfl := Option.some.inj H
    go_enter Try.func16, Try.ntmps16
    go_wp2
    go_ret
    exact ⟨by first | rfl | (simp; done) | (simp [*]; done), by repeat (first | exact Drawn0.refl _ | apply Drawn0.step)⟩

/-! ### greenscreenref02_Digit: function 18 -/
def greenscreenref02_Digit.f (a0 : Int) : Option (Int) := if (Int.tmod a0 16) ≥ 1 then (if (Int.tmod a0 16) ≤ 9 then (if a0 = 33 then (if a0 = 48 then (some ((wrap64 (192 + a0)) % 256)) else (some ((wrap64 (64 + a0)) % 256))) else (some ((wrap64 (192 + a0)) % 256))) else (if a0 = 48 then (some ((wrap64 (192 + a0)) % 256)) else (some ((wrap64 (64 + a0)) % 256)))) else (if a0 = 48 then (some ((wrap64 (192 + a0)) % 256)) else (some ((wrap64 (64 + a0)) % 256)))
set_option maxHeartbeats 8000000 in
set_option maxRecDepth 100000 in
theorem greenscreenref02_Digit.calls (a0 : Int) (r : Int) (w : World) (h : greenscreenref02_Digit.f a0 = some r) :
    Calls Try.prog 18 #[.int .i64 a0] w fun e w' => e = .returned (.int .u8 r) ∧ Drawn0 w w' := by
  have H : (if (Int.tmod a0 16) ≥ 1 then (if (Int.tmod a0 16) ≤ 9 then (if a0 = 33 then (if a0 = 48 then (some ((wrap64 (192 + a0)) % 256)) else (some ((wrap64 (64 + a0)) % 256))) else (some ((wrap64 (192 + a0)) % 256))) else (if a0 = 48 then (some ((wrap64 (192 + a0)) % 256)) else (some ((wrap64 (64 + a0)) % 256)))) else (if a0 = 48 then (some ((wrap64 (192 + a0)) % 256)) else (some ((wrap64 (64 + a0)) % 256)))) = some r := h
  clear h
  by_cases c2 : (Int.tmod a0 16) ≥ 1
  · rw [if_pos c2] at H
    have c2b0 : decide (1 ≤ (Int.tmod a0 16)) = true := decide_eq_true c2
    clear c2
    by_cases c3 : (Int.tmod a0 16) ≤ 9
    · rw [if_pos c3] at H
      have c3b0 : decide ((Int.tmod a0 16) ≤ 9) = true := decide_eq_true c3
      clear c3
      by_cases c4 : a0 = 33
      · rw [if_pos c4] at H
        have c4b0 : (a0 == 33) = true := beq_iff_eq.mpr c4
        have c4b1 : (a0 != 33) = false := bne_eq_false_iff_eq.mpr c4
        clear c4
        by_cases c5 : a0 = 48
        · rw [if_pos c5] at H
          have c5b0 : (a0 == 48) = true := beq_iff_eq.mpr c5
          have c5b1 : (a0 != 48) = false := bne_eq_false_iff_eq.mpr c5
          clear c5
          obtain rfl := Option.some.inj H
          go_enter Try.func18, Try.ntmps18
          go_wp2
          go_ret
          exact ⟨by first | rfl | (simp; done) | (simp [*]; done), by repeat (first | exact Drawn0.refl _ | apply Drawn0.step)⟩
        · rw [if_neg c5] at H
          have c5b0 : (a0 == 48) = false := beq_eq_false_iff_ne.mpr c5
          have c5b1 : (a0 != 48) = true := bne_iff_ne.mpr c5
          obtain rfl := Option.some.inj H
          go_enter Try.func18, Try.ntmps18
          go_wp2
          go_ret
          exact ⟨by first | rfl | (simp; done) | (simp [*]; done), by repeat (first | exact Drawn0.refl _ | apply Drawn0.step)⟩
      · rw [if_neg c4] at H
        have c4b0 : (a0 == 33) = false := beq_eq_false_iff_ne.mpr c4
        have c4b1 : (a0 != 33) = true := bne_iff_ne.mpr c4
        obtain rfl := Option.some.inj H
        go_enter Try.func18, Try.ntmps18
        go_wp2
        go_ret
        exact ⟨by first | rfl | (simp; done) | (simp [*]; done), by repeat (first | exact Drawn0.refl _ | apply Drawn0.step)⟩
    · rw [if_neg c3] at H
      have c3b0 : decide ((Int.tmod a0 16) ≤ 9) = false := decide_eq_false c3
      clear c3
      by_cases c6 : a0 = 48
      · rw [if_pos c6] at H
        have c6b0 : (a0 == 48) = true := beq_iff_eq.mpr c6
        have c6b1 : (a0 != 48) = false := bne_eq_false_iff_eq.mpr c6
        clear c6
        obtain rfl := Option.some.inj H
        go_enter Try.func18, Try.ntmps18
        go_wp2
        go_ret
        exact ⟨by first | rfl | (simp; done) | (simp [*]; done), by repeat (first | exact Drawn0.refl _ | apply Drawn0.step)⟩
      · rw [if_neg c6] at H
        have c6b0 : (a0 == 48) = false := beq_eq_false_iff_ne.mpr c6
        have c6b1 : (a0 != 48) = true := bne_iff_ne.mpr c6
        obtain rfl := Option.some.inj H
        go_enter Try.func18, Try.ntmps18
        go_wp2
        go_ret
        exact ⟨by first | rfl | (simp; done) | (simp [*]; done), by repeat (first | exact Drawn0.refl _ | apply Drawn0.step)⟩
  · rw [if_neg c2] at H
    have c2b0 : decide (1 ≤ (Int.tmod a0 16)) = false := decide_eq_false c2
    clear c2
    by_cases c7 : a0 = 48
    · rw [if_pos c7] at H
      have c7b0 : (a0 == 48) = true := beq_iff_eq.mpr c7
      have c7b1 : (a0 != 48) = false := bne_eq_false_iff_eq.mpr c7
      clear c7
      obtain rfl := Option.some.inj H
      go_enter Try.func18, Try.ntmps18
      go_wp2
      go_ret
      exact ⟨by first | rfl | (simp; done) | (simp [*]; done), by repeat (first | exact Drawn0.refl _ | apply Drawn0.step)⟩
    · rw [if_neg c7] at H
      have c7b0 : (a0 == 48) = false := beq_eq_false_iff_ne.mpr c7
      have c7b1 : (a0 != 48) = true := bne_iff_ne.mpr c7
      obtain rfl := Option.some.inj H
      go_enter Try.func18, Try.ntmps18
      go_wp2
      go_ret
      exact ⟨by first | rfl | (simp; done) | (simp [*]; done), by repeat (first | exact Drawn0.refl _ | apply Drawn0.step)⟩

end Go.Proofs.Ythimdjdnpfaamaa.P
