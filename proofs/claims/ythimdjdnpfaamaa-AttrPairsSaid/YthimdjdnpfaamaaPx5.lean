-- Laid by program out of the translation, some functions' texts by hand (a session's own run, not print.sh's). Lean checks it.
import Derived.Test.YthimdjdnpfaamaaPx0
namespace Go.Proofs.Ythimdjdnpfaamaa.P
open Go.RowKit Go.Proofs.YthimdjdnpfaamaaW.PrintWords Go.Proofs.YthimdjdnpfaamaaW.PrintLast Go.Proofs.YthimdjdnpfaamaaW.PrintMore
attribute [local go_sem] max2_int min2_int max_two min_two max_three min_three max_four min_four   -- for this text's walks alone
set_option linter.unusedVariables false
set_option linter.unusedSimpArgs false

/-! ### greenscreenref11_Dress: function 25 -/
mutual
def greenscreenref11_Dress.l0 : Nat → List (S36) → Int → Int → Bool → Bool → Int → Int → Option (Int × Bool × Bool × Int × Int)
  | 0, _, _, _, _, _, _, _ => none
  | k + 1, x1, x5, x174000, x174001, x174002, x174003, x174004 => if x5 < (x1.length : Int) then (if 0 ≤ x5 then (if ((rd_T36 x1 x5).f0) = 192 then (greenscreenref11_Dress.j1 k x1 x5 (Int.tmod ((rd_T36 x1 x5).f1) 64) x174001 x174002 x174003 x174004) else (greenscreenref11_Dress.j1 k x1 x5 x174000 x174001 x174002 x174003 x174004)) else (none)) else (some (x174000, x174001, x174002, x174003, x174004))
def greenscreenref11_Dress.j1 : Nat → List (S36) → Int → Int → Bool → Bool → Int → Int → Option (Int × Bool × Bool × Int × Int)
  | 0, _, _, _, _, _, _, _ => none
  | k + 1, x1, x5, x174000, x174001, x174002, x174003, x174004 => if 0 ≤ x5 then (if x5 < (x1.length : Int) then (if ((rd_T36 x1 x5).f0) = 65 then (greenscreenref11_Dress.j2 k x1 x5 x174000 x174001 x174002 ((rd_T36 x1 x5).f1) x174004) else (greenscreenref11_Dress.j2 k x1 x5 x174000 x174001 x174002 x174003 x174004)) else (none)) else (none)
def greenscreenref11_Dress.j2 : Nat → List (S36) → Int → Int → Bool → Bool → Int → Int → Option (Int × Bool × Bool × Int × Int)
  | 0, _, _, _, _, _, _, _ => none
  | k + 1, x1, x5, x174000, x174001, x174002, x174003, x174004 => if 0 ≤ x5 then (if x5 < (x1.length : Int) then (if ((rd_T36 x1 x5).f0) = 66 then (if ((rd_T36 x1 x5).f0) = 0 then (greenscreenref11_Dress.l0 k x1 (wrap64 (x5 + 1)) x174000 x174001 x174002 0 0) else (greenscreenref11_Dress.l0 k x1 (wrap64 (x5 + 1)) x174000 x174001 x174002 x174003 ((rd_T36 x1 x5).f1))) else (if ((rd_T36 x1 x5).f0) = 0 then (greenscreenref11_Dress.l0 k x1 (wrap64 (x5 + 1)) x174000 x174001 x174002 0 0) else (greenscreenref11_Dress.l0 k x1 (wrap64 (x5 + 1)) x174000 x174001 x174002 x174003 x174004))) else (none)) else (none)
end
def greenscreenref11_Dress.f (k : Nat) (a0_0 : Int) (a0_1 : Bool) (a0_2 : Bool) (a0_3 : Int) (a0_4 : Int) (l1 : List (S36)) : Option (Int × Bool × Bool × Int × Int) := greenscreenref11_Dress.l0 k l1 0 a0_0 a0_1 a0_2 a0_3 a0_4
theorem greenscreenref11_Dress.mono_l : ∀ k, (∀ y0 y1 y2 y3 y4 y5 y6, LeO (greenscreenref11_Dress.l0 k y0 y1 y2 y3 y4 y5 y6) (greenscreenref11_Dress.l0 (k + 1) y0 y1 y2 y3 y4 y5 y6)) ∧ (∀ y0 y1 y2 y3 y4 y5 y6, LeO (greenscreenref11_Dress.j1 k y0 y1 y2 y3 y4 y5 y6) (greenscreenref11_Dress.j1 (k + 1) y0 y1 y2 y3 y4 y5 y6)) ∧ (∀ y0 y1 y2 y3 y4 y5 y6, LeO (greenscreenref11_Dress.j2 k y0 y1 y2 y3 y4 y5 y6) (greenscreenref11_Dress.j2 (k + 1) y0 y1 y2 y3 y4 y5 y6))
  | 0 => ⟨fun _ _ _ _ _ _ _ r h => by simp [greenscreenref11_Dress.l0] at h, fun _ _ _ _ _ _ _ r h => by simp [greenscreenref11_Dress.j1] at h, fun _ _ _ _ _ _ _ r h => by simp [greenscreenref11_Dress.j2] at h⟩
  | k + 1 => by
    obtain ⟨ih0, ih1, ih2⟩ := greenscreenref11_Dress.mono_l k
    refine ⟨?_, ?_, ?_⟩
    · intro y0 y1 y2 y3 y4 y5 y6
      unfold greenscreenref11_Dress.l0
      repeat' first
      | (with_reducible exact ih0 _ _ _ _ _ _ _)
      | (with_reducible exact ih1 _ _ _ _ _ _ _)
      | (with_reducible exact ih2 _ _ _ _ _ _ _)
      | (with_reducible exact LeO.refl _)
      | (with_reducible exact LeO.none _)
      | (with_reducible refine LeO.ite ?_ ?_)
      | (with_reducible refine LeO.bind ?_ (fun _ => ?_))
      | exact ih0 _ _ _ _ _ _ _
      | exact ih1 _ _ _ _ _ _ _
      | exact ih2 _ _ _ _ _ _ _
      | exact LeO.none _
      | refine LeO.ite ?_ ?_
      | refine LeO.bind ?_ (fun _ => ?_)
    · intro y0 y1 y2 y3 y4 y5 y6
      unfold greenscreenref11_Dress.j1
      repeat' first
      | (with_reducible exact ih0 _ _ _ _ _ _ _)
      | (with_reducible exact ih1 _ _ _ _ _ _ _)
      | (with_reducible exact ih2 _ _ _ _ _ _ _)
      | (with_reducible exact LeO.refl _)
      | (with_reducible exact LeO.none _)
      | (with_reducible refine LeO.ite ?_ ?_)
      | (with_reducible refine LeO.bind ?_ (fun _ => ?_))
      | exact ih0 _ _ _ _ _ _ _
      | exact ih1 _ _ _ _ _ _ _
      | exact ih2 _ _ _ _ _ _ _
      | exact LeO.none _
      | refine LeO.ite ?_ ?_
      | refine LeO.bind ?_ (fun _ => ?_)
    · intro y0 y1 y2 y3 y4 y5 y6
      unfold greenscreenref11_Dress.j2
      repeat' first
      | (with_reducible exact ih0 _ _ _ _ _ _ _)
      | (with_reducible exact ih1 _ _ _ _ _ _ _)
      | (with_reducible exact ih2 _ _ _ _ _ _ _)
      | (with_reducible exact LeO.refl _)
      | (with_reducible exact LeO.none _)
      | (with_reducible refine LeO.ite ?_ ?_)
      | (with_reducible refine LeO.bind ?_ (fun _ => ?_))
      | exact ih0 _ _ _ _ _ _ _
      | exact ih1 _ _ _ _ _ _ _
      | exact ih2 _ _ _ _ _ _ _
      | exact LeO.none _
      | refine LeO.ite ?_ ?_
      | refine LeO.bind ?_ (fun _ => ?_)
theorem greenscreenref11_Dress.mono : ∀ a0 a1 a2 a3 a4 a5 k, LeO (greenscreenref11_Dress.f k a0 a1 a2 a3 a4 a5) (greenscreenref11_Dress.f (k + 1) a0 a1 a2 a3 a4 a5) := by
  intro a0 a1 a2 a3 a4 a5 k
  obtain ⟨ih0, ih1, ih2⟩ := greenscreenref11_Dress.mono_l k
  unfold greenscreenref11_Dress.f
  repeat' first
      | (with_reducible exact ih0 _ _ _ _ _ _ _)
      | (with_reducible exact ih1 _ _ _ _ _ _ _)
      | (with_reducible exact ih2 _ _ _ _ _ _ _)
      | (with_reducible exact LeO.refl _)
      | (with_reducible exact LeO.none _)
      | (with_reducible refine LeO.ite ?_ ?_)
      | (with_reducible refine LeO.bind ?_ (fun _ => ?_))
      | exact ih0 _ _ _ _ _ _ _
      | exact ih1 _ _ _ _ _ _ _
      | exact ih2 _ _ _ _ _ _ _
      | exact LeO.none _
      | refine LeO.ite ?_ ?_
      | refine LeO.bind ?_ (fun _ => ?_)
set_option maxHeartbeats 8000000 in
set_option maxRecDepth 100000 in
theorem greenscreenref11_Dress.calls (k : Nat) (a0_0 : Int) (a0_1 : Bool) (a0_2 : Bool) (a0_3 : Int) (a0_4 : Int) (A1 : Option Addr) (c1 : Nat) (l1 : List (S36)) (r1 : Int) (r2 : Bool) (r3 : Bool) (r4 : Int) (r5 : Int) (w : World) (hr1 : Kd.C k36 w A1 l1.length l1) (hc1 : l1.length ≤ c1) (h : greenscreenref11_Dress.f k a0_0 a0_1 a0_2 a0_3 a0_4 l1 = some (r1, r2, r3, r4, r5)) :
    Calls Try.prog 25 #[.agg #[.int .u8 a0_0, .bool a0_1, .bool a0_2, .int .u8 a0_3, .int .u8 a0_4], .slice A1 l1.length c1] w fun e w' => e = .returned (.agg #[.int .u8 r1, .bool r2, .bool r3, .int .u8 r4, .int .u8 r5]) ∧ Below w.heap.size w w' := by
  have hu33 := Try.underlying33
  have HR1 := Aside0.mk hr1
  have HC1 := Aside0.mk hc1
  clear hr1 hc1
  have HB := Aside0.mk (Below.refl w.heap.size w)
  have H : (greenscreenref11_Dress.l0 k l1 0 a0_0 a0_1 a0_2 a0_3 a0_4) = some (r1, r2, r3, r4, r5) := h
  clear h
  have H' := Aside0.mk H
  clear H
  go_enter Try.func25, Try.ntmps25
  go_wp2_with (first | ((with_reducible refine gate_dst (N := 2) rfl ?_); refine box_event ?hg (N := 2) ?hd (cs := #[.int .u8 a0_0, .bool a0_1, .bool a0_2, .int .u8 a0_3, .int .u8 a0_4]) (t := 33) ?hr ?_; (case hd => rfl); (case hg => rfl); (case hr => first | (go_simp; done) | (go_simp; rfl)); intro gb173 hg w3 hbox hb; have n0_ := Aside0.mk (below_step (by repeat (first | (with_reducible first | exact HB.out | apply below_alloc | apply pw_below_drewN | apply below_drew1) | exact HB.out)) hb); have n1_ := Aside0.mk (hbox); have n2_ := Aside0.mk ((by rw [hg]; exact (below_size (by repeat (first | (with_reducible first | exact HB.out | apply below_alloc | apply pw_below_drewN | apply below_drew1) | exact HB.out))) : w.heap.size ≤ gb173)); have n3_ := Aside0.mk ((by rw [hg]; exact (below_size (by repeat (first | (with_reducible first | exact HB.out | apply below_alloc | apply pw_below_drewN | apply below_drew1) | exact HB.out))) : w.heap.size ≤ gb173)); clear HB; have HB := n0_; have BK173 := n1_; have GW173 := n2_; have GE173 := n3_; clear n0_ n1_ n2_ n3_; clear hb hbox hg) | ((with_reducible refine gate_dst (N := 4) rfl ?_); refine box_event ?hg (N := 4) ?hd (cs := #[.int .u8 0, .bool false, .bool false, .int .u8 0, .int .u8 0]) (t := 33) ?hr ?_; (case hd => rfl); (case hg => rfl); (case hr => first | (go_simp; done) | (go_simp; rfl)); intro gb174 hg w4 hbox hb; have n0_ := Aside0.mk (blk_below (g := gb173) (o := .cells #[.int .u8 a0_0, .bool a0_1, .bool a0_2, .int .u8 a0_3, .int .u8 a0_4] 33 (0, 0)) (by (with_reducible repeat (first | refine blk_drewN ?_ _ | refine blk_drew ?_ | refine blk_alloc ?_ _)); exact BK173.out) hb); have n1_ := Aside0.mk (below_step (by repeat (first | (with_reducible first | exact HB.out | apply below_alloc | apply pw_below_drewN | apply below_drew1 | refine below_set ?_ GE173.out) | exact HB.out)) hb); have n2_ := Aside0.mk (hbox); have n3_ := Aside0.mk ((by rw [hg]; exact (below_size (by repeat (first | (with_reducible first | exact HB.out | apply below_alloc | apply pw_below_drewN | apply below_drew1 | refine below_set ?_ GE173.out) | exact HB.out))) : w.heap.size ≤ gb174)); have n4_ := Aside0.mk ((by rw [hg]; exact (below_size (by repeat (first | (with_reducible first | exact HB.out | apply below_alloc | apply pw_below_drewN | apply below_drew1 | refine below_set ?_ GE173.out) | exact HB.out))) : w.heap.size ≤ gb174)); have n5_ := Aside0.mk ((by rw [hg]; exact Nat.ne_of_lt (blk_lt (g := gb173) (o := .cells #[.int .u8 a0_0, .bool a0_1, .bool a0_2, .int .u8 a0_3, .int .u8 a0_4] 33 (0, 0)) (by (with_reducible repeat (first | refine blk_drewN ?_ _ | refine blk_drew ?_ | refine blk_alloc ?_ _)); exact BK173.out)) : gb173 ≠ gb174)); have n6_ := Aside0.mk ((by rw [hg]; exact Nat.ne_of_gt (blk_lt (g := gb173) (o := .cells #[.int .u8 a0_0, .bool a0_1, .bool a0_2, .int .u8 a0_3, .int .u8 a0_4] 33 (0, 0)) (by (with_reducible repeat (first | refine blk_drewN ?_ _ | refine blk_drew ?_ | refine blk_alloc ?_ _)); exact BK173.out)) : gb174 ≠ gb173)); clear BK173; clear HB; have BK173 := n0_; have HB := n1_; have BK174 := n2_; have GW174 := n3_; have GE174 := n4_; have NB173_174 := n5_; have NB174_173 := n6_; clear n0_ n1_ n2_ n3_ n4_ n5_ n6_; clear hb hbox hg))
  go_loopg [5] k (fun kq v5 w' => ∃ (x5_1 : Int) (x174000_1 : Int) (x174003_1 : Int) (x174004_1 : Int), v5 = .int .i64 x5_1 ∧ Aside0 (greenscreenref11_Dress.l0 kq l1 x5_1 x174000_1 a0_1 a0_2 x174003_1 x174004_1 = some (r1, r2, r3, r4, r5)) ∧ Aside0 (kq ≤ k) ∧ Aside0 (w'.heap[gb173]? = some (.cells #[.int .u8 x174000_1, .bool a0_1, .bool a0_2, .int .u8 x174003_1, .int .u8 x174004_1] 33 (0, 0))) ∧ Aside0 (w'.heap[gb174]? = some (.cells #[.int .u8 0, .bool false, .bool false, .int .u8 0, .int .u8 0] 33 (0, 0))) ∧ Aside0 (Below w.heap.size w w'))
  case atStart => exact ⟨(0), (a0_0), (a0_3), (a0_4), (by first | rfl | (simp; done) | (simp [*]; done)), H', ⟨Nat.le_refl _⟩, ⟨by (with_reducible repeat (first | refine blk_drewN ?_ _ | refine blk_drew ?_ | refine blk_alloc ?_ _)); exact BK173.out⟩, ⟨by (with_reducible repeat (first | refine blk_drewN ?_ _ | refine blk_drew ?_ | refine blk_alloc ?_ _)); exact BK174.out⟩, ⟨by repeat (first | (with_reducible first | exact HB.out | apply below_alloc | apply pw_below_drewN | apply below_drew1 | refine below_set ?_ GE173.out | refine below_set ?_ GE174.out) | exact HB.out)⟩⟩
  case round =>
    clear H'
    try clear c1
    try clear c2
    try clear p2
    obtain ⟨x5_1, x174000_1, x174003_1, x174004_1, rfl, HA, HK1, BK173, BK174, HB⟩ := hrel
    cases gk with
    | zero => exact absurd HA.out (by simp [greenscreenref11_Dress.l0])
    | succ k1 =>
      have H := HA.out
      clear HA
      simp only [greenscreenref11_Dress.l0] at H
      by_cases c5 : x5_1 < (l1.length : Int)
      · rw [if_pos c5] at H
        have c5b0 : decide (x5_1 < (l1.length : Int)) = true := decide_eq_true c5
        clear c5
        by_cases c6 : 0 ≤ x5_1
        · rw [if_pos c6] at H
          have c6b0 : decide (0 ≤ x5_1) = true := decide_eq_true c6
          clear c6
          have HC7 := Aside0.mk H
          clear H
          have p175 : 0 ≤ (x5_1 : Int) := of_decide_eq_true (by first | (with_reducible assumption) | assumption)
          have q175 : x5_1 < (l1.length : Int) := of_decide_eq_true (by first | (with_reducible assumption) | assumption)
          obtain ⟨ad175, e175, hx175_0, hx175_1⟩ := at_T36 HR1.out x5_1 p175 q175
          cases e175
          replace hx175_0 := (HB.out.cell (World.block_lt_of_cell? w _ hx175_0)).trans hx175_0
          replace hx175_1 := (HB.out.cell (World.block_lt_of_cell? w _ hx175_1)).trans hx175_1
          replace p175 := eq_true p175
          replace q175 := eq_true q175
          go_upto_if 17 with (fail)
          go_cut [] (fun wc => ∃ (kq : Nat) (x174000_6 : Int), Aside0 (greenscreenref11_Dress.j1 kq l1 x5_1 x174000_6 a0_1 a0_2 x174003_1 x174004_1 = some (r1, r2, r3, r4, r5)) ∧ Aside0 (kq ≤ k1) ∧ Aside0 (wc.heap[gb173]? = some (.cells #[.int .u8 x174000_6, .bool a0_1, .bool a0_2, .int .u8 x174003_1, .int .u8 x174004_1] 33 (0, 0))) ∧ Aside0 (wc.heap[gb174]? = some (.cells #[.int .u8 0, .bool false, .bool false, .int .u8 0, .int .u8 0] 33 (0, 0))) ∧ Aside0 (Below w.heap.size w wc))
          case first =>
            have H := HC7.out
            clear HC7
            by_cases c8 : ((rd_T36 l1 x5_1).f0) = 192
            · rw [if_pos c8] at H
              have c8b0 : (((rd_T36 l1 x5_1).f0) == 192) = true := beq_iff_eq.mpr c8
              have c8b1 : (((rd_T36 l1 x5_1).f0) != 192) = false := bne_eq_false_iff_eq.mpr c8
              clear c8
              (first | rw [c8b0] | (simp only [i64_w, i32_w]; rw [c8b0]) | skip)
              have H' := Aside0.mk H
              clear H
              have p176 : 0 ≤ (x5_1 : Int) := of_decide_eq_true (by first | (with_reducible assumption) | assumption)
              have q176 : x5_1 < (l1.length : Int) := of_decide_eq_true (by first | (with_reducible assumption) | assumption)
              obtain ⟨ad176, e176, hx176_0, hx176_1⟩ := at_T36 HR1.out x5_1 p176 q176
              obtain rfl : ad175 = ad176 := (by injection e176)
              replace hx176_0 := (HB.out.cell (World.block_lt_of_cell? w _ hx176_0)).trans hx176_0
              replace hx176_1 := (HB.out.cell (World.block_lt_of_cell? w _ hx176_1)).trans hx176_1
              replace p176 := eq_true p176
              replace q176 := eq_true q176
              have hnb9 := NB173_174.out
              have hnc9 := NB174_173.out
              have hcz10_0 : wr.cell? ⟨gb173, 0, none⟩ = some (.int .u8 x174000_1) := (blk_cell BK173.out 0).trans rfl
              have hcz10_1 : wr.cell? ⟨gb173, 1, none⟩ = some (.bool a0_1) := (blk_cell BK173.out 1).trans rfl
              have hcz10_2 : wr.cell? ⟨gb173, 2, none⟩ = some (.bool a0_2) := (blk_cell BK173.out 2).trans rfl
              have hcz10_3 : wr.cell? ⟨gb173, 3, none⟩ = some (.int .u8 x174003_1) := (blk_cell BK173.out 3).trans rfl
              have hcz10_4 : wr.cell? ⟨gb173, 4, none⟩ = some (.int .u8 x174004_1) := (blk_cell BK173.out 4).trans rfl
              have hfz10_0 := blk_frozen BK173.out 0
              have hfz10_1 := blk_frozen BK173.out 1
              have hfz10_2 := blk_frozen BK173.out 2
              have hfz10_3 := blk_frozen BK173.out 3
              have hfz10_4 := blk_frozen BK173.out 4
              go_wp2
              go_meet
              case rel => exact ⟨_, (Int.tmod ((rd_T36 l1 x5_1).f1) 64), H', ⟨by have := HK1.out; first | omega | exact Nat.le_refl _⟩, ⟨by (with_reducible repeat (first | refine blk_drewN ?_ _ | refine blk_drew ?_ | refine blk_alloc ?_ _)); refine blk_put (cs := #[.int .u8 x174000_1, .bool a0_1, .bool a0_2, .int .u8 x174003_1, .int .u8 x174004_1]) ?_ 0 _ rfl; (with_reducible repeat (first | refine blk_drewN ?_ _ | refine blk_drew ?_ | refine blk_alloc ?_ _)); exact BK173.out⟩, ⟨by (with_reducible repeat (first | refine blk_drewN ?_ _ | refine blk_drew ?_ | refine blk_alloc ?_ _)); refine blk_far ?_ NB174_173.out _; (with_reducible repeat (first | refine blk_drewN ?_ _ | refine blk_drew ?_ | refine blk_alloc ?_ _)); exact BK174.out⟩, ⟨by repeat (first | (with_reducible first | exact HB.out | apply below_alloc | apply pw_below_drewN | apply below_drew1 | refine below_set ?_ GE173.out | refine below_set ?_ GE174.out) | exact HB.out)⟩⟩
            · rw [if_neg c8] at H
              have c8b0 : (((rd_T36 l1 x5_1).f0) == 192) = false := beq_eq_false_iff_ne.mpr c8
              have c8b1 : (((rd_T36 l1 x5_1).f0) != 192) = true := bne_iff_ne.mpr c8
              (first | rw [c8b0] | (simp only [i64_w, i32_w]; rw [c8b0]) | skip)
              have H' := Aside0.mk H
              clear H
              go_wp2
              go_meet
              case rel => exact ⟨_, (x174000_1), H', ⟨by have := HK1.out; first | omega | exact Nat.le_refl _⟩, ⟨by (with_reducible repeat (first | refine blk_drewN ?_ _ | refine blk_drew ?_ | refine blk_alloc ?_ _)); exact BK173.out⟩, ⟨by (with_reducible repeat (first | refine blk_drewN ?_ _ | refine blk_drew ?_ | refine blk_alloc ?_ _)); exact BK174.out⟩, ⟨by repeat (first | (with_reducible first | exact HB.out | apply below_alloc | apply pw_below_drewN | apply below_drew1 | refine below_set ?_ GE173.out | refine below_set ?_ GE174.out) | exact HB.out)⟩⟩
          case rest =>
            clear HC7
            try clear c1
            try clear p1
            try clear q1
            try clear hx1
            try clear c2
            try clear p2
            try clear c5
            try clear c5b0
            try clear c6
            try clear c6b0
            try clear c8
            try clear c8b0
            try clear c8b1
            try clear c9
            try clear hcz10_0
            try clear hcz10_1
            try clear hcz10_2
            try clear hcz10_3
            try clear hcz10_4
            try clear hfz10_0
            try clear hfz10_1
            try clear hfz10_2
            try clear hfz10_3
            try clear hfz10_4
            try clear hx175_0
            try clear hx175_1
            try clear hx176_0
            try clear hx176_1
            try clear p175
            try clear p176
            try clear p2
            try clear q175
            try clear q176
            obtain ⟨kq, x174000_6, HA, HJ6, BK173, BK174, HB⟩ := hcut
            cases kq with
            | zero => exact absurd HA.out (by simp [greenscreenref11_Dress.j1])
            | succ kj6 =>
              have H := HA.out
              clear HA
              simp only [greenscreenref11_Dress.j1] at H
              by_cases c11 : 0 ≤ x5_1
              · rw [if_pos c11] at H
                have c11b0 : decide (0 ≤ x5_1) = true := decide_eq_true c11
                clear c11
                by_cases c12 : x5_1 < (l1.length : Int)
                · rw [if_pos c12] at H
                  have c12b0 : decide (x5_1 < (l1.length : Int)) = true := decide_eq_true c12
                  clear c12
                  have HC13 := Aside0.mk H
                  clear H
                  have p177 : 0 ≤ (x5_1 : Int) := of_decide_eq_true (by first | (with_reducible assumption) | assumption)
                  have q177 : x5_1 < (l1.length : Int) := of_decide_eq_true (by first | (with_reducible assumption) | assumption)
                  obtain ⟨ad177, e177, hx177_0, hx177_1⟩ := at_T36 HR1.out x5_1 p177 q177
                  obtain rfl : ad175 = ad177 := (by injection e177)
                  replace hx177_0 := (HB.out.cell (World.block_lt_of_cell? w _ hx177_0)).trans hx177_0
                  replace hx177_1 := (HB.out.cell (World.block_lt_of_cell? w _ hx177_1)).trans hx177_1
                  replace p177 := eq_true p177
                  replace q177 := eq_true q177
                  go_upto_if 30 with (fail)
                  go_cut [] (fun wc => ∃ (kq : Nat) (x174003_12 : Int), Aside0 (greenscreenref11_Dress.j2 kq l1 x5_1 x174000_6 a0_1 a0_2 x174003_12 x174004_1 = some (r1, r2, r3, r4, r5)) ∧ Aside0 (kq ≤ kj6) ∧ Aside0 (wc.heap[gb173]? = some (.cells #[.int .u8 x174000_6, .bool a0_1, .bool a0_2, .int .u8 x174003_12, .int .u8 x174004_1] 33 (0, 0))) ∧ Aside0 (wc.heap[gb174]? = some (.cells #[.int .u8 0, .bool false, .bool false, .int .u8 0, .int .u8 0] 33 (0, 0))) ∧ Aside0 (Below w.heap.size w wc))
                  case first =>
                    have H := HC13.out
                    clear HC13
                    by_cases c14 : ((rd_T36 l1 x5_1).f0) = 65
                    · rw [if_pos c14] at H
                      have c14b0 : (((rd_T36 l1 x5_1).f0) == 65) = true := beq_iff_eq.mpr c14
                      have c14b1 : (((rd_T36 l1 x5_1).f0) != 65) = false := bne_eq_false_iff_eq.mpr c14
                      clear c14
                      (first | rw [c14b0] | (simp only [i64_w, i32_w]; rw [c14b0]) | skip)
                      have H' := Aside0.mk H
                      clear H
                      have p178 : 0 ≤ (x5_1 : Int) := of_decide_eq_true (by first | (with_reducible assumption) | assumption)
                      have q178 : x5_1 < (l1.length : Int) := of_decide_eq_true (by first | (with_reducible assumption) | assumption)
                      obtain ⟨ad178, e178, hx178_0, hx178_1⟩ := at_T36 HR1.out x5_1 p178 q178
                      obtain rfl : ad175 = ad178 := (by injection e178)
                      replace hx178_0 := (HB.out.cell (World.block_lt_of_cell? w _ hx178_0)).trans hx178_0
                      replace hx178_1 := (HB.out.cell (World.block_lt_of_cell? w _ hx178_1)).trans hx178_1
                      replace p178 := eq_true p178
                      replace q178 := eq_true q178
                      have hnb15 := NB173_174.out
                      have hnc15 := NB174_173.out
                      have hcz16_0 : wc.cell? ⟨gb173, 0, none⟩ = some (.int .u8 x174000_6) := (blk_cell BK173.out 0).trans rfl
                      have hcz16_1 : wc.cell? ⟨gb173, 1, none⟩ = some (.bool a0_1) := (blk_cell BK173.out 1).trans rfl
                      have hcz16_2 : wc.cell? ⟨gb173, 2, none⟩ = some (.bool a0_2) := (blk_cell BK173.out 2).trans rfl
                      have hcz16_3 : wc.cell? ⟨gb173, 3, none⟩ = some (.int .u8 x174003_1) := (blk_cell BK173.out 3).trans rfl
                      have hcz16_4 : wc.cell? ⟨gb173, 4, none⟩ = some (.int .u8 x174004_1) := (blk_cell BK173.out 4).trans rfl
                      have hfz16_0 := blk_frozen BK173.out 0
                      have hfz16_1 := blk_frozen BK173.out 1
                      have hfz16_2 := blk_frozen BK173.out 2
                      have hfz16_3 := blk_frozen BK173.out 3
                      have hfz16_4 := blk_frozen BK173.out 4
                      go_wp2
                      go_meet
                      case rel => exact ⟨_, ((rd_T36 l1 x5_1).f1), H', ⟨by have := HK1.out; have := HJ6.out; first | omega | exact Nat.le_refl _⟩, ⟨by (with_reducible repeat (first | refine blk_drewN ?_ _ | refine blk_drew ?_ | refine blk_alloc ?_ _)); refine blk_put (cs := #[.int .u8 x174000_6, .bool a0_1, .bool a0_2, .int .u8 x174003_1, .int .u8 x174004_1]) ?_ 3 _ rfl; (with_reducible repeat (first | refine blk_drewN ?_ _ | refine blk_drew ?_ | refine blk_alloc ?_ _)); exact BK173.out⟩, ⟨by (with_reducible repeat (first | refine blk_drewN ?_ _ | refine blk_drew ?_ | refine blk_alloc ?_ _)); refine blk_far ?_ NB174_173.out _; (with_reducible repeat (first | refine blk_drewN ?_ _ | refine blk_drew ?_ | refine blk_alloc ?_ _)); exact BK174.out⟩, ⟨by repeat (first | (with_reducible first | exact HB.out | apply below_alloc | apply pw_below_drewN | apply below_drew1 | refine below_set ?_ GE173.out | refine below_set ?_ GE174.out) | exact HB.out)⟩⟩
                    · rw [if_neg c14] at H
                      have c14b0 : (((rd_T36 l1 x5_1).f0) == 65) = false := beq_eq_false_iff_ne.mpr c14
                      have c14b1 : (((rd_T36 l1 x5_1).f0) != 65) = true := bne_iff_ne.mpr c14
                      (first | rw [c14b0] | (simp only [i64_w, i32_w]; rw [c14b0]) | skip)
                      have H' := Aside0.mk H
                      clear H
                      go_wp2
                      go_meet
                      case rel => exact ⟨_, (x174003_1), H', ⟨by have := HK1.out; have := HJ6.out; first | omega | exact Nat.le_refl _⟩, ⟨by (with_reducible repeat (first | refine blk_drewN ?_ _ | refine blk_drew ?_ | refine blk_alloc ?_ _)); exact BK173.out⟩, ⟨by (with_reducible repeat (first | refine blk_drewN ?_ _ | refine blk_drew ?_ | refine blk_alloc ?_ _)); exact BK174.out⟩, ⟨by repeat (first | (with_reducible first | exact HB.out | apply below_alloc | apply pw_below_drewN | apply below_drew1 | refine below_set ?_ GE173.out | refine below_set ?_ GE174.out) | exact HB.out)⟩⟩
                  case rest =>
                    clear HC13
                    try clear c1
                    try clear p1
                    try clear q1
                    try clear hx1
                    try clear c2
                    try clear p2
                    try clear c5
                    try clear c5b0
                    try clear c6
                    try clear c6b0
                    try clear c8
                    try clear c8b0
                    try clear c8b1
                    try clear c9
                    try clear c11
                    try clear c11b0
                    try clear c12
                    try clear c12b0
                    try clear c14
                    try clear c14b0
                    try clear c14b1
                    try clear c15
                    try clear hcz10_0
                    try clear hcz10_1
                    try clear hcz10_2
                    try clear hcz10_3
                    try clear hcz10_4
                    try clear hcz16_0
                    try clear hcz16_1
                    try clear hcz16_2
                    try clear hcz16_3
                    try clear hcz16_4
                    try clear hfz10_0
                    try clear hfz10_1
                    try clear hfz10_2
                    try clear hfz10_3
                    try clear hfz10_4
                    try clear hfz16_0
                    try clear hfz16_1
                    try clear hfz16_2
                    try clear hfz16_3
                    try clear hfz16_4
                    try clear hx175_0
                    try clear hx175_1
                    try clear hx176_0
                    try clear hx176_1
                    try clear hx177_0
                    try clear hx177_1
                    try clear hx178_0
                    try clear hx178_1
                    try clear p1
                    try clear p175
                    try clear p176
                    try clear p177
                    try clear p178
                    try clear p2
                    try clear q1
                    try clear q175
                    try clear q176
                    try clear q177
                    try clear q178
                    obtain ⟨kq, x174003_12, HA, HJ12, BK173, BK174, HB⟩ := hcut
                    cases kq with
                    | zero => exact absurd HA.out (by simp [greenscreenref11_Dress.j2])
                    | succ kj12 =>
                      have H := HA.out
                      clear HA
                      simp only [greenscreenref11_Dress.j2] at H
                      by_cases c17 : 0 ≤ x5_1
                      · rw [if_pos c17] at H
                        have c17b0 : decide (0 ≤ x5_1) = true := decide_eq_true c17
                        clear c17
                        by_cases c18 : x5_1 < (l1.length : Int)
                        · rw [if_pos c18] at H
                          have c18b0 : decide (x5_1 < (l1.length : Int)) = true := decide_eq_true c18
                          clear c18
                          by_cases c19 : ((rd_T36 l1 x5_1).f0) = 66
                          · rw [if_pos c19] at H
                            have c19b0 : (((rd_T36 l1 x5_1).f0) == 66) = true := beq_iff_eq.mpr c19
                            have c19b1 : (((rd_T36 l1 x5_1).f0) != 66) = false := bne_eq_false_iff_eq.mpr c19
                            clear c19
                            by_cases c20 : ((rd_T36 l1 x5_1).f0) = 0
                            · rw [if_pos c20] at H
                              have c20b0 : (((rd_T36 l1 x5_1).f0) == 0) = true := beq_iff_eq.mpr c20
                              have c20b1 : (((rd_T36 l1 x5_1).f0) != 0) = false := bne_eq_false_iff_eq.mpr c20
                              clear c20
                              have H' := Aside0.mk H
                              clear H
                              have p179 : 0 ≤ (x5_1 : Int) := of_decide_eq_true (by first | (with_reducible assumption) | assumption)
                              have q179 : x5_1 < (l1.length : Int) := of_decide_eq_true (by first | (with_reducible assumption) | assumption)
                              obtain ⟨ad179, e179, hx179_0, hx179_1⟩ := at_T36 HR1.out x5_1 p179 q179
                              obtain rfl : ad175 = ad179 := (by injection e179)
                              replace hx179_0 := (HB.out.cell (World.block_lt_of_cell? w _ hx179_0)).trans hx179_0
                              replace hx179_1 := (HB.out.cell (World.block_lt_of_cell? w _ hx179_1)).trans hx179_1
                              replace p179 := eq_true p179
                              replace q179 := eq_true q179
                              have p180 : 0 ≤ (x5_1 : Int) := of_decide_eq_true (by first | (with_reducible assumption) | assumption)
                              have q180 : x5_1 < (l1.length : Int) := of_decide_eq_true (by first | (with_reducible assumption) | assumption)
                              obtain ⟨ad180, e180, hx180_0, hx180_1⟩ := at_T36 HR1.out x5_1 p180 q180
                              obtain rfl : ad175 = ad180 := (by injection e180)
                              replace hx180_0 := (HB.out.cell (World.block_lt_of_cell? w _ hx180_0)).trans hx180_0
                              replace hx180_1 := (HB.out.cell (World.block_lt_of_cell? w _ hx180_1)).trans hx180_1
                              replace p180 := eq_true p180
                              replace q180 := eq_true q180
                              have hnb21 := NB173_174.out
                              have hnc21 := NB174_173.out
                              have hcz22_0 : wc.cell? ⟨gb173, 0, none⟩ = some (.int .u8 x174000_6) := (blk_cell BK173.out 0).trans rfl
                              have hcz22_1 : wc.cell? ⟨gb173, 1, none⟩ = some (.bool a0_1) := (blk_cell BK173.out 1).trans rfl
                              have hcz22_2 : wc.cell? ⟨gb173, 2, none⟩ = some (.bool a0_2) := (blk_cell BK173.out 2).trans rfl
                              have hcz22_3 : wc.cell? ⟨gb173, 3, none⟩ = some (.int .u8 x174003_12) := (blk_cell BK173.out 3).trans rfl
                              have hcz22_4 : wc.cell? ⟨gb173, 4, none⟩ = some (.int .u8 x174004_1) := (blk_cell BK173.out 4).trans rfl
                              have hfz22_0 := blk_frozen BK173.out 0
                              have hfz22_1 := blk_frozen BK173.out 1
                              have hfz22_2 := blk_frozen BK173.out 2
                              have hfz22_3 := blk_frozen BK173.out 3
                              have hfz22_4 := blk_frozen BK173.out 4
                              have p181 : 0 ≤ (x5_1 : Int) := of_decide_eq_true (by first | (with_reducible assumption) | assumption)
                              have q181 : x5_1 < (l1.length : Int) := of_decide_eq_true (by first | (with_reducible assumption) | assumption)
                              obtain ⟨ad181, e181, hx181_0, hx181_1⟩ := at_T36 HR1.out x5_1 p181 q181
                              obtain rfl : ad175 = ad181 := (by injection e181)
                              have hn181_0 : ad175.block ≠ gb173 := Nat.ne_of_lt (Nat.lt_of_lt_of_le (by have := World.block_lt_of_cell? _ _ hx181_0; first | rwa [add_block] at this | exact this) GW173.out)
                              replace hx181_0 := (HB.out.cell (World.block_lt_of_cell? w _ hx181_0)).trans hx181_0
                              replace hx181_1 := (HB.out.cell (World.block_lt_of_cell? w _ hx181_1)).trans hx181_1
                              replace hx181_0 := (cell_far (p := ⟨gb173, 4, none⟩) (by first | (rw [add_block]; exact hn181_0) | (show (Addr.add _ _).block ≠ _; rw [add_block]; exact hn181_0) | exact hn181_0) (.int .u8 ((rd_T36 l1 x5_1).f1))).trans hx181_0
                              replace hx181_1 := (cell_far (p := ⟨gb173, 4, none⟩) (by first | (rw [add_block]; exact hn181_0) | (show (Addr.add _ _).block ≠ _; rw [add_block]; exact hn181_0) | exact hn181_0) (.int .u8 ((rd_T36 l1 x5_1).f1))).trans hx181_1
                              clear hn181_0
                              replace p181 := eq_true p181
                              replace q181 := eq_true q181
                              go_wp2
                              go_roundg kj12
                              case measure => have := HK1.out; have := HJ6.out; have := HJ12.out; omega
                              case rel => exact ⟨(wrap64 (x5_1 + 1)), (x174000_6), (0), (0), (by first | rfl | (simp; done) | (simp [*]; done)), H', ⟨by have := HK1.out; have := HJ6.out; have := HJ12.out; omega⟩, ⟨by (with_reducible repeat (first | refine blk_drewN ?_ _ | refine blk_drew ?_ | refine blk_alloc ?_ _)); refine blk_put (cs := #[.int .u8 x174000_6, .bool a0_1, .bool a0_2, .int .u8 0, .int .u8 ((rd_T36 l1 x5_1).f1)]) ?_ 4 _ rfl; (with_reducible repeat (first | refine blk_drewN ?_ _ | refine blk_drew ?_ | refine blk_alloc ?_ _)); refine blk_put (cs := #[.int .u8 x174000_6, .bool a0_1, .bool a0_2, .int .u8 x174003_12, .int .u8 ((rd_T36 l1 x5_1).f1)]) ?_ 3 _ rfl; (with_reducible repeat (first | refine blk_drewN ?_ _ | refine blk_drew ?_ | refine blk_alloc ?_ _)); refine blk_put (cs := #[.int .u8 x174000_6, .bool a0_1, .bool a0_2, .int .u8 x174003_12, .int .u8 x174004_1]) ?_ 4 _ rfl; (with_reducible repeat (first | refine blk_drewN ?_ _ | refine blk_drew ?_ | refine blk_alloc ?_ _)); exact BK173.out⟩, ⟨by (with_reducible repeat (first | refine blk_drewN ?_ _ | refine blk_drew ?_ | refine blk_alloc ?_ _)); refine blk_far ?_ NB174_173.out _; (with_reducible repeat (first | refine blk_drewN ?_ _ | refine blk_drew ?_ | refine blk_alloc ?_ _)); refine blk_far ?_ NB174_173.out _; (with_reducible repeat (first | refine blk_drewN ?_ _ | refine blk_drew ?_ | refine blk_alloc ?_ _)); refine blk_far ?_ NB174_173.out _; (with_reducible repeat (first | refine blk_drewN ?_ _ | refine blk_drew ?_ | refine blk_alloc ?_ _)); exact BK174.out⟩, ⟨by repeat (first | (with_reducible first | exact HB.out | apply below_alloc | apply pw_below_drewN | apply below_drew1 | refine below_set ?_ GE173.out | refine below_set ?_ GE174.out) | exact HB.out)⟩⟩
                            · rw [if_neg c20] at H
                              have c20b0 : (((rd_T36 l1 x5_1).f0) == 0) = false := beq_eq_false_iff_ne.mpr c20
                              have c20b1 : (((rd_T36 l1 x5_1).f0) != 0) = true := bne_iff_ne.mpr c20
                              have H' := Aside0.mk H
                              clear H
                              have p179 : 0 ≤ (x5_1 : Int) := of_decide_eq_true (by first | (with_reducible assumption) | assumption)
                              have q179 : x5_1 < (l1.length : Int) := of_decide_eq_true (by first | (with_reducible assumption) | assumption)
                              obtain ⟨ad179, e179, hx179_0, hx179_1⟩ := at_T36 HR1.out x5_1 p179 q179
                              obtain rfl : ad175 = ad179 := (by injection e179)
                              replace hx179_0 := (HB.out.cell (World.block_lt_of_cell? w _ hx179_0)).trans hx179_0
                              replace hx179_1 := (HB.out.cell (World.block_lt_of_cell? w _ hx179_1)).trans hx179_1
                              replace p179 := eq_true p179
                              replace q179 := eq_true q179
                              have p180 : 0 ≤ (x5_1 : Int) := of_decide_eq_true (by first | (with_reducible assumption) | assumption)
                              have q180 : x5_1 < (l1.length : Int) := of_decide_eq_true (by first | (with_reducible assumption) | assumption)
                              obtain ⟨ad180, e180, hx180_0, hx180_1⟩ := at_T36 HR1.out x5_1 p180 q180
                              obtain rfl : ad175 = ad180 := (by injection e180)
                              replace hx180_0 := (HB.out.cell (World.block_lt_of_cell? w _ hx180_0)).trans hx180_0
                              replace hx180_1 := (HB.out.cell (World.block_lt_of_cell? w _ hx180_1)).trans hx180_1
                              replace p180 := eq_true p180
                              replace q180 := eq_true q180
                              have hnb23 := NB173_174.out
                              have hnc23 := NB174_173.out
                              have hcz24_0 : wc.cell? ⟨gb173, 0, none⟩ = some (.int .u8 x174000_6) := (blk_cell BK173.out 0).trans rfl
                              have hcz24_1 : wc.cell? ⟨gb173, 1, none⟩ = some (.bool a0_1) := (blk_cell BK173.out 1).trans rfl
                              have hcz24_2 : wc.cell? ⟨gb173, 2, none⟩ = some (.bool a0_2) := (blk_cell BK173.out 2).trans rfl
                              have hcz24_3 : wc.cell? ⟨gb173, 3, none⟩ = some (.int .u8 x174003_12) := (blk_cell BK173.out 3).trans rfl
                              have hcz24_4 : wc.cell? ⟨gb173, 4, none⟩ = some (.int .u8 x174004_1) := (blk_cell BK173.out 4).trans rfl
                              have hfz24_0 := blk_frozen BK173.out 0
                              have hfz24_1 := blk_frozen BK173.out 1
                              have hfz24_2 := blk_frozen BK173.out 2
                              have hfz24_3 := blk_frozen BK173.out 3
                              have hfz24_4 := blk_frozen BK173.out 4
                              have p181 : 0 ≤ (x5_1 : Int) := of_decide_eq_true (by first | (with_reducible assumption) | assumption)
                              have q181 : x5_1 < (l1.length : Int) := of_decide_eq_true (by first | (with_reducible assumption) | assumption)
                              obtain ⟨ad181, e181, hx181_0, hx181_1⟩ := at_T36 HR1.out x5_1 p181 q181
                              obtain rfl : ad175 = ad181 := (by injection e181)
                              have hn181_0 : ad175.block ≠ gb173 := Nat.ne_of_lt (Nat.lt_of_lt_of_le (by have := World.block_lt_of_cell? _ _ hx181_0; first | rwa [add_block] at this | exact this) GW173.out)
                              replace hx181_0 := (HB.out.cell (World.block_lt_of_cell? w _ hx181_0)).trans hx181_0
                              replace hx181_1 := (HB.out.cell (World.block_lt_of_cell? w _ hx181_1)).trans hx181_1
                              replace hx181_0 := (cell_far (p := ⟨gb173, 4, none⟩) (by first | (rw [add_block]; exact hn181_0) | (show (Addr.add _ _).block ≠ _; rw [add_block]; exact hn181_0) | exact hn181_0) (.int .u8 ((rd_T36 l1 x5_1).f1))).trans hx181_0
                              replace hx181_1 := (cell_far (p := ⟨gb173, 4, none⟩) (by first | (rw [add_block]; exact hn181_0) | (show (Addr.add _ _).block ≠ _; rw [add_block]; exact hn181_0) | exact hn181_0) (.int .u8 ((rd_T36 l1 x5_1).f1))).trans hx181_1
                              clear hn181_0
                              replace p181 := eq_true p181
                              replace q181 := eq_true q181
                              go_wp2
                              go_roundg kj12
                              case measure => have := HK1.out; have := HJ6.out; have := HJ12.out; omega
                              case rel => exact ⟨(wrap64 (x5_1 + 1)), (x174000_6), (x174003_12), ((rd_T36 l1 x5_1).f1), (by first | rfl | (simp; done) | (simp [*]; done)), H', ⟨by have := HK1.out; have := HJ6.out; have := HJ12.out; omega⟩, ⟨by (with_reducible repeat (first | refine blk_drewN ?_ _ | refine blk_drew ?_ | refine blk_alloc ?_ _)); refine blk_put (cs := #[.int .u8 x174000_6, .bool a0_1, .bool a0_2, .int .u8 x174003_12, .int .u8 x174004_1]) ?_ 4 _ rfl; (with_reducible repeat (first | refine blk_drewN ?_ _ | refine blk_drew ?_ | refine blk_alloc ?_ _)); exact BK173.out⟩, ⟨by (with_reducible repeat (first | refine blk_drewN ?_ _ | refine blk_drew ?_ | refine blk_alloc ?_ _)); refine blk_far ?_ NB174_173.out _; (with_reducible repeat (first | refine blk_drewN ?_ _ | refine blk_drew ?_ | refine blk_alloc ?_ _)); exact BK174.out⟩, ⟨by repeat (first | (with_reducible first | exact HB.out | apply below_alloc | apply pw_below_drewN | apply below_drew1 | refine below_set ?_ GE173.out | refine below_set ?_ GE174.out) | exact HB.out)⟩⟩
                          · rw [if_neg c19] at H
                            have c19b0 : (((rd_T36 l1 x5_1).f0) == 66) = false := beq_eq_false_iff_ne.mpr c19
                            have c19b1 : (((rd_T36 l1 x5_1).f0) != 66) = true := bne_iff_ne.mpr c19
                            by_cases c25 : ((rd_T36 l1 x5_1).f0) = 0
                            · rw [if_pos c25] at H
                              have c25b0 : (((rd_T36 l1 x5_1).f0) == 0) = true := beq_iff_eq.mpr c25
                              have c25b1 : (((rd_T36 l1 x5_1).f0) != 0) = false := bne_eq_false_iff_eq.mpr c25
                              clear c25
                              have H' := Aside0.mk H
                              clear H
                              have p179 : 0 ≤ (x5_1 : Int) := of_decide_eq_true (by first | (with_reducible assumption) | assumption)
                              have q179 : x5_1 < (l1.length : Int) := of_decide_eq_true (by first | (with_reducible assumption) | assumption)
                              obtain ⟨ad179, e179, hx179_0, hx179_1⟩ := at_T36 HR1.out x5_1 p179 q179
                              obtain rfl : ad175 = ad179 := (by injection e179)
                              replace hx179_0 := (HB.out.cell (World.block_lt_of_cell? w _ hx179_0)).trans hx179_0
                              replace hx179_1 := (HB.out.cell (World.block_lt_of_cell? w _ hx179_1)).trans hx179_1
                              replace p179 := eq_true p179
                              replace q179 := eq_true q179
                              have p182 : 0 ≤ (x5_1 : Int) := of_decide_eq_true (by first | (with_reducible assumption) | assumption)
                              have q182 : x5_1 < (l1.length : Int) := of_decide_eq_true (by first | (with_reducible assumption) | assumption)
                              obtain ⟨ad182, e182, hx182_0, hx182_1⟩ := at_T36 HR1.out x5_1 p182 q182
                              obtain rfl : ad175 = ad182 := (by injection e182)
                              replace hx182_0 := (HB.out.cell (World.block_lt_of_cell? w _ hx182_0)).trans hx182_0
                              replace hx182_1 := (HB.out.cell (World.block_lt_of_cell? w _ hx182_1)).trans hx182_1
                              replace p182 := eq_true p182
                              replace q182 := eq_true q182
                              have hnb26 := NB173_174.out
                              have hnc26 := NB174_173.out
                              have hcz27_0 : wc.cell? ⟨gb173, 0, none⟩ = some (.int .u8 x174000_6) := (blk_cell BK173.out 0).trans rfl
                              have hcz27_1 : wc.cell? ⟨gb173, 1, none⟩ = some (.bool a0_1) := (blk_cell BK173.out 1).trans rfl
                              have hcz27_2 : wc.cell? ⟨gb173, 2, none⟩ = some (.bool a0_2) := (blk_cell BK173.out 2).trans rfl
                              have hcz27_3 : wc.cell? ⟨gb173, 3, none⟩ = some (.int .u8 x174003_12) := (blk_cell BK173.out 3).trans rfl
                              have hcz27_4 : wc.cell? ⟨gb173, 4, none⟩ = some (.int .u8 x174004_1) := (blk_cell BK173.out 4).trans rfl
                              have hfz27_0 := blk_frozen BK173.out 0
                              have hfz27_1 := blk_frozen BK173.out 1
                              have hfz27_2 := blk_frozen BK173.out 2
                              have hfz27_3 := blk_frozen BK173.out 3
                              have hfz27_4 := blk_frozen BK173.out 4
                              go_wp2
                              go_roundg kj12
                              case measure => have := HK1.out; have := HJ6.out; have := HJ12.out; omega
                              case rel => exact ⟨(wrap64 (x5_1 + 1)), (x174000_6), (0), (0), (by first | rfl | (simp; done) | (simp [*]; done)), H', ⟨by have := HK1.out; have := HJ6.out; have := HJ12.out; omega⟩, ⟨by (with_reducible repeat (first | refine blk_drewN ?_ _ | refine blk_drew ?_ | refine blk_alloc ?_ _)); refine blk_put (cs := #[.int .u8 x174000_6, .bool a0_1, .bool a0_2, .int .u8 0, .int .u8 x174004_1]) ?_ 4 _ rfl; (with_reducible repeat (first | refine blk_drewN ?_ _ | refine blk_drew ?_ | refine blk_alloc ?_ _)); refine blk_put (cs := #[.int .u8 x174000_6, .bool a0_1, .bool a0_2, .int .u8 x174003_12, .int .u8 x174004_1]) ?_ 3 _ rfl; (with_reducible repeat (first | refine blk_drewN ?_ _ | refine blk_drew ?_ | refine blk_alloc ?_ _)); exact BK173.out⟩, ⟨by (with_reducible repeat (first | refine blk_drewN ?_ _ | refine blk_drew ?_ | refine blk_alloc ?_ _)); refine blk_far ?_ NB174_173.out _; (with_reducible repeat (first | refine blk_drewN ?_ _ | refine blk_drew ?_ | refine blk_alloc ?_ _)); refine blk_far ?_ NB174_173.out _; (with_reducible repeat (first | refine blk_drewN ?_ _ | refine blk_drew ?_ | refine blk_alloc ?_ _)); exact BK174.out⟩, ⟨by repeat (first | (with_reducible first | exact HB.out | apply below_alloc | apply pw_below_drewN | apply below_drew1 | refine below_set ?_ GE173.out | refine below_set ?_ GE174.out) | exact HB.out)⟩⟩
                            · rw [if_neg c25] at H
                              have c25b0 : (((rd_T36 l1 x5_1).f0) == 0) = false := beq_eq_false_iff_ne.mpr c25
                              have c25b1 : (((rd_T36 l1 x5_1).f0) != 0) = true := bne_iff_ne.mpr c25
                              have H' := Aside0.mk H
                              clear H
                              have p179 : 0 ≤ (x5_1 : Int) := of_decide_eq_true (by first | (with_reducible assumption) | assumption)
                              have q179 : x5_1 < (l1.length : Int) := of_decide_eq_true (by first | (with_reducible assumption) | assumption)
                              obtain ⟨ad179, e179, hx179_0, hx179_1⟩ := at_T36 HR1.out x5_1 p179 q179
                              obtain rfl : ad175 = ad179 := (by injection e179)
                              replace hx179_0 := (HB.out.cell (World.block_lt_of_cell? w _ hx179_0)).trans hx179_0
                              replace hx179_1 := (HB.out.cell (World.block_lt_of_cell? w _ hx179_1)).trans hx179_1
                              replace p179 := eq_true p179
                              replace q179 := eq_true q179
                              have p182 : 0 ≤ (x5_1 : Int) := of_decide_eq_true (by first | (with_reducible assumption) | assumption)
                              have q182 : x5_1 < (l1.length : Int) := of_decide_eq_true (by first | (with_reducible assumption) | assumption)
                              obtain ⟨ad182, e182, hx182_0, hx182_1⟩ := at_T36 HR1.out x5_1 p182 q182
                              obtain rfl : ad175 = ad182 := (by injection e182)
                              replace hx182_0 := (HB.out.cell (World.block_lt_of_cell? w _ hx182_0)).trans hx182_0
                              replace hx182_1 := (HB.out.cell (World.block_lt_of_cell? w _ hx182_1)).trans hx182_1
                              replace p182 := eq_true p182
                              replace q182 := eq_true q182
                              go_wp2
                              go_roundg kj12
                              case measure => have := HK1.out; have := HJ6.out; have := HJ12.out; omega
                              case rel => exact ⟨(wrap64 (x5_1 + 1)), (x174000_6), (x174003_12), (x174004_1), (by first | rfl | (simp; done) | (simp [*]; done)), H', ⟨by have := HK1.out; have := HJ6.out; have := HJ12.out; omega⟩, ⟨by (with_reducible repeat (first | refine blk_drewN ?_ _ | refine blk_drew ?_ | refine blk_alloc ?_ _)); exact BK173.out⟩, ⟨by (with_reducible repeat (first | refine blk_drewN ?_ _ | refine blk_drew ?_ | refine blk_alloc ?_ _)); exact BK174.out⟩, ⟨by repeat (first | (with_reducible first | exact HB.out | apply below_alloc | apply pw_below_drewN | apply below_drew1 | refine below_set ?_ GE173.out | refine below_set ?_ GE174.out) | exact HB.out)⟩⟩
                        · rw [if_neg c18] at H
                          exact absurd H (by simp)
                      · rw [if_neg c17] at H
                        exact absurd H (by simp)
                · rw [if_neg c12] at H
                  exact absurd H (by simp)
              · rw [if_neg c11] at H
                exact absurd H (by simp)
        · rw [if_neg c6] at H
          exact absurd H (by simp)
      · rw [if_neg c5] at H
        have c5b0 : decide (x5_1 < (l1.length : Int)) = false := decide_eq_false c5
        clear c5
        simp only [Option.some.injEq, Prod.mk.injEq] at H
        obtain ⟨rfl, rfl, rfl, rfl, rfl⟩ := H
        have hnb28 := NB173_174.out
        have hnc28 := NB174_173.out
        have hcz29_0 : wr.cell? ⟨gb173, 0, none⟩ = some (.int .u8 x174000_1) := (blk_cell BK173.out 0).trans rfl
        have hcz29_1 : wr.cell? ⟨gb173, 1, none⟩ = some (.bool a0_1) := (blk_cell BK173.out 1).trans rfl
        have hcz29_2 : wr.cell? ⟨gb173, 2, none⟩ = some (.bool a0_2) := (blk_cell BK173.out 2).trans rfl
        have hcz29_3 : wr.cell? ⟨gb173, 3, none⟩ = some (.int .u8 x174003_1) := (blk_cell BK173.out 3).trans rfl
        have hcz29_4 : wr.cell? ⟨gb173, 4, none⟩ = some (.int .u8 x174004_1) := (blk_cell BK173.out 4).trans rfl
        have hfz29_0 := blk_frozen BK173.out 0
        have hfz29_1 := blk_frozen BK173.out 1
        have hfz29_2 := blk_frozen BK173.out 2
        have hfz29_3 := blk_frozen BK173.out 3
        have hfz29_4 := blk_frozen BK173.out 4
        have hcz30_0 : wr.cell? ⟨gb174, 0, none⟩ = some (.int .u8 0) := (blk_cell BK174.out 0).trans rfl
        have hcz30_1 : wr.cell? ⟨gb174, 1, none⟩ = some (.bool false) := (blk_cell BK174.out 1).trans rfl
        have hcz30_2 : wr.cell? ⟨gb174, 2, none⟩ = some (.bool false) := (blk_cell BK174.out 2).trans rfl
        have hcz30_3 : wr.cell? ⟨gb174, 3, none⟩ = some (.int .u8 0) := (blk_cell BK174.out 3).trans rfl
        have hcz30_4 : wr.cell? ⟨gb174, 4, none⟩ = some (.int .u8 0) := (blk_cell BK174.out 4).trans rfl
        have hfz30_0 := blk_frozen BK174.out 0
        have hfz30_1 := blk_frozen BK174.out 1
        have hfz30_2 := blk_frozen BK174.out 2
        have hfz30_3 := blk_frozen BK174.out 3
        have hfz30_4 := blk_frozen BK174.out 4
        go_wp2
        refine bodyPost_ret (results_cell_row rfl _ _ gb174 33 #[.int .u8 x174000_1, .bool a0_1, .bool a0_2, .int .u8 x174003_1, .int .u8 x174004_1] (0, 0) _ rfl (by (with_reducible repeat (first | refine blk_drewN ?_ _ | refine blk_drew ?_ | refine blk_alloc ?_ _)); refine blk_put (cs := #[.int .u8 x174000_1, .bool a0_1, .bool a0_2, .int .u8 x174003_1, .int .u8 0]) ?_ 4 _ rfl; (with_reducible repeat (first | refine blk_drewN ?_ _ | refine blk_drew ?_ | refine blk_alloc ?_ _)); refine blk_put (cs := #[.int .u8 x174000_1, .bool a0_1, .bool a0_2, .int .u8 0, .int .u8 0]) ?_ 3 _ rfl; (with_reducible repeat (first | refine blk_drewN ?_ _ | refine blk_drew ?_ | refine blk_alloc ?_ _)); refine blk_put (cs := #[.int .u8 x174000_1, .bool a0_1, .bool false, .int .u8 0, .int .u8 0]) ?_ 2 _ rfl; (with_reducible repeat (first | refine blk_drewN ?_ _ | refine blk_drew ?_ | refine blk_alloc ?_ _)); refine blk_put (cs := #[.int .u8 x174000_1, .bool false, .bool false, .int .u8 0, .int .u8 0]) ?_ 1 _ rfl; (with_reducible repeat (first | refine blk_drewN ?_ _ | refine blk_drew ?_ | refine blk_alloc ?_ _)); refine blk_put (cs := #[.int .u8 0, .bool false, .bool false, .int .u8 0, .int .u8 0]) ?_ 0 _ rfl; (with_reducible repeat (first | refine blk_drewN ?_ _ | refine blk_drew ?_ | refine blk_alloc ?_ _)); exact BK174.out) Try.underlying33 rfl (by kernel_rfl)) rfl ?_
        exact ⟨by first | rfl | (simp [errW_none, errW_some] <;> rfl) | (simp [*, errW_none, errW_some] <;> rfl), by repeat (first | (with_reducible first | exact HB.out | apply below_alloc | apply pw_below_drewN | apply below_drew1 | refine below_set ?_ GE173.out | refine below_set ?_ GE174.out) | exact HB.out)⟩

end Go.Proofs.Ythimdjdnpfaamaa.P
