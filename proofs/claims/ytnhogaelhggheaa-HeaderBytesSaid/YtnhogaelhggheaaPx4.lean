-- Laid by program out of the translation, some functions' texts by hand (a session's own run, not print.sh's). Lean checks it.
import Derived.Test.YtnhogaelhggheaaPx0
import Derived.Test.YtnhogaelhggheaaPx3
namespace Go.Proofs.Ytnhogaelhggheaa.P
open Go.RowKit Go.Proofs.YtnhogaelhggheaaW.PrintWords Go.Proofs.YtnhogaelhggheaaW.PrintLast Go.Proofs.YtnhogaelhggheaaW.PrintMore
attribute [local go_sem] max2_int min2_int max_two min_two max_three min_three max_four min_four   -- for this text's walks alone
set_option linter.unusedVariables false
set_option linter.unusedSimpArgs false

/-! ### header_Answer: function 10 -/
mutual
def header_Answer.j0 : Nat → Int → Bool → Int → Int → Int → Int → Option (List Int × Bool)
  | 0, _, _, _, _, _, _ => none
  | k + 1, x1, x6, x120000, x120001, x120002, x120003 => if x6 = true then (some (([] : List Int), false)) else (if x1 = 0 then (header_Answer.j1 k x1 (x120002 == 2) x120000 x120001 x120002 x120003) else (header_Answer.j1 k x1 false x120000 x120001 x120002 x120003))
def header_Answer.j1 : Nat → Int → Bool → Int → Int → Int → Int → Option (List Int × Bool)
  | 0, _, _, _, _, _, _ => none
  | k + 1, x1, x15, x120000, x120001, x120002, x120003 => if x15 = true then ((header_Write.f 2 0 0 x120003 (([0] : List Int))).bind fun t123 => (some (t123, true))) else (if x1 = 0 then (header_Answer.j2 k x1 false x120000 x120001 x120002 x120003) else (if x120002 = 1 then (header_Answer.j2 k x1 true x120000 x120001 x120002 x120003) else (header_Answer.j2 k x1 (x120002 == 2) x120000 x120001 x120002 x120003)))
def header_Answer.j2 : Nat → Int → Bool → Int → Int → Int → Int → Option (List Int × Bool)
  | 0, _, _, _, _, _, _ => none
  | k + 1, x1, x28, x120000, x120001, x120002, x120003 => if x28 = true then ((header_Code.f x1).bind fun t126 => ((header_Write.f 2 0 1 x120003 (([t126] : List Int))).bind fun t130 => (some (t130, true)))) else (some (([] : List Int), false))
end
def header_Answer.f (k : Nat) (a0_0 : Int) (a0_1 : Int) (a0_2 : Int) (a0_3 : Int) (a1 : Int) : Option (List Int × Bool) := if a0_0 = 0 then (header_Answer.j0 k a1 false a0_0 a0_1 a0_2 a0_3) else (header_Answer.j0 k a1 (a0_0 != 1) a0_0 a0_1 a0_2 a0_3)
theorem header_Answer.mono_l : ∀ k, (∀ y0 y1 y2 y3 y4 y5, LeO (header_Answer.j0 k y0 y1 y2 y3 y4 y5) (header_Answer.j0 (k + 1) y0 y1 y2 y3 y4 y5)) ∧ (∀ y0 y1 y2 y3 y4 y5, LeO (header_Answer.j1 k y0 y1 y2 y3 y4 y5) (header_Answer.j1 (k + 1) y0 y1 y2 y3 y4 y5)) ∧ (∀ y0 y1 y2 y3 y4 y5, LeO (header_Answer.j2 k y0 y1 y2 y3 y4 y5) (header_Answer.j2 (k + 1) y0 y1 y2 y3 y4 y5))
  | 0 => ⟨fun _ _ _ _ _ _ r h => by simp [header_Answer.j0] at h, fun _ _ _ _ _ _ r h => by simp [header_Answer.j1] at h, fun _ _ _ _ _ _ r h => by simp [header_Answer.j2] at h⟩
  | k + 1 => by
    obtain ⟨ih0, ih1, ih2⟩ := header_Answer.mono_l k
    refine ⟨?_, ?_, ?_⟩
    · intro y0 y1 y2 y3 y4 y5
      unfold header_Answer.j0
      repeat' first
      | (with_reducible exact ih0 _ _ _ _ _ _)
      | (with_reducible exact ih1 _ _ _ _ _ _)
      | (with_reducible exact ih2 _ _ _ _ _ _)
      | (with_reducible exact LeO.refl _)
      | (with_reducible exact LeO.none _)
      | (with_reducible refine LeO.ite ?_ ?_)
      | (with_reducible refine LeO.bind ?_ (fun _ => ?_))
      | exact ih0 _ _ _ _ _ _
      | exact ih1 _ _ _ _ _ _
      | exact ih2 _ _ _ _ _ _
      | exact LeO.none _
      | refine LeO.ite ?_ ?_
      | refine LeO.bind ?_ (fun _ => ?_)
    · intro y0 y1 y2 y3 y4 y5
      unfold header_Answer.j1
      repeat' first
      | (with_reducible exact ih0 _ _ _ _ _ _)
      | (with_reducible exact ih1 _ _ _ _ _ _)
      | (with_reducible exact ih2 _ _ _ _ _ _)
      | (with_reducible exact LeO.refl _)
      | (with_reducible exact LeO.none _)
      | (with_reducible refine LeO.ite ?_ ?_)
      | (with_reducible refine LeO.bind ?_ (fun _ => ?_))
      | exact ih0 _ _ _ _ _ _
      | exact ih1 _ _ _ _ _ _
      | exact ih2 _ _ _ _ _ _
      | exact LeO.none _
      | refine LeO.ite ?_ ?_
      | refine LeO.bind ?_ (fun _ => ?_)
    · intro y0 y1 y2 y3 y4 y5
      unfold header_Answer.j2
      repeat' first
      | (with_reducible exact ih0 _ _ _ _ _ _)
      | (with_reducible exact ih1 _ _ _ _ _ _)
      | (with_reducible exact ih2 _ _ _ _ _ _)
      | (with_reducible exact LeO.refl _)
      | (with_reducible exact LeO.none _)
      | (with_reducible refine LeO.ite ?_ ?_)
      | (with_reducible refine LeO.bind ?_ (fun _ => ?_))
      | exact ih0 _ _ _ _ _ _
      | exact ih1 _ _ _ _ _ _
      | exact ih2 _ _ _ _ _ _
      | exact LeO.none _
      | refine LeO.ite ?_ ?_
      | refine LeO.bind ?_ (fun _ => ?_)
theorem header_Answer.mono : ∀ a0 a1 a2 a3 a4 k, LeO (header_Answer.f k a0 a1 a2 a3 a4) (header_Answer.f (k + 1) a0 a1 a2 a3 a4) := by
  intro a0 a1 a2 a3 a4 k
  obtain ⟨ih0, ih1, ih2⟩ := header_Answer.mono_l k
  unfold header_Answer.f
  repeat' first
      | (with_reducible exact ih0 _ _ _ _ _ _)
      | (with_reducible exact ih1 _ _ _ _ _ _)
      | (with_reducible exact ih2 _ _ _ _ _ _)
      | (with_reducible exact LeO.refl _)
      | (with_reducible exact LeO.none _)
      | (with_reducible refine LeO.ite ?_ ?_)
      | (with_reducible refine LeO.bind ?_ (fun _ => ?_))
      | exact ih0 _ _ _ _ _ _
      | exact ih1 _ _ _ _ _ _
      | exact ih2 _ _ _ _ _ _
      | exact LeO.none _
      | refine LeO.ite ?_ ?_
      | refine LeO.bind ?_ (fun _ => ?_)
def header_Answer.T6 : Bool × List (List Nat × List Nat) := (true, [([], []), ([0], [0]), ([1], [1]), ([], []), ([3], [3]), ([4], [4]), ([2, 5, 4], [2, 5]), ([6, 6, 0, 1, 2, 3, 4, 5, 6], [6]), ([7, 0, 1, 2, 3, 4, 5, 6, 7], [])])
def header_Answer.B6 : List Nat := [0, 1, 3, 0, 8, 24, 63, 127, 255]
theorem header_Answer.tab6 : rtab .any (opsOf Try.f10 6) = header_Answer.T6 := by kernel_rfl
theorem header_Answer.bits6 : waitsOk header_Answer.T6.2 header_Answer.B6 = true := by kernel_rfl
set_option maxHeartbeats 8000000 in
set_option maxRecDepth 100000 in
theorem header_Answer.calls (k : Nat) (a0_0 : Int) (a0_1 : Int) (a0_2 : Int) (a0_3 : Int) (a1 : Int) (r1 : List Int) (r2 : Bool) (w : World) (h : header_Answer.f k a0_0 a0_1 a0_2 a0_3 a1 = some (r1, r2)) :
    Calls Try.prog 10 #[.agg #[.int .u8 a0_0, .int .u8 a0_1, .int .u8 a0_2, .int .u16 a0_3], .int .i64 a1] w fun e w' => ∃ v0_ : Value, e = .returned (.tuple #[v0_, .bool r2]) ∧ Kd.R (Kd.int .u8) 5 w' w.heap.size (fun _ => True) v0_ r1 ∧ Below w.heap.size w w' := by
  have hu25 := Try.underlying25
  have HB := Aside0.mk (Below.refl w.heap.size w)
  have H : (if a0_0 = 0 then (header_Answer.j0 k a1 false a0_0 a0_1 a0_2 a0_3) else (header_Answer.j0 k a1 (a0_0 != 1) a0_0 a0_1 a0_2 a0_3)) = some (r1, r2) := h
  clear h
  have HC3 := Aside0.mk H
  clear H
  go_enter Try.func10, Try.ntmps10
  go_upto_region 1 with (first | ((with_reducible refine gate_dst (N := 2) rfl ?_); refine box_event ?hg (N := 2) ?hd (cs := #[.int .u8 a0_0, .int .u8 a0_1, .int .u8 a0_2, .int .u16 a0_3]) (t := 25) ?hr ?_; (case hd => rfl); (case hg => rfl); (case hr => first | (go_simp; done) | (go_simp; rfl)); intro gb119 hg w4 hbox hb; have n0_ := Aside0.mk (below_step (by repeat (first | (with_reducible first | exact HB.out | apply below_alloc | apply pw_below_drewN | apply below_drew1) | exact HB.out)) hb); have n1_ := Aside0.mk (hbox); have n2_ := Aside0.mk ((by rw [hg]; exact (below_size (by repeat (first | (with_reducible first | exact HB.out | apply below_alloc | apply pw_below_drewN | apply below_drew1) | exact HB.out))) : w.heap.size ≤ gb119)); have n3_ := Aside0.mk ((by rw [hg]; exact (below_size (by repeat (first | (with_reducible first | exact HB.out | apply below_alloc | apply pw_below_drewN | apply below_drew1) | exact HB.out))) : w.heap.size ≤ gb119)); clear HB; have HB := n0_; have BK119 := n1_; have GW119 := n2_; have GE119 := n3_; clear n0_ n1_ n2_ n3_; clear hb hbox hg))
  (try simp only [Act.put, List.setIfInBounds_toArray, List.set_cons_zero, List.set_cons_succ])
  go_cut [6] (fun v6 wc => ∃ (kq : Nat) (x6_2 : Bool), v6 = .bool x6_2 ∧ Aside0 (header_Answer.j0 kq a1 x6_2 a0_0 a0_1 a0_2 a0_3 = some (r1, r2)) ∧ Aside0 (kq ≤ k) ∧ Aside0 (wc.heap[gb119]? = some (.cells #[.int .u8 a0_0, .int .u8 a0_1, .int .u8 a0_2, .int .u16 a0_3] 25 (0, 0))) ∧ Aside0 (Below w.heap.size w wc))
  case first =>
    have H := HC3.out
    clear HC3
    by_cases c5 : a0_0 = 0
    · rw [if_pos c5] at H
      have c5b0 : (a0_0 == 0) = true := beq_iff_eq.mpr c5
      have c5b1 : (a0_0 != 0) = false := bne_eq_false_iff_eq.mpr c5
      clear c5
      (first | rw [c5b0] | (simp only [i64_w, i32_w]; rw [c5b0]) | skip)
      have H' := Aside0.mk H
      clear H
      have hcz6_0 : w4.cell? ⟨gb119, 0, none⟩ = some (.int .u8 a0_0) := (blk_cell BK119.out 0).trans rfl
      have hcz6_1 : w4.cell? ⟨gb119, 1, none⟩ = some (.int .u8 a0_1) := (blk_cell BK119.out 1).trans rfl
      have hcz6_2 : w4.cell? ⟨gb119, 2, none⟩ = some (.int .u8 a0_2) := (blk_cell BK119.out 2).trans rfl
      have hcz6_3 : w4.cell? ⟨gb119, 3, none⟩ = some (.int .u16 a0_3) := (blk_cell BK119.out 3).trans rfl
      have hfz6_0 := blk_frozen BK119.out 0
      have hfz6_1 := blk_frozen BK119.out 1
      have hfz6_2 := blk_frozen BK119.out 2
      have hfz6_3 := blk_frozen BK119.out 3
      go_wp2
      go_meet
      case rel => exact ⟨_, (false), (by first | rfl | (simp; done) | (simp [*]; done)), H', ⟨by first | omega | exact Nat.le_refl _⟩, ⟨by (with_reducible repeat (first | refine blk_drewN ?_ _ | refine blk_drew ?_ | refine blk_alloc ?_ _)); exact BK119.out⟩, ⟨by repeat (first | (with_reducible first | exact HB.out | apply below_alloc | apply pw_below_drewN | apply below_drew1 | refine below_set ?_ GE119.out) | exact HB.out)⟩⟩
    · rw [if_neg c5] at H
      have c5b0 : (a0_0 == 0) = false := beq_eq_false_iff_ne.mpr c5
      have c5b1 : (a0_0 != 0) = true := bne_iff_ne.mpr c5
      (first | rw [c5b0] | (simp only [i64_w, i32_w]; rw [c5b0]) | skip)
      have H' := Aside0.mk H
      clear H
      have hcz7_0 : w4.cell? ⟨gb119, 0, none⟩ = some (.int .u8 a0_0) := (blk_cell BK119.out 0).trans rfl
      have hcz7_1 : w4.cell? ⟨gb119, 1, none⟩ = some (.int .u8 a0_1) := (blk_cell BK119.out 1).trans rfl
      have hcz7_2 : w4.cell? ⟨gb119, 2, none⟩ = some (.int .u8 a0_2) := (blk_cell BK119.out 2).trans rfl
      have hcz7_3 : w4.cell? ⟨gb119, 3, none⟩ = some (.int .u16 a0_3) := (blk_cell BK119.out 3).trans rfl
      have hfz7_0 := blk_frozen BK119.out 0
      have hfz7_1 := blk_frozen BK119.out 1
      have hfz7_2 := blk_frozen BK119.out 2
      have hfz7_3 := blk_frozen BK119.out 3
      go_wp2
      go_meet
      case rel => exact ⟨_, ((a0_0 != 1)), (by first | rfl | (simp; done) | (simp [*]; done)), H', ⟨by first | omega | exact Nat.le_refl _⟩, ⟨by (with_reducible repeat (first | refine blk_drewN ?_ _ | refine blk_drew ?_ | refine blk_alloc ?_ _)); exact BK119.out⟩, ⟨by repeat (first | (with_reducible first | exact HB.out | apply below_alloc | apply pw_below_drewN | apply below_drew1 | refine below_set ?_ GE119.out) | exact HB.out)⟩⟩
  case rest =>
    clear HC3
    try clear c1
    try clear p2
    try clear c5
    try clear c5b0
    try clear c5b1
    try clear hcz6_0
    try clear hcz6_1
    try clear hcz6_2
    try clear hcz6_3
    try clear hcz7_0
    try clear hcz7_1
    try clear hcz7_2
    try clear hcz7_3
    try clear hfz6_0
    try clear hfz6_1
    try clear hfz6_2
    try clear hfz6_3
    try clear hfz7_0
    try clear hfz7_1
    try clear hfz7_2
    try clear hfz7_3
    obtain ⟨kq, x6_2, rfl, HA, HJ2, BK119, HB⟩ := hcut
    cases kq with
    | zero => exact absurd HA.out (by simp [header_Answer.j0])
    | succ kj2 =>
      have H := HA.out
      clear HA
      simp only [header_Answer.j0] at H
      by_cases c8 : x6_2 = true
      · subst c8
        have H1 : (some (([] : List Int), false)) = some (r1, r2) := by rw [if_pos rfl] at H; exact H
        clear H
        have H := H1
        clear H1
        simp only [Option.some.injEq, Prod.mk.injEq] at H
        obtain ⟨rfl, rfl⟩ := H
        go_wp2
        go_ret2
        exact ⟨_, by first | rfl | (simp [errW_none, errW_some] <;> rfl) | (simp [*, errW_none, errW_some] <;> rfl), by first | exact Kd.R_nil _ _ _ _ _ | exact Kd.N_nil _ _ _ _ _ | exact Kd.V_nil _ _ _ _ _ | exact Kd.Q_nil _ _ _ _ _ | exact Kd.S_nil _ _ _ _ _, by repeat (first | (with_reducible first | exact HB.out | apply below_alloc | apply pw_below_drewN | apply below_drew1 | refine below_set ?_ GE119.out) | exact HB.out)⟩
      · replace c8 := Bool.eq_false_iff.mpr c8
        subst c8
        have H1 : (if a1 = 0 then (header_Answer.j1 kj2 a1 (a0_2 == 2) a0_0 a0_1 a0_2 a0_3) else (header_Answer.j1 kj2 a1 false a0_0 a0_1 a0_2 a0_3)) = some (r1, r2) := by rw [if_neg (show ¬ (false = true) by decide)] at H; exact H
        clear H
        have H := H1
        clear H1
        have HC9 := Aside0.mk H
        clear H
        go_upto_region 3 with (fail)
        go_cut [15] (fun v15 wc => ∃ (kq : Nat) (x15_8 : Bool), v15 = .bool x15_8 ∧ Aside0 (header_Answer.j1 kq a1 x15_8 a0_0 a0_1 a0_2 a0_3 = some (r1, r2)) ∧ Aside0 (kq ≤ kj2) ∧ Aside0 (wc.heap[gb119]? = some (.cells #[.int .u8 a0_0, .int .u8 a0_1, .int .u8 a0_2, .int .u16 a0_3] 25 (0, 0))) ∧ Aside0 (Below w.heap.size w wc))
        case first =>
          have H := HC9.out
          clear HC9
          by_cases c10 : a1 = 0
          · rw [if_pos c10] at H
            have c10b0 : (a1 == 0) = true := beq_iff_eq.mpr c10
            have c10b1 : (a1 != 0) = false := bne_eq_false_iff_eq.mpr c10
            clear c10
            (first | rw [c10b0] | (simp only [i64_w, i32_w]; rw [c10b0]) | skip)
            have H' := Aside0.mk H
            clear H
            have hcz11_0 : wc.cell? ⟨gb119, 0, none⟩ = some (.int .u8 a0_0) := (blk_cell BK119.out 0).trans rfl
            have hcz11_1 : wc.cell? ⟨gb119, 1, none⟩ = some (.int .u8 a0_1) := (blk_cell BK119.out 1).trans rfl
            have hcz11_2 : wc.cell? ⟨gb119, 2, none⟩ = some (.int .u8 a0_2) := (blk_cell BK119.out 2).trans rfl
            have hcz11_3 : wc.cell? ⟨gb119, 3, none⟩ = some (.int .u16 a0_3) := (blk_cell BK119.out 3).trans rfl
            have hfz11_0 := blk_frozen BK119.out 0
            have hfz11_1 := blk_frozen BK119.out 1
            have hfz11_2 := blk_frozen BK119.out 2
            have hfz11_3 := blk_frozen BK119.out 3
            go_wp2
            go_meet
            case rel => exact ⟨_, ((a0_2 == 2)), (by first | rfl | (simp; done) | (simp [*]; done)), H', ⟨by have := HJ2.out; first | omega | exact Nat.le_refl _⟩, ⟨by (with_reducible repeat (first | refine blk_drewN ?_ _ | refine blk_drew ?_ | refine blk_alloc ?_ _)); exact BK119.out⟩, ⟨by repeat (first | (with_reducible first | exact HB.out | apply below_alloc | apply pw_below_drewN | apply below_drew1 | refine below_set ?_ GE119.out) | exact HB.out)⟩⟩
          · rw [if_neg c10] at H
            have c10b0 : (a1 == 0) = false := beq_eq_false_iff_ne.mpr c10
            have c10b1 : (a1 != 0) = true := bne_iff_ne.mpr c10
            (first | rw [c10b0] | (simp only [i64_w, i32_w]; rw [c10b0]) | skip)
            have H' := Aside0.mk H
            clear H
            go_wp2
            go_meet
            case rel => exact ⟨_, (false), (by first | rfl | (simp; done) | (simp [*]; done)), H', ⟨by have := HJ2.out; first | omega | exact Nat.le_refl _⟩, ⟨by (with_reducible repeat (first | refine blk_drewN ?_ _ | refine blk_drew ?_ | refine blk_alloc ?_ _)); exact BK119.out⟩, ⟨by repeat (first | (with_reducible first | exact HB.out | apply below_alloc | apply pw_below_drewN | apply below_drew1 | refine below_set ?_ GE119.out) | exact HB.out)⟩⟩
        case rest =>
          clear HC9
          try clear c1
          try clear p2
          try clear c5
          try clear c5b0
          try clear c5b1
          try clear c8
          try clear c10
          try clear c10b0
          try clear c10b1
          try clear hcz11_0
          try clear hcz11_1
          try clear hcz11_2
          try clear hcz11_3
          try clear hcz6_0
          try clear hcz6_1
          try clear hcz6_2
          try clear hcz6_3
          try clear hcz7_0
          try clear hcz7_1
          try clear hcz7_2
          try clear hcz7_3
          try clear hfz11_0
          try clear hfz11_1
          try clear hfz11_2
          try clear hfz11_3
          try clear hfz6_0
          try clear hfz6_1
          try clear hfz6_2
          try clear hfz6_3
          try clear hfz7_0
          try clear hfz7_1
          try clear hfz7_2
          try clear hfz7_3
          try clear p2
          obtain ⟨kq, x15_8, rfl, HA, HJ8, BK119, HB⟩ := hcut
          cases kq with
          | zero => exact absurd HA.out (by simp [header_Answer.j1])
          | succ kj8 =>
            have H := HA.out
            clear HA
            simp only [header_Answer.j1] at H
            by_cases c12 : x15_8 = true
            · subst c12
              have H1 : ((header_Write.f 2 0 0 a0_3 (([0] : List Int))).bind fun t123 => (some (t123, true))) = some (r1, r2) := by rw [if_pos rfl] at H; exact H
              clear H
              have H := H1
              clear H1
              obtain ⟨y120, hy120⟩ : ∃ y_ : List Int, y_ = (([0] : List Int)) := ⟨_, rfl⟩
              replace H : ((header_Write.f 2 0 0 a0_3 y120).bind fun t123 => (some (t123, true))) = some (r1, r2) := by first | (rw [hy120]; with_reducible exact H) | (have H2_ := (Option.bind_some _ _).symm.trans H; rw [hy120]; with_reducible exact H2_) | (have H2_ := (Option.bind_some _ _).symm.trans H; with_reducible exact H2_) | with_reducible exact H | (rw [hy120]; exact H) | exact H
              have Ny120 := Aside0.mk hy120
              clear hy120
              replace H := Option.bind_eq_some_iff.mp H
              obtain ⟨t123, A130, H⟩ := H
              replace H : (some (t123, true)) = some (r1, r2) := H
              have A13 := Aside0.mk A130
              clear A130
              simp only [Option.some.injEq, Prod.mk.injEq] at H
              obtain ⟨rfl, rfl⟩ := H
              have hcz14_0 : wc.cell? ⟨gb119, 0, none⟩ = some (.int .u8 a0_0) := (blk_cell BK119.out 0).trans rfl
              have hcz14_1 : wc.cell? ⟨gb119, 1, none⟩ = some (.int .u8 a0_1) := (blk_cell BK119.out 1).trans rfl
              have hcz14_2 : wc.cell? ⟨gb119, 2, none⟩ = some (.int .u8 a0_2) := (blk_cell BK119.out 2).trans rfl
              have hcz14_3 : wc.cell? ⟨gb119, 3, none⟩ = some (.int .u16 a0_3) := (blk_cell BK119.out 3).trans rfl
              have hfz14_0 := blk_frozen BK119.out 0
              have hfz14_1 := blk_frozen BK119.out 1
              have hfz14_2 := blk_frozen BK119.out 2
              have hfz14_3 := blk_frozen BK119.out 3
              go_wp2_with (first | ((with_reducible refine gate_dst (N := 26) rfl ?_); refine Kd.R_lit (Kd.int .u8) _ 5 ?hg (N := 26) ?hd (xs := ([0] : List Int)) (inner := [.int .u8 0]) (ok := fun _ => True) (okp := fun _ => True) ?hr ?hp (fun _ hk => hk) trivial (Below.refl _ _) (Nat.le_refl _) (by simp) ?_; (case hd => rfl); (case hg => rfl); (case hr => first | (go_simp; done) | (go_simp; rfl)); (case hp => exact (Reps.one (show Kd.M (Kd.int .u8) _ _ _ 0 [.int .u8 0] from rfl) (Reps.none _ _))); intro v121 w15 ho16 hb hg_ hnew_; clear hg_ hnew_; (first | rw [← Ny120.out] at ho16 | (simp only [Int.reduceToNat] at ho16; rw [← Ny120.out] at ho16)); have n0_ := Aside0.mk (Kd.R_lower ho16 (below_size (by repeat (first | (with_reducible first | exact HB.out | apply below_alloc | apply pw_below_drewN | apply below_drew1 | refine below_set ?_ GE119.out) | exact HB.out)))); have n1_ := Aside0.mk (blk_below (g := gb119) (o := .cells #[.int .u8 a0_0, .int .u8 a0_1, .int .u8 a0_2, .int .u16 a0_3] 25 (0, 0)) (by (with_reducible repeat (first | refine blk_drewN ?_ _ | refine blk_drew ?_ | refine blk_alloc ?_ _)); exact BK119.out) hb); have n2_ := Aside0.mk (below_step (by repeat (first | (with_reducible first | exact HB.out | apply below_alloc | apply pw_below_drewN | apply below_drew1 | refine below_set ?_ GE119.out) | exact HB.out)) hb); clear BK119; clear HB; have HO122 := n0_; have BK119 := n1_; have HB := n2_; clear n0_ n1_ n2_; clear hb ho16; obtain ⟨Ao17, co17, eo17⟩ := Kd.R_slice HO122.out; subst eo17) | ((with_reducible refine gate_callee (f := 17) rfl ?_); refine goesL_ (some 27) rfl rfl Try.func17 (by kernel_rfl) rfl #[.agg #[.int .u8 2, .int .u8 0, .int .u8 0, .int .u16 a0_3], .slice Ao17 y120.length co17] rfl (by (try simp only [List.map_toArray, List.map_cons, List.map_nil]); first | done | rfl | (simp only [List.length_drop, List.length_take]; rfl)) ?_; (with_reducible refine (header_Write.calls 2 0 0 a0_3 _ _ y120 t123 _ ?side1 ?side2 A13.out).mono ?_); (case side1 => repeat (first | exact (Kd.R_reads' HO122.out).2.2 | (with_reducible refine Kd.C_alloc ?_ _) | (with_reducible refine Kd.C_drewN ?_ _) | (with_reducible refine Kd.C_drew ?_))); (case side2 => exact (Kd.R_reads' HO122.out).2.1); rintro e w18 ⟨v124, rfl, ho0, hb⟩; refine ⟨_, rfl, ?_⟩; have n0_ := Aside0.mk (Kd.R_elder' (by (with_reducible repeat (first | apply Kd.R_alloc | apply Kd.R_drewN | apply Kd.R_drew)); exact HO122.out) (Kd.R_base ho0) hb); have n1_ := Aside0.mk (Kd.R_lower (Kd.R_new' ho0 (Kd.R_lt (by (with_reducible repeat (first | apply Kd.R_alloc | apply Kd.R_drewN | apply Kd.R_drew)); exact HO122.out))) (below_size (by repeat (first | (with_reducible first | exact HB.out | apply below_alloc | apply pw_below_drewN | apply below_drew1 | refine below_set ?_ GE119.out) | exact HB.out)))); have n2_ := Aside0.mk (blk_below (g := gb119) (o := .cells #[.int .u8 a0_0, .int .u8 a0_1, .int .u8 a0_2, .int .u16 a0_3] 25 (0, 0)) (by (with_reducible repeat (first | refine blk_drewN ?_ _ | refine blk_drew ?_ | refine blk_alloc ?_ _)); exact BK119.out) hb); have n3_ := Aside0.mk (below_step (by repeat (first | (with_reducible first | exact HB.out | apply below_alloc | apply pw_below_drewN | apply below_drew1 | refine below_set ?_ GE119.out) | exact HB.out)) hb); clear HO122; clear BK119; clear HB; have HO122 := n0_; have HO125 := n1_; have BK119 := n2_; have HB := n3_; clear n0_ n1_ n2_ n3_; (try clear hb); (try clear hb2); (try clear hk); (try clear hi); (try clear ho0)))
              go_ret2
              exact ⟨_, by first | rfl | (simp [errW_none, errW_some] <;> rfl) | (simp [*, errW_none, errW_some] <;> rfl), by (with_reducible repeat (first | apply Kd.R_alloc | apply Kd.R_drewN | apply Kd.R_drew)); exact Kd.R_mono HO125.out (fun _ hk => trivial), by repeat (first | (with_reducible first | exact HB.out | apply below_alloc | apply pw_below_drewN | apply below_drew1 | refine below_set ?_ GE119.out) | exact HB.out)⟩
            · replace c12 := Bool.eq_false_iff.mpr c12
              subst c12
              have H1 : (if a1 = 0 then (header_Answer.j2 kj8 a1 false a0_0 a0_1 a0_2 a0_3) else (if a0_2 = 1 then (header_Answer.j2 kj8 a1 true a0_0 a0_1 a0_2 a0_3) else (header_Answer.j2 kj8 a1 (a0_2 == 2) a0_0 a0_1 a0_2 a0_3))) = some (r1, r2) := by rw [if_neg (show ¬ (false = true) by decide)] at H; exact H
              clear H
              have H := H1
              clear H1
              have HC19 := Aside0.mk H
              clear H
              go_upto_region 5 with (fail)
              go_cut [28] (fun v28 wc => ∃ (kq : Nat) (x28_18 : Bool), v28 = .bool x28_18 ∧ Aside0 (header_Answer.j2 kq a1 x28_18 a0_0 a0_1 a0_2 a0_3 = some (r1, r2)) ∧ Aside0 (kq ≤ kj8) ∧ Aside0 (wc.heap[gb119]? = some (.cells #[.int .u8 a0_0, .int .u8 a0_1, .int .u8 a0_2, .int .u16 a0_3] 25 (0, 0))) ∧ Aside0 (Below w.heap.size w wc))
              case first =>
                have H := HC19.out
                clear HC19
                by_cases c20 : a1 = 0
                · rw [if_pos c20] at H
                  have c20b0 : (a1 == 0) = true := beq_iff_eq.mpr c20
                  have c20b1 : (a1 != 0) = false := bne_eq_false_iff_eq.mpr c20
                  clear c20
                  (first | rw [c20b0] | (simp only [i64_w, i32_w]; rw [c20b0]) | skip)
                  have H' := Aside0.mk H
                  clear H
                  go_wp2
                  go_meet
                  case rel => exact ⟨_, (false), (by first | rfl | (simp; done) | (simp [*]; done)), H', ⟨by have := HJ2.out; have := HJ8.out; first | omega | exact Nat.le_refl _⟩, ⟨by (with_reducible repeat (first | refine blk_drewN ?_ _ | refine blk_drew ?_ | refine blk_alloc ?_ _)); exact BK119.out⟩, ⟨by repeat (first | (with_reducible first | exact HB.out | apply below_alloc | apply pw_below_drewN | apply below_drew1 | refine below_set ?_ GE119.out) | exact HB.out)⟩⟩
                · rw [if_neg c20] at H
                  have c20b0 : (a1 == 0) = false := beq_eq_false_iff_ne.mpr c20
                  have c20b1 : (a1 != 0) = true := bne_iff_ne.mpr c20
                  (first | rw [c20b0] | (simp only [i64_w, i32_w]; rw [c20b0]) | skip)
                  by_cases c21 : a0_2 = 1
                  · rw [if_pos c21] at H
                    have c21b0 : (a0_2 == 1) = true := beq_iff_eq.mpr c21
                    have c21b1 : (a0_2 != 1) = false := bne_eq_false_iff_eq.mpr c21
                    clear c21
                    have H' := Aside0.mk H
                    clear H
                    have hcz22_0 : wc.cell? ⟨gb119, 0, none⟩ = some (.int .u8 a0_0) := (blk_cell BK119.out 0).trans rfl
                    have hcz22_1 : wc.cell? ⟨gb119, 1, none⟩ = some (.int .u8 a0_1) := (blk_cell BK119.out 1).trans rfl
                    have hcz22_2 : wc.cell? ⟨gb119, 2, none⟩ = some (.int .u8 a0_2) := (blk_cell BK119.out 2).trans rfl
                    have hcz22_3 : wc.cell? ⟨gb119, 3, none⟩ = some (.int .u16 a0_3) := (blk_cell BK119.out 3).trans rfl
                    have hfz22_0 := blk_frozen BK119.out 0
                    have hfz22_1 := blk_frozen BK119.out 1
                    have hfz22_2 := blk_frozen BK119.out 2
                    have hfz22_3 := blk_frozen BK119.out 3
                    go_wp2
                    go_meet
                    case rel => exact ⟨_, (true), (by first | rfl | (simp; done) | (simp [*]; done)), H', ⟨by have := HJ2.out; have := HJ8.out; first | omega | exact Nat.le_refl _⟩, ⟨by (with_reducible repeat (first | refine blk_drewN ?_ _ | refine blk_drew ?_ | refine blk_alloc ?_ _)); exact BK119.out⟩, ⟨by repeat (first | (with_reducible first | exact HB.out | apply below_alloc | apply pw_below_drewN | apply below_drew1 | refine below_set ?_ GE119.out) | exact HB.out)⟩⟩
                  · rw [if_neg c21] at H
                    have c21b0 : (a0_2 == 1) = false := beq_eq_false_iff_ne.mpr c21
                    have c21b1 : (a0_2 != 1) = true := bne_iff_ne.mpr c21
                    have H' := Aside0.mk H
                    clear H
                    have hcz23_0 : wc.cell? ⟨gb119, 0, none⟩ = some (.int .u8 a0_0) := (blk_cell BK119.out 0).trans rfl
                    have hcz23_1 : wc.cell? ⟨gb119, 1, none⟩ = some (.int .u8 a0_1) := (blk_cell BK119.out 1).trans rfl
                    have hcz23_2 : wc.cell? ⟨gb119, 2, none⟩ = some (.int .u8 a0_2) := (blk_cell BK119.out 2).trans rfl
                    have hcz23_3 : wc.cell? ⟨gb119, 3, none⟩ = some (.int .u16 a0_3) := (blk_cell BK119.out 3).trans rfl
                    have hfz23_0 := blk_frozen BK119.out 0
                    have hfz23_1 := blk_frozen BK119.out 1
                    have hfz23_2 := blk_frozen BK119.out 2
                    have hfz23_3 := blk_frozen BK119.out 3
                    go_wp2
                    go_meet
                    case rel => exact ⟨_, ((a0_2 == 2)), (by first | rfl | (simp; done) | (simp [*]; done)), H', ⟨by have := HJ2.out; have := HJ8.out; first | omega | exact Nat.le_refl _⟩, ⟨by (with_reducible repeat (first | refine blk_drewN ?_ _ | refine blk_drew ?_ | refine blk_alloc ?_ _)); exact BK119.out⟩, ⟨by repeat (first | (with_reducible first | exact HB.out | apply below_alloc | apply pw_below_drewN | apply below_drew1 | refine below_set ?_ GE119.out) | exact HB.out)⟩⟩
              case rest =>
                clear HC19
                try clear c1
                try clear c2
                try clear p2
                try clear c5
                try clear c5b0
                try clear c5b1
                try clear c8
                try clear c10
                try clear c10b0
                try clear c10b1
                try clear c12
                try clear c17
                try clear c20
                try clear c20b0
                try clear c20b1
                try clear c21
                try clear c21b0
                try clear c21b1
                try clear hcz11_0
                try clear hcz11_1
                try clear hcz11_2
                try clear hcz11_3
                try clear hcz14_0
                try clear hcz14_1
                try clear hcz14_2
                try clear hcz14_3
                try clear hcz22_0
                try clear hcz22_1
                try clear hcz22_2
                try clear hcz22_3
                try clear hcz23_0
                try clear hcz23_1
                try clear hcz23_2
                try clear hcz23_3
                try clear hcz6_0
                try clear hcz6_1
                try clear hcz6_2
                try clear hcz6_3
                try clear hcz7_0
                try clear hcz7_1
                try clear hcz7_2
                try clear hcz7_3
                try clear hfz11_0
                try clear hfz11_1
                try clear hfz11_2
                try clear hfz11_3
                try clear hfz14_0
                try clear hfz14_1
                try clear hfz14_2
                try clear hfz14_3
                try clear hfz22_0
                try clear hfz22_1
                try clear hfz22_2
                try clear hfz22_3
                try clear hfz23_0
                try clear hfz23_1
                try clear hfz23_2
                try clear hfz23_3
                try clear hfz6_0
                try clear hfz6_1
                try clear hfz6_2
                try clear hfz6_3
                try clear hfz7_0
                try clear hfz7_1
                try clear hfz7_2
                try clear hfz7_3
                try clear p2
                obtain ⟨kq, x28_18, rfl, HA, HJ18, BK119, HB⟩ := hcut
                cases kq with
                | zero => exact absurd HA.out (by simp [header_Answer.j2])
                | succ kj18 =>
                  have H := HA.out
                  clear HA
                  simp only [header_Answer.j2] at H
                  by_cases c24 : x28_18 = true
                  · subst c24
                    have H1 : ((header_Code.f a1).bind fun t126 => ((header_Write.f 2 0 1 a0_3 (([t126] : List Int))).bind fun t130 => (some (t130, true)))) = some (r1, r2) := by rw [if_pos rfl] at H; exact H
                    clear H
                    have H := H1
                    clear H1
                    replace H := Option.bind_eq_some_iff.mp H
                    obtain ⟨t126, A250, H⟩ := H
                    replace H : ((header_Write.f 2 0 1 a0_3 (([t126] : List Int))).bind fun t130 => (some (t130, true))) = some (r1, r2) := H
                    have A25 := Aside0.mk A250
                    clear A250
                    obtain ⟨y127, hy127⟩ : ∃ y_ : List Int, y_ = (([t126] : List Int)) := ⟨_, rfl⟩
                    replace H : ((header_Write.f 2 0 1 a0_3 y127).bind fun t130 => (some (t130, true))) = some (r1, r2) := by first | (rw [hy127]; with_reducible exact H) | (have H2_ := (Option.bind_some _ _).symm.trans H; rw [hy127]; with_reducible exact H2_) | (have H2_ := (Option.bind_some _ _).symm.trans H; with_reducible exact H2_) | with_reducible exact H | (rw [hy127]; exact H) | exact H
                    have Ny127 := Aside0.mk hy127
                    clear hy127
                    replace H := Option.bind_eq_some_iff.mp H
                    obtain ⟨t130, A260, H⟩ := H
                    replace H : (some (t130, true)) = some (r1, r2) := H
                    have A26 := Aside0.mk A260
                    clear A260
                    simp only [Option.some.injEq, Prod.mk.injEq] at H
                    obtain ⟨rfl, rfl⟩ := H
                    try go_wp2
                    have n0_ := Aside0.mk (blk_drew BK119.out)
                    have n1_ := Aside0.mk (below_drew1 HB.out)
                    clear BK119
                    clear HB
                    have BK119 := n0_
                    have HB := n1_
                    clear n0_ n1_
                    refine start_ (n := 9) (S := fun w' => w'.cell? ⟨gb119, 0, none⟩ = some (.int .u8 a0_0) ∧ w'.cell? ⟨gb119, 1, none⟩ = some (.int .u8 a0_1) ∧ w'.cell? ⟨gb119, 2, none⟩ = some (.int .u8 a0_2) ∧ w'.cell? ⟨gb119, 3, none⟩ = some (.int .u16 a0_3)) (ds := []) #[false, false, false, false, false, false, false, false, false] (by kernel_rfl) rfl rfl ⟨(blk_cell BK119.out 0).trans rfl, (blk_cell BK119.out 1).trans rfl, (blk_cell BK119.out 2).trans rfl, (blk_cell BK119.out 3).trans rfl⟩ (fun hHeld => ?_); refine with_tabW header_Answer.tab6 header_Answer.bits6 (fun HT_ HW_ => ?_)
                    generalize wc.drew = w27 at BK119 HB hHeld ⊢
                    refine pure_ (i := 0) (N := some 41) (v := ?_) (a' := ?_) #[true, false, false, false, false, false, false, false, false] rfl rfl (any_of HT_.out (by kernel_rfl)) (fun _ _ _ h => h) (Or.inl ⟨by rfl, ?_⟩) ?_ ?_
                    rotate_left
                    · intro w'
                      go_simp
                      with_reducible rfl
                    rotate_left
                    · simp only [Act.put, List.setIfInBounds_toArray, List.set_cons_zero, List.set_cons_succ, i64_w, i32_w]
                      rfl
                    refine pure_ (i := 3) (N := some 44) (v := ?_) (a' := ?_) #[true, false, false, true, false, false, false, false, false] rfl rfl (any_of HT_.out (by kernel_rfl)) (fun _ _ _ h => h) (Or.inl ⟨by rfl, ?_⟩) ?_ ?_
                    rotate_left
                    · intro w'
                      go_simp
                      with_reducible rfl
                    rotate_left
                    · simp only [Act.put, List.setIfInBounds_toArray, List.set_cons_zero, List.set_cons_succ, i64_w, i32_w]
                      rfl
                    refine take_ (i := 1) (N := some 42) (v := ?_) (a' := ?_) #[true, true, false, true, false, false, false, false, false] rfl rfl (take_ofW HT_.out HW_.out (by kernel_rfl)) (fun _ _ _ h => h) (Or.inl ⟨by rfl, ?_⟩) hHeld ?_ ?_
                    rotate_left
                    · rintro w' ⟨s0, s1, s2, s3⟩
                      go_simp
                      with_reducible rfl
                    rotate_left
                    · simp only [Act.put, List.setIfInBounds_toArray, List.set_cons_zero, List.set_cons_succ, i64_w, i32_w]
                      rfl
                    refine pure_ (i := 2) (N := some 43) (v := ?_) (a' := ?_) #[true, true, true, true, false, false, false, false, false] rfl rfl (any_of HT_.out (by kernel_rfl)) (fun _ _ _ h => h) (Or.inl ⟨by rfl, ?_⟩) ?_ ?_
                    rotate_left
                    · intro w'
                      go_simp
                      with_reducible rfl
                    rotate_left
                    · simp only [Act.put, List.setIfInBounds_toArray, List.set_cons_zero, List.set_cons_succ, i64_w, i32_w]
                      rfl
                    refine one_ (i := 4) (N := some 45) #[true, true, true, true, true, false, false, false, false] rfl rfl (one_of HT_.out (by kernel_rfl)) (by decide) (fun K hK => ?_)
                    refine goes_ Try.func15 (by kernel_rfl) rfl #[.int .i64 a1] (by rfl) rfl rfl (by (try simp only [List.map_toArray, List.map_cons, List.map_nil]); first | done | rfl | (simp only [List.length_drop, List.length_take]; rfl)) ?_
                    with_reducible refine (header_Code.calls a1 t126 _ A25.out).mono ?_
                    rintro e w' ⟨rfl, ⟨nd, rfl⟩⟩
                    refine ⟨_, rfl, ?_⟩
                    refine hK.out _ _ ⟨(blk_cell BK119.out 0).trans rfl, (blk_cell BK119.out 1).trans rfl, (blk_cell BK119.out 2).trans rfl, (blk_cell BK119.out 3).trans rfl⟩ (fun hHeld => ?_)
                    clear hK K
                    refine norm_ (a' := ?_) ?_ ?_
                    rotate_left
                    · show Act.put _ (some 45) _ = _
                      simp only [Act.put, List.setIfInBounds_toArray, List.set_cons_zero, List.set_cons_succ, i64_w, i32_w]
                      rfl
                    refine one_ (i := 5) (N := some 46) #[true, true, true, true, true, true, false, false, false] rfl rfl (one_of HT_.out (by kernel_rfl)) (by decide) (fun K hK => ?_)
                    refine Kd.R_lit_step (Kd.int .u8) _ 5 ?hg (N := 46) ?hd (xs := ([t126] : List Int)) (inner := [.int .u8 t126]) (ok := fun _ => True) (okp := fun _ => True) ?hr ?hp (fun _ hk => hk) trivial (Below.refl _ _) (Nat.le_refl _) (by simp) ?_; (case hd => rfl); (case hg => rfl); (case hr => first | (go_simp; done) | (go_simp; rfl)); (case hp => exact (Reps.one (show Kd.M (Kd.int .u8) _ _ _ t126 [.int .u8 t126] from rfl) (Reps.none _ _)))
                    intro v128 w28 ho29 hb hg_ hnew_
                    clear hg_ hnew_
                    (first | rw [← Ny127.out] at ho29 | (simp only [Int.reduceToNat] at ho29; rw [← Ny127.out] at ho29))
                    have n0_ := Aside0.mk (Kd.R_lower ho29 (below_size (by repeat (first | (with_reducible first | exact HB.out | apply below_alloc | apply pw_below_drewN | apply below_drew1 | refine below_set ?_ GE119.out) | exact HB.out))))
                    have n1_ := Aside0.mk (blk_below (g := gb119) (o := .cells #[.int .u8 a0_0, .int .u8 a0_1, .int .u8 a0_2, .int .u16 a0_3] 25 (0, 0)) (by (with_reducible repeat (first | refine blk_drewN ?_ _ | refine blk_drew ?_ | refine blk_alloc ?_ _)); exact BK119.out) hb)
                    have n2_ := Aside0.mk (below_step (by repeat (first | (with_reducible first | exact HB.out | apply below_alloc | apply pw_below_drewN | apply below_drew1 | refine below_set ?_ GE119.out) | exact HB.out)) hb)
                    clear BK119
                    clear HB
                    have HO129 := n0_
                    have BK119 := n1_
                    have HB := n2_
                    clear n0_ n1_ n2_
                    clear hb ho29
                    obtain ⟨Ao30, co30, eo30⟩ := Kd.R_slice HO129.out
                    (first | subst eo30 | (injection eo30 with f1_ f2_ f3_; have f4_ := f1_.symm; have f5_ := f3_.symm; clear f1_ f2_ f3_; subst f4_; subst f5_))
                    refine hK.out _ _ ⟨(blk_cell BK119.out 0).trans rfl, (blk_cell BK119.out 1).trans rfl, (blk_cell BK119.out 2).trans rfl, (blk_cell BK119.out 3).trans rfl⟩ (fun hHeld => ?_)
                    clear hK K
                    refine norm_ (a' := ?_) ?_ ?_
                    rotate_left
                    · show Act.put _ (some 46) _ = _
                      simp only [Act.put, List.setIfInBounds_toArray, List.set_cons_zero, List.set_cons_succ, i64_w, i32_w]
                      rfl
                    refine one_ (i := 6) (N := some 47) #[true, true, true, true, true, true, true, false, false] rfl rfl (one_of HT_.out (by kernel_rfl)) (by decide) (fun K hK => ?_)
                    refine goes_ Try.func17 (by kernel_rfl) rfl #[.agg #[.int .u8 2, .int .u8 0, .int .u8 1, .int .u16 a0_3], .slice Ao30 y127.length co30] (by rfl) rfl rfl (by (try simp only [List.map_toArray, List.map_cons, List.map_nil]); first | done | rfl | (simp only [List.length_drop, List.length_take]; rfl)) ?_
                    with_reducible refine (header_Write.calls 2 0 1 a0_3 _ _ y127 t130 _ ?side1 ?side2 A26.out).mono ?_
                    (case side1 => repeat (first | exact (Kd.R_reads' HO129.out).2.2 | (with_reducible refine Kd.C_alloc ?_ _) | (with_reducible refine Kd.C_drewN ?_ _) | (with_reducible refine Kd.C_drew ?_)))
                    (case side2 => exact (Kd.R_reads' HO129.out).2.1)
                    rintro e w31 ⟨v131, rfl, ho0, hb⟩
                    refine ⟨_, rfl, ?_⟩
                    have n0_ := Aside0.mk (Kd.R_elder' (by (with_reducible repeat (first | apply Kd.R_alloc | apply Kd.R_drewN | apply Kd.R_drew)); exact HO129.out) (Kd.R_base ho0) hb)
                    have n1_ := Aside0.mk (Kd.R_lower (Kd.R_new' ho0 (Kd.R_lt (by (with_reducible repeat (first | apply Kd.R_alloc | apply Kd.R_drewN | apply Kd.R_drew)); exact HO129.out))) (below_size (by repeat (first | (with_reducible first | exact HB.out | apply below_alloc | apply pw_below_drewN | apply below_drew1 | refine below_set ?_ GE119.out) | exact HB.out))))
                    have n2_ := Aside0.mk (blk_below (g := gb119) (o := .cells #[.int .u8 a0_0, .int .u8 a0_1, .int .u8 a0_2, .int .u16 a0_3] 25 (0, 0)) (by (with_reducible repeat (first | refine blk_drewN ?_ _ | refine blk_drew ?_ | refine blk_alloc ?_ _)); exact BK119.out) hb)
                    have n3_ := Aside0.mk (below_step (by repeat (first | (with_reducible first | exact HB.out | apply below_alloc | apply pw_below_drewN | apply below_drew1 | refine below_set ?_ GE119.out) | exact HB.out)) hb)
                    clear HO129
                    clear BK119
                    clear HB
                    have HO129 := n0_
                    have HO132 := n1_
                    have BK119 := n2_
                    have HB := n3_
                    clear n0_ n1_ n2_ n3_
                    (try clear hb)
                    (try clear hb2)
                    (try clear hk)
                    (try clear hi)
                    (try clear ho0)
                    refine hK.out _ _ ⟨(blk_cell BK119.out 0).trans rfl, (blk_cell BK119.out 1).trans rfl, (blk_cell BK119.out 2).trans rfl, (blk_cell BK119.out 3).trans rfl⟩ (fun hHeld => ?_)
                    clear hK K
                    refine norm_ (a' := ?_) ?_ ?_
                    rotate_left
                    · show Act.put _ (some 47) _ = _
                      simp only [Act.put, List.setIfInBounds_toArray, List.set_cons_zero, List.set_cons_succ, i64_w, i32_w]
                      rfl
                    refine pure_ (i := 7) (N := some 4) (v := ?_) (a' := ?_) #[true, true, true, true, true, true, true, true, false] rfl rfl (any_of HT_.out (by kernel_rfl)) (fun _ _ _ h => h) (Or.inl ⟨by rfl, ?_⟩) ?_ ?_
                    rotate_left
                    · intro w'
                      go_simp
                      with_reducible rfl
                    rotate_left
                    · simp only [Act.put, List.setIfInBounds_toArray, List.set_cons_zero, List.set_cons_succ, i64_w, i32_w]
                      rfl
                    refine pure_ (i := 8) (N := some 5) (v := ?_) (a' := ?_) #[true, true, true, true, true, true, true, true, true] rfl rfl (any_of HT_.out (by kernel_rfl)) (fun _ _ _ h => h) (Or.inl ⟨by rfl, ?_⟩) ?_ ?_
                    rotate_left
                    · intro w'
                      go_simp
                      with_reducible rfl
                    rotate_left
                    · simp only [Act.put, List.setIfInBounds_toArray, List.set_cons_zero, List.set_cons_succ, i64_w, i32_w]
                      rfl
                    refine done_ (done_of HT_.out (by kernel_rfl)) ?_
                    try go_wp2
                    go_ret2
                    exact ⟨_, by first | rfl | (simp [errW_none, errW_some] <;> rfl) | (simp [*, errW_none, errW_some] <;> rfl), by (with_reducible repeat (first | apply Kd.R_alloc | apply Kd.R_drewN | apply Kd.R_drew)); exact Kd.R_mono HO132.out (fun _ hk => trivial), by repeat (first | (with_reducible first | exact HB.out | apply below_alloc | apply pw_below_drewN | apply below_drew1 | refine below_set ?_ GE119.out) | exact HB.out)⟩
                  · replace c24 := Bool.eq_false_iff.mpr c24
                    subst c24
                    have H1 : (some (([] : List Int), false)) = some (r1, r2) := by rw [if_neg (show ¬ (false = true) by decide)] at H; exact H
                    clear H
                    have H := H1
                    clear H1
                    simp only [Option.some.injEq, Prod.mk.injEq] at H
                    obtain ⟨rfl, rfl⟩ := H
                    go_wp2
                    go_ret2
                    exact ⟨_, by first | rfl | (simp [errW_none, errW_some] <;> rfl) | (simp [*, errW_none, errW_some] <;> rfl), by first | exact Kd.R_nil _ _ _ _ _ | exact Kd.N_nil _ _ _ _ _ | exact Kd.V_nil _ _ _ _ _ | exact Kd.Q_nil _ _ _ _ _ | exact Kd.S_nil _ _ _ _ _, by repeat (first | (with_reducible first | exact HB.out | apply below_alloc | apply pw_below_drewN | apply below_drew1 | refine below_set ?_ GE119.out) | exact HB.out)⟩

/-! ### header_Sense: function 13 -/
def header_Sense.f (a0_0 : Int) (a0_1 : Int) (a0_2 : Int) (a0_3 : Int) (l1 : List Int) : Option (Int × Bool × Bool) := if a0_0 = 2 then (if a0_2 > 1 then (some (0, false, false)) else (if (l1.length : Int) = 1 then (if 0 < (l1.length : Int) then (some (rd l1 0, (a0_2 != 1), true)) else (none)) else (some (0, false, false)))) else (some (0, false, false))
set_option maxHeartbeats 8000000 in
set_option maxRecDepth 100000 in
theorem header_Sense.calls (a0_0 : Int) (a0_1 : Int) (a0_2 : Int) (a0_3 : Int) (A1 : Option Addr) (c1 : Nat) (l1 : List Int) (r1 : Int) (r2 : Bool) (r3 : Bool) (w : World) (hr1 : Kd.C (Kd.int .u8) w A1 l1.length l1) (hc1 : l1.length ≤ c1) (h : header_Sense.f a0_0 a0_1 a0_2 a0_3 l1 = some (r1, r2, r3)) :
    Calls Try.prog 13 #[.agg #[.int .u8 a0_0, .int .u8 a0_1, .int .u8 a0_2, .int .u16 a0_3], .slice A1 l1.length c1] w fun e w' => e = .returned (.tuple #[.int .u8 r1, .bool r2, .bool r3]) ∧ Below w.heap.size w w' := by
  have hu25 := Try.underlying25
  have HR1 := Aside0.mk hr1
  have HC1 := Aside0.mk hc1
  clear hr1 hc1
  have HB := Aside0.mk (Below.refl w.heap.size w)
  have H : (if a0_0 = 2 then (if a0_2 > 1 then (some (0, false, false)) else (if (l1.length : Int) = 1 then (if 0 < (l1.length : Int) then (some (rd l1 0, (a0_2 != 1), true)) else (none)) else (some (0, false, false)))) else (some (0, false, false))) = some (r1, r2, r3) := h
  clear h
  by_cases c3 : a0_0 = 2
  · rw [if_pos c3] at H
    have c3b0 : (a0_0 == 2) = true := beq_iff_eq.mpr c3
    have c3b1 : (a0_0 != 2) = false := bne_eq_false_iff_eq.mpr c3
    clear c3
    by_cases c4 : a0_2 > 1
    · rw [if_pos c4] at H
      have c4b0 : decide (1 < a0_2) = true := decide_eq_true c4
      clear c4
      simp only [Option.some.injEq, Prod.mk.injEq] at H
      obtain ⟨rfl, rfl, rfl⟩ := H
      go_enter Try.func13, Try.ntmps13
      go_wp2_with (first | ((with_reducible refine gate_dst (N := 2) rfl ?_); (try (refine gate_guard (by rfl) ?_; dsimp only)); refine box_event ?hg (N := 2) ?hd (cs := #[.int .u8 a0_0, .int .u8 a0_1, .int .u8 a0_2, .int .u16 a0_3]) (t := 25) ?hr ?_; (case hd => rfl); (case hg => rfl); (case hr => first | (go_simp; done) | (go_simp; rfl)); intro gb133 hg w5 hbox hb; have n0_ := Aside0.mk (below_step (by repeat (first | (with_reducible first | exact HB.out | apply below_alloc | apply pw_below_drewN | apply below_drew1) | exact HB.out)) hb); have n1_ := Aside0.mk (hbox); have n2_ := Aside0.mk ((by rw [hg]; exact (below_size (by repeat (first | (with_reducible first | exact HB.out | apply below_alloc | apply pw_below_drewN | apply below_drew1) | exact HB.out))) : w.heap.size ≤ gb133)); have n3_ := Aside0.mk ((by rw [hg]; exact (below_size (by repeat (first | (with_reducible first | exact HB.out | apply below_alloc | apply pw_below_drewN | apply below_drew1) | exact HB.out))) : w.heap.size ≤ gb133)); clear HB; have HB := n0_; have BK133 := n1_; have GW133 := n2_; have GE133 := n3_; clear n0_ n1_ n2_ n3_; clear hb hbox hg; have hcz6_0 : w5.cell? ⟨gb133, 0, none⟩ = some (.int .u8 a0_0) := (blk_cell BK133.out 0).trans rfl; have hcz6_1 : w5.cell? ⟨gb133, 1, none⟩ = some (.int .u8 a0_1) := (blk_cell BK133.out 1).trans rfl; have hcz6_2 : w5.cell? ⟨gb133, 2, none⟩ = some (.int .u8 a0_2) := (blk_cell BK133.out 2).trans rfl; have hcz6_3 : w5.cell? ⟨gb133, 3, none⟩ = some (.int .u16 a0_3) := (blk_cell BK133.out 3).trans rfl; have hfz6_0 := blk_frozen BK133.out 0; have hfz6_1 := blk_frozen BK133.out 1; have hfz6_2 := blk_frozen BK133.out 2; have hfz6_3 := blk_frozen BK133.out 3))
      repeat (go_quiet (first | ((with_reducible refine gate_dst (N := 2) rfl ?_); (try (refine gate_guard (by rfl) ?_; dsimp only)); refine box_event ?hg (N := 2) ?hd (cs := #[.int .u8 a0_0, .int .u8 a0_1, .int .u8 a0_2, .int .u16 a0_3]) (t := 25) ?hr ?_; (case hd => rfl); (case hg => rfl); (case hr => first | (go_simp; done) | (go_simp; rfl)); intro gb133 hg w5 hbox hb; have n0_ := Aside0.mk (below_step (by repeat (first | (with_reducible first | exact HB.out | apply below_alloc | apply pw_below_drewN | apply below_drew1) | exact HB.out)) hb); have n1_ := Aside0.mk (hbox); have n2_ := Aside0.mk ((by rw [hg]; exact (below_size (by repeat (first | (with_reducible first | exact HB.out | apply below_alloc | apply pw_below_drewN | apply below_drew1) | exact HB.out))) : w.heap.size ≤ gb133)); have n3_ := Aside0.mk ((by rw [hg]; exact (below_size (by repeat (first | (with_reducible first | exact HB.out | apply below_alloc | apply pw_below_drewN | apply below_drew1) | exact HB.out))) : w.heap.size ≤ gb133)); clear HB; have HB := n0_; have BK133 := n1_; have GW133 := n2_; have GE133 := n3_; clear n0_ n1_ n2_ n3_; clear hb hbox hg; have hcz6_0 : w5.cell? ⟨gb133, 0, none⟩ = some (.int .u8 a0_0) := (blk_cell BK133.out 0).trans rfl; have hcz6_1 : w5.cell? ⟨gb133, 1, none⟩ = some (.int .u8 a0_1) := (blk_cell BK133.out 1).trans rfl; have hcz6_2 : w5.cell? ⟨gb133, 2, none⟩ = some (.int .u8 a0_2) := (blk_cell BK133.out 2).trans rfl; have hcz6_3 : w5.cell? ⟨gb133, 3, none⟩ = some (.int .u16 a0_3) := (blk_cell BK133.out 3).trans rfl; have hfz6_0 := blk_frozen BK133.out 0; have hfz6_1 := blk_frozen BK133.out 1; have hfz6_2 := blk_frozen BK133.out 2; have hfz6_3 := blk_frozen BK133.out 3)); try go_wp2_with (first | ((with_reducible refine gate_dst (N := 2) rfl ?_); (try (refine gate_guard (by rfl) ?_; dsimp only)); refine box_event ?hg (N := 2) ?hd (cs := #[.int .u8 a0_0, .int .u8 a0_1, .int .u8 a0_2, .int .u16 a0_3]) (t := 25) ?hr ?_; (case hd => rfl); (case hg => rfl); (case hr => first | (go_simp; done) | (go_simp; rfl)); intro gb133 hg w5 hbox hb; have n0_ := Aside0.mk (below_step (by repeat (first | (with_reducible first | exact HB.out | apply below_alloc | apply pw_below_drewN | apply below_drew1) | exact HB.out)) hb); have n1_ := Aside0.mk (hbox); have n2_ := Aside0.mk ((by rw [hg]; exact (below_size (by repeat (first | (with_reducible first | exact HB.out | apply below_alloc | apply pw_below_drewN | apply below_drew1) | exact HB.out))) : w.heap.size ≤ gb133)); have n3_ := Aside0.mk ((by rw [hg]; exact (below_size (by repeat (first | (with_reducible first | exact HB.out | apply below_alloc | apply pw_below_drewN | apply below_drew1) | exact HB.out))) : w.heap.size ≤ gb133)); clear HB; have HB := n0_; have BK133 := n1_; have GW133 := n2_; have GE133 := n3_; clear n0_ n1_ n2_ n3_; clear hb hbox hg; have hcz6_0 : w5.cell? ⟨gb133, 0, none⟩ = some (.int .u8 a0_0) := (blk_cell BK133.out 0).trans rfl; have hcz6_1 : w5.cell? ⟨gb133, 1, none⟩ = some (.int .u8 a0_1) := (blk_cell BK133.out 1).trans rfl; have hcz6_2 : w5.cell? ⟨gb133, 2, none⟩ = some (.int .u8 a0_2) := (blk_cell BK133.out 2).trans rfl; have hcz6_3 : w5.cell? ⟨gb133, 3, none⟩ = some (.int .u16 a0_3) := (blk_cell BK133.out 3).trans rfl; have hfz6_0 := blk_frozen BK133.out 0; have hfz6_1 := blk_frozen BK133.out 1; have hfz6_2 := blk_frozen BK133.out 2; have hfz6_3 := blk_frozen BK133.out 3)))
      go_ret3
      exact ⟨by first | rfl | (simp [errW_none, errW_some] <;> rfl) | (simp [*, errW_none, errW_some] <;> rfl), by repeat (first | (with_reducible first | exact HB.out | apply below_alloc | apply pw_below_drewN | apply below_drew1 | refine below_set ?_ GE133.out) | exact HB.out)⟩
    · rw [if_neg c4] at H
      have c4b0 : decide (1 < a0_2) = false := decide_eq_false c4
      clear c4
      by_cases c7 : (l1.length : Int) = 1
      · rw [if_pos c7] at H
        have c7b0 : ((l1.length : Int) == 1) = true := beq_iff_eq.mpr c7
        have c7b1 : ((l1.length : Int) != 1) = false := bne_eq_false_iff_eq.mpr c7
        clear c7
        by_cases c8 : 0 < (l1.length : Int)
        · rw [if_pos c8] at H
          have c8b0 : decide (0 < (l1.length : Int)) = true := decide_eq_true c8
          have c8b1 : decide (0 < l1.length) = true := decide_eq_true (by omega)
          clear c8
          simp only [Option.some.injEq, Prod.mk.injEq] at H
          obtain ⟨rfl, rfl, rfl⟩ := H
          go_enter Try.func13, Try.ntmps13
          go_wp2_with (first | ((with_reducible refine gate_dst (N := 2) rfl ?_); (try (refine gate_guard (by rfl) ?_; dsimp only)); refine box_event ?hg (N := 2) ?hd (cs := #[.int .u8 a0_0, .int .u8 a0_1, .int .u8 a0_2, .int .u16 a0_3]) (t := 25) ?hr ?_; (case hd => rfl); (case hg => rfl); (case hr => first | (go_simp; done) | (go_simp; rfl)); intro gb133 hg w9 hbox hb; have n0_ := Aside0.mk (below_step (by repeat (first | (with_reducible first | exact HB.out | apply below_alloc | apply pw_below_drewN | apply below_drew1) | exact HB.out)) hb); have n1_ := Aside0.mk (hbox); have n2_ := Aside0.mk ((by rw [hg]; exact (below_size (by repeat (first | (with_reducible first | exact HB.out | apply below_alloc | apply pw_below_drewN | apply below_drew1) | exact HB.out))) : w.heap.size ≤ gb133)); have n3_ := Aside0.mk ((by rw [hg]; exact (below_size (by repeat (first | (with_reducible first | exact HB.out | apply below_alloc | apply pw_below_drewN | apply below_drew1) | exact HB.out))) : w.heap.size ≤ gb133)); clear HB; have HB := n0_; have BK133 := n1_; have GW133 := n2_; have GE133 := n3_; clear n0_ n1_ n2_ n3_; clear hb hbox hg; have hcz10_0 : w9.cell? ⟨gb133, 0, none⟩ = some (.int .u8 a0_0) := (blk_cell BK133.out 0).trans rfl; have hcz10_1 : w9.cell? ⟨gb133, 1, none⟩ = some (.int .u8 a0_1) := (blk_cell BK133.out 1).trans rfl; have hcz10_2 : w9.cell? ⟨gb133, 2, none⟩ = some (.int .u8 a0_2) := (blk_cell BK133.out 2).trans rfl; have hcz10_3 : w9.cell? ⟨gb133, 3, none⟩ = some (.int .u16 a0_3) := (blk_cell BK133.out 3).trans rfl; have hfz10_0 := blk_frozen BK133.out 0; have hfz10_1 := blk_frozen BK133.out 1; have hfz10_2 := blk_frozen BK133.out 2; have hfz10_3 := blk_frozen BK133.out 3; have p134 : 0 ≤ (0 : Int) := (by omega); have q134 : 0 < (l1.length : Int) := of_decide_eq_true (by first | (with_reducible assumption) | assumption); obtain ⟨ad134, e134, hx134_0⟩ := Kd.at_int HR1.out 0 p134 q134; cases e134; have qi134 : (0 < l1.length) = True := eq_true (by omega); (try rw [show ((0 : Int)).toNat = 0 from rfl] at hx134_0); (try rw [Addr.add_zero'] at hx134_0); replace hx134_0 := (HB.out.cell (World.block_lt_of_cell? w _ hx134_0)).trans hx134_0; replace p134 := eq_true p134; replace q134 := eq_true q134))
          repeat (go_quiet (first | ((with_reducible refine gate_dst (N := 2) rfl ?_); (try (refine gate_guard (by rfl) ?_; dsimp only)); refine box_event ?hg (N := 2) ?hd (cs := #[.int .u8 a0_0, .int .u8 a0_1, .int .u8 a0_2, .int .u16 a0_3]) (t := 25) ?hr ?_; (case hd => rfl); (case hg => rfl); (case hr => first | (go_simp; done) | (go_simp; rfl)); intro gb133 hg w9 hbox hb; have n0_ := Aside0.mk (below_step (by repeat (first | (with_reducible first | exact HB.out | apply below_alloc | apply pw_below_drewN | apply below_drew1) | exact HB.out)) hb); have n1_ := Aside0.mk (hbox); have n2_ := Aside0.mk ((by rw [hg]; exact (below_size (by repeat (first | (with_reducible first | exact HB.out | apply below_alloc | apply pw_below_drewN | apply below_drew1) | exact HB.out))) : w.heap.size ≤ gb133)); have n3_ := Aside0.mk ((by rw [hg]; exact (below_size (by repeat (first | (with_reducible first | exact HB.out | apply below_alloc | apply pw_below_drewN | apply below_drew1) | exact HB.out))) : w.heap.size ≤ gb133)); clear HB; have HB := n0_; have BK133 := n1_; have GW133 := n2_; have GE133 := n3_; clear n0_ n1_ n2_ n3_; clear hb hbox hg; have hcz10_0 : w9.cell? ⟨gb133, 0, none⟩ = some (.int .u8 a0_0) := (blk_cell BK133.out 0).trans rfl; have hcz10_1 : w9.cell? ⟨gb133, 1, none⟩ = some (.int .u8 a0_1) := (blk_cell BK133.out 1).trans rfl; have hcz10_2 : w9.cell? ⟨gb133, 2, none⟩ = some (.int .u8 a0_2) := (blk_cell BK133.out 2).trans rfl; have hcz10_3 : w9.cell? ⟨gb133, 3, none⟩ = some (.int .u16 a0_3) := (blk_cell BK133.out 3).trans rfl; have hfz10_0 := blk_frozen BK133.out 0; have hfz10_1 := blk_frozen BK133.out 1; have hfz10_2 := blk_frozen BK133.out 2; have hfz10_3 := blk_frozen BK133.out 3; have p134 : 0 ≤ (0 : Int) := (by omega); have q134 : 0 < (l1.length : Int) := of_decide_eq_true (by first | (with_reducible assumption) | assumption); obtain ⟨ad134, e134, hx134_0⟩ := Kd.at_int HR1.out 0 p134 q134; cases e134; have qi134 : (0 < l1.length) = True := eq_true (by omega); (try rw [show ((0 : Int)).toNat = 0 from rfl] at hx134_0); (try rw [Addr.add_zero'] at hx134_0); replace hx134_0 := (HB.out.cell (World.block_lt_of_cell? w _ hx134_0)).trans hx134_0; replace p134 := eq_true p134; replace q134 := eq_true q134)); try go_wp2_with (first | ((with_reducible refine gate_dst (N := 2) rfl ?_); (try (refine gate_guard (by rfl) ?_; dsimp only)); refine box_event ?hg (N := 2) ?hd (cs := #[.int .u8 a0_0, .int .u8 a0_1, .int .u8 a0_2, .int .u16 a0_3]) (t := 25) ?hr ?_; (case hd => rfl); (case hg => rfl); (case hr => first | (go_simp; done) | (go_simp; rfl)); intro gb133 hg w9 hbox hb; have n0_ := Aside0.mk (below_step (by repeat (first | (with_reducible first | exact HB.out | apply below_alloc | apply pw_below_drewN | apply below_drew1) | exact HB.out)) hb); have n1_ := Aside0.mk (hbox); have n2_ := Aside0.mk ((by rw [hg]; exact (below_size (by repeat (first | (with_reducible first | exact HB.out | apply below_alloc | apply pw_below_drewN | apply below_drew1) | exact HB.out))) : w.heap.size ≤ gb133)); have n3_ := Aside0.mk ((by rw [hg]; exact (below_size (by repeat (first | (with_reducible first | exact HB.out | apply below_alloc | apply pw_below_drewN | apply below_drew1) | exact HB.out))) : w.heap.size ≤ gb133)); clear HB; have HB := n0_; have BK133 := n1_; have GW133 := n2_; have GE133 := n3_; clear n0_ n1_ n2_ n3_; clear hb hbox hg; have hcz10_0 : w9.cell? ⟨gb133, 0, none⟩ = some (.int .u8 a0_0) := (blk_cell BK133.out 0).trans rfl; have hcz10_1 : w9.cell? ⟨gb133, 1, none⟩ = some (.int .u8 a0_1) := (blk_cell BK133.out 1).trans rfl; have hcz10_2 : w9.cell? ⟨gb133, 2, none⟩ = some (.int .u8 a0_2) := (blk_cell BK133.out 2).trans rfl; have hcz10_3 : w9.cell? ⟨gb133, 3, none⟩ = some (.int .u16 a0_3) := (blk_cell BK133.out 3).trans rfl; have hfz10_0 := blk_frozen BK133.out 0; have hfz10_1 := blk_frozen BK133.out 1; have hfz10_2 := blk_frozen BK133.out 2; have hfz10_3 := blk_frozen BK133.out 3; have p134 : 0 ≤ (0 : Int) := (by omega); have q134 : 0 < (l1.length : Int) := of_decide_eq_true (by first | (with_reducible assumption) | assumption); obtain ⟨ad134, e134, hx134_0⟩ := Kd.at_int HR1.out 0 p134 q134; cases e134; have qi134 : (0 < l1.length) = True := eq_true (by omega); (try rw [show ((0 : Int)).toNat = 0 from rfl] at hx134_0); (try rw [Addr.add_zero'] at hx134_0); replace hx134_0 := (HB.out.cell (World.block_lt_of_cell? w _ hx134_0)).trans hx134_0; replace p134 := eq_true p134; replace q134 := eq_true q134)))
          go_ret3
          exact ⟨by first | rfl | (simp [errW_none, errW_some] <;> rfl) | (simp [*, errW_none, errW_some] <;> rfl), by repeat (first | (with_reducible first | exact HB.out | apply below_alloc | apply pw_below_drewN | apply below_drew1 | refine below_set ?_ GE133.out) | exact HB.out)⟩
        · rw [if_neg c8] at H
          exact absurd H (by simp)
      · rw [if_neg c7] at H
        have c7b0 : ((l1.length : Int) == 1) = false := beq_eq_false_iff_ne.mpr c7
        have c7b1 : ((l1.length : Int) != 1) = true := bne_iff_ne.mpr c7
        simp only [Option.some.injEq, Prod.mk.injEq] at H
        obtain ⟨rfl, rfl, rfl⟩ := H
        go_enter Try.func13, Try.ntmps13
        go_wp2_with (first | ((with_reducible refine gate_dst (N := 2) rfl ?_); (try (refine gate_guard (by rfl) ?_; dsimp only)); refine box_event ?hg (N := 2) ?hd (cs := #[.int .u8 a0_0, .int .u8 a0_1, .int .u8 a0_2, .int .u16 a0_3]) (t := 25) ?hr ?_; (case hd => rfl); (case hg => rfl); (case hr => first | (go_simp; done) | (go_simp; rfl)); intro gb133 hg w11 hbox hb; have n0_ := Aside0.mk (below_step (by repeat (first | (with_reducible first | exact HB.out | apply below_alloc | apply pw_below_drewN | apply below_drew1) | exact HB.out)) hb); have n1_ := Aside0.mk (hbox); have n2_ := Aside0.mk ((by rw [hg]; exact (below_size (by repeat (first | (with_reducible first | exact HB.out | apply below_alloc | apply pw_below_drewN | apply below_drew1) | exact HB.out))) : w.heap.size ≤ gb133)); have n3_ := Aside0.mk ((by rw [hg]; exact (below_size (by repeat (first | (with_reducible first | exact HB.out | apply below_alloc | apply pw_below_drewN | apply below_drew1) | exact HB.out))) : w.heap.size ≤ gb133)); clear HB; have HB := n0_; have BK133 := n1_; have GW133 := n2_; have GE133 := n3_; clear n0_ n1_ n2_ n3_; clear hb hbox hg; have hcz12_0 : w11.cell? ⟨gb133, 0, none⟩ = some (.int .u8 a0_0) := (blk_cell BK133.out 0).trans rfl; have hcz12_1 : w11.cell? ⟨gb133, 1, none⟩ = some (.int .u8 a0_1) := (blk_cell BK133.out 1).trans rfl; have hcz12_2 : w11.cell? ⟨gb133, 2, none⟩ = some (.int .u8 a0_2) := (blk_cell BK133.out 2).trans rfl; have hcz12_3 : w11.cell? ⟨gb133, 3, none⟩ = some (.int .u16 a0_3) := (blk_cell BK133.out 3).trans rfl; have hfz12_0 := blk_frozen BK133.out 0; have hfz12_1 := blk_frozen BK133.out 1; have hfz12_2 := blk_frozen BK133.out 2; have hfz12_3 := blk_frozen BK133.out 3))
        repeat (go_quiet (first | ((with_reducible refine gate_dst (N := 2) rfl ?_); (try (refine gate_guard (by rfl) ?_; dsimp only)); refine box_event ?hg (N := 2) ?hd (cs := #[.int .u8 a0_0, .int .u8 a0_1, .int .u8 a0_2, .int .u16 a0_3]) (t := 25) ?hr ?_; (case hd => rfl); (case hg => rfl); (case hr => first | (go_simp; done) | (go_simp; rfl)); intro gb133 hg w11 hbox hb; have n0_ := Aside0.mk (below_step (by repeat (first | (with_reducible first | exact HB.out | apply below_alloc | apply pw_below_drewN | apply below_drew1) | exact HB.out)) hb); have n1_ := Aside0.mk (hbox); have n2_ := Aside0.mk ((by rw [hg]; exact (below_size (by repeat (first | (with_reducible first | exact HB.out | apply below_alloc | apply pw_below_drewN | apply below_drew1) | exact HB.out))) : w.heap.size ≤ gb133)); have n3_ := Aside0.mk ((by rw [hg]; exact (below_size (by repeat (first | (with_reducible first | exact HB.out | apply below_alloc | apply pw_below_drewN | apply below_drew1) | exact HB.out))) : w.heap.size ≤ gb133)); clear HB; have HB := n0_; have BK133 := n1_; have GW133 := n2_; have GE133 := n3_; clear n0_ n1_ n2_ n3_; clear hb hbox hg; have hcz12_0 : w11.cell? ⟨gb133, 0, none⟩ = some (.int .u8 a0_0) := (blk_cell BK133.out 0).trans rfl; have hcz12_1 : w11.cell? ⟨gb133, 1, none⟩ = some (.int .u8 a0_1) := (blk_cell BK133.out 1).trans rfl; have hcz12_2 : w11.cell? ⟨gb133, 2, none⟩ = some (.int .u8 a0_2) := (blk_cell BK133.out 2).trans rfl; have hcz12_3 : w11.cell? ⟨gb133, 3, none⟩ = some (.int .u16 a0_3) := (blk_cell BK133.out 3).trans rfl; have hfz12_0 := blk_frozen BK133.out 0; have hfz12_1 := blk_frozen BK133.out 1; have hfz12_2 := blk_frozen BK133.out 2; have hfz12_3 := blk_frozen BK133.out 3)); try go_wp2_with (first | ((with_reducible refine gate_dst (N := 2) rfl ?_); (try (refine gate_guard (by rfl) ?_; dsimp only)); refine box_event ?hg (N := 2) ?hd (cs := #[.int .u8 a0_0, .int .u8 a0_1, .int .u8 a0_2, .int .u16 a0_3]) (t := 25) ?hr ?_; (case hd => rfl); (case hg => rfl); (case hr => first | (go_simp; done) | (go_simp; rfl)); intro gb133 hg w11 hbox hb; have n0_ := Aside0.mk (below_step (by repeat (first | (with_reducible first | exact HB.out | apply below_alloc | apply pw_below_drewN | apply below_drew1) | exact HB.out)) hb); have n1_ := Aside0.mk (hbox); have n2_ := Aside0.mk ((by rw [hg]; exact (below_size (by repeat (first | (with_reducible first | exact HB.out | apply below_alloc | apply pw_below_drewN | apply below_drew1) | exact HB.out))) : w.heap.size ≤ gb133)); have n3_ := Aside0.mk ((by rw [hg]; exact (below_size (by repeat (first | (with_reducible first | exact HB.out | apply below_alloc | apply pw_below_drewN | apply below_drew1) | exact HB.out))) : w.heap.size ≤ gb133)); clear HB; have HB := n0_; have BK133 := n1_; have GW133 := n2_; have GE133 := n3_; clear n0_ n1_ n2_ n3_; clear hb hbox hg; have hcz12_0 : w11.cell? ⟨gb133, 0, none⟩ = some (.int .u8 a0_0) := (blk_cell BK133.out 0).trans rfl; have hcz12_1 : w11.cell? ⟨gb133, 1, none⟩ = some (.int .u8 a0_1) := (blk_cell BK133.out 1).trans rfl; have hcz12_2 : w11.cell? ⟨gb133, 2, none⟩ = some (.int .u8 a0_2) := (blk_cell BK133.out 2).trans rfl; have hcz12_3 : w11.cell? ⟨gb133, 3, none⟩ = some (.int .u16 a0_3) := (blk_cell BK133.out 3).trans rfl; have hfz12_0 := blk_frozen BK133.out 0; have hfz12_1 := blk_frozen BK133.out 1; have hfz12_2 := blk_frozen BK133.out 2; have hfz12_3 := blk_frozen BK133.out 3)))
        go_ret3
        exact ⟨by first | rfl | (simp [errW_none, errW_some] <;> rfl) | (simp [*, errW_none, errW_some] <;> rfl), by repeat (first | (with_reducible first | exact HB.out | apply below_alloc | apply pw_below_drewN | apply below_drew1 | refine below_set ?_ GE133.out) | exact HB.out)⟩
  · rw [if_neg c3] at H
    have c3b0 : (a0_0 == 2) = false := beq_eq_false_iff_ne.mpr c3
    have c3b1 : (a0_0 != 2) = true := bne_iff_ne.mpr c3
    simp only [Option.some.injEq, Prod.mk.injEq] at H
    obtain ⟨rfl, rfl, rfl⟩ := H
    go_enter Try.func13, Try.ntmps13
    go_wp2_with (first | ((with_reducible refine gate_dst (N := 2) rfl ?_); (try (refine gate_guard (by rfl) ?_; dsimp only)); refine box_event ?hg (N := 2) ?hd (cs := #[.int .u8 a0_0, .int .u8 a0_1, .int .u8 a0_2, .int .u16 a0_3]) (t := 25) ?hr ?_; (case hd => rfl); (case hg => rfl); (case hr => first | (go_simp; done) | (go_simp; rfl)); intro gb133 hg w13 hbox hb; have n0_ := Aside0.mk (below_step (by repeat (first | (with_reducible first | exact HB.out | apply below_alloc | apply pw_below_drewN | apply below_drew1) | exact HB.out)) hb); have n1_ := Aside0.mk (hbox); have n2_ := Aside0.mk ((by rw [hg]; exact (below_size (by repeat (first | (with_reducible first | exact HB.out | apply below_alloc | apply pw_below_drewN | apply below_drew1) | exact HB.out))) : w.heap.size ≤ gb133)); have n3_ := Aside0.mk ((by rw [hg]; exact (below_size (by repeat (first | (with_reducible first | exact HB.out | apply below_alloc | apply pw_below_drewN | apply below_drew1) | exact HB.out))) : w.heap.size ≤ gb133)); clear HB; have HB := n0_; have BK133 := n1_; have GW133 := n2_; have GE133 := n3_; clear n0_ n1_ n2_ n3_; clear hb hbox hg; have hcz14_0 : w13.cell? ⟨gb133, 0, none⟩ = some (.int .u8 a0_0) := (blk_cell BK133.out 0).trans rfl; have hcz14_1 : w13.cell? ⟨gb133, 1, none⟩ = some (.int .u8 a0_1) := (blk_cell BK133.out 1).trans rfl; have hcz14_2 : w13.cell? ⟨gb133, 2, none⟩ = some (.int .u8 a0_2) := (blk_cell BK133.out 2).trans rfl; have hcz14_3 : w13.cell? ⟨gb133, 3, none⟩ = some (.int .u16 a0_3) := (blk_cell BK133.out 3).trans rfl; have hfz14_0 := blk_frozen BK133.out 0; have hfz14_1 := blk_frozen BK133.out 1; have hfz14_2 := blk_frozen BK133.out 2; have hfz14_3 := blk_frozen BK133.out 3))
    repeat (go_quiet (first | ((with_reducible refine gate_dst (N := 2) rfl ?_); (try (refine gate_guard (by rfl) ?_; dsimp only)); refine box_event ?hg (N := 2) ?hd (cs := #[.int .u8 a0_0, .int .u8 a0_1, .int .u8 a0_2, .int .u16 a0_3]) (t := 25) ?hr ?_; (case hd => rfl); (case hg => rfl); (case hr => first | (go_simp; done) | (go_simp; rfl)); intro gb133 hg w13 hbox hb; have n0_ := Aside0.mk (below_step (by repeat (first | (with_reducible first | exact HB.out | apply below_alloc | apply pw_below_drewN | apply below_drew1) | exact HB.out)) hb); have n1_ := Aside0.mk (hbox); have n2_ := Aside0.mk ((by rw [hg]; exact (below_size (by repeat (first | (with_reducible first | exact HB.out | apply below_alloc | apply pw_below_drewN | apply below_drew1) | exact HB.out))) : w.heap.size ≤ gb133)); have n3_ := Aside0.mk ((by rw [hg]; exact (below_size (by repeat (first | (with_reducible first | exact HB.out | apply below_alloc | apply pw_below_drewN | apply below_drew1) | exact HB.out))) : w.heap.size ≤ gb133)); clear HB; have HB := n0_; have BK133 := n1_; have GW133 := n2_; have GE133 := n3_; clear n0_ n1_ n2_ n3_; clear hb hbox hg; have hcz14_0 : w13.cell? ⟨gb133, 0, none⟩ = some (.int .u8 a0_0) := (blk_cell BK133.out 0).trans rfl; have hcz14_1 : w13.cell? ⟨gb133, 1, none⟩ = some (.int .u8 a0_1) := (blk_cell BK133.out 1).trans rfl; have hcz14_2 : w13.cell? ⟨gb133, 2, none⟩ = some (.int .u8 a0_2) := (blk_cell BK133.out 2).trans rfl; have hcz14_3 : w13.cell? ⟨gb133, 3, none⟩ = some (.int .u16 a0_3) := (blk_cell BK133.out 3).trans rfl; have hfz14_0 := blk_frozen BK133.out 0; have hfz14_1 := blk_frozen BK133.out 1; have hfz14_2 := blk_frozen BK133.out 2; have hfz14_3 := blk_frozen BK133.out 3)); try go_wp2_with (first | ((with_reducible refine gate_dst (N := 2) rfl ?_); (try (refine gate_guard (by rfl) ?_; dsimp only)); refine box_event ?hg (N := 2) ?hd (cs := #[.int .u8 a0_0, .int .u8 a0_1, .int .u8 a0_2, .int .u16 a0_3]) (t := 25) ?hr ?_; (case hd => rfl); (case hg => rfl); (case hr => first | (go_simp; done) | (go_simp; rfl)); intro gb133 hg w13 hbox hb; have n0_ := Aside0.mk (below_step (by repeat (first | (with_reducible first | exact HB.out | apply below_alloc | apply pw_below_drewN | apply below_drew1) | exact HB.out)) hb); have n1_ := Aside0.mk (hbox); have n2_ := Aside0.mk ((by rw [hg]; exact (below_size (by repeat (first | (with_reducible first | exact HB.out | apply below_alloc | apply pw_below_drewN | apply below_drew1) | exact HB.out))) : w.heap.size ≤ gb133)); have n3_ := Aside0.mk ((by rw [hg]; exact (below_size (by repeat (first | (with_reducible first | exact HB.out | apply below_alloc | apply pw_below_drewN | apply below_drew1) | exact HB.out))) : w.heap.size ≤ gb133)); clear HB; have HB := n0_; have BK133 := n1_; have GW133 := n2_; have GE133 := n3_; clear n0_ n1_ n2_ n3_; clear hb hbox hg; have hcz14_0 : w13.cell? ⟨gb133, 0, none⟩ = some (.int .u8 a0_0) := (blk_cell BK133.out 0).trans rfl; have hcz14_1 : w13.cell? ⟨gb133, 1, none⟩ = some (.int .u8 a0_1) := (blk_cell BK133.out 1).trans rfl; have hcz14_2 : w13.cell? ⟨gb133, 2, none⟩ = some (.int .u8 a0_2) := (blk_cell BK133.out 2).trans rfl; have hcz14_3 : w13.cell? ⟨gb133, 3, none⟩ = some (.int .u16 a0_3) := (blk_cell BK133.out 3).trans rfl; have hfz14_0 := blk_frozen BK133.out 0; have hfz14_1 := blk_frozen BK133.out 1; have hfz14_2 := blk_frozen BK133.out 2; have hfz14_3 := blk_frozen BK133.out 3)))
    go_ret3
    exact ⟨by first | rfl | (simp [errW_none, errW_some] <;> rfl) | (simp [*, errW_none, errW_some] <;> rfl), by repeat (first | (with_reducible first | exact HB.out | apply below_alloc | apply pw_below_drewN | apply below_drew1 | refine below_set ?_ GE133.out) | exact HB.out)⟩


/-! ### header_Counter_Next: function 19 -/
def header_Counter_Next.f (s0_0 : Int) (s0_1 : List Int) : Option (Int × Int × List Int) := if s0_1.length < 100000 then some (Hand.next s0_0 s0_1) else none
theorem header_Counter_Next.calls (g : Nat) (s0_0 : Int) (s0_1 : List Int) (r1 : Int) (r2 : Int) (r3 : List Int) (w0 w : World) (hI : IsS50 w0 w g s0_0 s0_1) (hB : Below w0.heap.size w0 w) (h : header_Counter_Next.f s0_0 s0_1 = some (r1, r2, r3)) :
    Calls Try.prog 19 #[.pointer (some ⟨g, 0, none⟩)] w fun e w' => e = .returned (.int .u16 r1) ∧ IsS50 w0 w' g r2 r3 ∧ Below w0.heap.size w0 w' ∧ KeepT w w' g 23 := by
  unfold header_Counter_Next.f at h
  split at h
  · have h' := Option.some.inj h
    have e1 : s0_0 = r1 := congrArg Prod.fst h'
    have e2 : (Hand.next s0_0 s0_1).2.1 = r2 := congrArg (fun z => z.2.1) h'
    have e3 : (Hand.next s0_0 s0_1).2.2 = r3 := congrArg (fun z => z.2.2) h'
    subst e1 e2 e3
    exact next_calls g _ _ w0 w hI hB (by omega)
  · cases h


/-! ### slices_Index_uint16_uint16: function 26 -/
def slices_Index_uint16_uint16.l0 : Nat → List Int → Int → Int → Int → Option (Int)
  | 0, _, _, _, _ => none
  | k + 1, x0, x1, x7, x8 => if x8 < x7 then (if 0 ≤ x8 then (if x8 < (x0.length : Int) then (if x1 = (rd x0 x8) then (some x8) else (slices_Index_uint16_uint16.l0 k x0 x1 x7 (wrap64 (x8 + 1)))) else (none)) else (none)) else (some (-1))
def slices_Index_uint16_uint16.f (k : Nat) (l0 : List Int) (a1 : Int) : Option (Int) := slices_Index_uint16_uint16.l0 k l0 a1 (l0.length : Int) 0
theorem slices_Index_uint16_uint16.mono_l : ∀ k, (∀ y0 y1 y2 y3, LeO (slices_Index_uint16_uint16.l0 k y0 y1 y2 y3) (slices_Index_uint16_uint16.l0 (k + 1) y0 y1 y2 y3))
  | 0 => fun _ _ _ _ r h => by simp [slices_Index_uint16_uint16.l0] at h
  | k + 1 => by
    have ih0 := slices_Index_uint16_uint16.mono_l k
    · intro y0 y1 y2 y3
      unfold slices_Index_uint16_uint16.l0
      repeat' first
      | (with_reducible exact ih0 _ _ _ _)
      | (with_reducible exact LeO.refl _)
      | (with_reducible exact LeO.none _)
      | (with_reducible refine LeO.ite ?_ ?_)
      | (with_reducible refine LeO.bind ?_ (fun _ => ?_))
      | exact ih0 _ _ _ _
      | exact LeO.none _
      | refine LeO.ite ?_ ?_
      | refine LeO.bind ?_ (fun _ => ?_)
theorem slices_Index_uint16_uint16.mono : ∀ a0 a1 k, LeO (slices_Index_uint16_uint16.f k a0 a1) (slices_Index_uint16_uint16.f (k + 1) a0 a1) := by
  intro a0 a1 k
  have ih0 := slices_Index_uint16_uint16.mono_l k
  unfold slices_Index_uint16_uint16.f
  repeat' first
      | (with_reducible exact ih0 _ _ _ _)
      | (with_reducible exact LeO.refl _)
      | (with_reducible exact LeO.none _)
      | (with_reducible refine LeO.ite ?_ ?_)
      | (with_reducible refine LeO.bind ?_ (fun _ => ?_))
      | exact ih0 _ _ _ _
      | exact LeO.none _
      | refine LeO.ite ?_ ?_
      | refine LeO.bind ?_ (fun _ => ?_)
set_option maxHeartbeats 8000000 in
set_option maxRecDepth 100000 in
theorem slices_Index_uint16_uint16.calls (k : Nat) (A0 : Option Addr) (c0 : Nat) (l0 : List Int) (a1 : Int) (r : Int) (w : World) (hr0 : Kd.C (Kd.int .u16) w A0 l0.length l0) (hc0 : l0.length ≤ c0) (h : slices_Index_uint16_uint16.f k l0 a1 = some r) :
    Calls Try.prog 26 #[.slice A0 l0.length c0, .int .u16 a1] w fun e w' => e = .returned (.int .i64 r) ∧ Drawn0 w w' := by
  have HR0 := Aside0.mk hr0
  have HC0 := Aside0.mk hc0
  clear hr0 hc0
  have H : (slices_Index_uint16_uint16.l0 k l0 a1 (l0.length : Int) 0) = some r := h
  clear h
  have H' := Aside0.mk H
  clear H
  go_enter Try.func26, Try.ntmps26
  go_wp2
  go_loopg [8] k (fun kq v8 w' => ∃ (x8_1 : Int), v8 = .int .i64 x8_1 ∧ Aside0 (slices_Index_uint16_uint16.l0 kq l0 a1 (l0.length : Int) x8_1 = some r) ∧ Aside0 (kq ≤ k) ∧ Drawn0 w w')
  case atStart => exact ⟨(0), (by first | rfl | (simp; done) | (simp [*]; done)), H', ⟨Nat.le_refl _⟩, by repeat (first | exact Drawn0.refl _ | apply Drawn0.step)⟩
  case round =>
    clear H'
    try clear c2
    try clear p2
    obtain ⟨x8_1, rfl, HA, HK1, ⟨m1, rfl⟩⟩ := hrel
    cases gk with
    | zero => exact absurd HA.out (by simp [slices_Index_uint16_uint16.l0])
    | succ k1 =>
      have H := HA.out
      clear HA
      simp only [slices_Index_uint16_uint16.l0] at H
      by_cases c3 : x8_1 < (l0.length : Int)
      · rw [if_pos c3] at H
        have c3b0 : decide (x8_1 < (l0.length : Int)) = true := decide_eq_true c3
        clear c3
        by_cases c4 : 0 ≤ x8_1
        · rw [if_pos c4] at H
          have c4b0 : decide (0 ≤ x8_1) = true := decide_eq_true c4
          clear c4
          by_cases c5 : x8_1 < (l0.length : Int)
          · rw [if_pos c5] at H
            have c5b0 : decide (x8_1 < (l0.length : Int)) = true := decide_eq_true c5
            clear c5
            by_cases c6 : a1 = (rd l0 x8_1)
            · rw [if_pos c6] at H
              have c6b0 : (a1 == (rd l0 x8_1)) = true := beq_iff_eq.mpr c6
              have c6b1 : (a1 != (rd l0 x8_1)) = false := bne_eq_false_iff_eq.mpr c6
              clear c6
              obtain rfl := Option.some.inj H
              have p135 : 0 ≤ (x8_1 : Int) := of_decide_eq_true (by first | (with_reducible assumption) | assumption)
              have q135 : x8_1 < (l0.length : Int) := of_decide_eq_true (by first | (with_reducible assumption) | assumption)
              obtain ⟨ad135, e135, hx135_0⟩ := Kd.at_int HR0.out x8_1 p135 q135
              cases e135
              replace p135 := eq_true p135
              replace q135 := eq_true q135
              go_wp2
              go_ret
              exact ⟨by first | rfl | (simp; done) | (simp [*]; done), by repeat (first | exact Drawn0.refl _ | apply Drawn0.step)⟩
            · rw [if_neg c6] at H
              have c6b0 : (a1 == (rd l0 x8_1)) = false := beq_eq_false_iff_ne.mpr c6
              have c6b1 : (a1 != (rd l0 x8_1)) = true := bne_iff_ne.mpr c6
              have H' := Aside0.mk H
              clear H
              have p135 : 0 ≤ (x8_1 : Int) := of_decide_eq_true (by first | (with_reducible assumption) | assumption)
              have q135 : x8_1 < (l0.length : Int) := of_decide_eq_true (by first | (with_reducible assumption) | assumption)
              obtain ⟨ad135, e135, hx135_0⟩ := Kd.at_int HR0.out x8_1 p135 q135
              cases e135
              replace p135 := eq_true p135
              replace q135 := eq_true q135
              go_wp2
              go_roundg k1
              case measure => have := HK1.out; omega
              case rel => exact ⟨(wrap64 (x8_1 + 1)), (by first | rfl | (simp; done) | (simp [*]; done)), H', ⟨by have := HK1.out; omega⟩, by repeat (first | exact Drawn0.refl _ | apply Drawn0.step)⟩
          · rw [if_neg c5] at H
            exact absurd H (by simp)
        · rw [if_neg c4] at H
          exact absurd H (by simp)
      · rw [if_neg c3] at H
        have c3b0 : decide (x8_1 < (l0.length : Int)) = false := decide_eq_false c3
        clear c3
        obtain rfl := Option.some.inj H
        go_wp2
        go_ret
        exact ⟨by first | rfl | (simp; done) | (simp [*]; done), by repeat (first | exact Drawn0.refl _ | apply Drawn0.step)⟩

-- NOT PRINTED: function 27 (slices_Delete_uint16_uint16)

/-! ### header_Counter_Got: function 21 -/
def header_Counter_Got.f (s0_0 : Int) (s0_1 : List Int) (a1 : Int) : Option (Bool × Int × List Int) := if s0_1.length < 100000 then some (Hand.got s0_0 s0_1 a1) else none
theorem header_Counter_Got.calls (g : Nat) (s0_0 : Int) (s0_1 : List Int) (a1 : Int) (r1 : Bool) (r2 : Int) (r3 : List Int) (w0 w : World) (hI : IsS50 w0 w g s0_0 s0_1) (hB : Below w0.heap.size w0 w) (h : header_Counter_Got.f s0_0 s0_1 a1 = some (r1, r2, r3)) :
    Calls Try.prog 21 #[.pointer (some ⟨g, 0, none⟩), .int .u16 a1] w fun e w' => e = .returned (.bool r1) ∧ IsS50 w0 w' g r2 r3 ∧ Below w0.heap.size w0 w' ∧ KeepT w w' g 23 := by
  unfold header_Counter_Got.f at h
  split at h
  · have h' := Option.some.inj h
    have e1 : decide (a1 ∈ s0_1) = r1 := congrArg Prod.fst h'
    have e2 : s0_0 = r2 := congrArg (fun z => z.2.1) h'
    have e3 : s0_1.erase a1 = r3 := congrArg (fun z => z.2.2) h'
    subst e1 e2 e3
    exact got_calls g _ _ _ w0 w hI hB (by omega)
  · cases h


/-! ### header_Counter_Pending: function 23 -/
def header_Counter_Pending.f (s0_0 : Int) (s0_1 : List Int) : Option (Int × Int × List Int) := some (s0_1.length, s0_0, s0_1)
theorem header_Counter_Pending.calls (g : Nat) (s0_0 : Int) (s0_1 : List Int) (r1 : Int) (r2 : Int) (r3 : List Int) (w0 w : World) (hI : IsS50 w0 w g s0_0 s0_1) (hB : Below w0.heap.size w0 w) (h : header_Counter_Pending.f s0_0 s0_1 = some (r1, r2, r3)) :
    Calls Try.prog 23 #[.pointer (some ⟨g, 0, none⟩)] w fun e w' => e = .returned (.int .i64 r1) ∧ IsS50 w0 w' g r2 r3 ∧ Below w0.heap.size w0 w' ∧ KeepT w w' g 23 := by
  have h' := Option.some.inj h
  have e1 : (s0_1.length : Int) = r1 := congrArg Prod.fst h'
  have e2 : s0_0 = r2 := congrArg (fun z => z.2.1) h'
  have e3 : s0_1 = r3 := congrArg (fun z => z.2.2) h'
  subst e1 e2 e3
  exact pending_calls g _ _ w0 w hI hB


end Go.Proofs.Ytnhogaelhggheaa.P
