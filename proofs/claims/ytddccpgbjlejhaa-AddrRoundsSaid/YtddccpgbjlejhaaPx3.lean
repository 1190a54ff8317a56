-- Laid by program out of the translation, some functions' texts by hand (a session's own run, not print.sh's). Lean checks it.
import Derived.Test.YtddccpgbjlejhaaPx0
import Derived.Test.YtddccpgbjlejhaaPx1
import Derived.Test.YtddccpgbjlejhaaPx2
namespace Go.Proofs.Ytddccpgbjlejhaa.P
open Go.RowKit Go.Proofs.YtddccpgbjlejhaaW.PrintWords Go.Proofs.YtddccpgbjlejhaaW.PrintLast Go.Proofs.YtddccpgbjlejhaaW.PrintMore
attribute [local go_sem] max2_int min2_int max_two min_two max_three min_three max_four min_four   -- for this text's walks alone
set_option linter.unusedVariables false
set_option linter.unusedSimpArgs false

/-! ### greenscreenref02_Digit: function 12 -/
def greenscreenref02_Digit.f (a0 : Int) : Option (Int) := if (Int.tmod a0 16) ≥ 1 then (if (Int.tmod a0 16) ≤ 9 then (if a0 = 33 then (if a0 = 48 then (some ((wrap64 (192 + a0)) % 256)) else (some ((wrap64 (64 + a0)) % 256))) else (some ((wrap64 (192 + a0)) % 256))) else (if a0 = 48 then (some ((wrap64 (192 + a0)) % 256)) else (some ((wrap64 (64 + a0)) % 256)))) else (if a0 = 48 then (some ((wrap64 (192 + a0)) % 256)) else (some ((wrap64 (64 + a0)) % 256)))
set_option maxHeartbeats 8000000 in
set_option maxRecDepth 100000 in
theorem greenscreenref02_Digit.calls (a0 : Int) (r : Int) (w : World) (h : greenscreenref02_Digit.f a0 = some r) :
    Calls Try.prog 12 #[.int .i64 a0] w fun e w' => e = .returned (.int .u8 r) ∧ Drawn0 w w' := by
  have H : (if (Int.tmod a0 16) ≥ 1 then (if (Int.tmod a0 16) ≤ 9 then (if a0 = 33 then (if a0 = 48 then (some ((wrap64 (192 + a0)) % 256)) else (some ((wrap64 (64 + a0)) % 256))) else (some ((wrap64 (192 + a0)) % 256))) else (if a0 = 48 then (some ((wrap64 (192 + a0)) % 256)) else (some ((wrap64 (64 + a0)) % 256)))) else (if a0 = 48 then (some ((wrap64 (192 + a0)) % 256)) else (some ((wrap64 (64 + a0)) % 256)))) = some r := h
  clear h
  by_cases c2 : (Int.tmod a0 16) ≥ 1
  · rw [if_pos c2] at H
    have c2b0 : decide (1 ≤ (Int.tmod a0 16)) = true := decide_eq_true c2
    clear c2
    by_cases c3 : (Int.tmod a0 16) ≤ 9
    · rw [if_pos c3] at H
      have c3b0 : decide ((Int.tmod a0 16) ≤ 9) = true := decide_eq_true c3
      clear c3
      by_cases c4 : a0 = 33
      · rw [if_pos c4] at H
        have c4b0 : (a0 == 33) = true := beq_iff_eq.mpr c4
        have c4b1 : (a0 != 33) = false := bne_eq_false_iff_eq.mpr c4
        clear c4
        by_cases c5 : a0 = 48
        · rw [if_pos c5] at H
          have c5b0 : (a0 == 48) = true := beq_iff_eq.mpr c5
          have c5b1 : (a0 != 48) = false := bne_eq_false_iff_eq.mpr c5
          clear c5
          obtain rfl := Option.some.inj H
          go_enter Try.func12, Try.ntmps12
          go_wp2
          go_ret
          exact ⟨by first | rfl | (simp; done) | (simp [*]; done), by repeat (first | exact Drawn0.refl _ | apply Drawn0.step)⟩
        · rw [if_neg c5] at H
          have c5b0 : (a0 == 48) = false := beq_eq_false_iff_ne.mpr c5
          have c5b1 : (a0 != 48) = true := bne_iff_ne.mpr c5
          obtain rfl := Option.some.inj H
          go_enter Try.func12, Try.ntmps12
          go_wp2
          go_ret
          exact ⟨by first | rfl | (simp; done) | (simp [*]; done), by repeat (first | exact Drawn0.refl _ | apply Drawn0.step)⟩
      · rw [if_neg c4] at H
        have c4b0 : (a0 == 33) = false := beq_eq_false_iff_ne.mpr c4
        have c4b1 : (a0 != 33) = true := bne_iff_ne.mpr c4
        obtain rfl := Option.some.inj H
        go_enter Try.func12, Try.ntmps12
        go_wp2
        go_ret
        exact ⟨by first | rfl | (simp; done) | (simp [*]; done), by repeat (first | exact Drawn0.refl _ | apply Drawn0.step)⟩
    · rw [if_neg c3] at H
      have c3b0 : decide ((Int.tmod a0 16) ≤ 9) = false := decide_eq_false c3
      clear c3
      by_cases c6 : a0 = 48
      · rw [if_pos c6] at H
        have c6b0 : (a0 == 48) = true := beq_iff_eq.mpr c6
        have c6b1 : (a0 != 48) = false := bne_eq_false_iff_eq.mpr c6
        clear c6
        obtain rfl := Option.some.inj H
        go_enter Try.func12, Try.ntmps12
        go_wp2
        go_ret
        exact ⟨by first | rfl | (simp; done) | (simp [*]; done), by repeat (first | exact Drawn0.refl _ | apply Drawn0.step)⟩
      · rw [if_neg c6] at H
        have c6b0 : (a0 == 48) = false := beq_eq_false_iff_ne.mpr c6
        have c6b1 : (a0 != 48) = true := bne_iff_ne.mpr c6
        obtain rfl := Option.some.inj H
        go_enter Try.func12, Try.ntmps12
        go_wp2
        go_ret
        exact ⟨by first | rfl | (simp; done) | (simp [*]; done), by repeat (first | exact Drawn0.refl _ | apply Drawn0.step)⟩
  · rw [if_neg c2] at H
    have c2b0 : decide (1 ≤ (Int.tmod a0 16)) = false := decide_eq_false c2
    clear c2
    by_cases c7 : a0 = 48
    · rw [if_pos c7] at H
      have c7b0 : (a0 == 48) = true := beq_iff_eq.mpr c7
      have c7b1 : (a0 != 48) = false := bne_eq_false_iff_eq.mpr c7
      clear c7
      obtain rfl := Option.some.inj H
      go_enter Try.func12, Try.ntmps12
      go_wp2
      go_ret
      exact ⟨by first | rfl | (simp; done) | (simp [*]; done), by repeat (first | exact Drawn0.refl _ | apply Drawn0.step)⟩
    · rw [if_neg c7] at H
      have c7b0 : (a0 == 48) = false := beq_eq_false_iff_ne.mpr c7
      have c7b1 : (a0 != 48) = true := bne_iff_ne.mpr c7
      obtain rfl := Option.some.inj H
      go_enter Try.func12, Try.ntmps12
      go_wp2
      go_ret
      exact ⟨by first | rfl | (simp; done) | (simp [*]; done), by repeat (first | exact Drawn0.refl _ | apply Drawn0.step)⟩

/-! ### greenscreenref02_Encode: function 10 -/
def greenscreenref02_Encode.j0 : Nat → Int → Int → Bool → Option (Int × Int × Int)
  | 0, _, _, _ => none
  | k + 1, x0, x1, x20 => if x20 = true then (some (0, 0, 1)) else (if x1 > 4096 then (some ((wrap64 (Int.tdiv x0 256)) % 256, (Int.tmod x0 256) % 256, 0)) else ((greenscreenref02_Digit.f (wrap64 (Int.tdiv x0 64))).bind fun t155 => ((greenscreenref02_Digit.f (Int.tmod x0 64)).bind fun t156 => (some (t155, t156, 0)))))
def greenscreenref02_Encode.f (k : Nat) (a0 : Int) (a1 : Int) : Option (Int × Int × Int) := if a1 < 1 then (greenscreenref02_Encode.j0 k a0 a1 true) else (if a1 > 16384 then (greenscreenref02_Encode.j0 k a0 a1 true) else (if a0 < 0 then (greenscreenref02_Encode.j0 k a0 a1 true) else (greenscreenref02_Encode.j0 k a0 a1 (decide (a0 ≥ a1)))))
theorem greenscreenref02_Encode.mono_l : ∀ k, (∀ y0 y1 y2, LeO (greenscreenref02_Encode.j0 k y0 y1 y2) (greenscreenref02_Encode.j0 (k + 1) y0 y1 y2))
  | 0 => fun _ _ _ r h => by simp [greenscreenref02_Encode.j0] at h
  | k + 1 => by
    have ih0 := greenscreenref02_Encode.mono_l k
    · intro y0 y1 y2
      unfold greenscreenref02_Encode.j0
      repeat' first
      | (with_reducible exact ih0 _ _ _)
      | (with_reducible exact LeO.refl _)
      | (with_reducible exact LeO.none _)
      | (with_reducible refine LeO.ite ?_ ?_)
      | (with_reducible refine LeO.bind ?_ (fun _ => ?_))
      | exact ih0 _ _ _
      | exact LeO.none _
      | refine LeO.ite ?_ ?_
      | refine LeO.bind ?_ (fun _ => ?_)
theorem greenscreenref02_Encode.mono : ∀ a0 a1 k, LeO (greenscreenref02_Encode.f k a0 a1) (greenscreenref02_Encode.f (k + 1) a0 a1) := by
  intro a0 a1 k
  have ih0 := greenscreenref02_Encode.mono_l k
  unfold greenscreenref02_Encode.f
  repeat' first
      | (with_reducible exact ih0 _ _ _)
      | (with_reducible exact LeO.refl _)
      | (with_reducible exact LeO.none _)
      | (with_reducible refine LeO.ite ?_ ?_)
      | (with_reducible refine LeO.bind ?_ (fun _ => ?_))
      | exact ih0 _ _ _
      | exact LeO.none _
      | refine LeO.ite ?_ ?_
      | refine LeO.bind ?_ (fun _ => ?_)
set_option maxHeartbeats 8000000 in
set_option maxRecDepth 100000 in
theorem greenscreenref02_Encode.calls (k : Nat) (a0 : Int) (a1 : Int) (r1 : Int) (r2 : Int) (r3 : Int) (w : World) (h : greenscreenref02_Encode.f k a0 a1 = some (r1, r2, r3)) :
    Calls Try.prog 10 #[.int .i64 a0, .int .i64 a1] w fun e w' => e = .returned (.tuple #[.agg #[.int .u8 r1, .int .u8 r2], .int .i64 r3]) ∧ Below w.heap.size w w' := by
  have hu23 := Try.underlying23
  have HB := Aside0.mk (Below.refl w.heap.size w)
  have H : (if a1 < 1 then (greenscreenref02_Encode.j0 k a0 a1 true) else (if a1 > 16384 then (greenscreenref02_Encode.j0 k a0 a1 true) else (if a0 < 0 then (greenscreenref02_Encode.j0 k a0 a1 true) else (greenscreenref02_Encode.j0 k a0 a1 (decide (a0 ≥ a1)))))) = some (r1, r2, r3) := h
  clear h
  have HC3 := Aside0.mk H
  clear H
  go_enter Try.func10, Try.ntmps10
  go_upto_region 1 with (first | ((with_reducible refine gate_dst (N := 4) rfl ?_); refine box_event ?hg (N := 4) ?hd (cs := #[.int .u8 0, .int .u8 0]) (t := 23) ?hr ?_; (case hd => rfl); (case hg => rfl); (case hr => first | (go_simp; done) | (go_simp; rfl)); intro gb154 hg w4 hbox hb; have n0_ := Aside0.mk (below_step (by repeat (first | (with_reducible first | exact HB.out | apply below_alloc | apply pw_below_drewN | apply below_drew1) | exact HB.out)) hb); have n1_ := Aside0.mk (hbox); have n2_ := Aside0.mk ((by rw [hg]; exact (below_size (by repeat (first | (with_reducible first | exact HB.out | apply below_alloc | apply pw_below_drewN | apply below_drew1) | exact HB.out))) : w.heap.size ≤ gb154)); have n3_ := Aside0.mk ((by rw [hg]; exact (below_size (by repeat (first | (with_reducible first | exact HB.out | apply below_alloc | apply pw_below_drewN | apply below_drew1) | exact HB.out))) : w.heap.size ≤ gb154)); clear HB; have HB := n0_; have BK154 := n1_; have GW154 := n2_; have GE154 := n3_; clear n0_ n1_ n2_ n3_; clear hb hbox hg))
  (try simp only [Act.put, List.setIfInBounds_toArray, List.set_cons_zero, List.set_cons_succ])
  go_cut [20] (fun v20 wc => ∃ (kq : Nat) (x20_2 : Bool), v20 = .bool x20_2 ∧ Aside0 (greenscreenref02_Encode.j0 kq a0 a1 x20_2 = some (r1, r2, r3)) ∧ Aside0 (kq ≤ k) ∧ Aside0 (wc.heap[gb154]? = some (.cells #[.int .u8 0, .int .u8 0] 23 (0, 0))) ∧ Aside0 (Below w.heap.size w wc))
  case first =>
    have H := HC3.out
    clear HC3
    by_cases c5 : a1 < 1
    · rw [if_pos c5] at H
      have c5b0 : decide (a1 < 1) = true := decide_eq_true c5
      clear c5
      (first | rw [c5b0] | (simp only [i64_w, i32_w]; rw [c5b0]) | skip)
      have H' := Aside0.mk H
      clear H
      go_wp2
      go_meet
      case rel => exact ⟨_, (true), (by first | rfl | (simp; done) | (simp [*]; done)), H', ⟨by first | omega | exact Nat.le_refl _⟩, ⟨by (with_reducible repeat (first | refine blk_drewN ?_ _ | refine blk_drew ?_ | refine blk_alloc ?_ _)); exact BK154.out⟩, ⟨by repeat (first | (with_reducible first | exact HB.out | apply below_alloc | apply pw_below_drewN | apply below_drew1 | refine below_set ?_ GE154.out) | exact HB.out)⟩⟩
    · rw [if_neg c5] at H
      have c5b0 : decide (a1 < 1) = false := decide_eq_false c5
      clear c5
      (first | rw [c5b0] | (simp only [i64_w, i32_w]; rw [c5b0]) | skip)
      by_cases c6 : a1 > 16384
      · rw [if_pos c6] at H
        have c6b0 : decide (16384 < a1) = true := decide_eq_true c6
        clear c6
        have H' := Aside0.mk H
        clear H
        go_wp2
        go_meet
        case rel => exact ⟨_, (true), (by first | rfl | (simp; done) | (simp [*]; done)), H', ⟨by first | omega | exact Nat.le_refl _⟩, ⟨by (with_reducible repeat (first | refine blk_drewN ?_ _ | refine blk_drew ?_ | refine blk_alloc ?_ _)); exact BK154.out⟩, ⟨by repeat (first | (with_reducible first | exact HB.out | apply below_alloc | apply pw_below_drewN | apply below_drew1 | refine below_set ?_ GE154.out) | exact HB.out)⟩⟩
      · rw [if_neg c6] at H
        have c6b0 : decide (16384 < a1) = false := decide_eq_false c6
        clear c6
        by_cases c7 : a0 < 0
        · rw [if_pos c7] at H
          have c7b0 : decide (a0 < 0) = true := decide_eq_true c7
          clear c7
          have H' := Aside0.mk H
          clear H
          go_wp2
          go_meet
          case rel => exact ⟨_, (true), (by first | rfl | (simp; done) | (simp [*]; done)), H', ⟨by first | omega | exact Nat.le_refl _⟩, ⟨by (with_reducible repeat (first | refine blk_drewN ?_ _ | refine blk_drew ?_ | refine blk_alloc ?_ _)); exact BK154.out⟩, ⟨by repeat (first | (with_reducible first | exact HB.out | apply below_alloc | apply pw_below_drewN | apply below_drew1 | refine below_set ?_ GE154.out) | exact HB.out)⟩⟩
        · rw [if_neg c7] at H
          have c7b0 : decide (a0 < 0) = false := decide_eq_false c7
          clear c7
          have H' := Aside0.mk H
          clear H
          go_wp2
          go_meet
          case rel => exact ⟨_, (decide (a0 ≥ a1)), (by first | rfl | (simp; done) | (simp [*]; done)), H', ⟨by first | omega | exact Nat.le_refl _⟩, ⟨by (with_reducible repeat (first | refine blk_drewN ?_ _ | refine blk_drew ?_ | refine blk_alloc ?_ _)); exact BK154.out⟩, ⟨by repeat (first | (with_reducible first | exact HB.out | apply below_alloc | apply pw_below_drewN | apply below_drew1 | refine below_set ?_ GE154.out) | exact HB.out)⟩⟩
  case rest =>
    clear HC3
    try clear c1
    try clear p2
    try clear c5
    try clear c5b0
    try clear c6
    try clear c6b0
    try clear c7
    try clear c7b0
    obtain ⟨kq, x20_2, rfl, HA, HJ2, BK154, HB⟩ := hcut
    cases kq with
    | zero => exact absurd HA.out (by simp [greenscreenref02_Encode.j0])
    | succ kj2 =>
      have H := HA.out
      clear HA
      simp only [greenscreenref02_Encode.j0] at H
      by_cases c8 : x20_2 = true
      · subst c8
        have H1 : (some (0, 0, 1)) = some (r1, r2, r3) := by rw [if_pos rfl] at H; exact H
        clear H
        have H := H1
        clear H1
        simp only [Option.some.injEq, Prod.mk.injEq] at H
        obtain ⟨rfl, rfl, rfl⟩ := H
        have hcz9_0 : wc.cell? ⟨gb154, 0, none⟩ = some (.int .u8 0) := (blk_cell BK154.out 0).trans rfl
        have hcz9_1 : wc.cell? ⟨gb154, 1, none⟩ = some (.int .u8 0) := (blk_cell BK154.out 1).trans rfl
        have hfz9_0 := blk_frozen BK154.out 0
        have hfz9_1 := blk_frozen BK154.out 1
        go_wp2
        refine bodyPost_ret (results_ct rfl _ _ gb154 23 #[.int .u8 0, .int .u8 0] (0, 0) _ rfl (by (with_reducible repeat (first | refine blk_drewN ?_ _ | refine blk_drew ?_ | refine blk_alloc ?_ _)); refine blk_put (cs := #[.int .u8 0, .int .u8 0]) ?_ 1 _ rfl; (with_reducible repeat (first | refine blk_drewN ?_ _ | refine blk_drew ?_ | refine blk_alloc ?_ _)); refine blk_put (cs := #[.int .u8 0, .int .u8 0]) ?_ 0 _ rfl; (with_reducible repeat (first | refine blk_drewN ?_ _ | refine blk_drew ?_ | refine blk_alloc ?_ _)); exact BK154.out) Try.underlying23 rfl (by kernel_rfl)) rfl ?_
        exact ⟨by first | rfl | (simp [errW_none, errW_some] <;> rfl) | (simp [*, errW_none, errW_some] <;> rfl), by repeat (first | (with_reducible first | exact HB.out | apply below_alloc | apply pw_below_drewN | apply below_drew1 | refine below_set ?_ GE154.out) | exact HB.out)⟩
      · replace c8 := Bool.eq_false_iff.mpr c8
        subst c8
        have H1 : (if a1 > 4096 then (some ((wrap64 (Int.tdiv a0 256)) % 256, (Int.tmod a0 256) % 256, 0)) else ((greenscreenref02_Digit.f (wrap64 (Int.tdiv a0 64))).bind fun t155 => ((greenscreenref02_Digit.f (Int.tmod a0 64)).bind fun t156 => (some (t155, t156, 0))))) = some (r1, r2, r3) := by rw [if_neg (show ¬ (false = true) by decide)] at H; exact H
        clear H
        have H := H1
        clear H1
        by_cases c10 : a1 > 4096
        · rw [if_pos c10] at H
          have c10b0 : decide (4096 < a1) = true := decide_eq_true c10
          clear c10
          simp only [Option.some.injEq, Prod.mk.injEq] at H
          obtain ⟨rfl, rfl, rfl⟩ := H
          have hcz11_0 : wc.cell? ⟨gb154, 0, none⟩ = some (.int .u8 0) := (blk_cell BK154.out 0).trans rfl
          have hcz11_1 : wc.cell? ⟨gb154, 1, none⟩ = some (.int .u8 0) := (blk_cell BK154.out 1).trans rfl
          have hfz11_0 := blk_frozen BK154.out 0
          have hfz11_1 := blk_frozen BK154.out 1
          go_wp2
          refine bodyPost_ret (results_ct rfl _ _ gb154 23 #[.int .u8 ((wrap64 (Int.tdiv a0 256)) % 256), .int .u8 ((Int.tmod a0 256) % 256)] (0, 0) _ rfl (by (with_reducible repeat (first | refine blk_drewN ?_ _ | refine blk_drew ?_ | refine blk_alloc ?_ _)); refine blk_put (cs := #[.int .u8 ((wrap64 (Int.tdiv a0 256)) % 256), .int .u8 0]) ?_ 1 _ rfl; (with_reducible repeat (first | refine blk_drewN ?_ _ | refine blk_drew ?_ | refine blk_alloc ?_ _)); refine blk_put (cs := #[.int .u8 0, .int .u8 0]) ?_ 0 _ rfl; (with_reducible repeat (first | refine blk_drewN ?_ _ | refine blk_drew ?_ | refine blk_alloc ?_ _)); exact BK154.out) Try.underlying23 rfl (by kernel_rfl)) rfl ?_
          exact ⟨by first | rfl | (simp [errW_none, errW_some] <;> rfl) | (simp [*, errW_none, errW_some] <;> rfl), by repeat (first | (with_reducible first | exact HB.out | apply below_alloc | apply pw_below_drewN | apply below_drew1 | refine below_set ?_ GE154.out) | exact HB.out)⟩
        · rw [if_neg c10] at H
          have c10b0 : decide (4096 < a1) = false := decide_eq_false c10
          clear c10
          replace H := Option.bind_eq_some_iff.mp H
          obtain ⟨t155, A120, H⟩ := H
          replace H : ((greenscreenref02_Digit.f (Int.tmod a0 64)).bind fun t156 => (some (t155, t156, 0))) = some (r1, r2, r3) := H
          have A12 := Aside0.mk A120
          clear A120
          replace H := Option.bind_eq_some_iff.mp H
          obtain ⟨t156, A130, H⟩ := H
          replace H : (some (t155, t156, 0)) = some (r1, r2, r3) := H
          have A13 := Aside0.mk A130
          clear A130
          simp only [Option.some.injEq, Prod.mk.injEq] at H
          obtain ⟨rfl, rfl, rfl⟩ := H
          go_wp2_with (first | ((with_reducible refine gate_callee (f := 12) rfl ?_); refine goesL_ (some 33) rfl rfl Try.func12 (by kernel_rfl) rfl #[.int .i64 (wrap64 (Int.tdiv a0 64))] rfl (by (try simp only [List.map_toArray, List.map_cons, List.map_nil]); first | done | rfl | (simp only [List.length_drop, List.length_take]; rfl)) ?_; (with_reducible refine (greenscreenref02_Digit.calls (wrap64 (Int.tdiv a0 64)) t155 _ A12.out).mono ?_); rintro e w' ⟨rfl, ⟨nd, rfl⟩⟩; refine ⟨_, rfl, ?_⟩; (try (rw [drewN_self wc]; generalize hq_ : World.drewN wc _ = wc; have n0_ : Aside0 (wc.heap[gb154]? = some (.cells #[.int .u8 0, .int .u8 0] 23 (0, 0))) := ⟨by rw [← hq_]; exact (by (with_reducible repeat (first | refine blk_drewN ?_ _ | refine blk_drew ?_ | refine blk_alloc ?_ _)); exact BK154.out)⟩; have n1_ : Aside0 (Below w.heap.size w wc) := ⟨by rw [← hq_]; exact (by repeat (first | (with_reducible first | exact HB.out | apply below_alloc | apply pw_below_drewN | apply below_drew1 | refine below_set ?_ GE154.out) | exact HB.out))⟩; clear BK154 HB hq_; have BK154 := n0_; have HB := n1_; clear n0_ n1_))) | ((with_reducible refine gate_callee (f := 12) rfl ?_); refine goesL_ (some 36) rfl rfl Try.func12 (by kernel_rfl) rfl #[.int .i64 (Int.tmod a0 64)] rfl (by (try simp only [List.map_toArray, List.map_cons, List.map_nil]); first | done | rfl | (simp only [List.length_drop, List.length_take]; rfl)) ?_; (with_reducible refine (greenscreenref02_Digit.calls (Int.tmod a0 64) t156 _ A13.out).mono ?_); rintro e w' ⟨rfl, ⟨nd, rfl⟩⟩; refine ⟨_, rfl, ?_⟩; (try (rw [drewN_self wc]; generalize hq_ : World.drewN wc _ = wc; have n0_ : Aside0 (wc.heap[gb154]? = some (.cells #[.int .u8 0, .int .u8 0] 23 (0, 0))) := ⟨by rw [← hq_]; exact (by (with_reducible repeat (first | refine blk_drewN ?_ _ | refine blk_drew ?_ | refine blk_alloc ?_ _)); exact BK154.out)⟩; have n1_ : Aside0 (Below w.heap.size w wc) := ⟨by rw [← hq_]; exact (by repeat (first | (with_reducible first | exact HB.out | apply below_alloc | apply pw_below_drewN | apply below_drew1 | refine below_set ?_ GE154.out) | exact HB.out))⟩; clear BK154 HB hq_; have BK154 := n0_; have HB := n1_; clear n0_ n1_)); have hcz14_0 : wc.cell? ⟨gb154, 0, none⟩ = some (.int .u8 0) := (blk_cell BK154.out 0).trans rfl; have hcz14_1 : wc.cell? ⟨gb154, 1, none⟩ = some (.int .u8 0) := (blk_cell BK154.out 1).trans rfl; have hfz14_0 := blk_frozen BK154.out 0; have hfz14_1 := blk_frozen BK154.out 1))
          refine bodyPost_ret (results_ct rfl _ _ gb154 23 #[.int .u8 t155, .int .u8 t156] (0, 0) _ rfl (by (with_reducible repeat (first | refine blk_drewN ?_ _ | refine blk_drew ?_ | refine blk_alloc ?_ _)); refine blk_put (cs := #[.int .u8 t155, .int .u8 0]) ?_ 1 _ rfl; (with_reducible repeat (first | refine blk_drewN ?_ _ | refine blk_drew ?_ | refine blk_alloc ?_ _)); refine blk_put (cs := #[.int .u8 0, .int .u8 0]) ?_ 0 _ rfl; (with_reducible repeat (first | refine blk_drewN ?_ _ | refine blk_drew ?_ | refine blk_alloc ?_ _)); exact BK154.out) Try.underlying23 rfl (by kernel_rfl)) rfl ?_
          exact ⟨by first | rfl | (simp [errW_none, errW_some] <;> rfl) | (simp [*, errW_none, errW_some] <;> rfl), by repeat (first | (with_reducible first | exact HB.out | apply below_alloc | apply pw_below_drewN | apply below_drew1 | refine below_set ?_ GE154.out) | exact HB.out)⟩

/-! ### greenscreenref02_Low: function 13 -/
def greenscreenref02_Low.f (a0 : Int) : Option (Int) := if (Int.tmod a0 64) < 0 then (some (wrap64 ((Int.tmod a0 64) + 64))) else (some (Int.tmod a0 64))
set_option maxHeartbeats 8000000 in
set_option maxRecDepth 100000 in
theorem greenscreenref02_Low.calls (a0 : Int) (r : Int) (w : World) (h : greenscreenref02_Low.f a0 = some r) :
    Calls Try.prog 13 #[.int .i64 a0] w fun e w' => e = .returned (.int .i64 r) ∧ Drawn0 w w' := by
  have H : (if (Int.tmod a0 64) < 0 then (some (wrap64 ((Int.tmod a0 64) + 64))) else (some (Int.tmod a0 64))) = some r := h
  clear h
  by_cases c2 : (Int.tmod a0 64) < 0
  · rw [if_pos c2] at H
    have c2b0 : decide ((Int.tmod a0 64) < 0) = true := decide_eq_true c2
    clear c2
    obtain rfl := Option.some.inj H
    go_enter Try.func13, Try.ntmps13
    go_wp2
    go_ret
    exact ⟨by first | rfl | (simp; done) | (simp [*]; done), by repeat (first | exact Drawn0.refl _ | apply Drawn0.step)⟩
  · rw [if_neg c2] at H
    have c2b0 : decide ((Int.tmod a0 64) < 0) = false := decide_eq_false c2
    clear c2
    obtain rfl := Option.some.inj H
    go_enter Try.func13, Try.ntmps13
    go_wp2
    go_ret
    exact ⟨by first | rfl | (simp; done) | (simp [*]; done), by repeat (first | exact Drawn0.refl _ | apply Drawn0.step)⟩

/-! ### greenscreenref02_Decode: function 16 -/
def greenscreenref02_Decode.f (a0 : Int) (a1 : Int) : Option (Int) := if a0 < 64 then (some (wrap64 ((wrap64 (256 * (wrap64 (a0)))) + (wrap64 (a1))))) else (some (wrap64 ((wrap64 (64 * (wrap64 (Int.tmod a0 64)))) + (wrap64 (Int.tmod a1 64)))))
set_option maxHeartbeats 8000000 in
set_option maxRecDepth 100000 in
theorem greenscreenref02_Decode.calls (a0 : Int) (a1 : Int) (r : Int) (w : World) (h : greenscreenref02_Decode.f a0 a1 = some r) :
    Calls Try.prog 16 #[.int .u8 a0, .int .u8 a1] w fun e w' => e = .returned (.int .i64 r) ∧ Drawn0 w w' := by
  have H : (if a0 < 64 then (some (wrap64 ((wrap64 (256 * (wrap64 (a0)))) + (wrap64 (a1))))) else (some (wrap64 ((wrap64 (64 * (wrap64 (Int.tmod a0 64)))) + (wrap64 (Int.tmod a1 64)))))) = some r := h
  clear h
  by_cases c3 : a0 < 64
  · rw [if_pos c3] at H
    have c3b0 : decide (a0 < 64) = true := decide_eq_true c3
    clear c3
    obtain rfl := Option.some.inj H
    go_enter Try.func16, Try.ntmps16
    go_wp2
    go_ret
    exact ⟨by first | rfl | (simp; done) | (simp [*]; done), by repeat (first | exact Drawn0.refl _ | apply Drawn0.step)⟩
  · rw [if_neg c3] at H
    have c3b0 : decide (a0 < 64) = false := decide_eq_false c3
    clear c3
    obtain rfl := Option.some.inj H
    go_enter Try.func16, Try.ntmps16
    go_wp2
    go_ret
    exact ⟨by first | rfl | (simp; done) | (simp [*]; done), by repeat (first | exact Drawn0.refl _ | apply Drawn0.step)⟩

/-! ### greenscreenlaw02_AddrBytes: function 3 -/
def greenscreenlaw02_AddrBytes.f (k : Nat) (a0 : Int) (a1 : Int) (a2 : Int) (a3 : Int) (a4 : Int) : Option (Bool) := (greenscreenlaw02_alive.f k).bind fun t157 => (if t157 = true then ((addr_Encode.f k a1 a2).bind fun bt158 => ((greenscreenref02_Encode.f k a1 a2).bind fun bt162 => (if bt158.1 = bt162.1 then (if bt158.2.1 = bt162.2.1 then (if bt158.2.2 = bt162.2.2 then ((addr_Digit.f a0).bind fun t166 => ((greenscreenref02_Low.f a0).bind fun t167 => ((greenscreenref02_Digit.f t167).bind fun t168 => (if t166 = t168 then ((addr_Value.f a3).bind fun t169 => (if t169 = (wrap64 (Int.tmod a3 64)) then ((addr_Decode.f a3 a4).bind fun t170 => ((greenscreenref02_Decode.f a3 a4).bind fun t171 => (some (t170 == t171)))) else (some false))) else (some false))))) else (some false)) else (some false)) else (some false)))) else (some false))
theorem greenscreenlaw02_AddrBytes.mono : ∀ a0 a1 a2 a3 a4 k, LeO (greenscreenlaw02_AddrBytes.f k a0 a1 a2 a3 a4) (greenscreenlaw02_AddrBytes.f (k + 1) a0 a1 a2 a3 a4) := by
  intro a0 a1 a2 a3 a4 k
  unfold greenscreenlaw02_AddrBytes.f
  repeat' first
      | (with_reducible exact addr_Encode.mono _ _ _)
      | (with_reducible exact greenscreenlaw02_alive.mono _)
      | (with_reducible exact greenscreenref02_Encode.mono _ _ _)
      | (with_reducible exact LeO.refl _)
      | (with_reducible exact LeO.none _)
      | (with_reducible refine LeO.ite ?_ ?_)
      | (with_reducible refine LeO.bind ?_ (fun _ => ?_))
      | exact addr_Encode.mono _ _ _
      | exact greenscreenlaw02_alive.mono _
      | exact greenscreenref02_Encode.mono _ _ _
      | exact LeO.none _
      | refine LeO.ite ?_ ?_
      | refine LeO.bind ?_ (fun _ => ?_)
set_option maxHeartbeats 8000000 in
set_option maxRecDepth 100000 in
theorem greenscreenlaw02_AddrBytes.calls (k : Nat) (a0 : Int) (a1 : Int) (a2 : Int) (a3 : Int) (a4 : Int) (r : Bool) (hr_ : r = true) (w : World) (h : greenscreenlaw02_AddrBytes.f k a0 a1 a2 a3 a4 = some r) :
    Calls Try.prog 3 #[.int .i64 a0, .int .i64 a1, .int .i64 a2, .int .u8 a3, .int .u8 a4] w fun e w' => e = .returned (.bool r) ∧ Below w.heap.size w w' := by
  have hu23 := Try.underlying23
  have HB := Aside0.mk (Below.refl w.heap.size w)
  have H : ((greenscreenlaw02_alive.f k).bind fun t157 => (if t157 = true then ((addr_Encode.f k a1 a2).bind fun bt158 => ((greenscreenref02_Encode.f k a1 a2).bind fun bt162 => (if bt158.1 = bt162.1 then (if bt158.2.1 = bt162.2.1 then (if bt158.2.2 = bt162.2.2 then ((addr_Digit.f a0).bind fun t166 => ((greenscreenref02_Low.f a0).bind fun t167 => ((greenscreenref02_Digit.f t167).bind fun t168 => (if t166 = t168 then ((addr_Value.f a3).bind fun t169 => (if t169 = (wrap64 (Int.tmod a3 64)) then ((addr_Decode.f a3 a4).bind fun t170 => ((greenscreenref02_Decode.f a3 a4).bind fun t171 => (some (t170 == t171)))) else (some false))) else (some false))))) else (some false)) else (some false)) else (some false)))) else (some false))) = some r := h
  clear h
  replace H := Option.bind_eq_some_iff.mp H
  obtain ⟨t157, A60, H⟩ := H
  replace H : (if t157 = true then ((addr_Encode.f k a1 a2).bind fun bt158 => ((greenscreenref02_Encode.f k a1 a2).bind fun bt162 => (if bt158.1 = bt162.1 then (if bt158.2.1 = bt162.2.1 then (if bt158.2.2 = bt162.2.2 then ((addr_Digit.f a0).bind fun t166 => ((greenscreenref02_Low.f a0).bind fun t167 => ((greenscreenref02_Digit.f t167).bind fun t168 => (if t166 = t168 then ((addr_Value.f a3).bind fun t169 => (if t169 = (wrap64 (Int.tmod a3 64)) then ((addr_Decode.f a3 a4).bind fun t170 => ((greenscreenref02_Decode.f a3 a4).bind fun t171 => (some (t170 == t171)))) else (some false))) else (some false))))) else (some false)) else (some false)) else (some false)))) else (some false)) = some r := H
  have A6 := Aside0.mk A60
  clear A60
  by_cases c7 : t157 = true
  · subst c7
    have H1 : ((addr_Encode.f k a1 a2).bind fun bt158 => ((greenscreenref02_Encode.f k a1 a2).bind fun bt162 => (if bt158.1 = bt162.1 then (if bt158.2.1 = bt162.2.1 then (if bt158.2.2 = bt162.2.2 then ((addr_Digit.f a0).bind fun t166 => ((greenscreenref02_Low.f a0).bind fun t167 => ((greenscreenref02_Digit.f t167).bind fun t168 => (if t166 = t168 then ((addr_Value.f a3).bind fun t169 => (if t169 = (wrap64 (Int.tmod a3 64)) then ((addr_Decode.f a3 a4).bind fun t170 => ((greenscreenref02_Decode.f a3 a4).bind fun t171 => (some (t170 == t171)))) else (some false))) else (some false))))) else (some false)) else (some false)) else (some false)))) = some r := by rw [if_pos rfl] at H; exact H
    clear H
    have H := H1
    clear H1
    replace H := Option.bind_eq_some_iff.mp H
    obtain ⟨⟨t158, t159, t160⟩, A80, H⟩ := H
    replace H : ((greenscreenref02_Encode.f k a1 a2).bind fun bt162 => (if t158 = bt162.1 then (if t159 = bt162.2.1 then (if t160 = bt162.2.2 then ((addr_Digit.f a0).bind fun t166 => ((greenscreenref02_Low.f a0).bind fun t167 => ((greenscreenref02_Digit.f t167).bind fun t168 => (if t166 = t168 then ((addr_Value.f a3).bind fun t169 => (if t169 = (wrap64 (Int.tmod a3 64)) then ((addr_Decode.f a3 a4).bind fun t170 => ((greenscreenref02_Decode.f a3 a4).bind fun t171 => (some (t170 == t171)))) else (some false))) else (some false))))) else (some false)) else (some false)) else (some false))) = some r := H
    have A8 := Aside0.mk A80
    clear A80
    replace H := Option.bind_eq_some_iff.mp H
    obtain ⟨⟨t162, t163, t164⟩, A90, H⟩ := H
    replace H : (if t158 = t162 then (if t159 = t163 then (if t160 = t164 then ((addr_Digit.f a0).bind fun t166 => ((greenscreenref02_Low.f a0).bind fun t167 => ((greenscreenref02_Digit.f t167).bind fun t168 => (if t166 = t168 then ((addr_Value.f a3).bind fun t169 => (if t169 = (wrap64 (Int.tmod a3 64)) then ((addr_Decode.f a3 a4).bind fun t170 => ((greenscreenref02_Decode.f a3 a4).bind fun t171 => (some (t170 == t171)))) else (some false))) else (some false))))) else (some false)) else (some false)) else (some false)) = some r := H
    have A9 := Aside0.mk A90
    clear A90
    by_cases c10 : t158 = t162
    · rw [if_pos c10] at H
      have c10b0 : (t158 == t162) = true := beq_iff_eq.mpr c10
      have c10b1 : (t158 != t162) = false := bne_eq_false_iff_eq.mpr c10
      clear c10
      by_cases c11 : t159 = t163
      · rw [if_pos c11] at H
        have c11b0 : (t159 == t163) = true := beq_iff_eq.mpr c11
        have c11b1 : (t159 != t163) = false := bne_eq_false_iff_eq.mpr c11
        clear c11
        by_cases c12 : t160 = t164
        · rw [if_pos c12] at H
          have c12b0 : (t160 == t164) = true := beq_iff_eq.mpr c12
          have c12b1 : (t160 != t164) = false := bne_eq_false_iff_eq.mpr c12
          clear c12
          replace H := Option.bind_eq_some_iff.mp H
          obtain ⟨t166, A130, H⟩ := H
          replace H : ((greenscreenref02_Low.f a0).bind fun t167 => ((greenscreenref02_Digit.f t167).bind fun t168 => (if t166 = t168 then ((addr_Value.f a3).bind fun t169 => (if t169 = (wrap64 (Int.tmod a3 64)) then ((addr_Decode.f a3 a4).bind fun t170 => ((greenscreenref02_Decode.f a3 a4).bind fun t171 => (some (t170 == t171)))) else (some false))) else (some false)))) = some r := H
          have A13 := Aside0.mk A130
          clear A130
          replace H := Option.bind_eq_some_iff.mp H
          obtain ⟨t167, A140, H⟩ := H
          replace H : ((greenscreenref02_Digit.f t167).bind fun t168 => (if t166 = t168 then ((addr_Value.f a3).bind fun t169 => (if t169 = (wrap64 (Int.tmod a3 64)) then ((addr_Decode.f a3 a4).bind fun t170 => ((greenscreenref02_Decode.f a3 a4).bind fun t171 => (some (t170 == t171)))) else (some false))) else (some false))) = some r := H
          have A14 := Aside0.mk A140
          clear A140
          replace H := Option.bind_eq_some_iff.mp H
          obtain ⟨t168, A150, H⟩ := H
          replace H : (if t166 = t168 then ((addr_Value.f a3).bind fun t169 => (if t169 = (wrap64 (Int.tmod a3 64)) then ((addr_Decode.f a3 a4).bind fun t170 => ((greenscreenref02_Decode.f a3 a4).bind fun t171 => (some (t170 == t171)))) else (some false))) else (some false)) = some r := H
          have A15 := Aside0.mk A150
          clear A150
          by_cases c16 : t166 = t168
          · rw [if_pos c16] at H
            have c16b0 : (t166 == t168) = true := beq_iff_eq.mpr c16
            have c16b1 : (t166 != t168) = false := bne_eq_false_iff_eq.mpr c16
            clear c16
            replace H := Option.bind_eq_some_iff.mp H
            obtain ⟨t169, A170, H⟩ := H
            replace H : (if t169 = (wrap64 (Int.tmod a3 64)) then ((addr_Decode.f a3 a4).bind fun t170 => ((greenscreenref02_Decode.f a3 a4).bind fun t171 => (some (t170 == t171)))) else (some false)) = some r := H
            have A17 := Aside0.mk A170
            clear A170
            by_cases c18 : t169 = (wrap64 (Int.tmod a3 64))
            · rw [if_pos c18] at H
              have c18b0 : (t169 == (wrap64 (Int.tmod a3 64))) = true := beq_iff_eq.mpr c18
              have c18b1 : (t169 != (wrap64 (Int.tmod a3 64))) = false := bne_eq_false_iff_eq.mpr c18
              clear c18
              replace H := Option.bind_eq_some_iff.mp H
              obtain ⟨t170, A190, H⟩ := H
              replace H : ((greenscreenref02_Decode.f a3 a4).bind fun t171 => (some (t170 == t171))) = some r := H
              have A19 := Aside0.mk A190
              clear A190
              replace H := Option.bind_eq_some_iff.mp H
              obtain ⟨t171, A200, H⟩ := H
              replace H : (some (t170 == t171)) = some r := H
              have A20 := Aside0.mk A200
              clear A200
              obtain rfl := Option.some.inj H
              go_enter Try.func3, Try.ntmps3
              go_wp2_with (first | ((with_reducible refine gate_callee (f := 8) rfl ?_); refine goesL_ (some 15) rfl rfl Try.func8 (by kernel_rfl) rfl #[] rfl (by (try simp only [List.map_toArray, List.map_cons, List.map_nil]); first | done | rfl | (simp only [List.length_drop, List.length_take]; rfl)) ?_; (with_reducible refine (greenscreenlaw02_alive.calls k  true rfl _ A6.out).mono ?_); rintro e w21 ⟨rfl, hb⟩; refine ⟨_, rfl, ?_⟩; have n0_ := Aside0.mk (below_step (by repeat (first | (with_reducible first | exact HB.out | apply below_alloc | apply pw_below_drewN | apply below_drew1) | exact HB.out)) hb); clear HB; have HB := n0_; clear n0_; (try clear hb); (try clear hb2); (try clear hk); (try clear hi)) | ((with_reducible refine gate_callee (f := 9) rfl ?_); refine goesL_ (some 20) rfl rfl Try.func9 (by kernel_rfl) rfl #[.int .i64 a1, .int .i64 a2] rfl (by (try simp only [List.map_toArray, List.map_cons, List.map_nil]); first | done | rfl | (simp only [List.length_drop, List.length_take]; rfl)) ?_; (with_reducible refine (addr_Encode.calls k a1 a2 t158 t159 t160 _ A8.out).mono ?_); rintro e w22 ⟨rfl, hb⟩; refine ⟨_, rfl, ?_⟩; have n0_ := Aside0.mk (below_step (by repeat (first | (with_reducible first | exact HB.out | apply below_alloc | apply pw_below_drewN | apply below_drew1) | exact HB.out)) hb); clear HB; have HB := n0_; clear n0_; (try clear hb); (try clear hb2); (try clear hk); (try clear hi)) | ((with_reducible refine gate_dst (N := 11) rfl ?_); refine box_event ?hg (N := 11) ?hd (cs := #[.int .u8 0, .int .u8 0]) (t := 23) ?hr ?_; (case hd => rfl); (case hg => rfl); (case hr => first | (go_simp; done) | (go_simp; rfl)); intro gb161 hg w23 hbox hb; have n0_ := Aside0.mk (below_step (by repeat (first | (with_reducible first | exact HB.out | apply below_alloc | apply pw_below_drewN | apply below_drew1) | exact HB.out)) hb); have n1_ := Aside0.mk (hbox); have n2_ := Aside0.mk ((by rw [hg]; exact (below_size (by repeat (first | (with_reducible first | exact HB.out | apply below_alloc | apply pw_below_drewN | apply below_drew1) | exact HB.out))) : w.heap.size ≤ gb161)); have n3_ := Aside0.mk ((by rw [hg]; exact (below_size (by repeat (first | (with_reducible first | exact HB.out | apply below_alloc | apply pw_below_drewN | apply below_drew1) | exact HB.out))) : w.heap.size ≤ gb161)); clear HB; have HB := n0_; have BK161 := n1_; have GW161 := n2_; have GE161 := n3_; clear n0_ n1_ n2_ n3_; clear hb hbox hg; have hcz24_0 : w23.cell? ⟨gb161, 0, none⟩ = some (.int .u8 0) := (blk_cell BK161.out 0).trans rfl; have hcz24_1 : w23.cell? ⟨gb161, 1, none⟩ = some (.int .u8 0) := (blk_cell BK161.out 1).trans rfl; have hfz24_0 := blk_frozen BK161.out 0; have hfz24_1 := blk_frozen BK161.out 1) | ((with_reducible refine gate_callee (f := 10) rfl ?_); refine goesL_ (some 26) rfl rfl Try.func10 (by kernel_rfl) rfl #[.int .i64 a1, .int .i64 a2] rfl (by (try simp only [List.map_toArray, List.map_cons, List.map_nil]); first | done | rfl | (simp only [List.length_drop, List.length_take]; rfl)) ?_; (with_reducible refine (greenscreenref02_Encode.calls k a1 a2 t162 t163 t164 _ A9.out).mono ?_); rintro e w25 ⟨rfl, hb⟩; refine ⟨_, rfl, ?_⟩; have n0_ := Aside0.mk (blk_below (g := gb161) (o := .cells #[.int .u8 t158, .int .u8 t159] 23 (0, 0)) (by (with_reducible repeat (first | refine blk_drewN ?_ _ | refine blk_drew ?_ | refine blk_alloc ?_ _)); refine blk_put (cs := #[.int .u8 t158, .int .u8 0]) ?_ 1 _ rfl; (with_reducible repeat (first | refine blk_drewN ?_ _ | refine blk_drew ?_ | refine blk_alloc ?_ _)); refine blk_put (cs := #[.int .u8 0, .int .u8 0]) ?_ 0 _ rfl; (with_reducible repeat (first | refine blk_drewN ?_ _ | refine blk_drew ?_ | refine blk_alloc ?_ _)); exact BK161.out) hb); have n1_ := Aside0.mk (below_step (by repeat (first | (with_reducible first | exact HB.out | apply below_alloc | apply pw_below_drewN | apply below_drew1 | refine below_set ?_ GE161.out) | exact HB.out)) hb); clear BK161; clear HB; have BK161 := n0_; have HB := n1_; clear n0_ n1_; (try clear hb); (try clear hb2); (try clear hk); (try clear hi)) | ((with_reducible refine gate_dst (N := 13) rfl ?_); refine box_event ?hg (N := 13) ?hd (cs := #[.int .u8 0, .int .u8 0]) (t := 23) ?hr ?_; (case hd => rfl); (case hg => rfl); (case hr => first | (go_simp; done) | (go_simp; rfl)); intro gb165 hg w26 hbox hb; have n0_ := Aside0.mk (blk_below (g := gb161) (o := .cells #[.int .u8 t158, .int .u8 t159] 23 (0, 0)) (by (with_reducible repeat (first | refine blk_drewN ?_ _ | refine blk_drew ?_ | refine blk_alloc ?_ _)); exact BK161.out) hb); have n1_ := Aside0.mk (below_step (by repeat (first | (with_reducible first | exact HB.out | apply below_alloc | apply pw_below_drewN | apply below_drew1 | refine below_set ?_ GE161.out) | exact HB.out)) hb); have n2_ := Aside0.mk (hbox); have n3_ := Aside0.mk ((by rw [hg]; exact (below_size (by repeat (first | (with_reducible first | exact HB.out | apply below_alloc | apply pw_below_drewN | apply below_drew1 | refine below_set ?_ GE161.out) | exact HB.out))) : w.heap.size ≤ gb165)); have n4_ := Aside0.mk ((by rw [hg]; exact (below_size (by repeat (first | (with_reducible first | exact HB.out | apply below_alloc | apply pw_below_drewN | apply below_drew1 | refine below_set ?_ GE161.out) | exact HB.out))) : w.heap.size ≤ gb165)); have n5_ := Aside0.mk ((by rw [hg]; exact Nat.ne_of_lt (blk_lt (g := gb161) (o := .cells #[.int .u8 t158, .int .u8 t159] 23 (0, 0)) (by (with_reducible repeat (first | refine blk_drewN ?_ _ | refine blk_drew ?_ | refine blk_alloc ?_ _)); exact BK161.out)) : gb161 ≠ gb165)); have n6_ := Aside0.mk ((by rw [hg]; exact Nat.ne_of_gt (blk_lt (g := gb161) (o := .cells #[.int .u8 t158, .int .u8 t159] 23 (0, 0)) (by (with_reducible repeat (first | refine blk_drewN ?_ _ | refine blk_drew ?_ | refine blk_alloc ?_ _)); exact BK161.out)) : gb165 ≠ gb161)); clear BK161; clear HB; have BK161 := n0_; have HB := n1_; have BK165 := n2_; have GW165 := n3_; have GE165 := n4_; have NB161_165 := n5_; have NB165_161 := n6_; clear n0_ n1_ n2_ n3_ n4_ n5_ n6_; clear hb hbox hg; have hnb27 := NB165_161.out; have hnc27 := NB161_165.out; have hcz28_0 : w26.cell? ⟨gb165, 0, none⟩ = some (.int .u8 0) := (blk_cell BK165.out 0).trans rfl; have hcz28_1 : w26.cell? ⟨gb165, 1, none⟩ = some (.int .u8 0) := (blk_cell BK165.out 1).trans rfl; have hfz28_0 := blk_frozen BK165.out 0; have hfz28_1 := blk_frozen BK165.out 1; have hcz29_0 : w26.cell? ⟨gb161, 0, none⟩ = some (.int .u8 t158) := (blk_cell BK161.out 0).trans rfl; have hcz29_1 : w26.cell? ⟨gb161, 1, none⟩ = some (.int .u8 t159) := (blk_cell BK161.out 1).trans rfl; have hfz29_0 := blk_frozen BK161.out 0; have hfz29_1 := blk_frozen BK161.out 1) | (go_at_call 11; (with_reducible refine (addr_Digit.calls a0 t166 _ A13.out).mono ?_); rintro e w' ⟨rfl, ⟨nd, rfl⟩⟩) | (go_at_call 13; (with_reducible refine (greenscreenref02_Low.calls a0 t167 _ A14.out).mono ?_); rintro e w' ⟨rfl, ⟨nd, rfl⟩⟩) | (go_at_call 12; (with_reducible refine (greenscreenref02_Digit.calls t167 t168 _ A15.out).mono ?_); rintro e w' ⟨rfl, ⟨nd, rfl⟩⟩) | (go_at_call 14; (with_reducible refine (addr_Value.calls a3 t169 _ A17.out).mono ?_); rintro e w' ⟨rfl, ⟨nd, rfl⟩⟩) | (go_at_call 15; (with_reducible refine (addr_Decode.calls a3 a4 t170 _ A19.out).mono ?_); rintro e w' ⟨rfl, ⟨nd, rfl⟩⟩) | (go_at_call 16; (with_reducible refine (greenscreenref02_Decode.calls a3 a4 t171 _ A20.out).mono ?_); rintro e w' ⟨rfl, ⟨nd, rfl⟩⟩))
              go_ret
              exact ⟨by first | rfl | (simp [errW_none, errW_some] <;> rfl) | (simp [*, errW_none, errW_some] <;> rfl), by repeat (first | (with_reducible first | exact HB.out | apply below_alloc | apply pw_below_drewN | apply below_drew1 | refine below_set ?_ GE161.out | refine below_set ?_ GE165.out) | exact HB.out)⟩
            · rw [if_neg c18] at H
              have c18b0 : (t169 == (wrap64 (Int.tmod a3 64))) = false := beq_eq_false_iff_ne.mpr c18
              have c18b1 : (t169 != (wrap64 (Int.tmod a3 64))) = true := bne_iff_ne.mpr c18
              obtain rfl := Option.some.inj H
              exact absurd hr_ (by decide)
          · rw [if_neg c16] at H
            have c16b0 : (t166 == t168) = false := beq_eq_false_iff_ne.mpr c16
            have c16b1 : (t166 != t168) = true := bne_iff_ne.mpr c16
            obtain rfl := Option.some.inj H
            exact absurd hr_ (by decide)
        · rw [if_neg c12] at H
          have c12b0 : (t160 == t164) = false := beq_eq_false_iff_ne.mpr c12
          have c12b1 : (t160 != t164) = true := bne_iff_ne.mpr c12
          obtain rfl := Option.some.inj H
          exact absurd hr_ (by decide)
      · rw [if_neg c11] at H
        have c11b0 : (t159 == t163) = false := beq_eq_false_iff_ne.mpr c11
        have c11b1 : (t159 != t163) = true := bne_iff_ne.mpr c11
        obtain rfl := Option.some.inj H
        exact absurd hr_ (by decide)
    · rw [if_neg c10] at H
      have c10b0 : (t158 == t162) = false := beq_eq_false_iff_ne.mpr c10
      have c10b1 : (t158 != t162) = true := bne_iff_ne.mpr c10
      obtain rfl := Option.some.inj H
      exact absurd hr_ (by decide)
  · replace c7 := Bool.eq_false_iff.mpr c7
    subst c7
    have H1 : (some false) = some r := by rw [if_neg (show ¬ (false = true) by decide)] at H; exact H
    clear H
    have H := H1
    clear H1
    obtain rfl := Option.some.inj H
    exact absurd hr_ (by decide)

/-- THE ONE PURE STATEMENT of greenscreenlaw02_AddrBytes: yours. -/
def greenscreenlaw02_AddrBytes.Pure : Prop := ∀ (a0 : Int) (a1 : Int) (a2 : Int) (a3 : Int) (a4 : Int), (Lit.int .i64 a0).wf = true → (Lit.int .i64 a1).wf = true → (Lit.int .i64 a2).wf = true → (Lit.int .u8 a3).wf = true → (Lit.int .u8 a4).wf = true → ∃ k, greenscreenlaw02_AddrBytes.f k a0 a1 a2 a3 a4 = some true
theorem greenscreenlaw02_AddrBytes.walk (P : greenscreenlaw02_AddrBytes.Pure) (a0 : Int) (a1 : Int) (a2 : Int) (a3 : Int) (a4 : Int) (w : World) (w0 : (Lit.int .i64 a0).wf = true) (w1 : (Lit.int .i64 a1).wf = true) (w2 : (Lit.int .i64 a2).wf = true) (w3 : (Lit.int .u8 a3).wf = true) (w4 : (Lit.int .u8 a4).wf = true) :
    Calls Try.prog 3 #[.int .i64 a0, .int .i64 a1, .int .i64 a2, .int .u8 a3, .int .u8 a4] w fun e w' => e = .returned (.bool true) ∧ Below w.heap.size w w' := by
  obtain ⟨k, h⟩ := P a0 a1 a2 a3 a4 w0 w1 w2 w3 w4
  refine (greenscreenlaw02_AddrBytes.calls k a0 a1 a2 a3 a4 true rfl w h).mono ?_
  rintro e w' ⟨rfl, hd⟩
  exact ⟨rfl, hd⟩

/-! ### greenscreenref02_Cells: function 17 -/
def greenscreenref02_Cells.f (a0_0 : Int) (a0_1 : Int) : Option (Int) := if a0_0 < 1 then (some 0) else (if a0_0 > 43 then (some 0) else (if a0_1 < 1 then (some 0) else (if a0_1 > 132 then (some 0) else (if (wrap64 (a0_0 * a0_1)) > 4096 then (some 0) else (some (wrap64 (a0_0 * a0_1)))))))
set_option maxHeartbeats 8000000 in
set_option maxRecDepth 100000 in
theorem greenscreenref02_Cells.calls (a0_0 : Int) (a0_1 : Int) (r : Int) (w : World) (h : greenscreenref02_Cells.f a0_0 a0_1 = some r) :
    Calls Try.prog 17 #[.agg #[.int .i64 a0_0, .int .i64 a0_1]] w fun e w' => e = .returned (.int .i64 r) ∧ Below w.heap.size w w' := by
  have hu35 := Try.underlying35
  have HB := Aside0.mk (Below.refl w.heap.size w)
  have H : (if a0_0 < 1 then (some 0) else (if a0_0 > 43 then (some 0) else (if a0_1 < 1 then (some 0) else (if a0_1 > 132 then (some 0) else (if (wrap64 (a0_0 * a0_1)) > 4096 then (some 0) else (some (wrap64 (a0_0 * a0_1)))))))) = some r := h
  clear h
  by_cases c2 : a0_0 < 1
  · rw [if_pos c2] at H
    have c2b0 : decide (a0_0 < 1) = true := decide_eq_true c2
    clear c2
    obtain rfl := Option.some.inj H
    go_enter Try.func17, Try.ntmps17
    go_wp2_with (first | ((with_reducible refine gate_dst (N := 1) rfl ?_); refine box_event ?hg (N := 1) ?hd (cs := #[.int .i64 a0_0, .int .i64 a0_1]) (t := 35) ?hr ?_; (case hd => rfl); (case hg => rfl); (case hr => first | (go_simp; done) | (go_simp; rfl)); intro gb172 hg w3 hbox hb; have n0_ := Aside0.mk (below_step (by repeat (first | (with_reducible first | exact HB.out | apply below_alloc | apply pw_below_drewN | apply below_drew1) | exact HB.out)) hb); have n1_ := Aside0.mk (hbox); have n2_ := Aside0.mk ((by rw [hg]; exact (below_size (by repeat (first | (with_reducible first | exact HB.out | apply below_alloc | apply pw_below_drewN | apply below_drew1) | exact HB.out))) : w.heap.size ≤ gb172)); have n3_ := Aside0.mk ((by rw [hg]; exact (below_size (by repeat (first | (with_reducible first | exact HB.out | apply below_alloc | apply pw_below_drewN | apply below_drew1) | exact HB.out))) : w.heap.size ≤ gb172)); clear HB; have HB := n0_; have BK172 := n1_; have GW172 := n2_; have GE172 := n3_; clear n0_ n1_ n2_ n3_; clear hb hbox hg; have hcz4_0 : w3.cell? ⟨gb172, 0, none⟩ = some (.int .i64 a0_0) := (blk_cell BK172.out 0).trans rfl; have hcz4_1 : w3.cell? ⟨gb172, 1, none⟩ = some (.int .i64 a0_1) := (blk_cell BK172.out 1).trans rfl; have hfz4_0 := blk_frozen BK172.out 0; have hfz4_1 := blk_frozen BK172.out 1))
    go_ret
    exact ⟨by first | rfl | (simp [errW_none, errW_some] <;> rfl) | (simp [*, errW_none, errW_some] <;> rfl), by repeat (first | (with_reducible first | exact HB.out | apply below_alloc | apply pw_below_drewN | apply below_drew1 | refine below_set ?_ GE172.out) | exact HB.out)⟩
  · rw [if_neg c2] at H
    have c2b0 : decide (a0_0 < 1) = false := decide_eq_false c2
    clear c2
    by_cases c5 : a0_0 > 43
    · rw [if_pos c5] at H
      have c5b0 : decide (43 < a0_0) = true := decide_eq_true c5
      clear c5
      obtain rfl := Option.some.inj H
      go_enter Try.func17, Try.ntmps17
      go_wp2_with (first | ((with_reducible refine gate_dst (N := 1) rfl ?_); refine box_event ?hg (N := 1) ?hd (cs := #[.int .i64 a0_0, .int .i64 a0_1]) (t := 35) ?hr ?_; (case hd => rfl); (case hg => rfl); (case hr => first | (go_simp; done) | (go_simp; rfl)); intro gb172 hg w6 hbox hb; have n0_ := Aside0.mk (below_step (by repeat (first | (with_reducible first | exact HB.out | apply below_alloc | apply pw_below_drewN | apply below_drew1) | exact HB.out)) hb); have n1_ := Aside0.mk (hbox); have n2_ := Aside0.mk ((by rw [hg]; exact (below_size (by repeat (first | (with_reducible first | exact HB.out | apply below_alloc | apply pw_below_drewN | apply below_drew1) | exact HB.out))) : w.heap.size ≤ gb172)); have n3_ := Aside0.mk ((by rw [hg]; exact (below_size (by repeat (first | (with_reducible first | exact HB.out | apply below_alloc | apply pw_below_drewN | apply below_drew1) | exact HB.out))) : w.heap.size ≤ gb172)); clear HB; have HB := n0_; have BK172 := n1_; have GW172 := n2_; have GE172 := n3_; clear n0_ n1_ n2_ n3_; clear hb hbox hg; have hcz7_0 : w6.cell? ⟨gb172, 0, none⟩ = some (.int .i64 a0_0) := (blk_cell BK172.out 0).trans rfl; have hcz7_1 : w6.cell? ⟨gb172, 1, none⟩ = some (.int .i64 a0_1) := (blk_cell BK172.out 1).trans rfl; have hfz7_0 := blk_frozen BK172.out 0; have hfz7_1 := blk_frozen BK172.out 1))
      go_ret
      exact ⟨by first | rfl | (simp [errW_none, errW_some] <;> rfl) | (simp [*, errW_none, errW_some] <;> rfl), by repeat (first | (with_reducible first | exact HB.out | apply below_alloc | apply pw_below_drewN | apply below_drew1 | refine below_set ?_ GE172.out) | exact HB.out)⟩
    · rw [if_neg c5] at H
      have c5b0 : decide (43 < a0_0) = false := decide_eq_false c5
      clear c5
      by_cases c8 : a0_1 < 1
      · rw [if_pos c8] at H
        have c8b0 : decide (a0_1 < 1) = true := decide_eq_true c8
        clear c8
        obtain rfl := Option.some.inj H
        go_enter Try.func17, Try.ntmps17
        go_wp2_with (first | ((with_reducible refine gate_dst (N := 1) rfl ?_); refine box_event ?hg (N := 1) ?hd (cs := #[.int .i64 a0_0, .int .i64 a0_1]) (t := 35) ?hr ?_; (case hd => rfl); (case hg => rfl); (case hr => first | (go_simp; done) | (go_simp; rfl)); intro gb172 hg w9 hbox hb; have n0_ := Aside0.mk (below_step (by repeat (first | (with_reducible first | exact HB.out | apply below_alloc | apply pw_below_drewN | apply below_drew1) | exact HB.out)) hb); have n1_ := Aside0.mk (hbox); have n2_ := Aside0.mk ((by rw [hg]; exact (below_size (by repeat (first | (with_reducible first | exact HB.out | apply below_alloc | apply pw_below_drewN | apply below_drew1) | exact HB.out))) : w.heap.size ≤ gb172)); have n3_ := Aside0.mk ((by rw [hg]; exact (below_size (by repeat (first | (with_reducible first | exact HB.out | apply below_alloc | apply pw_below_drewN | apply below_drew1) | exact HB.out))) : w.heap.size ≤ gb172)); clear HB; have HB := n0_; have BK172 := n1_; have GW172 := n2_; have GE172 := n3_; clear n0_ n1_ n2_ n3_; clear hb hbox hg; have hcz10_0 : w9.cell? ⟨gb172, 0, none⟩ = some (.int .i64 a0_0) := (blk_cell BK172.out 0).trans rfl; have hcz10_1 : w9.cell? ⟨gb172, 1, none⟩ = some (.int .i64 a0_1) := (blk_cell BK172.out 1).trans rfl; have hfz10_0 := blk_frozen BK172.out 0; have hfz10_1 := blk_frozen BK172.out 1))
        go_ret
        exact ⟨by first | rfl | (simp [errW_none, errW_some] <;> rfl) | (simp [*, errW_none, errW_some] <;> rfl), by repeat (first | (with_reducible first | exact HB.out | apply below_alloc | apply pw_below_drewN | apply below_drew1 | refine below_set ?_ GE172.out) | exact HB.out)⟩
      · rw [if_neg c8] at H
        have c8b0 : decide (a0_1 < 1) = false := decide_eq_false c8
        clear c8
        by_cases c11 : a0_1 > 132
        · rw [if_pos c11] at H
          have c11b0 : decide (132 < a0_1) = true := decide_eq_true c11
          clear c11
          obtain rfl := Option.some.inj H
          go_enter Try.func17, Try.ntmps17
          go_wp2_with (first | ((with_reducible refine gate_dst (N := 1) rfl ?_); refine box_event ?hg (N := 1) ?hd (cs := #[.int .i64 a0_0, .int .i64 a0_1]) (t := 35) ?hr ?_; (case hd => rfl); (case hg => rfl); (case hr => first | (go_simp; done) | (go_simp; rfl)); intro gb172 hg w12 hbox hb; have n0_ := Aside0.mk (below_step (by repeat (first | (with_reducible first | exact HB.out | apply below_alloc | apply pw_below_drewN | apply below_drew1) | exact HB.out)) hb); have n1_ := Aside0.mk (hbox); have n2_ := Aside0.mk ((by rw [hg]; exact (below_size (by repeat (first | (with_reducible first | exact HB.out | apply below_alloc | apply pw_below_drewN | apply below_drew1) | exact HB.out))) : w.heap.size ≤ gb172)); have n3_ := Aside0.mk ((by rw [hg]; exact (below_size (by repeat (first | (with_reducible first | exact HB.out | apply below_alloc | apply pw_below_drewN | apply below_drew1) | exact HB.out))) : w.heap.size ≤ gb172)); clear HB; have HB := n0_; have BK172 := n1_; have GW172 := n2_; have GE172 := n3_; clear n0_ n1_ n2_ n3_; clear hb hbox hg; have hcz13_0 : w12.cell? ⟨gb172, 0, none⟩ = some (.int .i64 a0_0) := (blk_cell BK172.out 0).trans rfl; have hcz13_1 : w12.cell? ⟨gb172, 1, none⟩ = some (.int .i64 a0_1) := (blk_cell BK172.out 1).trans rfl; have hfz13_0 := blk_frozen BK172.out 0; have hfz13_1 := blk_frozen BK172.out 1))
          go_ret
          exact ⟨by first | rfl | (simp [errW_none, errW_some] <;> rfl) | (simp [*, errW_none, errW_some] <;> rfl), by repeat (first | (with_reducible first | exact HB.out | apply below_alloc | apply pw_below_drewN | apply below_drew1 | refine below_set ?_ GE172.out) | exact HB.out)⟩
        · rw [if_neg c11] at H
          have c11b0 : decide (132 < a0_1) = false := decide_eq_false c11
          clear c11
          by_cases c14 : (wrap64 (a0_0 * a0_1)) > 4096
          · rw [if_pos c14] at H
            have c14b0 : decide (4096 < (wrap64 (a0_0 * a0_1))) = true := decide_eq_true c14
            clear c14
            obtain rfl := Option.some.inj H
            go_enter Try.func17, Try.ntmps17
            go_wp2_with (first | ((with_reducible refine gate_dst (N := 1) rfl ?_); refine box_event ?hg (N := 1) ?hd (cs := #[.int .i64 a0_0, .int .i64 a0_1]) (t := 35) ?hr ?_; (case hd => rfl); (case hg => rfl); (case hr => first | (go_simp; done) | (go_simp; rfl)); intro gb172 hg w15 hbox hb; have n0_ := Aside0.mk (below_step (by repeat (first | (with_reducible first | exact HB.out | apply below_alloc | apply pw_below_drewN | apply below_drew1) | exact HB.out)) hb); have n1_ := Aside0.mk (hbox); have n2_ := Aside0.mk ((by rw [hg]; exact (below_size (by repeat (first | (with_reducible first | exact HB.out | apply below_alloc | apply pw_below_drewN | apply below_drew1) | exact HB.out))) : w.heap.size ≤ gb172)); have n3_ := Aside0.mk ((by rw [hg]; exact (below_size (by repeat (first | (with_reducible first | exact HB.out | apply below_alloc | apply pw_below_drewN | apply below_drew1) | exact HB.out))) : w.heap.size ≤ gb172)); clear HB; have HB := n0_; have BK172 := n1_; have GW172 := n2_; have GE172 := n3_; clear n0_ n1_ n2_ n3_; clear hb hbox hg; have hcz16_0 : w15.cell? ⟨gb172, 0, none⟩ = some (.int .i64 a0_0) := (blk_cell BK172.out 0).trans rfl; have hcz16_1 : w15.cell? ⟨gb172, 1, none⟩ = some (.int .i64 a0_1) := (blk_cell BK172.out 1).trans rfl; have hfz16_0 := blk_frozen BK172.out 0; have hfz16_1 := blk_frozen BK172.out 1))
            go_ret
            exact ⟨by first | rfl | (simp [errW_none, errW_some] <;> rfl) | (simp [*, errW_none, errW_some] <;> rfl), by repeat (first | (with_reducible first | exact HB.out | apply below_alloc | apply pw_below_drewN | apply below_drew1 | refine below_set ?_ GE172.out) | exact HB.out)⟩
          · rw [if_neg c14] at H
            have c14b0 : decide (4096 < (wrap64 (a0_0 * a0_1))) = false := decide_eq_false c14
            clear c14
            obtain rfl := Option.some.inj H
            go_enter Try.func17, Try.ntmps17
            go_wp2_with (first | ((with_reducible refine gate_dst (N := 1) rfl ?_); refine box_event ?hg (N := 1) ?hd (cs := #[.int .i64 a0_0, .int .i64 a0_1]) (t := 35) ?hr ?_; (case hd => rfl); (case hg => rfl); (case hr => first | (go_simp; done) | (go_simp; rfl)); intro gb172 hg w17 hbox hb; have n0_ := Aside0.mk (below_step (by repeat (first | (with_reducible first | exact HB.out | apply below_alloc | apply pw_below_drewN | apply below_drew1) | exact HB.out)) hb); have n1_ := Aside0.mk (hbox); have n2_ := Aside0.mk ((by rw [hg]; exact (below_size (by repeat (first | (with_reducible first | exact HB.out | apply below_alloc | apply pw_below_drewN | apply below_drew1) | exact HB.out))) : w.heap.size ≤ gb172)); have n3_ := Aside0.mk ((by rw [hg]; exact (below_size (by repeat (first | (with_reducible first | exact HB.out | apply below_alloc | apply pw_below_drewN | apply below_drew1) | exact HB.out))) : w.heap.size ≤ gb172)); clear HB; have HB := n0_; have BK172 := n1_; have GW172 := n2_; have GE172 := n3_; clear n0_ n1_ n2_ n3_; clear hb hbox hg; have hcz18_0 : w17.cell? ⟨gb172, 0, none⟩ = some (.int .i64 a0_0) := (blk_cell BK172.out 0).trans rfl; have hcz18_1 : w17.cell? ⟨gb172, 1, none⟩ = some (.int .i64 a0_1) := (blk_cell BK172.out 1).trans rfl; have hfz18_0 := blk_frozen BK172.out 0; have hfz18_1 := blk_frozen BK172.out 1))
            go_ret
            exact ⟨by first | rfl | (simp [errW_none, errW_some] <;> rfl) | (simp [*, errW_none, errW_some] <;> rfl), by repeat (first | (with_reducible first | exact HB.out | apply below_alloc | apply pw_below_drewN | apply below_drew1 | refine below_set ?_ GE172.out) | exact HB.out)⟩

/-! ### greenscreenref02_Between: function 21 -/
mutual
def greenscreenref02_Between.j0 : Nat → Int → Int → List Int → Int → Bool → Option (List Int)
  | 0, _, _, _, _, _ => none
  | k + 1, x1, x2, x7, x8, x29 => if x29 = true then (some x7) else (if (wrap64 (x2 - x1)) ≤ 0 then (greenscreenref02_Between.j1 k x1 x7 x8 (wrap64 ((wrap64 (x2 - x1)) + x8))) else (greenscreenref02_Between.j1 k x1 x7 x8 (wrap64 (x2 - x1))))
def greenscreenref02_Between.j1 : Nat → Int → List Int → Int → Int → Option (List Int)
  | 0, _, _, _, _ => none
  | k + 1, x1, x7, x8, x9 => greenscreenref02_Between.l0 k x1 x7 x8 x9 0
def greenscreenref02_Between.l0 : Nat → Int → List Int → Int → Int → Int → Option (List Int)
  | 0, _, _, _, _, _ => none
  | k + 1, x1, x7, x8, x9, x10 => if x10 < x9 then (if x8 = 0 then (none) else (if x7.length < 17592186044416 then (greenscreenref02_Between.l0 k x1 (x7 ++ [Int.tmod (wrap64 (x1 + x10)) x8]) x8 x9 (wrap64 (x10 + 1))) else (none))) else (some x7)
end
def greenscreenref02_Between.f (k : Nat) (a0_0 : Int) (a0_1 : Int) (a1 : Int) (a2 : Int) : Option (List Int) := (some (([] : List Int) : List Int)).bind fun y174 => ((greenscreenref02_Cells.f a0_0 a0_1).bind fun t177 => (if a1 < 0 then (greenscreenref02_Between.j0 k a1 a2 y174 t177 true) else (if a1 ≥ t177 then (greenscreenref02_Between.j0 k a1 a2 y174 t177 true) else (if a2 < 0 then (greenscreenref02_Between.j0 k a1 a2 y174 t177 true) else (greenscreenref02_Between.j0 k a1 a2 y174 t177 (decide (a2 ≥ t177)))))))
theorem greenscreenref02_Between.mono_l : ∀ k, (∀ y0 y1 y2 y3 y4, LeO (greenscreenref02_Between.j0 k y0 y1 y2 y3 y4) (greenscreenref02_Between.j0 (k + 1) y0 y1 y2 y3 y4)) ∧ (∀ y0 y1 y2 y3, LeO (greenscreenref02_Between.j1 k y0 y1 y2 y3) (greenscreenref02_Between.j1 (k + 1) y0 y1 y2 y3)) ∧ (∀ y0 y1 y2 y3 y4, LeO (greenscreenref02_Between.l0 k y0 y1 y2 y3 y4) (greenscreenref02_Between.l0 (k + 1) y0 y1 y2 y3 y4))
  | 0 => ⟨fun _ _ _ _ _ r h => by simp [greenscreenref02_Between.j0] at h, fun _ _ _ _ r h => by simp [greenscreenref02_Between.j1] at h, fun _ _ _ _ _ r h => by simp [greenscreenref02_Between.l0] at h⟩
  | k + 1 => by
    obtain ⟨ih0, ih1, ih2⟩ := greenscreenref02_Between.mono_l k
    refine ⟨?_, ?_, ?_⟩
    · intro y0 y1 y2 y3 y4
      unfold greenscreenref02_Between.j0
      repeat' first
      | (with_reducible exact ih0 _ _ _ _ _)
      | (with_reducible exact ih1 _ _ _ _)
      | (with_reducible exact ih2 _ _ _ _ _)
      | (with_reducible exact LeO.refl _)
      | (with_reducible exact LeO.none _)
      | (with_reducible refine LeO.ite ?_ ?_)
      | (with_reducible refine LeO.bind ?_ (fun _ => ?_))
      | exact ih0 _ _ _ _ _
      | exact ih1 _ _ _ _
      | exact ih2 _ _ _ _ _
      | exact LeO.none _
      | refine LeO.ite ?_ ?_
      | refine LeO.bind ?_ (fun _ => ?_)
    · intro y0 y1 y2 y3
      unfold greenscreenref02_Between.j1
      repeat' first
      | (with_reducible exact ih0 _ _ _ _ _)
      | (with_reducible exact ih1 _ _ _ _)
      | (with_reducible exact ih2 _ _ _ _ _)
      | (with_reducible exact LeO.refl _)
      | (with_reducible exact LeO.none _)
      | (with_reducible refine LeO.ite ?_ ?_)
      | (with_reducible refine LeO.bind ?_ (fun _ => ?_))
      | exact ih0 _ _ _ _ _
      | exact ih1 _ _ _ _
      | exact ih2 _ _ _ _ _
      | exact LeO.none _
      | refine LeO.ite ?_ ?_
      | refine LeO.bind ?_ (fun _ => ?_)
    · intro y0 y1 y2 y3 y4
      unfold greenscreenref02_Between.l0
      repeat' first
      | (with_reducible exact ih0 _ _ _ _ _)
      | (with_reducible exact ih1 _ _ _ _)
      | (with_reducible exact ih2 _ _ _ _ _)
      | (with_reducible exact LeO.refl _)
      | (with_reducible exact LeO.none _)
      | (with_reducible refine LeO.ite ?_ ?_)
      | (with_reducible refine LeO.bind ?_ (fun _ => ?_))
      | exact ih0 _ _ _ _ _
      | exact ih1 _ _ _ _
      | exact ih2 _ _ _ _ _
      | exact LeO.none _
      | refine LeO.ite ?_ ?_
      | refine LeO.bind ?_ (fun _ => ?_)
theorem greenscreenref02_Between.mono : ∀ a0 a1 a2 a3 k, LeO (greenscreenref02_Between.f k a0 a1 a2 a3) (greenscreenref02_Between.f (k + 1) a0 a1 a2 a3) := by
  intro a0 a1 a2 a3 k
  obtain ⟨ih0, ih1, ih2⟩ := greenscreenref02_Between.mono_l k
  unfold greenscreenref02_Between.f
  repeat' first
      | (with_reducible exact ih0 _ _ _ _ _)
      | (with_reducible exact ih1 _ _ _ _)
      | (with_reducible exact ih2 _ _ _ _ _)
      | (with_reducible exact LeO.refl _)
      | (with_reducible exact LeO.none _)
      | (with_reducible refine LeO.ite ?_ ?_)
      | (with_reducible refine LeO.bind ?_ (fun _ => ?_))
      | exact ih0 _ _ _ _ _
      | exact ih1 _ _ _ _
      | exact ih2 _ _ _ _ _
      | exact LeO.none _
      | refine LeO.ite ?_ ?_
      | refine LeO.bind ?_ (fun _ => ?_)
set_option maxHeartbeats 8000000 in
set_option maxRecDepth 100000 in
theorem greenscreenref02_Between.calls (k : Nat) (a0_0 : Int) (a0_1 : Int) (a1 : Int) (a2 : Int) (r : List Int) (w : World) (h : greenscreenref02_Between.f k a0_0 a0_1 a1 a2 = some r) :
    Calls Try.prog 21 #[.agg #[.int .i64 a0_0, .int .i64 a0_1], .int .i64 a1, .int .i64 a2] w fun e w' => ∃ v0_ : Value, e = .returned (v0_) ∧ Kd.R (Kd.int .i64) 3 w' w.heap.size (fun _ => True) v0_ r ∧ Below w.heap.size w w' := by
  have hu35 := Try.underlying35
  have HB := Aside0.mk (Below.refl w.heap.size w)
  have H : ((some (([] : List Int) : List Int)).bind fun y174 => ((greenscreenref02_Cells.f a0_0 a0_1).bind fun t177 => (if a1 < 0 then (greenscreenref02_Between.j0 k a1 a2 y174 t177 true) else (if a1 ≥ t177 then (greenscreenref02_Between.j0 k a1 a2 y174 t177 true) else (if a2 < 0 then (greenscreenref02_Between.j0 k a1 a2 y174 t177 true) else (greenscreenref02_Between.j0 k a1 a2 y174 t177 (decide (a2 ≥ t177)))))))) = some r := h
  clear h
  obtain ⟨y174, hy174⟩ : ∃ y_ : List Int, y_ = (([] : List Int)) := ⟨_, rfl⟩
  replace H : ((greenscreenref02_Cells.f a0_0 a0_1).bind fun t177 => (if a1 < 0 then (greenscreenref02_Between.j0 k a1 a2 y174 t177 true) else (if a1 ≥ t177 then (greenscreenref02_Between.j0 k a1 a2 y174 t177 true) else (if a2 < 0 then (greenscreenref02_Between.j0 k a1 a2 y174 t177 true) else (greenscreenref02_Between.j0 k a1 a2 y174 t177 (decide (a2 ≥ t177))))))) = some r := by first | (rw [hy174]; with_reducible exact H) | (have H2_ := (Option.bind_some _ _).symm.trans H; rw [hy174]; with_reducible exact H2_) | (have H2_ := (Option.bind_some _ _).symm.trans H; with_reducible exact H2_) | with_reducible exact H | (rw [hy174]; exact H) | exact H
  have Ny174 := Aside0.mk hy174
  clear hy174
  replace H := Option.bind_eq_some_iff.mp H
  obtain ⟨t177, A40, H⟩ := H
  replace H : (if a1 < 0 then (greenscreenref02_Between.j0 k a1 a2 y174 t177 true) else (if a1 ≥ t177 then (greenscreenref02_Between.j0 k a1 a2 y174 t177 true) else (if a2 < 0 then (greenscreenref02_Between.j0 k a1 a2 y174 t177 true) else (greenscreenref02_Between.j0 k a1 a2 y174 t177 (decide (a2 ≥ t177)))))) = some r := H
  have A4 := Aside0.mk A40
  clear A40
  have HC5 := Aside0.mk H
  clear H
  go_enter Try.func21, Try.ntmps21
  go_upto_region 3 with (first | ((with_reducible refine gate_dst (N := 3) rfl ?_); refine box_event ?hg (N := 3) ?hd (cs := #[.int .i64 a0_0, .int .i64 a0_1]) (t := 35) ?hr ?_; (case hd => rfl); (case hg => rfl); (case hr => first | (go_simp; done) | (go_simp; rfl)); intro gb173 hg w6 hbox hb; have n0_ := Aside0.mk (below_step (by repeat (first | (with_reducible first | exact HB.out | apply below_alloc | apply pw_below_drewN | apply below_drew1) | exact HB.out)) hb); have n1_ := Aside0.mk (hbox); have n2_ := Aside0.mk ((by rw [hg]; exact (below_size (by repeat (first | (with_reducible first | exact HB.out | apply below_alloc | apply pw_below_drewN | apply below_drew1) | exact HB.out))) : w.heap.size ≤ gb173)); have n3_ := Aside0.mk ((by rw [hg]; exact (below_size (by repeat (first | (with_reducible first | exact HB.out | apply below_alloc | apply pw_below_drewN | apply below_drew1) | exact HB.out))) : w.heap.size ≤ gb173)); clear HB; have HB := n0_; have BK173 := n1_; have GW173 := n2_; have GE173 := n3_; clear n0_ n1_ n2_ n3_; clear hb hbox hg) | ((with_reducible refine gate_dst (N := 11) rfl ?_); refine Kd.R_lit (Kd.int .i64) _ 3 ?hg (N := 11) ?hd (xs := ([] : List Int)) (inner := []) (ok := fun _ => True) (okp := fun _ => True) ?hr ?hp (fun _ hk => hk) trivial (Below.refl _ _) (Nat.le_refl _) (by simp) ?_; (case hd => rfl); (case hg => rfl); (case hr => first | (go_simp; done) | (go_simp; rfl)); (case hp => exact (Reps.none _ _)); intro v175 w7 ho8 hb hg_ hnew_; clear hg_ hnew_; (first | rw [← Ny174.out] at ho8 | (simp only [Int.reduceToNat] at ho8; rw [← Ny174.out] at ho8)); have n0_ := Aside0.mk (Kd.R_lower ho8 (below_size (by repeat (first | (with_reducible first | exact HB.out | apply below_alloc | apply pw_below_drewN | apply below_drew1 | refine below_set ?_ GE173.out) | exact HB.out)))); have n1_ := Aside0.mk (blk_below (g := gb173) (o := .cells #[.int .i64 a0_0, .int .i64 a0_1] 35 (0, 0)) (by (with_reducible repeat (first | refine blk_drewN ?_ _ | refine blk_drew ?_ | refine blk_alloc ?_ _)); exact BK173.out) hb); have n2_ := Aside0.mk (below_step (by repeat (first | (with_reducible first | exact HB.out | apply below_alloc | apply pw_below_drewN | apply below_drew1 | refine below_set ?_ GE173.out) | exact HB.out)) hb); clear BK173; clear HB; have HO176 := n0_; have BK173 := n1_; have HB := n2_; clear n0_ n1_ n2_; clear hb ho8; have hcz9_0 : w7.cell? ⟨gb173, 0, none⟩ = some (.int .i64 a0_0) := (blk_cell BK173.out 0).trans rfl; have hcz9_1 : w7.cell? ⟨gb173, 1, none⟩ = some (.int .i64 a0_1) := (blk_cell BK173.out 1).trans rfl; have hfz9_0 := blk_frozen BK173.out 0; have hfz9_1 := blk_frozen BK173.out 1) | ((with_reducible refine gate_callee (f := 17) rfl ?_); refine goesL_ (some 13) rfl rfl Try.func17 (by kernel_rfl) rfl #[.agg #[.int .i64 a0_0, .int .i64 a0_1]] rfl (by (try simp only [List.map_toArray, List.map_cons, List.map_nil]); first | done | rfl | (simp only [List.length_drop, List.length_take]; rfl)) ?_; (with_reducible refine (greenscreenref02_Cells.calls a0_0 a0_1 t177 _ A4.out).mono ?_); rintro e w10 ⟨rfl, hb⟩; refine ⟨_, rfl, ?_⟩; have n0_ := Aside0.mk (Kd.R_below (by (with_reducible repeat (first | apply Kd.R_alloc | apply Kd.R_drewN | apply Kd.R_drew)); exact HO176.out) hb); have n1_ := Aside0.mk (blk_below (g := gb173) (o := .cells #[.int .i64 a0_0, .int .i64 a0_1] 35 (0, 0)) (by (with_reducible repeat (first | refine blk_drewN ?_ _ | refine blk_drew ?_ | refine blk_alloc ?_ _)); exact BK173.out) hb); have n2_ := Aside0.mk (below_step (by repeat (first | (with_reducible first | exact HB.out | apply below_alloc | apply pw_below_drewN | apply below_drew1 | refine below_set ?_ GE173.out) | exact HB.out)) hb); clear HO176; clear BK173; clear HB; have HO176 := n0_; have BK173 := n1_; have HB := n2_; clear n0_ n1_ n2_; (try clear hb); (try clear hb2); (try clear hk); (try clear hi)))
  (try simp only [Act.put, List.setIfInBounds_toArray, List.set_cons_zero, List.set_cons_succ])
  go_cut [29] (fun v29 wc => ∃ (kq : Nat) (x29_4 : Bool), v29 = .bool x29_4 ∧ Aside0 (greenscreenref02_Between.j0 kq a1 a2 y174 t177 x29_4 = some r) ∧ Aside0 (kq ≤ k) ∧ Aside0 (Kd.R (Kd.int .i64) 3 wc w.heap.size (fun _ => True) v175 y174) ∧ Aside0 (wc.heap[gb173]? = some (.cells #[.int .i64 a0_0, .int .i64 a0_1] 35 (0, 0))) ∧ Aside0 (Below w.heap.size w wc))
  case first =>
    have H := HC5.out
    clear HC5
    by_cases c11 : a1 < 0
    · rw [if_pos c11] at H
      have c11b0 : decide (a1 < 0) = true := decide_eq_true c11
      clear c11
      (first | rw [c11b0] | (simp only [i64_w, i32_w]; rw [c11b0]) | skip)
      have H' := Aside0.mk H
      clear H
      go_wp2
      go_meet
      case rel => exact ⟨_, (true), (by first | rfl | (simp; done) | (simp [*]; done)), H', ⟨by first | omega | exact Nat.le_refl _⟩, ⟨by (with_reducible repeat (first | apply Kd.R_alloc | apply Kd.R_drewN | apply Kd.R_drew)); exact HO176.out⟩, ⟨by (with_reducible repeat (first | refine blk_drewN ?_ _ | refine blk_drew ?_ | refine blk_alloc ?_ _)); exact BK173.out⟩, ⟨by repeat (first | (with_reducible first | exact HB.out | apply below_alloc | apply pw_below_drewN | apply below_drew1 | refine below_set ?_ GE173.out) | exact HB.out)⟩⟩
    · rw [if_neg c11] at H
      have c11b0 : decide (a1 < 0) = false := decide_eq_false c11
      clear c11
      (first | rw [c11b0] | (simp only [i64_w, i32_w]; rw [c11b0]) | skip)
      by_cases c12 : a1 ≥ t177
      · rw [if_pos c12] at H
        have c12b0 : decide (t177 ≤ a1) = true := decide_eq_true c12
        clear c12
        have H' := Aside0.mk H
        clear H
        go_wp2
        go_meet
        case rel => exact ⟨_, (true), (by first | rfl | (simp; done) | (simp [*]; done)), H', ⟨by first | omega | exact Nat.le_refl _⟩, ⟨by (with_reducible repeat (first | apply Kd.R_alloc | apply Kd.R_drewN | apply Kd.R_drew)); exact HO176.out⟩, ⟨by (with_reducible repeat (first | refine blk_drewN ?_ _ | refine blk_drew ?_ | refine blk_alloc ?_ _)); exact BK173.out⟩, ⟨by repeat (first | (with_reducible first | exact HB.out | apply below_alloc | apply pw_below_drewN | apply below_drew1 | refine below_set ?_ GE173.out) | exact HB.out)⟩⟩
      · rw [if_neg c12] at H
        have c12b0 : decide (t177 ≤ a1) = false := decide_eq_false c12
        clear c12
        by_cases c13 : a2 < 0
        · rw [if_pos c13] at H
          have c13b0 : decide (a2 < 0) = true := decide_eq_true c13
          clear c13
          have H' := Aside0.mk H
          clear H
          go_wp2
          go_meet
          case rel => exact ⟨_, (true), (by first | rfl | (simp; done) | (simp [*]; done)), H', ⟨by first | omega | exact Nat.le_refl _⟩, ⟨by (with_reducible repeat (first | apply Kd.R_alloc | apply Kd.R_drewN | apply Kd.R_drew)); exact HO176.out⟩, ⟨by (with_reducible repeat (first | refine blk_drewN ?_ _ | refine blk_drew ?_ | refine blk_alloc ?_ _)); exact BK173.out⟩, ⟨by repeat (first | (with_reducible first | exact HB.out | apply below_alloc | apply pw_below_drewN | apply below_drew1 | refine below_set ?_ GE173.out) | exact HB.out)⟩⟩
        · rw [if_neg c13] at H
          have c13b0 : decide (a2 < 0) = false := decide_eq_false c13
          clear c13
          have H' := Aside0.mk H
          clear H
          go_wp2
          go_meet
          case rel => exact ⟨_, (decide (a2 ≥ t177)), (by first | rfl | (simp; done) | (simp [*]; done)), H', ⟨by first | omega | exact Nat.le_refl _⟩, ⟨by (with_reducible repeat (first | apply Kd.R_alloc | apply Kd.R_drewN | apply Kd.R_drew)); exact HO176.out⟩, ⟨by (with_reducible repeat (first | refine blk_drewN ?_ _ | refine blk_drew ?_ | refine blk_alloc ?_ _)); exact BK173.out⟩, ⟨by repeat (first | (with_reducible first | exact HB.out | apply below_alloc | apply pw_below_drewN | apply below_drew1 | refine below_set ?_ GE173.out) | exact HB.out)⟩⟩
  case rest =>
    clear HC5
    try clear c1
    try clear c2
    try clear p2
    try clear c11
    try clear c11b0
    try clear c12
    try clear c12b0
    try clear c13
    try clear c13b0
    try clear hcz9_0
    try clear hcz9_1
    try clear hfz9_0
    try clear hfz9_1
    obtain ⟨kq, x29_4, rfl, HA, HJ4, HO_7, BK173, HB⟩ := hcut
    cases kq with
    | zero => exact absurd HA.out (by simp [greenscreenref02_Between.j0])
    | succ kj4 =>
      have H := HA.out
      clear HA
      simp only [greenscreenref02_Between.j0] at H
      by_cases c14 : x29_4 = true
      · subst c14
        have H1 : (some y174) = some r := by rw [if_pos rfl] at H; exact H
        clear H
        have H := H1
        clear H1
        obtain rfl := Option.some.inj H
        go_wp2
        go_ret
        exact ⟨_, by first | rfl | (simp [errW_none, errW_some] <;> rfl) | (simp [*, errW_none, errW_some] <;> rfl), by (with_reducible repeat (first | apply Kd.R_alloc | apply Kd.R_drewN | apply Kd.R_drew)); exact HO_7.out, by repeat (first | (with_reducible first | exact HB.out | apply below_alloc | apply pw_below_drewN | apply below_drew1 | refine below_set ?_ GE173.out) | exact HB.out)⟩
      · replace c14 := Bool.eq_false_iff.mpr c14
        subst c14
        have H1 : (if (wrap64 (a2 - a1)) ≤ 0 then (greenscreenref02_Between.j1 kj4 a1 y174 t177 (wrap64 ((wrap64 (a2 - a1)) + t177))) else (greenscreenref02_Between.j1 kj4 a1 y174 t177 (wrap64 (a2 - a1)))) = some r := by rw [if_neg (show ¬ (false = true) by decide)] at H; exact H
        clear H
        have H := H1
        clear H1
        have HC15 := Aside0.mk H
        clear H
        go_upto_if 35 with (fail)
        go_cut [9] (fun v9 wc => ∃ (kq : Nat) (x9_14 : Int), v9 = .int .i64 x9_14 ∧ Aside0 (greenscreenref02_Between.j1 kq a1 y174 t177 x9_14 = some r) ∧ Aside0 (kq ≤ kj4) ∧ Aside0 (Kd.R (Kd.int .i64) 3 wc w.heap.size (fun _ => True) v175 y174) ∧ Aside0 (wc.heap[gb173]? = some (.cells #[.int .i64 a0_0, .int .i64 a0_1] 35 (0, 0))) ∧ Aside0 (Below w.heap.size w wc))
        case first =>
          have H := HC15.out
          clear HC15
          by_cases c16 : (wrap64 (a2 - a1)) ≤ 0
          · rw [if_pos c16] at H
            have c16b0 : decide ((wrap64 (a2 - a1)) ≤ 0) = true := decide_eq_true c16
            clear c16
            (first | rw [c16b0] | (simp only [i64_w, i32_w]; rw [c16b0]) | skip)
            have H' := Aside0.mk H
            clear H
            go_wp2
            go_meet
            case rel => exact ⟨_, (wrap64 ((wrap64 (a2 - a1)) + t177)), (by first | rfl | (simp; done) | (simp [*]; done)), H', ⟨by have := HJ4.out; first | omega | exact Nat.le_refl _⟩, ⟨by (with_reducible repeat (first | apply Kd.R_alloc | apply Kd.R_drewN | apply Kd.R_drew)); exact HO_7.out⟩, ⟨by (with_reducible repeat (first | refine blk_drewN ?_ _ | refine blk_drew ?_ | refine blk_alloc ?_ _)); exact BK173.out⟩, ⟨by repeat (first | (with_reducible first | exact HB.out | apply below_alloc | apply pw_below_drewN | apply below_drew1 | refine below_set ?_ GE173.out) | exact HB.out)⟩⟩
          · rw [if_neg c16] at H
            have c16b0 : decide ((wrap64 (a2 - a1)) ≤ 0) = false := decide_eq_false c16
            clear c16
            (first | rw [c16b0] | (simp only [i64_w, i32_w]; rw [c16b0]) | skip)
            have H' := Aside0.mk H
            clear H
            go_wp2
            go_meet
            case rel => exact ⟨_, (wrap64 (a2 - a1)), (by first | rfl | (simp; done) | (simp [*]; done)), H', ⟨by have := HJ4.out; first | omega | exact Nat.le_refl _⟩, ⟨by (with_reducible repeat (first | apply Kd.R_alloc | apply Kd.R_drewN | apply Kd.R_drew)); exact HO_7.out⟩, ⟨by (with_reducible repeat (first | refine blk_drewN ?_ _ | refine blk_drew ?_ | refine blk_alloc ?_ _)); exact BK173.out⟩, ⟨by repeat (first | (with_reducible first | exact HB.out | apply below_alloc | apply pw_below_drewN | apply below_drew1 | refine below_set ?_ GE173.out) | exact HB.out)⟩⟩
        case rest =>
          clear HC15
          try clear c1
          try clear c2
          try clear p2
          try clear p6
          try clear c11
          try clear c11b0
          try clear c12
          try clear c12b0
          try clear c13
          try clear c13b0
          try clear c14
          try clear c16
          try clear c16b0
          try clear hcz9_0
          try clear hcz9_1
          try clear hfz9_0
          try clear hfz9_1
          try clear p2
          obtain ⟨kq, x9_14, rfl, HA, HJ14, HO_7, BK173, HB⟩ := hcut
          cases kq with
          | zero => exact absurd HA.out (by simp [greenscreenref02_Between.j1])
          | succ kj14 =>
            have H := HA.out
            clear HA
            simp only [greenscreenref02_Between.j1] at H
            have H' := Aside0.mk H
            clear H
            go_wp2
            go_loopg [7, 10] kj14 (fun kq v7 v10 w' => ∃ (x7_3 : List Int) (x10_3 : Int), v10 = .int .i64 x10_3 ∧ Aside0 (greenscreenref02_Between.l0 kq a1 x7_3 t177 x9_14 x10_3 = some r) ∧ Aside0 (kq ≤ kj14) ∧ Aside0 (Kd.R (Kd.int .i64) 3 w' w.heap.size (fun _ => True) v7 x7_3) ∧ Aside0 (w'.heap[gb173]? = some (.cells #[.int .i64 a0_0, .int .i64 a0_1] 35 (0, 0))) ∧ Aside0 (Below w.heap.size w w'))
            case atStart => exact ⟨(y174), (0), (by first | rfl | (simp; done) | (simp [*]; done)), H', ⟨Nat.le_refl _⟩, ⟨by (with_reducible repeat (first | apply Kd.R_alloc | apply Kd.R_drewN | apply Kd.R_drew)); exact HO_7.out⟩, ⟨by (with_reducible repeat (first | refine blk_drewN ?_ _ | refine blk_drew ?_ | refine blk_alloc ?_ _)); exact BK173.out⟩, ⟨by repeat (first | (with_reducible first | exact HB.out | apply below_alloc | apply pw_below_drewN | apply below_drew1 | refine below_set ?_ GE173.out) | exact HB.out)⟩⟩
            case round =>
              clear H'
              try clear c1
              try clear c2
              try clear p2
              try clear p6
              try clear c11
              try clear c11b0
              try clear c12
              try clear c12b0
              try clear c13
              try clear c13b0
              try clear c14
              try clear c16
              try clear c16b0
              try clear hcz9_0
              try clear hcz9_1
              try clear hfz9_0
              try clear hfz9_1
              try clear p2
              try clear p6
              obtain ⟨x7_3, x10_3, rfl, HA, HK3, HO_7, BK173, HB⟩ := hrel
              cases gk with
              | zero => exact absurd HA.out (by simp [greenscreenref02_Between.l0])
              | succ k3 =>
                have H := HA.out
                clear HA
                simp only [greenscreenref02_Between.l0] at H
                by_cases c17 : x10_3 < x9_14
                · rw [if_pos c17] at H
                  have c17b0 : decide (x10_3 < x9_14) = true := decide_eq_true c17
                  clear c17
                  by_cases c18 : t177 = 0
                  · rw [if_pos c18] at H
                    exact absurd H (by simp)
                  · rw [if_neg c18] at H
                    have c18b0 : (t177 == 0) = false := beq_eq_false_iff_ne.mpr c18
                    have c18b1 : (t177 != 0) = true := bne_iff_ne.mpr c18
                    by_cases c19 : x7_3.length < 17592186044416
                    · rw [if_pos c19] at H
                      have LMc19 := Aside0.mk c19
                      clear c19
                      obtain ⟨y178, hy178⟩ : ∃ y_ : List Int, y_ = (x7_3 ++ [Int.tmod (wrap64 (a1 + x10_3)) t177]) := ⟨_, rfl⟩
                      replace H : (greenscreenref02_Between.l0 k3 a1 y178 t177 x9_14 (wrap64 (x10_3 + 1))) = some r := by first | (rw [hy178]; with_reducible exact H) | (have H2_ := (Option.bind_some _ _).symm.trans H; rw [hy178]; with_reducible exact H2_) | (have H2_ := (Option.bind_some _ _).symm.trans H; with_reducible exact H2_) | with_reducible exact H | (rw [hy178]; exact H) | exact H
                      have Ny178 := Aside0.mk hy178
                      clear hy178
                      have H' := Aside0.mk H
                      clear H
                      go_wp2_with (first | ((with_reducible refine gate_builtin (b := .append) (xs := #[.tmp 44, .tmp 50]) rfl ?_); at_builtin; refine Kd.R_append (Kd.int .i64) (w0 := w) w.heap.size rfl (.tmp 44) (.tmp 50) 41 3 (.int .i64 0) 8 rfl Try.underlying41 info3 rfl (by decide) (by omega) u7 x7_3 (Int.tmod (wrap64 (a1 + x10_3)) t177) [.int .i64 (Int.tmod (wrap64 (a1 + x10_3)) t177)] (fun _ => True) (fun _ => False) rfl rfl ?aP (fun _ hk => hk.elim) ?aF ?aO ?aB ?aS ?aL ?_; (case aP => exact rfl); (case aB => exact (by repeat (first | (with_reducible first | exact HB.out | apply below_alloc | apply pw_below_drewN | apply below_drew1 | refine below_set ?_ GE173.out) | exact HB.out))); (case aF => exact (fun _ _ => trivial)); (case aO => exact (by (with_reducible repeat (first | apply Kd.R_alloc | apply Kd.R_drewN | apply Kd.R_drew)); exact HO_7.out)); (case aS => exact (below_size (by repeat (first | (with_reducible first | exact HB.out | apply below_alloc | apply pw_below_drewN | apply below_drew1 | refine below_set ?_ GE173.out) | exact HB.out)))); (case aL => have := LMc19.out; omega); intro v179 w20 ho hb hg hat; rw [← Ny178.out] at ho; have n0_ := Aside0.mk (blk_grown (g := gb173) (o := .cells #[.int .i64 a0_0, .int .i64 a0_1] 35 (0, 0)) (by (with_reducible repeat (first | refine blk_drewN ?_ _ | refine blk_drew ?_ | refine blk_alloc ?_ _)); exact BK173.out) hg (Kd.R_ne HO_7.out BK173.out (by decide))); have n1_ := Aside0.mk (hb); have n2_ := Aside0.mk (ho); clear BK173; clear HB; clear HO_7; have BK173 := n0_; have HB := n1_; have HO180 := n2_; clear n0_ n1_ n2_; clear ho hb hg hat))
                      go_roundg k3
                      case measure => have := HJ4.out; have := HJ14.out; have := HK3.out; omega
                      case rel => exact ⟨(y178), (wrap64 (x10_3 + 1)), (by first | rfl | (simp; done) | (simp [*]; done)), H', ⟨by have := HJ4.out; have := HJ14.out; have := HK3.out; omega⟩, ⟨by (with_reducible repeat (first | apply Kd.R_alloc | apply Kd.R_drewN | apply Kd.R_drew)); exact HO180.out⟩, ⟨by (with_reducible repeat (first | refine blk_drewN ?_ _ | refine blk_drew ?_ | refine blk_alloc ?_ _)); exact BK173.out⟩, ⟨by repeat (first | (with_reducible first | exact HB.out | apply below_alloc | apply pw_below_drewN | apply below_drew1 | refine below_set ?_ GE173.out) | exact HB.out)⟩⟩
                    · rw [if_neg c19] at H
                      exact absurd H (by simp)
                · rw [if_neg c17] at H
                  have c17b0 : decide (x10_3 < x9_14) = false := decide_eq_false c17
                  clear c17
                  obtain rfl := Option.some.inj H
                  go_wp2
                  go_ret
                  exact ⟨_, by first | rfl | (simp [errW_none, errW_some] <;> rfl) | (simp [*, errW_none, errW_some] <;> rfl), by (with_reducible repeat (first | apply Kd.R_alloc | apply Kd.R_drewN | apply Kd.R_drew)); exact HO_7.out, by repeat (first | (with_reducible first | exact HB.out | apply below_alloc | apply pw_below_drewN | apply below_drew1 | refine below_set ?_ GE173.out) | exact HB.out)⟩

end Go.Proofs.Ytddccpgbjlejhaa.P
