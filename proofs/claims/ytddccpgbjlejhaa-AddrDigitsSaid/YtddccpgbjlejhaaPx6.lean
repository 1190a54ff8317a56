-- Laid by program out of the translation, some functions' texts by hand (a session's own run, not print.sh's). Lean checks it.
import Derived.Test.YtddccpgbjlejhaaPx0
import Derived.Test.YtddccpgbjlejhaaPx1
import Derived.Test.YtddccpgbjlejhaaPx2
namespace Go.Proofs.Ytddccpgbjlejhaa.P
open Go.RowKit Go.Proofs.YtddccpgbjlejhaaW.PrintWords Go.Proofs.YtddccpgbjlejhaaW.PrintLast Go.Proofs.YtddccpgbjlejhaaW.PrintMore
attribute [local go_sem] max2_int min2_int max_two min_two max_three min_three max_four min_four   -- for this text's walks alone
set_option linter.unusedVariables false
set_option linter.unusedSimpArgs false

/-! ### greenscreenlaw02_AddrBack: function 5 -/
def greenscreenlaw02_AddrBack.j0 : Nat → Int → Int → Bool → Int → Int → Option (Bool)
  | 0, _, _, _, _, _ => none
  | k + 1, x0, x1, x33, x210000, x210001 => if x33 = true then (some false) else ((addr_Digit.f (Go.bits .and .i64 x0 63)).bind fun t211 => ((addr_Value.f t211).bind fun t212 => (if t212 = (Go.bits .and .i64 x0 63) then ((addr_Digit.f (Go.bits .and .i64 x0 63)).bind fun t213 => (if t213 ≥ 64 then ((addr_Digit.f (Go.bits .and .i64 x0 63)).bind fun t214 => (if t214 = 255 then (some false) else (if x1 > 4096 then (some true) else (some (decide (x210000 ≥ 64)))))) else (some false))) else (some false))))
def greenscreenlaw02_AddrBack.f (k : Nat) (a0 : Int) (a1 : Int) : Option (Bool) := (greenscreenlaw02_alive.f k).bind fun t205 => (if t205 = true then (if (wrap64 (1 + (Go.bits .and .i64 a1 16383))) = 0 then (none) else ((addr_Encode.f k (Int.tmod (Go.bits .and .i64 a0 16383) (wrap64 (1 + (Go.bits .and .i64 a1 16383)))) (wrap64 (1 + (Go.bits .and .i64 a1 16383)))).bind fun bt206 => (if bt206.2.2 = 0 then ((addr_Decode.f bt206.1 bt206.2.1).bind fun t210 => (greenscreenlaw02_AddrBack.j0 k (Int.tmod (Go.bits .and .i64 a0 16383) (wrap64 (1 + (Go.bits .and .i64 a1 16383)))) (wrap64 (1 + (Go.bits .and .i64 a1 16383))) (t210 != (Int.tmod (Go.bits .and .i64 a0 16383) (wrap64 (1 + (Go.bits .and .i64 a1 16383))))) bt206.1 bt206.2.1)) else (greenscreenlaw02_AddrBack.j0 k (Int.tmod (Go.bits .and .i64 a0 16383) (wrap64 (1 + (Go.bits .and .i64 a1 16383)))) (wrap64 (1 + (Go.bits .and .i64 a1 16383))) true bt206.1 bt206.2.1)))) else (some false))
theorem greenscreenlaw02_AddrBack.mono_l : ∀ k, (∀ y0 y1 y2 y3 y4, LeO (greenscreenlaw02_AddrBack.j0 k y0 y1 y2 y3 y4) (greenscreenlaw02_AddrBack.j0 (k + 1) y0 y1 y2 y3 y4))
  | 0 => fun _ _ _ _ _ r h => by simp [greenscreenlaw02_AddrBack.j0] at h
  | k + 1 => by
    have ih0 := greenscreenlaw02_AddrBack.mono_l k
    · intro y0 y1 y2 y3 y4
      unfold greenscreenlaw02_AddrBack.j0
      repeat' first
      | (with_reducible exact ih0 _ _ _ _ _)
      | (with_reducible exact addr_Encode.mono _ _ _)
      | (with_reducible exact greenscreenlaw02_alive.mono _)
      | (with_reducible exact LeO.refl _)
      | (with_reducible exact LeO.none _)
      | (with_reducible refine LeO.ite ?_ ?_)
      | (with_reducible refine LeO.bind ?_ (fun _ => ?_))
      | exact ih0 _ _ _ _ _
      | exact addr_Encode.mono _ _ _
      | exact greenscreenlaw02_alive.mono _
      | exact LeO.none _
      | refine LeO.ite ?_ ?_
      | refine LeO.bind ?_ (fun _ => ?_)
theorem greenscreenlaw02_AddrBack.mono : ∀ a0 a1 k, LeO (greenscreenlaw02_AddrBack.f k a0 a1) (greenscreenlaw02_AddrBack.f (k + 1) a0 a1) := by
  intro a0 a1 k
  have ih0 := greenscreenlaw02_AddrBack.mono_l k
  unfold greenscreenlaw02_AddrBack.f
  repeat' first
      | (with_reducible exact ih0 _ _ _ _ _)
      | (with_reducible exact addr_Encode.mono _ _ _)
      | (with_reducible exact greenscreenlaw02_alive.mono _)
      | (with_reducible exact LeO.refl _)
      | (with_reducible exact LeO.none _)
      | (with_reducible refine LeO.ite ?_ ?_)
      | (with_reducible refine LeO.bind ?_ (fun _ => ?_))
      | exact ih0 _ _ _ _ _
      | exact addr_Encode.mono _ _ _
      | exact greenscreenlaw02_alive.mono _
      | exact LeO.none _
      | refine LeO.ite ?_ ?_
      | refine LeO.bind ?_ (fun _ => ?_)
set_option maxHeartbeats 8000000 in
set_option maxRecDepth 100000 in
theorem greenscreenlaw02_AddrBack.calls (k : Nat) (a0 : Int) (a1 : Int) (r : Bool) (hr_ : r = true) (w : World) (h : greenscreenlaw02_AddrBack.f k a0 a1 = some r) :
    Calls Try.prog 5 #[.int .i64 a0, .int .i64 a1] w fun e w' => e = .returned (.bool r) ∧ Below w.heap.size w w' := by
  have hu23 := Try.underlying23
  have HB := Aside0.mk (Below.refl w.heap.size w)
  have H : ((greenscreenlaw02_alive.f k).bind fun t205 => (if t205 = true then (if (wrap64 (1 + (Go.bits .and .i64 a1 16383))) = 0 then (none) else ((addr_Encode.f k (Int.tmod (Go.bits .and .i64 a0 16383) (wrap64 (1 + (Go.bits .and .i64 a1 16383)))) (wrap64 (1 + (Go.bits .and .i64 a1 16383)))).bind fun bt206 => (if bt206.2.2 = 0 then ((addr_Decode.f bt206.1 bt206.2.1).bind fun t210 => (greenscreenlaw02_AddrBack.j0 k (Int.tmod (Go.bits .and .i64 a0 16383) (wrap64 (1 + (Go.bits .and .i64 a1 16383)))) (wrap64 (1 + (Go.bits .and .i64 a1 16383))) (t210 != (Int.tmod (Go.bits .and .i64 a0 16383) (wrap64 (1 + (Go.bits .and .i64 a1 16383))))) bt206.1 bt206.2.1)) else (greenscreenlaw02_AddrBack.j0 k (Int.tmod (Go.bits .and .i64 a0 16383) (wrap64 (1 + (Go.bits .and .i64 a1 16383)))) (wrap64 (1 + (Go.bits .and .i64 a1 16383))) true bt206.1 bt206.2.1)))) else (some false))) = some r := h
  clear h
  replace H := Option.bind_eq_some_iff.mp H
  obtain ⟨t205, A30, H⟩ := H
  replace H : (if t205 = true then (if (wrap64 (1 + (Go.bits .and .i64 a1 16383))) = 0 then (none) else ((addr_Encode.f k (Int.tmod (Go.bits .and .i64 a0 16383) (wrap64 (1 + (Go.bits .and .i64 a1 16383)))) (wrap64 (1 + (Go.bits .and .i64 a1 16383)))).bind fun bt206 => (if bt206.2.2 = 0 then ((addr_Decode.f bt206.1 bt206.2.1).bind fun t210 => (greenscreenlaw02_AddrBack.j0 k (Int.tmod (Go.bits .and .i64 a0 16383) (wrap64 (1 + (Go.bits .and .i64 a1 16383)))) (wrap64 (1 + (Go.bits .and .i64 a1 16383))) (t210 != (Int.tmod (Go.bits .and .i64 a0 16383) (wrap64 (1 + (Go.bits .and .i64 a1 16383))))) bt206.1 bt206.2.1)) else (greenscreenlaw02_AddrBack.j0 k (Int.tmod (Go.bits .and .i64 a0 16383) (wrap64 (1 + (Go.bits .and .i64 a1 16383)))) (wrap64 (1 + (Go.bits .and .i64 a1 16383))) true bt206.1 bt206.2.1)))) else (some false)) = some r := H
  have A3 := Aside0.mk A30
  clear A30
  by_cases c4 : t205 = true
  · subst c4
    have H1 : (if (wrap64 (1 + (Go.bits .and .i64 a1 16383))) = 0 then (none) else ((addr_Encode.f k (Int.tmod (Go.bits .and .i64 a0 16383) (wrap64 (1 + (Go.bits .and .i64 a1 16383)))) (wrap64 (1 + (Go.bits .and .i64 a1 16383)))).bind fun bt206 => (if bt206.2.2 = 0 then ((addr_Decode.f bt206.1 bt206.2.1).bind fun t210 => (greenscreenlaw02_AddrBack.j0 k (Int.tmod (Go.bits .and .i64 a0 16383) (wrap64 (1 + (Go.bits .and .i64 a1 16383)))) (wrap64 (1 + (Go.bits .and .i64 a1 16383))) (t210 != (Int.tmod (Go.bits .and .i64 a0 16383) (wrap64 (1 + (Go.bits .and .i64 a1 16383))))) bt206.1 bt206.2.1)) else (greenscreenlaw02_AddrBack.j0 k (Int.tmod (Go.bits .and .i64 a0 16383) (wrap64 (1 + (Go.bits .and .i64 a1 16383)))) (wrap64 (1 + (Go.bits .and .i64 a1 16383))) true bt206.1 bt206.2.1)))) = some r := by rw [if_pos rfl] at H; exact H
    clear H
    have H := H1
    clear H1
    by_cases c5 : (wrap64 (1 + (Go.bits .and .i64 a1 16383))) = 0
    · rw [if_pos c5] at H
      exact absurd H (by simp)
    · rw [if_neg c5] at H
      have c5b0 : ((wrap64 (1 + (Go.bits .and .i64 a1 16383))) == 0) = false := beq_eq_false_iff_ne.mpr c5
      have c5b1 : ((wrap64 (1 + (Go.bits .and .i64 a1 16383))) != 0) = true := bne_iff_ne.mpr c5
      replace H := Option.bind_eq_some_iff.mp H
      obtain ⟨⟨t206, t207, t208⟩, A60, H⟩ := H
      replace H : (if t208 = 0 then ((addr_Decode.f t206 t207).bind fun t210 => (greenscreenlaw02_AddrBack.j0 k (Int.tmod (Go.bits .and .i64 a0 16383) (wrap64 (1 + (Go.bits .and .i64 a1 16383)))) (wrap64 (1 + (Go.bits .and .i64 a1 16383))) (t210 != (Int.tmod (Go.bits .and .i64 a0 16383) (wrap64 (1 + (Go.bits .and .i64 a1 16383))))) t206 t207)) else (greenscreenlaw02_AddrBack.j0 k (Int.tmod (Go.bits .and .i64 a0 16383) (wrap64 (1 + (Go.bits .and .i64 a1 16383)))) (wrap64 (1 + (Go.bits .and .i64 a1 16383))) true t206 t207)) = some r := H
      have A6 := Aside0.mk A60
      clear A60
      have HC7 := Aside0.mk H
      clear H
      go_enter Try.func5, Try.ntmps5
      go_upto_region 6 with (first | ((with_reducible refine gate_callee (f := 8) rfl ?_); refine goesL_ (some 8) rfl rfl Try.func8 (by kernel_rfl) rfl #[] rfl (by (try simp only [List.map_toArray, List.map_cons, List.map_nil]); first | done | rfl | (simp only [List.length_drop, List.length_take]; rfl)) ?_; (with_reducible refine (greenscreenlaw02_alive.calls k  true rfl _ A3.out).mono ?_); rintro e w8 ⟨rfl, hb⟩; refine ⟨_, rfl, ?_⟩; have n0_ := Aside0.mk (below_step (by repeat (first | (with_reducible first | exact HB.out | apply below_alloc | apply pw_below_drewN | apply below_drew1) | exact HB.out)) hb); clear HB; have HB := n0_; clear n0_; (try clear hb); (try clear hb2); (try clear hk); (try clear hi)) | ((with_reducible refine gate_callee (f := 9) rfl ?_); refine goesL_ (some 20) rfl rfl Try.func9 (by kernel_rfl) rfl #[.int .i64 (Int.tmod (Go.bits .and .i64 a0 16383) (wrap64 (1 + (Go.bits .and .i64 a1 16383)))), .int .i64 (wrap64 (1 + (Go.bits .and .i64 a1 16383)))] rfl (by (try simp only [List.map_toArray, List.map_cons, List.map_nil]); first | done | rfl | (simp only [List.length_drop, List.length_take]; rfl)) ?_; (with_reducible refine (addr_Encode.calls k (Int.tmod (Go.bits .and .i64 a0 16383) (wrap64 (1 + (Go.bits .and .i64 a1 16383)))) (wrap64 (1 + (Go.bits .and .i64 a1 16383))) t206 t207 t208 _ A6.out).mono ?_); rintro e w9 ⟨rfl, hb⟩; refine ⟨_, rfl, ?_⟩; have n0_ := Aside0.mk (below_step (by repeat (first | (with_reducible first | exact HB.out | apply below_alloc | apply pw_below_drewN | apply below_drew1) | exact HB.out)) hb); clear HB; have HB := n0_; clear n0_; (try clear hb); (try clear hb2); (try clear hk); (try clear hi)) | ((with_reducible refine gate_dst (N := 5) rfl ?_); refine box_event ?hg (N := 5) ?hd (cs := #[.int .u8 0, .int .u8 0]) (t := 23) ?hr ?_; (case hd => rfl); (case hg => rfl); (case hr => first | (go_simp; done) | (go_simp; rfl)); intro gb209 hg w10 hbox hb; have n0_ := Aside0.mk (below_step (by repeat (first | (with_reducible first | exact HB.out | apply below_alloc | apply pw_below_drewN | apply below_drew1) | exact HB.out)) hb); have n1_ := Aside0.mk (hbox); have n2_ := Aside0.mk ((by rw [hg]; exact (below_size (by repeat (first | (with_reducible first | exact HB.out | apply below_alloc | apply pw_below_drewN | apply below_drew1) | exact HB.out))) : w.heap.size ≤ gb209)); have n3_ := Aside0.mk ((by rw [hg]; exact (below_size (by repeat (first | (with_reducible first | exact HB.out | apply below_alloc | apply pw_below_drewN | apply below_drew1) | exact HB.out))) : w.heap.size ≤ gb209)); clear HB; have HB := n0_; have BK209 := n1_; have GW209 := n2_; have GE209 := n3_; clear n0_ n1_ n2_ n3_; clear hb hbox hg; have hcz11_0 : w10.cell? ⟨gb209, 0, none⟩ = some (.int .u8 0) := (blk_cell BK209.out 0).trans rfl; have hcz11_1 : w10.cell? ⟨gb209, 1, none⟩ = some (.int .u8 0) := (blk_cell BK209.out 1).trans rfl; have hfz11_0 := blk_frozen BK209.out 0; have hfz11_1 := blk_frozen BK209.out 1))
      (try simp only [Act.put, List.setIfInBounds_toArray, List.set_cons_zero, List.set_cons_succ])
      go_cut [33] (fun v33 wc => ∃ (kq : Nat) (x33_6 : Bool), v33 = .bool x33_6 ∧ Aside0 (greenscreenlaw02_AddrBack.j0 kq (Int.tmod (Go.bits .and .i64 a0 16383) (wrap64 (1 + (Go.bits .and .i64 a1 16383)))) (wrap64 (1 + (Go.bits .and .i64 a1 16383))) x33_6 t206 t207 = some r) ∧ Aside0 (kq ≤ k) ∧ Aside0 (wc.heap[gb209]? = some (.cells #[.int .u8 t206, .int .u8 t207] 23 (0, 0))) ∧ Aside0 (Below w.heap.size w wc))
      case first =>
        have H := HC7.out
        clear HC7
        by_cases c12 : t208 = 0
        · rw [if_pos c12] at H
          have c12b0 : (t208 == 0) = true := beq_iff_eq.mpr c12
          have c12b1 : (t208 != 0) = false := bne_eq_false_iff_eq.mpr c12
          clear c12
          (first | rw [c12b0] | (simp only [i64_w, i32_w]; rw [c12b0]) | skip)
          replace H := Option.bind_eq_some_iff.mp H
          obtain ⟨t210, A130, H⟩ := H
          replace H : (greenscreenlaw02_AddrBack.j0 k (Int.tmod (Go.bits .and .i64 a0 16383) (wrap64 (1 + (Go.bits .and .i64 a1 16383)))) (wrap64 (1 + (Go.bits .and .i64 a1 16383))) (t210 != (Int.tmod (Go.bits .and .i64 a0 16383) (wrap64 (1 + (Go.bits .and .i64 a1 16383))))) t206 t207) = some r := H
          have A13 := Aside0.mk A130
          clear A130
          have H' := Aside0.mk H
          clear H
          have hcz14_0 : w10.cell? ⟨gb209, 0, none⟩ = some (.int .u8 0) := (blk_cell BK209.out 0).trans rfl
          have hcz14_1 : w10.cell? ⟨gb209, 1, none⟩ = some (.int .u8 0) := (blk_cell BK209.out 1).trans rfl
          have hfz14_0 := blk_frozen BK209.out 0
          have hfz14_1 := blk_frozen BK209.out 1
          go_wp2_with (first | (go_at_call 15; (with_reducible refine (addr_Decode.calls t206 t207 t210 _ A13.out).mono ?_); rintro e w' ⟨rfl, ⟨nd, rfl⟩⟩))
          go_meet
          case rel => exact ⟨_, ((t210 != (Int.tmod (Go.bits .and .i64 a0 16383) (wrap64 (1 + (Go.bits .and .i64 a1 16383)))))), (by first | rfl | (simp; done) | (simp [*]; done)), H', ⟨by first | omega | exact Nat.le_refl _⟩, ⟨by (with_reducible repeat (first | refine blk_drewN ?_ _ | refine blk_drew ?_ | refine blk_alloc ?_ _)); refine blk_put (cs := #[.int .u8 t206, .int .u8 0]) ?_ 1 _ rfl; (with_reducible repeat (first | refine blk_drewN ?_ _ | refine blk_drew ?_ | refine blk_alloc ?_ _)); refine blk_put (cs := #[.int .u8 0, .int .u8 0]) ?_ 0 _ rfl; (with_reducible repeat (first | refine blk_drewN ?_ _ | refine blk_drew ?_ | refine blk_alloc ?_ _)); exact BK209.out⟩, ⟨by repeat (first | (with_reducible first | exact HB.out | apply below_alloc | apply pw_below_drewN | apply below_drew1 | refine below_set ?_ GE209.out) | exact HB.out)⟩⟩
        · rw [if_neg c12] at H
          have c12b0 : (t208 == 0) = false := beq_eq_false_iff_ne.mpr c12
          have c12b1 : (t208 != 0) = true := bne_iff_ne.mpr c12
          (first | rw [c12b0] | (simp only [i64_w, i32_w]; rw [c12b0]) | skip)
          have H' := Aside0.mk H
          clear H
          go_wp2
          go_meet
          case rel => exact ⟨_, (true), (by first | rfl | (simp; done) | (simp [*]; done)), H', ⟨by first | omega | exact Nat.le_refl _⟩, ⟨by (with_reducible repeat (first | refine blk_drewN ?_ _ | refine blk_drew ?_ | refine blk_alloc ?_ _)); refine blk_put (cs := #[.int .u8 t206, .int .u8 0]) ?_ 1 _ rfl; (with_reducible repeat (first | refine blk_drewN ?_ _ | refine blk_drew ?_ | refine blk_alloc ?_ _)); refine blk_put (cs := #[.int .u8 0, .int .u8 0]) ?_ 0 _ rfl; (with_reducible repeat (first | refine blk_drewN ?_ _ | refine blk_drew ?_ | refine blk_alloc ?_ _)); exact BK209.out⟩, ⟨by repeat (first | (with_reducible first | exact HB.out | apply below_alloc | apply pw_below_drewN | apply below_drew1 | refine below_set ?_ GE209.out) | exact HB.out)⟩⟩
      case rest =>
        clear HC7
        try clear c1
        try clear p2
        try clear c4
        try clear c5
        try clear c5b0
        try clear c5b1
        try clear p6
        try clear c8
        try clear c9
        try clear c12
        try clear c12b0
        try clear c12b1
        try clear hcz11_0
        try clear hcz11_1
        try clear hcz14_0
        try clear hcz14_1
        try clear hfz11_0
        try clear hfz11_1
        try clear hfz14_0
        try clear hfz14_1
        obtain ⟨kq, x33_6, rfl, HA, HJ6, BK209, HB⟩ := hcut
        cases kq with
        | zero => exact absurd HA.out (by simp [greenscreenlaw02_AddrBack.j0])
        | succ kj6 =>
          have H := HA.out
          clear HA
          simp only [greenscreenlaw02_AddrBack.j0] at H
          by_cases c15 : x33_6 = true
          · subst c15
            have H1 : (some false) = some r := by rw [if_pos rfl] at H; exact H
            clear H
            have H := H1
            clear H1
            obtain rfl := Option.some.inj H
            exact absurd hr_ (by decide)
          · replace c15 := Bool.eq_false_iff.mpr c15
            subst c15
            have H1 : ((addr_Digit.f (Go.bits .and .i64 (Int.tmod (Go.bits .and .i64 a0 16383) (wrap64 (1 + (Go.bits .and .i64 a1 16383)))) 63)).bind fun t211 => ((addr_Value.f t211).bind fun t212 => (if t212 = (Go.bits .and .i64 (Int.tmod (Go.bits .and .i64 a0 16383) (wrap64 (1 + (Go.bits .and .i64 a1 16383)))) 63) then ((addr_Digit.f (Go.bits .and .i64 (Int.tmod (Go.bits .and .i64 a0 16383) (wrap64 (1 + (Go.bits .and .i64 a1 16383)))) 63)).bind fun t213 => (if t213 ≥ 64 then ((addr_Digit.f (Go.bits .and .i64 (Int.tmod (Go.bits .and .i64 a0 16383) (wrap64 (1 + (Go.bits .and .i64 a1 16383)))) 63)).bind fun t214 => (if t214 = 255 then (some false) else (if (wrap64 (1 + (Go.bits .and .i64 a1 16383))) > 4096 then (some true) else (some (decide (t206 ≥ 64)))))) else (some false))) else (some false)))) = some r := by rw [if_neg (show ¬ (false = true) by decide)] at H; exact H
            clear H
            have H := H1
            clear H1
            replace H := Option.bind_eq_some_iff.mp H
            obtain ⟨t211, A160, H⟩ := H
            replace H : ((addr_Value.f t211).bind fun t212 => (if t212 = (Go.bits .and .i64 (Int.tmod (Go.bits .and .i64 a0 16383) (wrap64 (1 + (Go.bits .and .i64 a1 16383)))) 63) then ((addr_Digit.f (Go.bits .and .i64 (Int.tmod (Go.bits .and .i64 a0 16383) (wrap64 (1 + (Go.bits .and .i64 a1 16383)))) 63)).bind fun t213 => (if t213 ≥ 64 then ((addr_Digit.f (Go.bits .and .i64 (Int.tmod (Go.bits .and .i64 a0 16383) (wrap64 (1 + (Go.bits .and .i64 a1 16383)))) 63)).bind fun t214 => (if t214 = 255 then (some false) else (if (wrap64 (1 + (Go.bits .and .i64 a1 16383))) > 4096 then (some true) else (some (decide (t206 ≥ 64)))))) else (some false))) else (some false))) = some r := H
            have A16 := Aside0.mk A160
            clear A160
            replace H := Option.bind_eq_some_iff.mp H
            obtain ⟨t212, A170, H⟩ := H
            replace H : (if t212 = (Go.bits .and .i64 (Int.tmod (Go.bits .and .i64 a0 16383) (wrap64 (1 + (Go.bits .and .i64 a1 16383)))) 63) then ((addr_Digit.f (Go.bits .and .i64 (Int.tmod (Go.bits .and .i64 a0 16383) (wrap64 (1 + (Go.bits .and .i64 a1 16383)))) 63)).bind fun t213 => (if t213 ≥ 64 then ((addr_Digit.f (Go.bits .and .i64 (Int.tmod (Go.bits .and .i64 a0 16383) (wrap64 (1 + (Go.bits .and .i64 a1 16383)))) 63)).bind fun t214 => (if t214 = 255 then (some false) else (if (wrap64 (1 + (Go.bits .and .i64 a1 16383))) > 4096 then (some true) else (some (decide (t206 ≥ 64)))))) else (some false))) else (some false)) = some r := H
            have A17 := Aside0.mk A170
            clear A170
            by_cases c18 : t212 = (Go.bits .and .i64 (Int.tmod (Go.bits .and .i64 a0 16383) (wrap64 (1 + (Go.bits .and .i64 a1 16383)))) 63)
            · rw [if_pos c18] at H
              have c18b0 : (t212 == (Go.bits .and .i64 (Int.tmod (Go.bits .and .i64 a0 16383) (wrap64 (1 + (Go.bits .and .i64 a1 16383)))) 63)) = true := beq_iff_eq.mpr c18
              have c18b1 : (t212 != (Go.bits .and .i64 (Int.tmod (Go.bits .and .i64 a0 16383) (wrap64 (1 + (Go.bits .and .i64 a1 16383)))) 63)) = false := bne_eq_false_iff_eq.mpr c18
              clear c18
              replace H := Option.bind_eq_some_iff.mp H
              obtain ⟨t213, A190, H⟩ := H
              replace H : (if t213 ≥ 64 then ((addr_Digit.f (Go.bits .and .i64 (Int.tmod (Go.bits .and .i64 a0 16383) (wrap64 (1 + (Go.bits .and .i64 a1 16383)))) 63)).bind fun t214 => (if t214 = 255 then (some false) else (if (wrap64 (1 + (Go.bits .and .i64 a1 16383))) > 4096 then (some true) else (some (decide (t206 ≥ 64)))))) else (some false)) = some r := H
              have A19 := Aside0.mk A190
              have et213 : t213 = t211 := Option.some.inj (by have h1_ := A16.out; have h2_ := A190; exact h2_.symm.trans h1_)
              have et213 : t213 = t211 := Option.some.inj (by have h1_ := A16.out; have h2_ := A190; exact h2_.symm.trans h1_)
              clear A190
              by_cases c20 : t213 ≥ 64
              · rw [if_pos c20] at H
                have c20b0 : decide (64 ≤ t213) = true := decide_eq_true c20
                try (have c20b0z := c20b0; rw [et213] at c20b0z)
                try (have c20b0z := c20b0; rw [et213] at c20b0z)
                clear c20
                replace H := Option.bind_eq_some_iff.mp H
                obtain ⟨t214, A210, H⟩ := H
                replace H : (if t214 = 255 then (some false) else (if (wrap64 (1 + (Go.bits .and .i64 a1 16383))) > 4096 then (some true) else (some (decide (t206 ≥ 64))))) = some r := H
                have A21 := Aside0.mk A210
                have et214 : t214 = t211 := Option.some.inj (by have h1_ := A16.out; have h2_ := A210; (try rw [et213] at h2_); exact h2_.symm.trans h1_)
                have et214 : t214 = t211 := Option.some.inj (by have h1_ := A16.out; have h2_ := A210; (try rw [et213] at h2_); exact h2_.symm.trans h1_)
                clear A210
                by_cases c22 : t214 = 255
                · rw [if_pos c22] at H
                  have c22b0 : (t214 == 255) = true := beq_iff_eq.mpr c22
                  try (have c22b0z := c22b0; rw [et214] at c22b0z)
                  try (have c22b0z := c22b0; rw [et214] at c22b0z)
                  have c22b1 : (t214 != 255) = false := bne_eq_false_iff_eq.mpr c22
                  try (have c22b1z := c22b1; rw [et214] at c22b1z)
                  try (have c22b1z := c22b1; rw [et214] at c22b1z)
                  clear c22
                  obtain rfl := Option.some.inj H
                  exact absurd hr_ (by decide)
                · rw [if_neg c22] at H
                  have c22b0 : (t214 == 255) = false := beq_eq_false_iff_ne.mpr c22
                  try (have c22b0z := c22b0; rw [et214] at c22b0z)
                  try (have c22b0z := c22b0; rw [et214] at c22b0z)
                  have c22b1 : (t214 != 255) = true := bne_iff_ne.mpr c22
                  try (have c22b1z := c22b1; rw [et214] at c22b1z)
                  try (have c22b1z := c22b1; rw [et214] at c22b1z)
                  by_cases c23 : (wrap64 (1 + (Go.bits .and .i64 a1 16383))) > 4096
                  · rw [if_pos c23] at H
                    have c23b0 : decide (4096 < (wrap64 (1 + (Go.bits .and .i64 a1 16383)))) = true := decide_eq_true c23
                    clear c23
                    obtain rfl := Option.some.inj H
                    go_wp2_with (first | ((with_reducible refine gate_callee (f := 11) rfl ?_); refine goesL_ (some 37) rfl rfl Try.func11 (by kernel_rfl) rfl #[.int .i64 (Go.bits .and .i64 (Int.tmod (Go.bits .and .i64 a0 16383) (wrap64 (1 + (Go.bits .and .i64 a1 16383)))) 63)] rfl (by (try simp only [List.map_toArray, List.map_cons, List.map_nil]); first | done | rfl | (simp only [List.length_drop, List.length_take]; rfl)) ?_; (with_reducible refine (addr_Digit.calls (Go.bits .and .i64 (Int.tmod (Go.bits .and .i64 a0 16383) (wrap64 (1 + (Go.bits .and .i64 a1 16383)))) 63) t211 _ A16.out).mono ?_); rintro e w' ⟨rfl, ⟨nd, rfl⟩⟩; refine ⟨_, rfl, ?_⟩) | ((with_reducible refine gate_callee (f := 14) rfl ?_); refine goesL_ (some 38) rfl rfl Try.func14 (by kernel_rfl) rfl #[.int .u8 t211] rfl (by (try simp only [List.map_toArray, List.map_cons, List.map_nil]); first | done | rfl | (simp only [List.length_drop, List.length_take]; rfl)) ?_; (with_reducible refine (addr_Value.calls t211 t212 _ A17.out).mono ?_); rintro e w' ⟨rfl, ⟨nd, rfl⟩⟩; refine ⟨_, rfl, ?_⟩) | (go_at_call 11; (with_reducible refine (addr_Digit.calls (Go.bits .and .i64 (Int.tmod (Go.bits .and .i64 a0 16383) (wrap64 (1 + (Go.bits .and .i64 a1 16383)))) 63) t213 _ A19.out).mono ?_); rintro e w' ⟨rfl, ⟨nd, rfl⟩⟩) | (go_at_call 11; (with_reducible refine (addr_Digit.calls (Go.bits .and .i64 (Int.tmod (Go.bits .and .i64 a0 16383) (wrap64 (1 + (Go.bits .and .i64 a1 16383)))) 63) t214 _ A21.out).mono ?_); rintro e w' ⟨rfl, ⟨nd, rfl⟩⟩) | (go_at_call 11; (with_reducible refine (addr_Digit.calls (Go.bits .and .i64 (Int.tmod (Go.bits .and .i64 a0 16383) (wrap64 (1 + (Go.bits .and .i64 a1 16383)))) 63) t211 _ A16.out).mono ?_); rintro e w' ⟨rfl, ⟨nd, rfl⟩⟩) | (go_at_call 14; (with_reducible refine (addr_Value.calls t211 t212 _ A17.out).mono ?_); rintro e w' ⟨rfl, ⟨nd, rfl⟩⟩))
                    go_ret
                    exact ⟨by first | rfl | (simp [errW_none, errW_some] <;> rfl) | (simp [*, errW_none, errW_some] <;> rfl), by repeat (first | (with_reducible first | exact HB.out | apply below_alloc | apply pw_below_drewN | apply below_drew1 | refine below_set ?_ GE209.out) | exact HB.out)⟩
                  · rw [if_neg c23] at H
                    have c23b0 : decide (4096 < (wrap64 (1 + (Go.bits .and .i64 a1 16383)))) = false := decide_eq_false c23
                    clear c23
                    obtain rfl := Option.some.inj H
                    try (have hcz24_0 : wc.cell? ⟨gb209, 0, none⟩ = some (.int .u8 t206) := (blk_cell BK209.out 0).trans rfl)
                    try (have hcz24_1 : wc.cell? ⟨gb209, 1, none⟩ = some (.int .u8 t207) := (blk_cell BK209.out 1).trans rfl)
                    try (have hfz24_0 := blk_frozen BK209.out 0)
                    try (have hfz24_1 := blk_frozen BK209.out 1)
                    go_wp2_with (first | ((with_reducible refine gate_callee (f := 11) rfl ?_); refine goesL_ (some 37) rfl rfl Try.func11 (by kernel_rfl) rfl #[.int .i64 (Go.bits .and .i64 (Int.tmod (Go.bits .and .i64 a0 16383) (wrap64 (1 + (Go.bits .and .i64 a1 16383)))) 63)] rfl (by (try simp only [List.map_toArray, List.map_cons, List.map_nil]); first | done | rfl | (simp only [List.length_drop, List.length_take]; rfl)) ?_; (with_reducible refine (addr_Digit.calls (Go.bits .and .i64 (Int.tmod (Go.bits .and .i64 a0 16383) (wrap64 (1 + (Go.bits .and .i64 a1 16383)))) 63) t211 _ A16.out).mono ?_); rintro e w' ⟨rfl, ⟨nd, rfl⟩⟩; refine ⟨_, rfl, ?_⟩) | ((with_reducible refine gate_callee (f := 14) rfl ?_); refine goesL_ (some 38) rfl rfl Try.func14 (by kernel_rfl) rfl #[.int .u8 t211] rfl (by (try simp only [List.map_toArray, List.map_cons, List.map_nil]); first | done | rfl | (simp only [List.length_drop, List.length_take]; rfl)) ?_; (with_reducible refine (addr_Value.calls t211 t212 _ A17.out).mono ?_); rintro e w' ⟨rfl, ⟨nd, rfl⟩⟩; refine ⟨_, rfl, ?_⟩) | (go_at_call 11; (with_reducible refine (addr_Digit.calls (Go.bits .and .i64 (Int.tmod (Go.bits .and .i64 a0 16383) (wrap64 (1 + (Go.bits .and .i64 a1 16383)))) 63) t213 _ A19.out).mono ?_); rintro e w' ⟨rfl, ⟨nd, rfl⟩⟩) | (go_at_call 11; (with_reducible refine (addr_Digit.calls (Go.bits .and .i64 (Int.tmod (Go.bits .and .i64 a0 16383) (wrap64 (1 + (Go.bits .and .i64 a1 16383)))) 63) t214 _ A21.out).mono ?_); rintro e w' ⟨rfl, ⟨nd, rfl⟩⟩; have hcz24_0 : wc.cell? ⟨gb209, 0, none⟩ = some (.int .u8 t206) := (blk_cell BK209.out 0).trans rfl; have hcz24_1 : wc.cell? ⟨gb209, 1, none⟩ = some (.int .u8 t207) := (blk_cell BK209.out 1).trans rfl; have hfz24_0 := blk_frozen BK209.out 0; have hfz24_1 := blk_frozen BK209.out 1) | (go_at_call 11; (with_reducible refine (addr_Digit.calls (Go.bits .and .i64 (Int.tmod (Go.bits .and .i64 a0 16383) (wrap64 (1 + (Go.bits .and .i64 a1 16383)))) 63) t211 _ A16.out).mono ?_); rintro e w' ⟨rfl, ⟨nd, rfl⟩⟩) | (go_at_call 14; (with_reducible refine (addr_Value.calls t211 t212 _ A17.out).mono ?_); rintro e w' ⟨rfl, ⟨nd, rfl⟩⟩))
                    go_ret
                    exact ⟨by first | rfl | (simp [errW_none, errW_some] <;> rfl) | (simp [*, errW_none, errW_some] <;> rfl), by repeat (first | (with_reducible first | exact HB.out | apply below_alloc | apply pw_below_drewN | apply below_drew1 | refine below_set ?_ GE209.out) | exact HB.out)⟩
              · rw [if_neg c20] at H
                have c20b0 : decide (64 ≤ t213) = false := decide_eq_false c20
                try (have c20b0z := c20b0; rw [et213] at c20b0z)
                try (have c20b0z := c20b0; rw [et213] at c20b0z)
                clear c20
                obtain rfl := Option.some.inj H
                exact absurd hr_ (by decide)
            · rw [if_neg c18] at H
              have c18b0 : (t212 == (Go.bits .and .i64 (Int.tmod (Go.bits .and .i64 a0 16383) (wrap64 (1 + (Go.bits .and .i64 a1 16383)))) 63)) = false := beq_eq_false_iff_ne.mpr c18
              have c18b1 : (t212 != (Go.bits .and .i64 (Int.tmod (Go.bits .and .i64 a0 16383) (wrap64 (1 + (Go.bits .and .i64 a1 16383)))) 63)) = true := bne_iff_ne.mpr c18
              obtain rfl := Option.some.inj H
              exact absurd hr_ (by decide)
  · replace c4 := Bool.eq_false_iff.mpr c4
    subst c4
    have H1 : (some false) = some r := by rw [if_neg (show ¬ (false = true) by decide)] at H; exact H
    clear H
    have H := H1
    clear H1
    obtain rfl := Option.some.inj H
    exact absurd hr_ (by decide)

/-- THE ONE PURE STATEMENT of greenscreenlaw02_AddrBack: yours. -/
def greenscreenlaw02_AddrBack.Pure : Prop := ∀ (a0 : Int) (a1 : Int), (Lit.int .i64 a0).wf = true → (Lit.int .i64 a1).wf = true → ∃ k, greenscreenlaw02_AddrBack.f k a0 a1 = some true
theorem greenscreenlaw02_AddrBack.walk (P : greenscreenlaw02_AddrBack.Pure) (a0 : Int) (a1 : Int) (w : World) (w0 : (Lit.int .i64 a0).wf = true) (w1 : (Lit.int .i64 a1).wf = true) :
    Calls Try.prog 5 #[.int .i64 a0, .int .i64 a1] w fun e w' => e = .returned (.bool true) ∧ Below w.heap.size w w' := by
  obtain ⟨k, h⟩ := P a0 a1 w0 w1
  refine (greenscreenlaw02_AddrBack.calls k a0 a1 true rfl w h).mono ?_
  rintro e w' ⟨rfl, hd⟩
  exact ⟨rfl, hd⟩

-- NOT PRINTED: function 6 (greenscreenlaw02_AddrRounds)

/-! ### greenscreenlaw02_AddrDigits: function 7 -/
def greenscreenlaw02_AddrDigits.f (k : Nat) (a0 : Int) (a1 : Int) (a2_0 : Int) (a2_1 : Int) (a3 : Int) : Option (Bool) := (greenscreenlaw02_alive.f k).bind fun t230 => (if t230 = true then ((addr_Digit.f a0).bind fun t231 => ((addr_Digit.f a1).bind fun t232 => (if ((t231 == t232) != ((Go.bits .and .i64 a0 63) == (Go.bits .and .i64 a1 63))) = true then (some false) else ((addr_Split.f a2_0 a2_1 a3).bind fun bt233 => ((addr_At.f a2_0 a2_1 bt233.1 bt233.2.1).bind fun bt236 => (if bt233.2.2 = true then (if bt236.2 = true then (if bt236.1 = a3 then (if bt233.1 ≥ 0 then (if bt233.1 < a2_0 then (if bt233.2.1 ≥ 0 then (some (decide (bt233.2.1 < a2_1))) else (some false)) else (some false)) else (some false)) else (some false)) else (some false)) else (some true))))))) else (some false))
theorem greenscreenlaw02_AddrDigits.mono : ∀ a0 a1 a2 a3 a4 k, LeO (greenscreenlaw02_AddrDigits.f k a0 a1 a2 a3 a4) (greenscreenlaw02_AddrDigits.f (k + 1) a0 a1 a2 a3 a4) := by
  intro a0 a1 a2 a3 a4 k
  unfold greenscreenlaw02_AddrDigits.f
  repeat' first
      | (with_reducible exact greenscreenlaw02_alive.mono _)
      | (with_reducible exact LeO.refl _)
      | (with_reducible exact LeO.none _)
      | (with_reducible refine LeO.ite ?_ ?_)
      | (with_reducible refine LeO.bind ?_ (fun _ => ?_))
      | exact greenscreenlaw02_alive.mono _
      | exact LeO.none _
      | refine LeO.ite ?_ ?_
      | refine LeO.bind ?_ (fun _ => ?_)
set_option maxHeartbeats 8000000 in
set_option maxRecDepth 100000 in
theorem greenscreenlaw02_AddrDigits.calls (k : Nat) (a0 : Int) (a1 : Int) (a2_0 : Int) (a2_1 : Int) (a3 : Int) (r : Bool) (hr_ : r = true) (w : World) (h : greenscreenlaw02_AddrDigits.f k a0 a1 a2_0 a2_1 a3 = some r) :
    Calls Try.prog 7 #[.int .i64 a0, .int .i64 a1, .agg #[.int .i64 a2_0, .int .i64 a2_1], .int .i64 a3] w fun e w' => e = .returned (.bool r) ∧ Below w.heap.size w w' := by
  have hu35 := Try.underlying35
  have HB := Aside0.mk (Below.refl w.heap.size w)
  have H : ((greenscreenlaw02_alive.f k).bind fun t230 => (if t230 = true then ((addr_Digit.f a0).bind fun t231 => ((addr_Digit.f a1).bind fun t232 => (if ((t231 == t232) != ((Go.bits .and .i64 a0 63) == (Go.bits .and .i64 a1 63))) = true then (some false) else ((addr_Split.f a2_0 a2_1 a3).bind fun bt233 => ((addr_At.f a2_0 a2_1 bt233.1 bt233.2.1).bind fun bt236 => (if bt233.2.2 = true then (if bt236.2 = true then (if bt236.1 = a3 then (if bt233.1 ≥ 0 then (if bt233.1 < a2_0 then (if bt233.2.1 ≥ 0 then (some (decide (bt233.2.1 < a2_1))) else (some false)) else (some false)) else (some false)) else (some false)) else (some false)) else (some true))))))) else (some false))) = some r := h
  clear h
  replace H := Option.bind_eq_some_iff.mp H
  obtain ⟨t230, A50, H⟩ := H
  replace H : (if t230 = true then ((addr_Digit.f a0).bind fun t231 => ((addr_Digit.f a1).bind fun t232 => (if ((t231 == t232) != ((Go.bits .and .i64 a0 63) == (Go.bits .and .i64 a1 63))) = true then (some false) else ((addr_Split.f a2_0 a2_1 a3).bind fun bt233 => ((addr_At.f a2_0 a2_1 bt233.1 bt233.2.1).bind fun bt236 => (if bt233.2.2 = true then (if bt236.2 = true then (if bt236.1 = a3 then (if bt233.1 ≥ 0 then (if bt233.1 < a2_0 then (if bt233.2.1 ≥ 0 then (some (decide (bt233.2.1 < a2_1))) else (some false)) else (some false)) else (some false)) else (some false)) else (some false)) else (some true))))))) else (some false)) = some r := H
  have A5 := Aside0.mk A50
  clear A50
  by_cases c6 : t230 = true
  · subst c6
    have H1 : ((addr_Digit.f a0).bind fun t231 => ((addr_Digit.f a1).bind fun t232 => (if ((t231 == t232) != ((Go.bits .and .i64 a0 63) == (Go.bits .and .i64 a1 63))) = true then (some false) else ((addr_Split.f a2_0 a2_1 a3).bind fun bt233 => ((addr_At.f a2_0 a2_1 bt233.1 bt233.2.1).bind fun bt236 => (if bt233.2.2 = true then (if bt236.2 = true then (if bt236.1 = a3 then (if bt233.1 ≥ 0 then (if bt233.1 < a2_0 then (if bt233.2.1 ≥ 0 then (some (decide (bt233.2.1 < a2_1))) else (some false)) else (some false)) else (some false)) else (some false)) else (some false)) else (some true))))))) = some r := by rw [if_pos rfl] at H; exact H
    clear H
    have H := H1
    clear H1
    replace H := Option.bind_eq_some_iff.mp H
    obtain ⟨t231, A70, H⟩ := H
    replace H : ((addr_Digit.f a1).bind fun t232 => (if ((t231 == t232) != ((Go.bits .and .i64 a0 63) == (Go.bits .and .i64 a1 63))) = true then (some false) else ((addr_Split.f a2_0 a2_1 a3).bind fun bt233 => ((addr_At.f a2_0 a2_1 bt233.1 bt233.2.1).bind fun bt236 => (if bt233.2.2 = true then (if bt236.2 = true then (if bt236.1 = a3 then (if bt233.1 ≥ 0 then (if bt233.1 < a2_0 then (if bt233.2.1 ≥ 0 then (some (decide (bt233.2.1 < a2_1))) else (some false)) else (some false)) else (some false)) else (some false)) else (some false)) else (some true)))))) = some r := H
    have A7 := Aside0.mk A70
    clear A70
    replace H := Option.bind_eq_some_iff.mp H
    obtain ⟨t232, A80, H⟩ := H
    replace H : (if ((t231 == t232) != ((Go.bits .and .i64 a0 63) == (Go.bits .and .i64 a1 63))) = true then (some false) else ((addr_Split.f a2_0 a2_1 a3).bind fun bt233 => ((addr_At.f a2_0 a2_1 bt233.1 bt233.2.1).bind fun bt236 => (if bt233.2.2 = true then (if bt236.2 = true then (if bt236.1 = a3 then (if bt233.1 ≥ 0 then (if bt233.1 < a2_0 then (if bt233.2.1 ≥ 0 then (some (decide (bt233.2.1 < a2_1))) else (some false)) else (some false)) else (some false)) else (some false)) else (some false)) else (some true))))) = some r := H
    have A8 := Aside0.mk A80
    clear A80
    by_cases c9 : ((t231 == t232) != ((Go.bits .and .i64 a0 63) == (Go.bits .and .i64 a1 63))) = true
    · rw [if_pos c9] at H
      have c9b0 : ((t231 == t232) != ((Go.bits .and .i64 a0 63) == (Go.bits .and .i64 a1 63))) = true := c9
      (try (have c9e0 : ((t231 == t232) = ((Go.bits .and .i64 a0 63) == (Go.bits .and .i64 a1 63))) = False := by (have he_ := c9b0; revert he_; cases ((t231 == t232)) <;> cases (((Go.bits .and .i64 a0 63) == (Go.bits .and .i64 a1 63))) <;> simp)))
      (try (have c9e1 : ((t231 == t232) == ((Go.bits .and .i64 a0 63) == (Go.bits .and .i64 a1 63))) = false := by (have he_ := c9b0; revert he_; cases ((t231 == t232)) <;> cases (((Go.bits .and .i64 a0 63) == (Go.bits .and .i64 a1 63))) <;> simp)))
      (try (have c9b1 : decide ((t231 == t232) = ((Go.bits .and .i64 a0 63) == (Go.bits .and .i64 a1 63))) = false := by simpa using c9))
      (try (have c9b2 : ((t231 == t232) == ((Go.bits .and .i64 a0 63) == (Go.bits .and .i64 a1 63))) = false := by simpa using c9))
      (try (have c9b3 : ¬ ((t231 == t232) = ((Go.bits .and .i64 a0 63) == (Go.bits .and .i64 a1 63))) := by simpa using c9))
      clear c9
      obtain rfl := Option.some.inj H
      exact absurd hr_ (by decide)
    · rw [if_neg c9] at H
      have c9b0 : ((t231 == t232) != ((Go.bits .and .i64 a0 63) == (Go.bits .and .i64 a1 63))) = false := by simpa using c9
      (try (have c9e0 : ((t231 == t232) = ((Go.bits .and .i64 a0 63) == (Go.bits .and .i64 a1 63))) = True := by (have he_ := c9b0; revert he_; cases ((t231 == t232)) <;> cases (((Go.bits .and .i64 a0 63) == (Go.bits .and .i64 a1 63))) <;> simp)))
      (try (have c9e1 : ((t231 == t232) == ((Go.bits .and .i64 a0 63) == (Go.bits .and .i64 a1 63))) = true := by (have he_ := c9b0; revert he_; cases ((t231 == t232)) <;> cases (((Go.bits .and .i64 a0 63) == (Go.bits .and .i64 a1 63))) <;> simp)))
      (try (have c9b1 : decide ((t231 == t232) = ((Go.bits .and .i64 a0 63) == (Go.bits .and .i64 a1 63))) = true := by simpa using c9))
      (try (have c9b2 : ((t231 == t232) == ((Go.bits .and .i64 a0 63) == (Go.bits .and .i64 a1 63))) = true := by simpa using c9))
      clear c9
      replace H := Option.bind_eq_some_iff.mp H
      obtain ⟨⟨t233, t234, t235⟩, A120, H⟩ := H
      replace H : ((addr_At.f a2_0 a2_1 t233 t234).bind fun bt236 => (if t235 = true then (if bt236.2 = true then (if bt236.1 = a3 then (if t233 ≥ 0 then (if t233 < a2_0 then (if t234 ≥ 0 then (some (decide (t234 < a2_1))) else (some false)) else (some false)) else (some false)) else (some false)) else (some false)) else (some true))) = some r := H
      have A12 := Aside0.mk A120
      clear A120
      replace H := Option.bind_eq_some_iff.mp H
      obtain ⟨⟨t236, t237⟩, A130, H⟩ := H
      replace H : (if t235 = true then (if t237 = true then (if t236 = a3 then (if t233 ≥ 0 then (if t233 < a2_0 then (if t234 ≥ 0 then (some (decide (t234 < a2_1))) else (some false)) else (some false)) else (some false)) else (some false)) else (some false)) else (some true)) = some r := H
      have A13 := Aside0.mk A130
      clear A130
      by_cases c14 : t235 = true
      · subst c14
        have H1 : (if t237 = true then (if t236 = a3 then (if t233 ≥ 0 then (if t233 < a2_0 then (if t234 ≥ 0 then (some (decide (t234 < a2_1))) else (some false)) else (some false)) else (some false)) else (some false)) else (some false)) = some r := by rw [if_pos rfl] at H; exact H
        clear H
        have H := H1
        clear H1
        by_cases c15 : t237 = true
        · subst c15
          have H1 : (if t236 = a3 then (if t233 ≥ 0 then (if t233 < a2_0 then (if t234 ≥ 0 then (some (decide (t234 < a2_1))) else (some false)) else (some false)) else (some false)) else (some false)) = some r := by rw [if_pos rfl] at H; exact H
          clear H
          have H := H1
          clear H1
          by_cases c16 : t236 = a3
          · rw [if_pos c16] at H
            have c16b0 : (t236 == a3) = true := beq_iff_eq.mpr c16
            have c16b1 : (t236 != a3) = false := bne_eq_false_iff_eq.mpr c16
            clear c16
            by_cases c17 : t233 ≥ 0
            · rw [if_pos c17] at H
              have c17b0 : decide (0 ≤ t233) = true := decide_eq_true c17
              clear c17
              by_cases c18 : t233 < a2_0
              · rw [if_pos c18] at H
                have c18b0 : decide (t233 < a2_0) = true := decide_eq_true c18
                clear c18
                by_cases c19 : t234 ≥ 0
                · rw [if_pos c19] at H
                  have c19b0 : decide (0 ≤ t234) = true := decide_eq_true c19
                  clear c19
                  obtain rfl := Option.some.inj H
                  go_enter Try.func7, Try.ntmps7
                  go_wp2_with (first | ((with_reducible refine gate_dst (N := 6) rfl ?_); refine box_event ?hg (N := 6) ?hd (cs := #[.int .i64 a2_0, .int .i64 a2_1]) (t := 35) ?hr ?_; (case hd => rfl); (case hg => rfl); (case hr => first | (go_simp; done) | (go_simp; rfl)); intro gb229 hg w20 hbox hb; have n0_ := Aside0.mk (below_step (by repeat (first | (with_reducible first | exact HB.out | apply below_alloc | apply pw_below_drewN | apply below_drew1) | exact HB.out)) hb); have n1_ := Aside0.mk (hbox); have n2_ := Aside0.mk ((by rw [hg]; exact (below_size (by repeat (first | (with_reducible first | exact HB.out | apply below_alloc | apply pw_below_drewN | apply below_drew1) | exact HB.out))) : w.heap.size ≤ gb229)); have n3_ := Aside0.mk ((by rw [hg]; exact (below_size (by repeat (first | (with_reducible first | exact HB.out | apply below_alloc | apply pw_below_drewN | apply below_drew1) | exact HB.out))) : w.heap.size ≤ gb229)); clear HB; have HB := n0_; have BK229 := n1_; have GW229 := n2_; have GE229 := n3_; clear n0_ n1_ n2_ n3_; clear hb hbox hg) | ((with_reducible refine gate_callee (f := 8) rfl ?_); refine goesL_ (some 14) rfl rfl Try.func8 (by kernel_rfl) rfl #[] rfl (by (try simp only [List.map_toArray, List.map_cons, List.map_nil]); first | done | rfl | (simp only [List.length_drop, List.length_take]; rfl)) ?_; (with_reducible refine (greenscreenlaw02_alive.calls k  true rfl _ A5.out).mono ?_); rintro e w21 ⟨rfl, hb⟩; refine ⟨_, rfl, ?_⟩; have n0_ := Aside0.mk (blk_below (g := gb229) (o := .cells #[.int .i64 a2_0, .int .i64 a2_1] 35 (0, 0)) (by (with_reducible repeat (first | refine blk_drewN ?_ _ | refine blk_drew ?_ | refine blk_alloc ?_ _)); exact BK229.out) hb); have n1_ := Aside0.mk (below_step (by repeat (first | (with_reducible first | exact HB.out | apply below_alloc | apply pw_below_drewN | apply below_drew1 | refine below_set ?_ GE229.out) | exact HB.out)) hb); clear BK229; clear HB; have BK229 := n0_; have HB := n1_; clear n0_ n1_; (try clear hb); (try clear hb2); (try clear hk); (try clear hi)) | ((with_reducible refine gate_callee (f := 11) rfl ?_); refine goesL_ (some 17) rfl rfl Try.func11 (by kernel_rfl) rfl #[.int .i64 a0] rfl (by (try simp only [List.map_toArray, List.map_cons, List.map_nil]); first | done | rfl | (simp only [List.length_drop, List.length_take]; rfl)) ?_; (with_reducible refine (addr_Digit.calls a0 t231 _ A7.out).mono ?_); rintro e w' ⟨rfl, ⟨nd, rfl⟩⟩; refine ⟨_, rfl, ?_⟩) | ((with_reducible refine gate_callee (f := 11) rfl ?_); refine goesL_ (some 19) rfl rfl Try.func11 (by kernel_rfl) rfl #[.int .i64 a1] rfl (by (try simp only [List.map_toArray, List.map_cons, List.map_nil]); first | done | rfl | (simp only [List.length_drop, List.length_take]; rfl)) ?_; (with_reducible refine (addr_Digit.calls a1 t232 _ A8.out).mono ?_); rintro e w' ⟨rfl, ⟨nd, rfl⟩⟩; refine ⟨_, rfl, ?_⟩; have hcz22_0 : w21.cell? ⟨gb229, 0, none⟩ = some (.int .i64 a2_0) := (blk_cell BK229.out 0).trans rfl; have hcz22_1 : w21.cell? ⟨gb229, 1, none⟩ = some (.int .i64 a2_1) := (blk_cell BK229.out 1).trans rfl; have hfz22_0 := blk_frozen BK229.out 0; have hfz22_1 := blk_frozen BK229.out 1) | ((with_reducible refine gate_callee (f := 20) rfl ?_); refine goesL_ (some 30) rfl rfl Try.func20 (by kernel_rfl) rfl #[.agg #[.int .i64 a2_0, .int .i64 a2_1], .int .i64 a3] rfl (by (try simp only [List.map_toArray, List.map_cons, List.map_nil]); first | done | rfl | (simp only [List.length_drop, List.length_take]; rfl)) ?_; (with_reducible refine (addr_Split.calls a2_0 a2_1 a3 t233 t234 true _ A12.out).mono ?_); rintro e w23 ⟨rfl, hb⟩; refine ⟨_, rfl, ?_⟩; have n0_ := Aside0.mk (blk_below (g := gb229) (o := .cells #[.int .i64 a2_0, .int .i64 a2_1] 35 (0, 0)) (by (with_reducible repeat (first | refine blk_drewN ?_ _ | refine blk_drew ?_ | refine blk_alloc ?_ _)); exact BK229.out) hb); have n1_ := Aside0.mk (below_step (by repeat (first | (with_reducible first | exact HB.out | apply below_alloc | apply pw_below_drewN | apply below_drew1 | refine below_set ?_ GE229.out) | exact HB.out)) hb); clear BK229; clear HB; have BK229 := n0_; have HB := n1_; clear n0_ n1_; (try clear hb); (try clear hb2); (try clear hk); (try clear hi); have hcz24_0 : w23.cell? ⟨gb229, 0, none⟩ = some (.int .i64 a2_0) := (blk_cell BK229.out 0).trans rfl; have hcz24_1 : w23.cell? ⟨gb229, 1, none⟩ = some (.int .i64 a2_1) := (blk_cell BK229.out 1).trans rfl; have hfz24_0 := blk_frozen BK229.out 0; have hfz24_1 := blk_frozen BK229.out 1) | ((with_reducible refine gate_callee (f := 18) rfl ?_); refine goesL_ (some 38) rfl rfl Try.func18 (by kernel_rfl) rfl #[.agg #[.int .i64 a2_0, .int .i64 a2_1], .int .i64 t233, .int .i64 t234] rfl (by (try simp only [List.map_toArray, List.map_cons, List.map_nil]); first | done | rfl | (simp only [List.length_drop, List.length_take]; rfl)) ?_; (with_reducible refine (addr_At.calls a2_0 a2_1 t233 t234 t236 true _ A13.out).mono ?_); rintro e w25 ⟨rfl, hb⟩; refine ⟨_, rfl, ?_⟩; have n0_ := Aside0.mk (blk_below (g := gb229) (o := .cells #[.int .i64 a2_0, .int .i64 a2_1] 35 (0, 0)) (by (with_reducible repeat (first | refine blk_drewN ?_ _ | refine blk_drew ?_ | refine blk_alloc ?_ _)); exact BK229.out) hb); have n1_ := Aside0.mk (below_step (by repeat (first | (with_reducible first | exact HB.out | apply below_alloc | apply pw_below_drewN | apply below_drew1 | refine below_set ?_ GE229.out) | exact HB.out)) hb); clear BK229; clear HB; have BK229 := n0_; have HB := n1_; clear n0_ n1_; (try clear hb); (try clear hb2); (try clear hk); (try clear hi); have hcz26_0 : w25.cell? ⟨gb229, 0, none⟩ = some (.int .i64 a2_0) := (blk_cell BK229.out 0).trans rfl; have hcz26_1 : w25.cell? ⟨gb229, 1, none⟩ = some (.int .i64 a2_1) := (blk_cell BK229.out 1).trans rfl; have hfz26_0 := blk_frozen BK229.out 0; have hfz26_1 := blk_frozen BK229.out 1) | (go_at_call 11; (with_reducible refine (addr_Digit.calls a0 t231 _ A7.out).mono ?_); rintro e w' ⟨rfl, ⟨nd, rfl⟩⟩))
                  go_ret
                  exact ⟨by first | rfl | (simp [errW_none, errW_some] <;> rfl) | (simp [*, errW_none, errW_some] <;> rfl), by repeat (first | (with_reducible first | exact HB.out | apply below_alloc | apply pw_below_drewN | apply below_drew1 | refine below_set ?_ GE229.out) | exact HB.out)⟩
                · rw [if_neg c19] at H
                  have c19b0 : decide (0 ≤ t234) = false := decide_eq_false c19
                  clear c19
                  obtain rfl := Option.some.inj H
                  exact absurd hr_ (by decide)
              · rw [if_neg c18] at H
                have c18b0 : decide (t233 < a2_0) = false := decide_eq_false c18
                clear c18
                obtain rfl := Option.some.inj H
                exact absurd hr_ (by decide)
            · rw [if_neg c17] at H
              have c17b0 : decide (0 ≤ t233) = false := decide_eq_false c17
              clear c17
              obtain rfl := Option.some.inj H
              exact absurd hr_ (by decide)
          · rw [if_neg c16] at H
            have c16b0 : (t236 == a3) = false := beq_eq_false_iff_ne.mpr c16
            have c16b1 : (t236 != a3) = true := bne_iff_ne.mpr c16
            obtain rfl := Option.some.inj H
            exact absurd hr_ (by decide)
        · replace c15 := Bool.eq_false_iff.mpr c15
          subst c15
          have H1 : (some false) = some r := by rw [if_neg (show ¬ (false = true) by decide)] at H; exact H
          clear H
          have H := H1
          clear H1
          obtain rfl := Option.some.inj H
          exact absurd hr_ (by decide)
      · replace c14 := Bool.eq_false_iff.mpr c14
        subst c14
        have H1 : (some true) = some r := by rw [if_neg (show ¬ (false = true) by decide)] at H; exact H
        clear H
        have H := H1
        clear H1
        obtain rfl := Option.some.inj H
        go_enter Try.func7, Try.ntmps7
        go_wp2_with (first | ((with_reducible refine gate_dst (N := 6) rfl ?_); refine box_event ?hg (N := 6) ?hd (cs := #[.int .i64 a2_0, .int .i64 a2_1]) (t := 35) ?hr ?_; (case hd => rfl); (case hg => rfl); (case hr => first | (go_simp; done) | (go_simp; rfl)); intro gb229 hg w59 hbox hb; have n0_ := Aside0.mk (below_step (by repeat (first | (with_reducible first | exact HB.out | apply below_alloc | apply pw_below_drewN | apply below_drew1) | exact HB.out)) hb); have n1_ := Aside0.mk (hbox); have n2_ := Aside0.mk ((by rw [hg]; exact (below_size (by repeat (first | (with_reducible first | exact HB.out | apply below_alloc | apply pw_below_drewN | apply below_drew1) | exact HB.out))) : w.heap.size ≤ gb229)); have n3_ := Aside0.mk ((by rw [hg]; exact (below_size (by repeat (first | (with_reducible first | exact HB.out | apply below_alloc | apply pw_below_drewN | apply below_drew1) | exact HB.out))) : w.heap.size ≤ gb229)); clear HB; have HB := n0_; have BK229 := n1_; have GW229 := n2_; have GE229 := n3_; clear n0_ n1_ n2_ n3_; clear hb hbox hg) | ((with_reducible refine gate_callee (f := 8) rfl ?_); refine goesL_ (some 14) rfl rfl Try.func8 (by kernel_rfl) rfl #[] rfl (by (try simp only [List.map_toArray, List.map_cons, List.map_nil]); first | done | rfl | (simp only [List.length_drop, List.length_take]; rfl)) ?_; (with_reducible refine (greenscreenlaw02_alive.calls k  true rfl _ A5.out).mono ?_); rintro e w60 ⟨rfl, hb⟩; refine ⟨_, rfl, ?_⟩; have n0_ := Aside0.mk (blk_below (g := gb229) (o := .cells #[.int .i64 a2_0, .int .i64 a2_1] 35 (0, 0)) (by (with_reducible repeat (first | refine blk_drewN ?_ _ | refine blk_drew ?_ | refine blk_alloc ?_ _)); exact BK229.out) hb); have n1_ := Aside0.mk (below_step (by repeat (first | (with_reducible first | exact HB.out | apply below_alloc | apply pw_below_drewN | apply below_drew1 | refine below_set ?_ GE229.out) | exact HB.out)) hb); clear BK229; clear HB; have BK229 := n0_; have HB := n1_; clear n0_ n1_; (try clear hb); (try clear hb2); (try clear hk); (try clear hi)) | ((with_reducible refine gate_callee (f := 11) rfl ?_); refine goesL_ (some 17) rfl rfl Try.func11 (by kernel_rfl) rfl #[.int .i64 a0] rfl (by (try simp only [List.map_toArray, List.map_cons, List.map_nil]); first | done | rfl | (simp only [List.length_drop, List.length_take]; rfl)) ?_; (with_reducible refine (addr_Digit.calls a0 t231 _ A7.out).mono ?_); rintro e w' ⟨rfl, ⟨nd, rfl⟩⟩; refine ⟨_, rfl, ?_⟩) | ((with_reducible refine gate_callee (f := 11) rfl ?_); refine goesL_ (some 19) rfl rfl Try.func11 (by kernel_rfl) rfl #[.int .i64 a1] rfl (by (try simp only [List.map_toArray, List.map_cons, List.map_nil]); first | done | rfl | (simp only [List.length_drop, List.length_take]; rfl)) ?_; (with_reducible refine (addr_Digit.calls a1 t232 _ A8.out).mono ?_); rintro e w' ⟨rfl, ⟨nd, rfl⟩⟩; refine ⟨_, rfl, ?_⟩; have hcz61_0 : w60.cell? ⟨gb229, 0, none⟩ = some (.int .i64 a2_0) := (blk_cell BK229.out 0).trans rfl; have hcz61_1 : w60.cell? ⟨gb229, 1, none⟩ = some (.int .i64 a2_1) := (blk_cell BK229.out 1).trans rfl; have hfz61_0 := blk_frozen BK229.out 0; have hfz61_1 := blk_frozen BK229.out 1) | ((with_reducible refine gate_callee (f := 20) rfl ?_); refine goesL_ (some 30) rfl rfl Try.func20 (by kernel_rfl) rfl #[.agg #[.int .i64 a2_0, .int .i64 a2_1], .int .i64 a3] rfl (by (try simp only [List.map_toArray, List.map_cons, List.map_nil]); first | done | rfl | (simp only [List.length_drop, List.length_take]; rfl)) ?_; (with_reducible refine (addr_Split.calls a2_0 a2_1 a3 t233 t234 false _ A12.out).mono ?_); rintro e w62 ⟨rfl, hb⟩; refine ⟨_, rfl, ?_⟩; have n0_ := Aside0.mk (blk_below (g := gb229) (o := .cells #[.int .i64 a2_0, .int .i64 a2_1] 35 (0, 0)) (by (with_reducible repeat (first | refine blk_drewN ?_ _ | refine blk_drew ?_ | refine blk_alloc ?_ _)); exact BK229.out) hb); have n1_ := Aside0.mk (below_step (by repeat (first | (with_reducible first | exact HB.out | apply below_alloc | apply pw_below_drewN | apply below_drew1 | refine below_set ?_ GE229.out) | exact HB.out)) hb); clear BK229; clear HB; have BK229 := n0_; have HB := n1_; clear n0_ n1_; (try clear hb); (try clear hb2); (try clear hk); (try clear hi); have hcz63_0 : w62.cell? ⟨gb229, 0, none⟩ = some (.int .i64 a2_0) := (blk_cell BK229.out 0).trans rfl; have hcz63_1 : w62.cell? ⟨gb229, 1, none⟩ = some (.int .i64 a2_1) := (blk_cell BK229.out 1).trans rfl; have hfz63_0 := blk_frozen BK229.out 0; have hfz63_1 := blk_frozen BK229.out 1) | ((with_reducible refine gate_callee (f := 18) rfl ?_); refine goesL_ (some 38) rfl rfl Try.func18 (by kernel_rfl) rfl #[.agg #[.int .i64 a2_0, .int .i64 a2_1], .int .i64 t233, .int .i64 t234] rfl (by (try simp only [List.map_toArray, List.map_cons, List.map_nil]); first | done | rfl | (simp only [List.length_drop, List.length_take]; rfl)) ?_; (with_reducible refine (addr_At.calls a2_0 a2_1 t233 t234 t236 t237 _ A13.out).mono ?_); rintro e w64 ⟨rfl, hb⟩; refine ⟨_, rfl, ?_⟩; have n0_ := Aside0.mk (blk_below (g := gb229) (o := .cells #[.int .i64 a2_0, .int .i64 a2_1] 35 (0, 0)) (by (with_reducible repeat (first | refine blk_drewN ?_ _ | refine blk_drew ?_ | refine blk_alloc ?_ _)); exact BK229.out) hb); have n1_ := Aside0.mk (below_step (by repeat (first | (with_reducible first | exact HB.out | apply below_alloc | apply pw_below_drewN | apply below_drew1 | refine below_set ?_ GE229.out) | exact HB.out)) hb); clear BK229; clear HB; have BK229 := n0_; have HB := n1_; clear n0_ n1_; (try clear hb); (try clear hb2); (try clear hk); (try clear hi)) | (go_at_call 11; (with_reducible refine (addr_Digit.calls a0 t231 _ A7.out).mono ?_); rintro e w' ⟨rfl, ⟨nd, rfl⟩⟩))
        go_ret
        exact ⟨by first | rfl | (simp [errW_none, errW_some] <;> rfl) | (simp [*, errW_none, errW_some] <;> rfl), by repeat (first | (with_reducible first | exact HB.out | apply below_alloc | apply pw_below_drewN | apply below_drew1 | refine below_set ?_ GE229.out) | exact HB.out)⟩
  · replace c6 := Bool.eq_false_iff.mpr c6
    subst c6
    have H1 : (some false) = some r := by rw [if_neg (show ¬ (false = true) by decide)] at H; exact H
    clear H
    have H := H1
    clear H1
    obtain rfl := Option.some.inj H
    exact absurd hr_ (by decide)

end Go.Proofs.Ytddccpgbjlejhaa.P
