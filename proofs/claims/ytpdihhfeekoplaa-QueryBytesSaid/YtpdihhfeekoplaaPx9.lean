-- Laid by program out of the translation, some functions' texts by hand (a session's own run, not print.sh's). Lean checks it.
import Derived.Test.YtpdihhfeekoplaaPx0
import Derived.Test.YtpdihhfeekoplaaPx3
import Derived.Test.YtpdihhfeekoplaaPx4
import Derived.Test.YtpdihhfeekoplaaPx5
import Derived.Test.YtpdihhfeekoplaaPx6
import Derived.Test.YtpdihhfeekoplaaPx7
import Derived.Test.YtpdihhfeekoplaaPx8
namespace Go.Proofs.Ytpdihhfeekoplaa.P
open Go.Proofs.Ytpdihhfeekoplaa.B
open Go.Proofs.Ytpdihhfeekoplaa.A
open Go.RowKit Go.Proofs.YtpdihhfeekoplaaW.PrintWords Go.Proofs.YtpdihhfeekoplaaW.PrintLast Go.Proofs.YtpdihhfeekoplaaW.PrintMore
attribute [local go_sem] max2_int min2_int max_two min_two max_three min_three max_four min_four   -- for this text's walks alone
set_option linter.unusedVariables false
set_option linter.unusedSimpArgs false

/-! ### greenscreenlaw24_QueryBytes: function 3 -/
def greenscreenlaw24_QueryBytes.j0 : Nat → List Int → Bool → Int → Int → Int → Int → List Int → List Int → Option (Bool)
  | 0, _, _, _, _, _, _, _, _ => none
  | k + 1, x1, x22, x392000, x392001, x392002, x392003, x392004, x392005 => if x22 = true then (some true) else ((query_Write.f k x392000 x392001 x392002 x392003 x392004 x392005).bind fun bt394 => ((greenscreenlaw24_as.f x392000 x392001 x392002 x392003 x392004 x392005).bind fun bt398 => ((greenscreenref24_Write.f k bt398.1 bt398.2.1 bt398.2.2.1 bt398.2.2.2.1 bt398.2.2.2.2.1 bt398.2.2.2.2.2).bind fun bt408 => ((query_Parse.f x1).bind fun bt412 => ((greenscreenref24_Parse.f x1).bind fun bt424 => (if bt394.2 = bt408.2 then ((greenscreenref01_Same.f k bt394.1 bt408.1).bind fun t436 => (if t436 = true then (if bt412.2.2.2.2.2.2 = bt424.2.2.2.2.2.2 then ((greenscreenlaw24_as.f bt412.1 bt412.2.1 bt412.2.2.1 bt412.2.2.2.1 bt412.2.2.2.2.1 bt412.2.2.2.2.2.1).bind fun bt437 => ((greenscreenref24_Same.f k bt437.1 bt437.2.1 bt437.2.2.1 bt437.2.2.2.1 bt437.2.2.2.2.1 bt437.2.2.2.2.2 bt424.1 bt424.2.1 bt424.2.2.1 bt424.2.2.2.1 bt424.2.2.2.2.1 bt424.2.2.2.2.2.1).bind fun t447 => (some t447))) else (some false)) else (some false))) else (some false)))))))
def greenscreenlaw24_QueryBytes.f (k : Nat) (a0_0 : Int) (a0_1 : Int) (a0_2 : Int) (a0_3 : Int) (l0_4 : List Int) (l0_5 : List Int) (l1 : List Int) : Option (Bool) := (greenscreenlaw24_alive.f k).bind fun t392 => (if t392 = true then ((greenscreenlaw24_few.f a0_0 a0_1 a0_2 a0_3 l0_4 l0_5).bind fun t393 => (if t393 = true then (greenscreenlaw24_QueryBytes.j0 k l1 (decide ((l1.length : Int) > 400)) a0_0 a0_1 a0_2 a0_3 l0_4 l0_5) else (greenscreenlaw24_QueryBytes.j0 k l1 true a0_0 a0_1 a0_2 a0_3 l0_4 l0_5))) else (some false))
theorem greenscreenlaw24_QueryBytes.mono_l : ∀ k, (∀ y0 y1 y2 y3 y4 y5 y6 y7, LeO (greenscreenlaw24_QueryBytes.j0 k y0 y1 y2 y3 y4 y5 y6 y7) (greenscreenlaw24_QueryBytes.j0 (k + 1) y0 y1 y2 y3 y4 y5 y6 y7))
  | 0 => fun _ _ _ _ _ _ _ _ r h => by simp [greenscreenlaw24_QueryBytes.j0] at h
  | k + 1 => by
    have ih0 := greenscreenlaw24_QueryBytes.mono_l k
    · intro y0 y1 y2 y3 y4 y5 y6 y7
      unfold greenscreenlaw24_QueryBytes.j0
      repeat' first
      | (with_reducible exact ih0 _ _ _ _ _ _ _ _)
      | (with_reducible exact greenscreenlaw24_alive.mono _)
      | (with_reducible exact greenscreenref01_Same.mono _ _ _)
      | (with_reducible exact greenscreenref24_Same.mono _ _ _ _ _ _ _ _ _ _ _ _ _)
      | (with_reducible exact greenscreenref24_Write.mono _ _ _ _ _ _ _)
      | (with_reducible exact query_Write.mono _ _ _ _ _ _ _)
      | (with_reducible exact LeO.refl _)
      | (with_reducible exact LeO.none _)
      | (with_reducible refine LeO.ite ?_ ?_)
      | (with_reducible refine LeO.bind ?_ (fun _ => ?_))
      | exact ih0 _ _ _ _ _ _ _ _
      | exact greenscreenlaw24_alive.mono _
      | exact greenscreenref01_Same.mono _ _ _
      | exact greenscreenref24_Same.mono _ _ _ _ _ _ _ _ _ _ _ _ _
      | exact greenscreenref24_Write.mono _ _ _ _ _ _ _
      | exact query_Write.mono _ _ _ _ _ _ _
      | exact LeO.none _
      | refine LeO.ite ?_ ?_
      | refine LeO.bind ?_ (fun _ => ?_)
theorem greenscreenlaw24_QueryBytes.mono : ∀ a0 a1 a2 a3 a4 a5 a6 k, LeO (greenscreenlaw24_QueryBytes.f k a0 a1 a2 a3 a4 a5 a6) (greenscreenlaw24_QueryBytes.f (k + 1) a0 a1 a2 a3 a4 a5 a6) := by
  intro a0 a1 a2 a3 a4 a5 a6 k
  have ih0 := greenscreenlaw24_QueryBytes.mono_l k
  unfold greenscreenlaw24_QueryBytes.f
  repeat' first
      | (with_reducible exact ih0 _ _ _ _ _ _ _ _)
      | (with_reducible exact greenscreenlaw24_alive.mono _)
      | (with_reducible exact greenscreenref01_Same.mono _ _ _)
      | (with_reducible exact greenscreenref24_Same.mono _ _ _ _ _ _ _ _ _ _ _ _ _)
      | (with_reducible exact greenscreenref24_Write.mono _ _ _ _ _ _ _)
      | (with_reducible exact query_Write.mono _ _ _ _ _ _ _)
      | (with_reducible exact LeO.refl _)
      | (with_reducible exact LeO.none _)
      | (with_reducible refine LeO.ite ?_ ?_)
      | (with_reducible refine LeO.bind ?_ (fun _ => ?_))
      | exact ih0 _ _ _ _ _ _ _ _
      | exact greenscreenlaw24_alive.mono _
      | exact greenscreenref01_Same.mono _ _ _
      | exact greenscreenref24_Same.mono _ _ _ _ _ _ _ _ _ _ _ _ _
      | exact greenscreenref24_Write.mono _ _ _ _ _ _ _
      | exact query_Write.mono _ _ _ _ _ _ _
      | exact LeO.none _
      | refine LeO.ite ?_ ?_
      | refine LeO.bind ?_ (fun _ => ?_)
def greenscreenlaw24_QueryBytes.T9 : Bool × List (List Nat × List Nat) := (true, [([], []), ([], []), ([0, 1], [0, 1]), ([2], [2]), ([3], [3]), ([3], [3]), ([4, 5, 3, 3], [3, 4, 5]), ([3, 6], [3, 6]), ([7, 6], [7]), ([8], [8]), ([8], [8]), ([9, 10, 8], [8, 9, 10]), ([8, 11], [8, 11]), ([12, 8], [12]), ([13], [13]), ([14, 13, 13], [13, 14]), ([13], [13]), ([15, 16, 15, 13], [13, 15, 16]), ([13, 17], [13, 17]), ([18, 17, 0, 1, 2, 3, 4, 5, 6, 7, 8, 9, 10, 11, 12, 13, 14, 15, 16, 17, 18], [18])])
def greenscreenlaw24_QueryBytes.B9 : List Nat := [0, 0, 3, 7, 15, 15, 63, 127, 255, 511, 511, 2047, 4095, 8191, 16383, 32767, 16383, 131071, 262143, 524287]
theorem greenscreenlaw24_QueryBytes.tab9 : rtab .any (opsOf Try.f3 9) = greenscreenlaw24_QueryBytes.T9 := by kernel_rfl
theorem greenscreenlaw24_QueryBytes.bits9 : waitsOk greenscreenlaw24_QueryBytes.T9.2 greenscreenlaw24_QueryBytes.B9 = true := by kernel_rfl
set_option maxHeartbeats 8000000 in
set_option maxRecDepth 100000 in
theorem greenscreenlaw24_QueryBytes.calls (k : Nat) (a0_0 : Int) (a0_1 : Int) (a0_2 : Int) (a0_3 : Int) (A0_4 : Option Addr) (c0_4 : Nat) (l0_4 : List Int) (A0_5 : Option Addr) (c0_5 : Nat) (l0_5 : List Int) (A1 : Option Addr) (c1 : Nat) (l1 : List Int) (r : Bool) (hr_ : r = true) (w : World) (hr0_4 : Kd.C (Kd.int .u8) w A0_4 l0_4.length l0_4) (hc0_4 : l0_4.length ≤ c0_4) (hr0_5 : Kd.C (Kd.int .u8) w A0_5 l0_5.length l0_5) (hc0_5 : l0_5.length ≤ c0_5) (hr1 : Kd.C (Kd.int .u8) w A1 l1.length l1) (hc1 : l1.length ≤ c1) (h : greenscreenlaw24_QueryBytes.f k a0_0 a0_1 a0_2 a0_3 l0_4 l0_5 l1 = some r) :
    Calls Try.prog 3 #[.agg #[.int .i64 a0_0, .int .i64 a0_1, .int .i64 a0_2, .int .i64 a0_3, .slice A0_4 l0_4.length c0_4, .slice A0_5 l0_5.length c0_5], .slice A1 l1.length c1] w fun e w' => e = .returned (.bool r) ∧ Below w.heap.size w w' := by
  have hu26 := Try.underlying26
  have hu34 := Try.underlying34
  have HR0_4 := Aside0.mk hr0_4
  have HC0_4 := Aside0.mk hc0_4
  clear hr0_4 hc0_4
  have HR0_5 := Aside0.mk hr0_5
  have HC0_5 := Aside0.mk hc0_5
  clear hr0_5 hc0_5
  have HR1 := Aside0.mk hr1
  have HC1 := Aside0.mk hc1
  clear hr1 hc1
  have HB := Aside0.mk (Below.refl w.heap.size w)
  have H : ((greenscreenlaw24_alive.f k).bind fun t392 => (if t392 = true then ((greenscreenlaw24_few.f a0_0 a0_1 a0_2 a0_3 l0_4 l0_5).bind fun t393 => (if t393 = true then (greenscreenlaw24_QueryBytes.j0 k l1 (decide ((l1.length : Int) > 400)) a0_0 a0_1 a0_2 a0_3 l0_4 l0_5) else (greenscreenlaw24_QueryBytes.j0 k l1 true a0_0 a0_1 a0_2 a0_3 l0_4 l0_5))) else (some false))) = some r := h
  clear h
  replace H := Option.bind_eq_some_iff.mp H
  obtain ⟨t392, A30, H⟩ := H
  replace H : (if t392 = true then ((greenscreenlaw24_few.f a0_0 a0_1 a0_2 a0_3 l0_4 l0_5).bind fun t393 => (if t393 = true then (greenscreenlaw24_QueryBytes.j0 k l1 (decide ((l1.length : Int) > 400)) a0_0 a0_1 a0_2 a0_3 l0_4 l0_5) else (greenscreenlaw24_QueryBytes.j0 k l1 true a0_0 a0_1 a0_2 a0_3 l0_4 l0_5))) else (some false)) = some r := H
  have A3 := Aside0.mk A30
  clear A30
  by_cases c4 : t392 = true
  · subst c4
    have H1 : ((greenscreenlaw24_few.f a0_0 a0_1 a0_2 a0_3 l0_4 l0_5).bind fun t393 => (if t393 = true then (greenscreenlaw24_QueryBytes.j0 k l1 (decide ((l1.length : Int) > 400)) a0_0 a0_1 a0_2 a0_3 l0_4 l0_5) else (greenscreenlaw24_QueryBytes.j0 k l1 true a0_0 a0_1 a0_2 a0_3 l0_4 l0_5))) = some r := by rw [if_pos rfl] at H; exact H
    clear H
    have H := H1
    clear H1
    have HC5 := Aside0.mk H
    clear H
    go_enter Try.func3, Try.ntmps3
    go_upto_region 3 with (first | ((with_reducible refine gate_dst (N := 2) rfl ?_); (try (refine gate_guard (by rfl) ?_; dsimp only)); refine box_event ?hg (N := 2) ?hd (cs := #[.int .i64 a0_0, .int .i64 a0_1, .int .i64 a0_2, .int .i64 a0_3, .slice A0_4 l0_4.length c0_4, .slice A0_5 l0_5.length c0_5]) (t := 26) ?hr ?_; (case hd => rfl); (case hg => rfl); (case hr => first | (go_simp; done) | (go_simp; rfl)); intro gb391 hg w6 hbox hb; have n0_ := Aside0.mk (below_step (by repeat (first | (with_reducible first | exact HB.out | apply below_alloc | apply pw_below_drewN | apply below_drew1) | exact HB.out)) hb); have n1_ := Aside0.mk (hbox); have n2_ := Aside0.mk ((by rw [hg]; exact (below_size (by repeat (first | (with_reducible first | exact HB.out | apply below_alloc | apply pw_below_drewN | apply below_drew1) | exact HB.out))) : w.heap.size ≤ gb391)); have n3_ := Aside0.mk ((by rw [hg]; exact (below_size (by repeat (first | (with_reducible first | exact HB.out | apply below_alloc | apply pw_below_drewN | apply below_drew1) | exact HB.out))) : w.heap.size ≤ gb391)); clear HB; have HB := n0_; have BK391 := n1_; have GW391 := n2_; have GE391 := n3_; clear n0_ n1_ n2_ n3_; clear hb hbox hg) | ((with_reducible refine gate_callee (f := 6) rfl ?_); refine goesL_ (some 13) rfl rfl Try.func6 (by kernel_rfl) rfl #[] rfl (by (try simp only [List.map_toArray, List.map_cons, List.map_nil]); first | done | rfl | (simp only [List.length_drop, List.length_take]; rfl)) ?_; (with_reducible refine (greenscreenlaw24_alive.calls k  true rfl _ A3.out).mono ?_); rintro e w7 ⟨rfl, hb⟩; refine ⟨_, rfl, ?_⟩; have n0_ := Aside0.mk (blk_below (g := gb391) (o := .cells #[.int .i64 a0_0, .int .i64 a0_1, .int .i64 a0_2, .int .i64 a0_3, .slice A0_4 l0_4.length c0_4, .slice A0_5 l0_5.length c0_5] 26 (0, 0)) (by (with_reducible repeat (first | refine blk_drewN ?_ _ | refine blk_drew ?_ | refine blk_alloc ?_ _)); exact BK391.out) hb); have n1_ := Aside0.mk (below_step (by repeat (first | (with_reducible first | exact HB.out | apply below_alloc | apply pw_below_drewN | apply below_drew1 | refine below_set ?_ GE391.out) | exact HB.out)) hb); clear BK391; clear HB; have BK391 := n0_; have HB := n1_; clear n0_ n1_; (try clear hb); (try clear hb2); (try clear hk); (try clear hi)))
    (try simp only [Act.put, List.setIfInBounds_toArray, List.set_cons_zero, List.set_cons_succ])
    go_cut [22] (fun v22 wc => ∃ (kq : Nat) (x22_4 : Bool), v22 = .bool x22_4 ∧ Aside0 (greenscreenlaw24_QueryBytes.j0 kq l1 x22_4 a0_0 a0_1 a0_2 a0_3 l0_4 l0_5 = some r) ∧ Aside0 (kq ≤ k) ∧ Aside0 (wc.heap[gb391]? = some (.cells #[.int .i64 a0_0, .int .i64 a0_1, .int .i64 a0_2, .int .i64 a0_3, (.slice A0_4 l0_4.length c0_4), (.slice A0_5 l0_5.length c0_5)] 26 (0, 0))) ∧ Aside0 (Below w.heap.size w wc))
    case first =>
      have H := HC5.out
      clear HC5
      replace H := Option.bind_eq_some_iff.mp H
      obtain ⟨t393, A80, H⟩ := H
      replace H : (if t393 = true then (greenscreenlaw24_QueryBytes.j0 k l1 (decide ((l1.length : Int) > 400)) a0_0 a0_1 a0_2 a0_3 l0_4 l0_5) else (greenscreenlaw24_QueryBytes.j0 k l1 true a0_0 a0_1 a0_2 a0_3 l0_4 l0_5)) = some r := H
      have A8 := Aside0.mk A80
      clear A80
      by_cases c9 : t393 = true
      · subst c9
        have H1 : (greenscreenlaw24_QueryBytes.j0 k l1 (decide ((l1.length : Int) > 400)) a0_0 a0_1 a0_2 a0_3 l0_4 l0_5) = some r := by rw [if_pos rfl] at H; exact H
        clear H
        have H := H1
        clear H1
        have H' := Aside0.mk H
        clear H
        have hcz10_0 : w7.cell? ⟨gb391, 0, none⟩ = some (.int .i64 a0_0) := (blk_cell BK391.out 0).trans rfl
        have hcz10_1 : w7.cell? ⟨gb391, 1, none⟩ = some (.int .i64 a0_1) := (blk_cell BK391.out 1).trans rfl
        have hcz10_2 : w7.cell? ⟨gb391, 2, none⟩ = some (.int .i64 a0_2) := (blk_cell BK391.out 2).trans rfl
        have hcz10_3 : w7.cell? ⟨gb391, 3, none⟩ = some (.int .i64 a0_3) := (blk_cell BK391.out 3).trans rfl
        have hcz10_4 : w7.cell? ⟨gb391, 4, none⟩ = some (.slice A0_4 l0_4.length c0_4) := (blk_cell BK391.out 4).trans rfl
        have hcz10_5 : w7.cell? ⟨gb391, 5, none⟩ = some (.slice A0_5 l0_5.length c0_5) := (blk_cell BK391.out 5).trans rfl
        have hfz10_0 := blk_frozen BK391.out 0
        have hfz10_1 := blk_frozen BK391.out 1
        have hfz10_2 := blk_frozen BK391.out 2
        have hfz10_3 := blk_frozen BK391.out 3
        have hfz10_4 := blk_frozen BK391.out 4
        have hfz10_5 := blk_frozen BK391.out 5
        go_wp2_with (first | ((with_reducible refine gate_callee (f := 7) rfl ?_); refine goesL_ (some 16) rfl rfl Try.func7 (by kernel_rfl) rfl #[.agg #[.int .i64 a0_0, .int .i64 a0_1, .int .i64 a0_2, .int .i64 a0_3, .slice A0_4 l0_4.length c0_4, .slice A0_5 l0_5.length c0_5]] rfl (by (try simp only [List.map_toArray, List.map_cons, List.map_nil]); first | done | rfl | (simp only [List.length_drop, List.length_take]; rfl)) ?_; (with_reducible refine (greenscreenlaw24_few.calls a0_0 a0_1 a0_2 a0_3 _ _ l0_4 _ _ l0_5 true _ ?side1 ?side2 ?side3 ?side4 A8.out).mono ?_); (case side1 => repeat (first | exact (Kd.C_below HR0_4.out HB.out) | (with_reducible refine Kd.C_alloc ?_ _) | (with_reducible refine Kd.C_drewN ?_ _) | (with_reducible refine Kd.C_drew ?_))); (case side2 => exact HC0_4.out); (case side3 => repeat (first | exact (Kd.C_below HR0_5.out HB.out) | (with_reducible refine Kd.C_alloc ?_ _) | (with_reducible refine Kd.C_drewN ?_ _) | (with_reducible refine Kd.C_drew ?_))); (case side4 => exact HC0_5.out); rintro e w11 ⟨rfl, hb⟩; refine ⟨_, rfl, ?_⟩; have n0_ := Aside0.mk (blk_below (g := gb391) (o := .cells #[.int .i64 a0_0, .int .i64 a0_1, .int .i64 a0_2, .int .i64 a0_3, .slice A0_4 l0_4.length c0_4, .slice A0_5 l0_5.length c0_5] 26 (0, 0)) (by (with_reducible repeat (first | refine blk_drewN ?_ _ | refine blk_drew ?_ | refine blk_alloc ?_ _)); exact BK391.out) hb); have n1_ := Aside0.mk (below_step (by repeat (first | (with_reducible first | exact HB.out | apply below_alloc | apply pw_below_drewN | apply below_drew1 | refine below_set ?_ GE391.out) | exact HB.out)) hb); clear BK391; clear HB; have BK391 := n0_; have HB := n1_; clear n0_ n1_; (try clear hb); (try clear hb2); (try clear hk); (try clear hi)))
        go_meet
        case rel => exact ⟨_, (decide ((l1.length : Int) > 400)), (by first | rfl | (simp; done) | (simp [*]; done)), H', ⟨by first | omega | exact Nat.le_refl _⟩, ⟨by (with_reducible repeat (first | refine blk_drewN ?_ _ | refine blk_drew ?_ | refine blk_alloc ?_ _)); exact BK391.out⟩, ⟨by repeat (first | (with_reducible first | exact HB.out | apply below_alloc | apply pw_below_drewN | apply below_drew1 | refine below_set ?_ GE391.out) | exact HB.out)⟩⟩
      · replace c9 := Bool.eq_false_iff.mpr c9
        subst c9
        have H1 : (greenscreenlaw24_QueryBytes.j0 k l1 true a0_0 a0_1 a0_2 a0_3 l0_4 l0_5) = some r := by rw [if_neg (show ¬ (false = true) by decide)] at H; exact H
        clear H
        have H := H1
        clear H1
        have H' := Aside0.mk H
        clear H
        have hcz12_0 : w7.cell? ⟨gb391, 0, none⟩ = some (.int .i64 a0_0) := (blk_cell BK391.out 0).trans rfl
        have hcz12_1 : w7.cell? ⟨gb391, 1, none⟩ = some (.int .i64 a0_1) := (blk_cell BK391.out 1).trans rfl
        have hcz12_2 : w7.cell? ⟨gb391, 2, none⟩ = some (.int .i64 a0_2) := (blk_cell BK391.out 2).trans rfl
        have hcz12_3 : w7.cell? ⟨gb391, 3, none⟩ = some (.int .i64 a0_3) := (blk_cell BK391.out 3).trans rfl
        have hcz12_4 : w7.cell? ⟨gb391, 4, none⟩ = some (.slice A0_4 l0_4.length c0_4) := (blk_cell BK391.out 4).trans rfl
        have hcz12_5 : w7.cell? ⟨gb391, 5, none⟩ = some (.slice A0_5 l0_5.length c0_5) := (blk_cell BK391.out 5).trans rfl
        have hfz12_0 := blk_frozen BK391.out 0
        have hfz12_1 := blk_frozen BK391.out 1
        have hfz12_2 := blk_frozen BK391.out 2
        have hfz12_3 := blk_frozen BK391.out 3
        have hfz12_4 := blk_frozen BK391.out 4
        have hfz12_5 := blk_frozen BK391.out 5
        go_wp2_with (first | ((with_reducible refine gate_callee (f := 7) rfl ?_); refine goesL_ (some 16) rfl rfl Try.func7 (by kernel_rfl) rfl #[.agg #[.int .i64 a0_0, .int .i64 a0_1, .int .i64 a0_2, .int .i64 a0_3, .slice A0_4 l0_4.length c0_4, .slice A0_5 l0_5.length c0_5]] rfl (by (try simp only [List.map_toArray, List.map_cons, List.map_nil]); first | done | rfl | (simp only [List.length_drop, List.length_take]; rfl)) ?_; (with_reducible refine (greenscreenlaw24_few.calls a0_0 a0_1 a0_2 a0_3 _ _ l0_4 _ _ l0_5 false _ ?side1 ?side2 ?side3 ?side4 A8.out).mono ?_); (case side1 => repeat (first | exact (Kd.C_below HR0_4.out HB.out) | (with_reducible refine Kd.C_alloc ?_ _) | (with_reducible refine Kd.C_drewN ?_ _) | (with_reducible refine Kd.C_drew ?_))); (case side2 => exact HC0_4.out); (case side3 => repeat (first | exact (Kd.C_below HR0_5.out HB.out) | (with_reducible refine Kd.C_alloc ?_ _) | (with_reducible refine Kd.C_drewN ?_ _) | (with_reducible refine Kd.C_drew ?_))); (case side4 => exact HC0_5.out); rintro e w13 ⟨rfl, hb⟩; refine ⟨_, rfl, ?_⟩; have n0_ := Aside0.mk (blk_below (g := gb391) (o := .cells #[.int .i64 a0_0, .int .i64 a0_1, .int .i64 a0_2, .int .i64 a0_3, .slice A0_4 l0_4.length c0_4, .slice A0_5 l0_5.length c0_5] 26 (0, 0)) (by (with_reducible repeat (first | refine blk_drewN ?_ _ | refine blk_drew ?_ | refine blk_alloc ?_ _)); exact BK391.out) hb); have n1_ := Aside0.mk (below_step (by repeat (first | (with_reducible first | exact HB.out | apply below_alloc | apply pw_below_drewN | apply below_drew1 | refine below_set ?_ GE391.out) | exact HB.out)) hb); clear BK391; clear HB; have BK391 := n0_; have HB := n1_; clear n0_ n1_; (try clear hb); (try clear hb2); (try clear hk); (try clear hi)))
        go_meet
        case rel => exact ⟨_, (true), (by first | rfl | (simp; done) | (simp [*]; done)), H', ⟨by first | omega | exact Nat.le_refl _⟩, ⟨by (with_reducible repeat (first | refine blk_drewN ?_ _ | refine blk_drew ?_ | refine blk_alloc ?_ _)); exact BK391.out⟩, ⟨by repeat (first | (with_reducible first | exact HB.out | apply below_alloc | apply pw_below_drewN | apply below_drew1 | refine below_set ?_ GE391.out) | exact HB.out)⟩⟩
    case rest =>
      clear HC5
      try clear c1
      try clear p2
      try clear c3
      try clear c4
      try clear c6
      try clear c7
      try clear c9
      try clear hcz10_0
      try clear hcz10_1
      try clear hcz10_2
      try clear hcz10_3
      try clear hcz10_4
      try clear hcz10_5
      try clear hcz12_0
      try clear hcz12_1
      try clear hcz12_2
      try clear hcz12_3
      try clear hcz12_4
      try clear hcz12_5
      try clear hfz10_0
      try clear hfz10_1
      try clear hfz10_2
      try clear hfz10_3
      try clear hfz10_4
      try clear hfz10_5
      try clear hfz12_0
      try clear hfz12_1
      try clear hfz12_2
      try clear hfz12_3
      try clear hfz12_4
      try clear hfz12_5
      obtain ⟨kq, x22_4, rfl, HA, HJ4, BK391, HB⟩ := hcut
      cases kq with
      | zero => exact absurd HA.out (by simp [greenscreenlaw24_QueryBytes.j0])
      | succ kj4 =>
        have H := HA.out
        clear HA
        simp only [greenscreenlaw24_QueryBytes.j0] at H
        by_cases c14 : x22_4 = true
        · subst c14
          have H1 : (some true) = some r := by rw [if_pos rfl] at H; exact H
          clear H
          have H := H1
          clear H1
          obtain rfl := Option.some.inj H
          go_wp2
          go_ret
          exact ⟨by first | rfl | (simp [errW_none, errW_some] <;> rfl) | (simp [*, errW_none, errW_some] <;> rfl), by repeat (first | (with_reducible first | exact HB.out | apply below_alloc | apply pw_below_drewN | apply below_drew1 | refine below_set ?_ GE391.out) | exact HB.out)⟩
        · replace c14 := Bool.eq_false_iff.mpr c14
          subst c14
          have H1 : ((query_Write.f kj4 a0_0 a0_1 a0_2 a0_3 l0_4 l0_5).bind fun bt394 => ((greenscreenlaw24_as.f a0_0 a0_1 a0_2 a0_3 l0_4 l0_5).bind fun bt398 => ((greenscreenref24_Write.f kj4 bt398.1 bt398.2.1 bt398.2.2.1 bt398.2.2.2.1 bt398.2.2.2.2.1 bt398.2.2.2.2.2).bind fun bt408 => ((query_Parse.f l1).bind fun bt412 => ((greenscreenref24_Parse.f l1).bind fun bt424 => (if bt394.2 = bt408.2 then ((greenscreenref01_Same.f kj4 bt394.1 bt408.1).bind fun t436 => (if t436 = true then (if bt412.2.2.2.2.2.2 = bt424.2.2.2.2.2.2 then ((greenscreenlaw24_as.f bt412.1 bt412.2.1 bt412.2.2.1 bt412.2.2.2.1 bt412.2.2.2.2.1 bt412.2.2.2.2.2.1).bind fun bt437 => ((greenscreenref24_Same.f kj4 bt437.1 bt437.2.1 bt437.2.2.1 bt437.2.2.2.1 bt437.2.2.2.2.1 bt437.2.2.2.2.2 bt424.1 bt424.2.1 bt424.2.2.1 bt424.2.2.2.1 bt424.2.2.2.2.1 bt424.2.2.2.2.2.1).bind fun t447 => (some t447))) else (some false)) else (some false))) else (some false))))))) = some r := by rw [if_neg (show ¬ (false = true) by decide)] at H; exact H
          clear H
          have H := H1
          clear H1
          replace H := Option.bind_eq_some_iff.mp H
          obtain ⟨⟨t394, t397⟩, A150, H⟩ := H
          replace H : ((greenscreenlaw24_as.f a0_0 a0_1 a0_2 a0_3 l0_4 l0_5).bind fun bt398 => ((greenscreenref24_Write.f kj4 bt398.1 bt398.2.1 bt398.2.2.1 bt398.2.2.2.1 bt398.2.2.2.2.1 bt398.2.2.2.2.2).bind fun bt408 => ((query_Parse.f l1).bind fun bt412 => ((greenscreenref24_Parse.f l1).bind fun bt424 => (if t397 = bt408.2 then ((greenscreenref01_Same.f kj4 t394 bt408.1).bind fun t436 => (if t436 = true then (if bt412.2.2.2.2.2.2 = bt424.2.2.2.2.2.2 then ((greenscreenlaw24_as.f bt412.1 bt412.2.1 bt412.2.2.1 bt412.2.2.2.1 bt412.2.2.2.2.1 bt412.2.2.2.2.2.1).bind fun bt437 => ((greenscreenref24_Same.f kj4 bt437.1 bt437.2.1 bt437.2.2.1 bt437.2.2.2.1 bt437.2.2.2.2.1 bt437.2.2.2.2.2 bt424.1 bt424.2.1 bt424.2.2.1 bt424.2.2.2.1 bt424.2.2.2.2.1 bt424.2.2.2.2.2.1).bind fun t447 => (some t447))) else (some false)) else (some false))) else (some false)))))) = some r := H
          have A15 := Aside0.mk A150
          clear A150
          replace H := Option.bind_eq_some_iff.mp H
          obtain ⟨⟨t398, t399, t400, t401, t402, t405⟩, A160, H⟩ := H
          replace H : ((greenscreenref24_Write.f kj4 t398 t399 t400 t401 t402 t405).bind fun bt408 => ((query_Parse.f l1).bind fun bt412 => ((greenscreenref24_Parse.f l1).bind fun bt424 => (if t397 = bt408.2 then ((greenscreenref01_Same.f kj4 t394 bt408.1).bind fun t436 => (if t436 = true then (if bt412.2.2.2.2.2.2 = bt424.2.2.2.2.2.2 then ((greenscreenlaw24_as.f bt412.1 bt412.2.1 bt412.2.2.1 bt412.2.2.2.1 bt412.2.2.2.2.1 bt412.2.2.2.2.2.1).bind fun bt437 => ((greenscreenref24_Same.f kj4 bt437.1 bt437.2.1 bt437.2.2.1 bt437.2.2.2.1 bt437.2.2.2.2.1 bt437.2.2.2.2.2 bt424.1 bt424.2.1 bt424.2.2.1 bt424.2.2.2.1 bt424.2.2.2.2.1 bt424.2.2.2.2.2.1).bind fun t447 => (some t447))) else (some false)) else (some false))) else (some false))))) = some r := H
          have A16 := Aside0.mk A160
          clear A160
          replace H := Option.bind_eq_some_iff.mp H
          obtain ⟨⟨t408, t411⟩, A170, H⟩ := H
          replace H : ((query_Parse.f l1).bind fun bt412 => ((greenscreenref24_Parse.f l1).bind fun bt424 => (if t397 = t411 then ((greenscreenref01_Same.f kj4 t394 t408).bind fun t436 => (if t436 = true then (if bt412.2.2.2.2.2.2 = bt424.2.2.2.2.2.2 then ((greenscreenlaw24_as.f bt412.1 bt412.2.1 bt412.2.2.1 bt412.2.2.2.1 bt412.2.2.2.2.1 bt412.2.2.2.2.2.1).bind fun bt437 => ((greenscreenref24_Same.f kj4 bt437.1 bt437.2.1 bt437.2.2.1 bt437.2.2.2.1 bt437.2.2.2.2.1 bt437.2.2.2.2.2 bt424.1 bt424.2.1 bt424.2.2.1 bt424.2.2.2.1 bt424.2.2.2.2.1 bt424.2.2.2.2.2.1).bind fun t447 => (some t447))) else (some false)) else (some false))) else (some false)))) = some r := H
          have A17 := Aside0.mk A170
          clear A170
          replace H := Option.bind_eq_some_iff.mp H
          obtain ⟨⟨t412, t413, t414, t415, t416, t419, t422⟩, A180, H⟩ := H
          replace H : ((greenscreenref24_Parse.f l1).bind fun bt424 => (if t397 = t411 then ((greenscreenref01_Same.f kj4 t394 t408).bind fun t436 => (if t436 = true then (if t422 = bt424.2.2.2.2.2.2 then ((greenscreenlaw24_as.f t412 t413 t414 t415 t416 t419).bind fun bt437 => ((greenscreenref24_Same.f kj4 bt437.1 bt437.2.1 bt437.2.2.1 bt437.2.2.2.1 bt437.2.2.2.2.1 bt437.2.2.2.2.2 bt424.1 bt424.2.1 bt424.2.2.1 bt424.2.2.2.1 bt424.2.2.2.2.1 bt424.2.2.2.2.2.1).bind fun t447 => (some t447))) else (some false)) else (some false))) else (some false))) = some r := H
          have A18 := Aside0.mk A180
          clear A180
          replace H := Option.bind_eq_some_iff.mp H
          obtain ⟨⟨t424, t425, t426, t427, t428, t431, t434⟩, A190, H⟩ := H
          replace H : (if t397 = t411 then ((greenscreenref01_Same.f kj4 t394 t408).bind fun t436 => (if t436 = true then (if t422 = t434 then ((greenscreenlaw24_as.f t412 t413 t414 t415 t416 t419).bind fun bt437 => ((greenscreenref24_Same.f kj4 bt437.1 bt437.2.1 bt437.2.2.1 bt437.2.2.2.1 bt437.2.2.2.2.1 bt437.2.2.2.2.2 t424 t425 t426 t427 t428 t431).bind fun t447 => (some t447))) else (some false)) else (some false))) else (some false)) = some r := H
          have A19 := Aside0.mk A190
          clear A190
          by_cases c20 : t397 = t411
          · rw [if_pos c20] at H
            have c20b0 : (t397 == t411) = true := beq_iff_eq.mpr c20
            have c20b1 : (t397 != t411) = false := bne_eq_false_iff_eq.mpr c20
            clear c20
            replace H := Option.bind_eq_some_iff.mp H
            obtain ⟨t436, A210, H⟩ := H
            replace H : (if t436 = true then (if t422 = t434 then ((greenscreenlaw24_as.f t412 t413 t414 t415 t416 t419).bind fun bt437 => ((greenscreenref24_Same.f kj4 bt437.1 bt437.2.1 bt437.2.2.1 bt437.2.2.2.1 bt437.2.2.2.2.1 bt437.2.2.2.2.2 t424 t425 t426 t427 t428 t431).bind fun t447 => (some t447))) else (some false)) else (some false)) = some r := H
            have A21 := Aside0.mk A210
            clear A210
            by_cases c22 : t436 = true
            · subst c22
              have H1 : (if t422 = t434 then ((greenscreenlaw24_as.f t412 t413 t414 t415 t416 t419).bind fun bt437 => ((greenscreenref24_Same.f kj4 bt437.1 bt437.2.1 bt437.2.2.1 bt437.2.2.2.1 bt437.2.2.2.2.1 bt437.2.2.2.2.2 t424 t425 t426 t427 t428 t431).bind fun t447 => (some t447))) else (some false)) = some r := by rw [if_pos rfl] at H; exact H
              clear H
              have H := H1
              clear H1
              by_cases c23 : t422 = t434
              · rw [if_pos c23] at H
                have c23b0 : (t422 == t434) = true := beq_iff_eq.mpr c23
                have c23b1 : (t422 != t434) = false := bne_eq_false_iff_eq.mpr c23
                clear c23
                replace H := Option.bind_eq_some_iff.mp H
                obtain ⟨⟨t437, t438, t439, t440, t441, t444⟩, A240, H⟩ := H
                replace H : ((greenscreenref24_Same.f kj4 t437 t438 t439 t440 t441 t444 t424 t425 t426 t427 t428 t431).bind fun t447 => (some t447)) = some r := H
                have A24 := Aside0.mk A240
                clear A240
                replace H := Option.bind_eq_some_iff.mp H
                obtain ⟨t447, A250, H⟩ := H
                replace H : (some t447) = some r := H
                have A25 := Aside0.mk A250
                clear A250
                obtain rfl := Option.some.inj H
                have hcz26_0 : wc.cell? ⟨gb391, 0, none⟩ = some (.int .i64 a0_0) := (blk_cell BK391.out 0).trans rfl
                have hcz26_1 : wc.cell? ⟨gb391, 1, none⟩ = some (.int .i64 a0_1) := (blk_cell BK391.out 1).trans rfl
                have hcz26_2 : wc.cell? ⟨gb391, 2, none⟩ = some (.int .i64 a0_2) := (blk_cell BK391.out 2).trans rfl
                have hcz26_3 : wc.cell? ⟨gb391, 3, none⟩ = some (.int .i64 a0_3) := (blk_cell BK391.out 3).trans rfl
                have hcz26_4 : wc.cell? ⟨gb391, 4, none⟩ = some (.slice A0_4 l0_4.length c0_4) := (blk_cell BK391.out 4).trans rfl
                have hcz26_5 : wc.cell? ⟨gb391, 5, none⟩ = some (.slice A0_5 l0_5.length c0_5) := (blk_cell BK391.out 5).trans rfl
                have hfz26_0 := blk_frozen BK391.out 0
                have hfz26_1 := blk_frozen BK391.out 1
                have hfz26_2 := blk_frozen BK391.out 2
                have hfz26_3 := blk_frozen BK391.out 3
                have hfz26_4 := blk_frozen BK391.out 4
                have hfz26_5 := blk_frozen BK391.out 5
                try go_wp2_with (first | ((with_reducible refine gate_callee (f := 8) rfl ?_); refine goesL_ (some 25) rfl rfl Try.func8 (by kernel_rfl) rfl #[.agg #[.int .i64 a0_0, .int .i64 a0_1, .int .i64 a0_2, .int .i64 a0_3, .slice A0_4 l0_4.length c0_4, .slice A0_5 l0_5.length c0_5]] rfl (by (try simp only [List.map_toArray, List.map_cons, List.map_nil]); first | done | rfl | (simp only [List.length_drop, List.length_take]; rfl)) ?_; (with_reducible refine (query_Write.calls kj4 a0_0 a0_1 a0_2 a0_3 _ _ l0_4 _ _ l0_5 t394 t397 _ ?side1 ?side2 ?side3 ?side4 A15.out).mono ?_); (case side1 => repeat (first | exact (Kd.C_below HR0_4.out HB.out) | (with_reducible refine Kd.C_alloc ?_ _) | (with_reducible refine Kd.C_drewN ?_ _) | (with_reducible refine Kd.C_drew ?_))); (case side2 => exact HC0_4.out); (case side3 => repeat (first | exact (Kd.C_below HR0_5.out HB.out) | (with_reducible refine Kd.C_alloc ?_ _) | (with_reducible refine Kd.C_drewN ?_ _) | (with_reducible refine Kd.C_drew ?_))); (case side4 => exact HC0_5.out); rintro e w27 ⟨v395, rfl, ho0, hb⟩; refine ⟨_, rfl, ?_⟩; have n0_ := Aside0.mk (Kd.R_lower ho0 (below_size (by repeat (first | (with_reducible first | exact HB.out | apply below_alloc | apply pw_below_drewN | apply below_drew1 | refine below_set ?_ GE391.out) | exact HB.out)))); have n1_ := Aside0.mk (blk_below (g := gb391) (o := .cells #[.int .i64 a0_0, .int .i64 a0_1, .int .i64 a0_2, .int .i64 a0_3, .slice A0_4 l0_4.length c0_4, .slice A0_5 l0_5.length c0_5] 26 (0, 0)) (by (with_reducible repeat (first | refine blk_drewN ?_ _ | refine blk_drew ?_ | refine blk_alloc ?_ _)); exact BK391.out) hb); have n2_ := Aside0.mk (below_step (by repeat (first | (with_reducible first | exact HB.out | apply below_alloc | apply pw_below_drewN | apply below_drew1 | refine below_set ?_ GE391.out) | exact HB.out)) hb); clear BK391; clear HB; have HO396 := n0_; have BK391 := n1_; have HB := n2_; clear n0_ n1_ n2_; (try clear hb); (try clear hb2); (try clear hk); (try clear hi); (try clear ho0); have hcz28_0 : w27.cell? ⟨gb391, 0, none⟩ = some (.int .i64 a0_0) := (blk_cell BK391.out 0).trans rfl; have hcz28_1 : w27.cell? ⟨gb391, 1, none⟩ = some (.int .i64 a0_1) := (blk_cell BK391.out 1).trans rfl; have hcz28_2 : w27.cell? ⟨gb391, 2, none⟩ = some (.int .i64 a0_2) := (blk_cell BK391.out 2).trans rfl; have hcz28_3 : w27.cell? ⟨gb391, 3, none⟩ = some (.int .i64 a0_3) := (blk_cell BK391.out 3).trans rfl; have hcz28_4 : w27.cell? ⟨gb391, 4, none⟩ = some (.slice A0_4 l0_4.length c0_4) := (blk_cell BK391.out 4).trans rfl; have hcz28_5 : w27.cell? ⟨gb391, 5, none⟩ = some (.slice A0_5 l0_5.length c0_5) := (blk_cell BK391.out 5).trans rfl; have hfz28_0 := blk_frozen BK391.out 0; have hfz28_1 := blk_frozen BK391.out 1; have hfz28_2 := blk_frozen BK391.out 2; have hfz28_3 := blk_frozen BK391.out 3; have hfz28_4 := blk_frozen BK391.out 4; have hfz28_5 := blk_frozen BK391.out 5) | ((with_reducible refine gate_callee (f := 10) rfl ?_); refine goesL_ (some 30) rfl rfl Try.func10 (by kernel_rfl) rfl #[.agg #[.int .i64 a0_0, .int .i64 a0_1, .int .i64 a0_2, .int .i64 a0_3, .slice A0_4 l0_4.length c0_4, .slice A0_5 l0_5.length c0_5]] rfl (by (try simp only [List.map_toArray, List.map_cons, List.map_nil]); first | done | rfl | (simp only [List.length_drop, List.length_take]; rfl)) ?_; (with_reducible refine (greenscreenlaw24_as.calls a0_0 a0_1 a0_2 a0_3 (fun k_ => k_ < w.heap.size) _ _ l0_4 (fun k_ => k_ < w.heap.size) _ _ l0_5 t398 t399 t400 t401 t402 t405 _ ?side1 ?side2 A16.out).mono ?_); (case side1 => exact Kd.V_mk HC0_4.out (Kd.F_below (Kd.C_F (Kd.heap_int .u8) HR0_4.out) (by repeat (first | (with_reducible first | exact HB.out | apply below_alloc | apply pw_below_drewN | apply below_drew1 | refine below_set ?_ GE391.out) | exact HB.out)))); (case side2 => exact Kd.V_mk HC0_5.out (Kd.F_below (Kd.C_F (Kd.heap_int .u8) HR0_5.out) (by repeat (first | (with_reducible first | exact HB.out | apply below_alloc | apply pw_below_drewN | apply below_drew1 | refine below_set ?_ GE391.out) | exact HB.out)))); rintro e w29 ⟨v403, v406, rfl, ho0, ho1, hb⟩; refine ⟨_, rfl, ?_⟩; have n0_ := Aside0.mk (Kd.R_below (by (with_reducible repeat (first | apply Kd.R_alloc | apply Kd.R_drewN | apply Kd.R_drew)); exact HO396.out) hb); have n1_ := Aside0.mk (Kd.V_lower (Kd.V_mono (ok' := fun k_ => some k_ ≠ (v395 : Value).ownBlock ∧ k_ ≠ gb391) ho0 (fun k_ hk_ => ⟨Or.elim hk_ (fun hs_ => Or.elim hs_ (fun hs_ => fun e_ => Nat.not_le.2 hs_ (Kd.R_base HO396.out k_ e_.symm)) (fun hs_ => fun e_ => Nat.not_le.2 hs_ (Kd.R_base HO396.out k_ e_.symm))) (fun hn_ => (Kd.fresh' (Kd.R_lt (by (with_reducible repeat (first | apply Kd.R_alloc | apply Kd.R_drewN | apply Kd.R_drew)); exact HO396.out)) k_ hn_)), Or.elim hk_ (fun hs_ => Or.elim hs_ (fun hs_ => fun e_ => Nat.not_le.2 hs_ (by rw [e_]; exact GW391.out)) (fun hs_ => fun e_ => Nat.not_le.2 hs_ (by rw [e_]; exact GW391.out))) (fun hn_ => (Kd.freshB (g := gb391) (o := .cells #[.int .i64 a0_0, .int .i64 a0_1, .int .i64 a0_2, .int .i64 a0_3, .slice A0_4 l0_4.length c0_4, .slice A0_5 l0_5.length c0_5] 26 (0, 0)) (by (with_reducible repeat (first | refine blk_drewN ?_ _ | refine blk_drew ?_ | refine blk_alloc ?_ _)); exact BK391.out) k_ hn_))⟩)) (below_size (by repeat (first | (with_reducible first | exact HB.out | apply below_alloc | apply pw_below_drewN | apply below_drew1 | refine below_set ?_ GE391.out) | exact HB.out)))); have n2_ := Aside0.mk (Kd.V_lower (Kd.V_mono (ok' := fun k_ => some k_ ≠ (v395 : Value).ownBlock ∧ k_ ≠ gb391) ho1 (fun k_ hk_ => ⟨Or.elim hk_ (fun hs_ => Or.elim hs_ (fun hs_ => fun e_ => Nat.not_le.2 hs_ (Kd.R_base HO396.out k_ e_.symm)) (fun hs_ => fun e_ => Nat.not_le.2 hs_ (Kd.R_base HO396.out k_ e_.symm))) (fun hn_ => (Kd.fresh' (Kd.R_lt (by (with_reducible repeat (first | apply Kd.R_alloc | apply Kd.R_drewN | apply Kd.R_drew)); exact HO396.out)) k_ hn_)), Or.elim hk_ (fun hs_ => Or.elim hs_ (fun hs_ => fun e_ => Nat.not_le.2 hs_ (by rw [e_]; exact GW391.out)) (fun hs_ => fun e_ => Nat.not_le.2 hs_ (by rw [e_]; exact GW391.out))) (fun hn_ => (Kd.freshB (g := gb391) (o := .cells #[.int .i64 a0_0, .int .i64 a0_1, .int .i64 a0_2, .int .i64 a0_3, .slice A0_4 l0_4.length c0_4, .slice A0_5 l0_5.length c0_5] 26 (0, 0)) (by (with_reducible repeat (first | refine blk_drewN ?_ _ | refine blk_drew ?_ | refine blk_alloc ?_ _)); exact BK391.out) k_ hn_))⟩)) (below_size (by repeat (first | (with_reducible first | exact HB.out | apply below_alloc | apply pw_below_drewN | apply below_drew1 | refine below_set ?_ GE391.out) | exact HB.out)))); have n3_ := Aside0.mk (blk_below (g := gb391) (o := .cells #[.int .i64 a0_0, .int .i64 a0_1, .int .i64 a0_2, .int .i64 a0_3, .slice A0_4 l0_4.length c0_4, .slice A0_5 l0_5.length c0_5] 26 (0, 0)) (by (with_reducible repeat (first | refine blk_drewN ?_ _ | refine blk_drew ?_ | refine blk_alloc ?_ _)); exact BK391.out) hb); have n4_ := Aside0.mk (below_step (by repeat (first | (with_reducible first | exact HB.out | apply below_alloc | apply pw_below_drewN | apply below_drew1 | refine below_set ?_ GE391.out) | exact HB.out)) hb); clear HO396; clear BK391; clear HB; have HO396 := n0_; have HO404 := n1_; have HO407 := n2_; have BK391 := n3_; have HB := n4_; clear n0_ n1_ n2_ n3_ n4_; (try clear hb); (try clear hb2); (try clear hk); (try clear hi); (try clear ho0); (try clear ho1); obtain ⟨Ao30, co30, eo30⟩ := Kd.V_slice HO404.out; subst eo30; obtain ⟨Ao31, co31, eo31⟩ := Kd.V_slice HO407.out; subst eo31) | ((with_reducible refine gate_callee (f := 9) rfl ?_); refine goesL_ (some 31) rfl rfl Try.func9 (by kernel_rfl) rfl #[.agg #[.int .i64 t398, .int .i64 t399, .int .i64 t400, .int .i64 t401, .slice Ao30 t402.length co30, .slice Ao31 t405.length co31]] rfl (by (try simp only [List.map_toArray, List.map_cons, List.map_nil]); first | done | rfl | (simp only [List.length_drop, List.length_take]; rfl)) ?_; (with_reducible refine (greenscreenref24_Write.calls kj4 t398 t399 t400 t401 (fun k_ => (some k_ ≠ (v395 : Value).ownBlock ∧ k_ ≠ gb391)) _ _ t402 (fun k_ => (some k_ ≠ (v395 : Value).ownBlock ∧ k_ ≠ gb391)) _ _ t405 t408 t411 _ ?side1 ?side2 A17.out).mono ?_); (case side1 => exact HO404.out); (case side2 => exact HO407.out); rintro e w32 ⟨v409, rfl, ho0, hb⟩; refine ⟨_, rfl, ?_⟩; have n0_ := Aside0.mk (Kd.R_elder' (by (with_reducible repeat (first | apply Kd.R_alloc | apply Kd.R_drewN | apply Kd.R_drew)); exact HO396.out) (Kd.R_base ho0) hb); have n1_ := Aside0.mk (Kd.V_elder' (by (with_reducible repeat (first | apply Kd.V_alloc | apply Kd.V_drewN | apply Kd.V_drew)); exact HO404.out) (Kd.R_base ho0) hb); have n2_ := Aside0.mk (Kd.V_elder' (by (with_reducible repeat (first | apply Kd.V_alloc | apply Kd.V_drewN | apply Kd.V_drew)); exact HO407.out) (Kd.R_base ho0) hb); have n3_ := Aside0.mk (Kd.R_lower (Kd.R_new' (Kd.R_mono (ok' := fun k_ => True) ho0 (fun _ hk_ => trivial)) (Kd.R_lt (by (with_reducible repeat (first | apply Kd.R_alloc | apply Kd.R_drewN | apply Kd.R_drew)); exact HO396.out))) (below_size (by repeat (first | (with_reducible first | exact HB.out | apply below_alloc | apply pw_below_drewN | apply below_drew1 | refine below_set ?_ GE391.out) | exact HB.out)))); have n4_ := Aside0.mk (blk_below (g := gb391) (o := .cells #[.int .i64 a0_0, .int .i64 a0_1, .int .i64 a0_2, .int .i64 a0_3, .slice A0_4 l0_4.length c0_4, .slice A0_5 l0_5.length c0_5] 26 (0, 0)) (by (with_reducible repeat (first | refine blk_drewN ?_ _ | refine blk_drew ?_ | refine blk_alloc ?_ _)); exact BK391.out) hb); have n5_ := Aside0.mk (below_step (by repeat (first | (with_reducible first | exact HB.out | apply below_alloc | apply pw_below_drewN | apply below_drew1 | refine below_set ?_ GE391.out) | exact HB.out)) hb); clear HO396; clear HO404; clear HO407; clear BK391; clear HB; have HO396 := n0_; have HO404 := n1_; have HO407 := n2_; have HO410 := n3_; have BK391 := n4_; have HB := n5_; clear n0_ n1_ n2_ n3_ n4_ n5_; (try clear hb); (try clear hb2); (try clear hk); (try clear hi); (try clear ho0)) | ((with_reducible refine gate_callee (f := 11) rfl ?_); refine goesL_ (some 36) rfl rfl Try.func11 (by kernel_rfl) rfl #[.slice A1 l1.length c1] rfl (by (try simp only [List.map_toArray, List.map_cons, List.map_nil]); first | done | rfl | (simp only [List.length_drop, List.length_take]; rfl)) ?_; (with_reducible refine (query_Parse.calls _ _ l1 t412 t413 t414 t415 t416 t419 t422 _ ?side1 ?side2 A18.out).mono ?_); (case side1 => repeat (first | exact (Kd.C_below HR1.out HB.out) | (with_reducible refine Kd.C_alloc ?_ _) | (with_reducible refine Kd.C_drewN ?_ _) | (with_reducible refine Kd.C_drew ?_))); (case side2 => exact HC1.out); rintro e w33 ⟨v417, v420, rfl, ho0, ho1, hb⟩; refine ⟨_, rfl, ?_⟩; have n0_ := Aside0.mk (Kd.R_mono (Kd.R_told (Kd.R_told (Kd.R_old (by (with_reducible repeat (first | apply Kd.R_alloc | apply Kd.R_drewN | apply Kd.R_drew)); exact HO396.out) hb) (Kd.R_base ho0)) (Kd.R_base ho1)) (fun _ h_ => h_.1)); have n1_ := Aside0.mk (Kd.V_mono (Kd.V_told (Kd.V_told (Kd.V_old (by (with_reducible repeat (first | apply Kd.V_alloc | apply Kd.V_drewN | apply Kd.V_drew)); exact HO404.out) hb) (Kd.R_base ho0)) (Kd.R_base ho1)) (fun _ h_ => h_.1)); have n2_ := Aside0.mk (Kd.V_mono (Kd.V_told (Kd.V_told (Kd.V_old (by (with_reducible repeat (first | apply Kd.V_alloc | apply Kd.V_drewN | apply Kd.V_drew)); exact HO407.out) hb) (Kd.R_base ho0)) (Kd.R_base ho1)) (fun _ h_ => h_.1)); have n3_ := Aside0.mk (Kd.R_mono (Kd.R_told (Kd.R_told (Kd.R_old (by (with_reducible repeat (first | apply Kd.R_alloc | apply Kd.R_drewN | apply Kd.R_drew)); exact HO410.out) hb) (Kd.R_base ho0)) (Kd.R_base ho1)) (fun _ h_ => h_.1)); have n4_ := Aside0.mk (Kd.R_lower (Kd.R_new' (Kd.R_new' ho0 (Kd.R_lt (by (with_reducible repeat (first | apply Kd.R_alloc | apply Kd.R_drewN | apply Kd.R_drew)); exact HO396.out))) (Kd.R_lt (by (with_reducible repeat (first | apply Kd.R_alloc | apply Kd.R_drewN | apply Kd.R_drew)); exact HO410.out))) (below_size (by repeat (first | (with_reducible first | exact HB.out | apply below_alloc | apply pw_below_drewN | apply below_drew1 | refine below_set ?_ GE391.out) | exact HB.out)))); have n5_ := Aside0.mk (Kd.R_lower (Kd.R_new' (Kd.R_new' ho1 (Kd.R_lt (by (with_reducible repeat (first | apply Kd.R_alloc | apply Kd.R_drewN | apply Kd.R_drew)); exact HO396.out))) (Kd.R_lt (by (with_reducible repeat (first | apply Kd.R_alloc | apply Kd.R_drewN | apply Kd.R_drew)); exact HO410.out))) (below_size (by repeat (first | (with_reducible first | exact HB.out | apply below_alloc | apply pw_below_drewN | apply below_drew1 | refine below_set ?_ GE391.out) | exact HB.out)))); have n6_ := Aside0.mk (blk_below (g := gb391) (o := .cells #[.int .i64 a0_0, .int .i64 a0_1, .int .i64 a0_2, .int .i64 a0_3, .slice A0_4 l0_4.length c0_4, .slice A0_5 l0_5.length c0_5] 26 (0, 0)) (by (with_reducible repeat (first | refine blk_drewN ?_ _ | refine blk_drew ?_ | refine blk_alloc ?_ _)); exact BK391.out) hb); have n7_ := Aside0.mk (below_step (by repeat (first | (with_reducible first | exact HB.out | apply below_alloc | apply pw_below_drewN | apply below_drew1 | refine below_set ?_ GE391.out) | exact HB.out)) hb); clear HO396; clear HO404; clear HO407; clear HO410; clear BK391; clear HB; have HO396 := n0_; have HO404 := n1_; have HO407 := n2_; have HO410 := n3_; have HO418 := n4_; have HO421 := n5_; have BK391 := n6_; have HB := n7_; clear n0_ n1_ n2_ n3_ n4_ n5_ n6_ n7_; (try clear hb); (try clear hb2); (try clear hk); (try clear hi); (try clear ho0); (try clear ho1)) | ((with_reducible refine gate_dst (N := 9) rfl ?_); (try (refine gate_guard (by rfl) ?_; dsimp only)); refine box_event ?hg (N := 9) ?hd (cs := #[.int .i64 0, .int .i64 0, .int .i64 0, .int .i64 0, .slice none 0 0, .slice none 0 0]) (t := 26) ?hr ?_; (case hd => rfl); (case hg => rfl); (case hr => first | (go_simp; done) | (go_simp; rfl)); intro gb423 hg w34 hbox hb; have n0_ := Aside0.mk (Kd.R_below (by (with_reducible repeat (first | apply Kd.R_alloc | apply Kd.R_drewN | apply Kd.R_drew)); exact HO396.out) hb); have n1_ := Aside0.mk (Kd.V_below (Kd.V_elderB (by (with_reducible repeat (first | apply Kd.V_alloc | apply Kd.V_drewN | apply Kd.V_drew)); exact HO404.out) gb423 (Nat.le_of_eq hg.symm)) hb); have n2_ := Aside0.mk (Kd.V_below (Kd.V_elderB (by (with_reducible repeat (first | apply Kd.V_alloc | apply Kd.V_drewN | apply Kd.V_drew)); exact HO407.out) gb423 (Nat.le_of_eq hg.symm)) hb); have n3_ := Aside0.mk (Kd.R_below (by (with_reducible repeat (first | apply Kd.R_alloc | apply Kd.R_drewN | apply Kd.R_drew)); exact HO410.out) hb); have n4_ := Aside0.mk (Kd.R_below (by (with_reducible repeat (first | apply Kd.R_alloc | apply Kd.R_drewN | apply Kd.R_drew)); exact HO418.out) hb); have n5_ := Aside0.mk (Kd.R_below (by (with_reducible repeat (first | apply Kd.R_alloc | apply Kd.R_drewN | apply Kd.R_drew)); exact HO421.out) hb); have n6_ := Aside0.mk (blk_below (g := gb391) (o := .cells #[.int .i64 a0_0, .int .i64 a0_1, .int .i64 a0_2, .int .i64 a0_3, .slice A0_4 l0_4.length c0_4, .slice A0_5 l0_5.length c0_5] 26 (0, 0)) (by (with_reducible repeat (first | refine blk_drewN ?_ _ | refine blk_drew ?_ | refine blk_alloc ?_ _)); exact BK391.out) hb); have n7_ := Aside0.mk (below_step (by repeat (first | (with_reducible first | exact HB.out | apply below_alloc | apply pw_below_drewN | apply below_drew1 | refine below_set ?_ GE391.out) | exact HB.out)) hb); have n8_ := Aside0.mk (hbox); have n9_ := Aside0.mk ((by rw [hg]; exact (below_size (by repeat (first | (with_reducible first | exact HB.out | apply below_alloc | apply pw_below_drewN | apply below_drew1 | refine below_set ?_ GE391.out) | exact HB.out))) : w.heap.size ≤ gb423)); have n10_ := Aside0.mk ((by rw [hg]; exact (below_size (by repeat (first | (with_reducible first | exact HB.out | apply below_alloc | apply pw_below_drewN | apply below_drew1 | refine below_set ?_ GE391.out) | exact HB.out))) : w.heap.size ≤ gb423)); have n11_ := Aside0.mk ((by rw [hg]; exact Nat.ne_of_lt (blk_lt (g := gb391) (o := .cells #[.int .i64 a0_0, .int .i64 a0_1, .int .i64 a0_2, .int .i64 a0_3, .slice A0_4 l0_4.length c0_4, .slice A0_5 l0_5.length c0_5] 26 (0, 0)) (by (with_reducible repeat (first | refine blk_drewN ?_ _ | refine blk_drew ?_ | refine blk_alloc ?_ _)); exact BK391.out)) : gb391 ≠ gb423)); have n12_ := Aside0.mk ((by rw [hg]; exact Nat.ne_of_gt (blk_lt (g := gb391) (o := .cells #[.int .i64 a0_0, .int .i64 a0_1, .int .i64 a0_2, .int .i64 a0_3, .slice A0_4 l0_4.length c0_4, .slice A0_5 l0_5.length c0_5] 26 (0, 0)) (by (with_reducible repeat (first | refine blk_drewN ?_ _ | refine blk_drew ?_ | refine blk_alloc ?_ _)); exact BK391.out)) : gb423 ≠ gb391)); clear HO396; clear HO404; clear HO407; clear HO410; clear HO418; clear HO421; clear BK391; clear HB; have HO396 := n0_; have HO404 := n1_; have HO407 := n2_; have HO410 := n3_; have HO418 := n4_; have HO421 := n5_; have BK391 := n6_; have HB := n7_; have BK423 := n8_; have GW423 := n9_; have GE423 := n10_; have NB391_423 := n11_; have NB423_391 := n12_; clear n0_ n1_ n2_ n3_ n4_ n5_ n6_ n7_ n8_ n9_ n10_ n11_ n12_; clear hb hbox hg; have hnb35 := NB423_391.out; have hnc35 := NB391_423.out; have hcz36_0 : w34.cell? ⟨gb423, 0, none⟩ = some (.int .i64 0) := (blk_cell BK423.out 0).trans rfl; have hcz36_1 : w34.cell? ⟨gb423, 1, none⟩ = some (.int .i64 0) := (blk_cell BK423.out 1).trans rfl; have hcz36_2 : w34.cell? ⟨gb423, 2, none⟩ = some (.int .i64 0) := (blk_cell BK423.out 2).trans rfl; have hcz36_3 : w34.cell? ⟨gb423, 3, none⟩ = some (.int .i64 0) := (blk_cell BK423.out 3).trans rfl; have hcz36_4 : w34.cell? ⟨gb423, 4, none⟩ = some (.slice none 0 0) := (blk_cell BK423.out 4).trans rfl; have hcz36_5 : w34.cell? ⟨gb423, 5, none⟩ = some (.slice none 0 0) := (blk_cell BK423.out 5).trans rfl; have hfz36_0 := blk_frozen BK423.out 0; have hfz36_1 := blk_frozen BK423.out 1; have hfz36_2 := blk_frozen BK423.out 2; have hfz36_3 := blk_frozen BK423.out 3; have hfz36_4 := blk_frozen BK423.out 4; have hfz36_5 := blk_frozen BK423.out 5; obtain ⟨Ao37, co37, eo37⟩ := Kd.R_slice HO418.out; subst eo37; obtain ⟨Ao38, co38, eo38⟩ := Kd.R_slice HO421.out; subst eo38) | ((with_reducible refine gate_store (t := 26) (p := 9) rfl ?_); refine store_event (t := 26) (p := 9) (v := ?vo_w39) (w1 := ((((((w34.setCell ⟨gb423, 0, none⟩ (.int .i64 t412)).setCell ⟨gb423, 1, none⟩ (.int .i64 t413)).setCell ⟨gb423, 2, none⟩ (.int .i64 t414)).setCell ⟨gb423, 3, none⟩ (.int .i64 t415)).setCell ⟨gb423, 4, none⟩ (.slice Ao37 t416.length co37)).setCell ⟨gb423, 5, none⟩ (.slice Ao38 t419.length co38))) ?hg ?ho ?hn ?hr ?_; (case ho => rfl); (case hg => rfl); (case hn => rfl); (case hr => first | (go_simp; done) | (go_simp; rfl)); intro w39 hw; have n0_ : Aside0 (Kd.R (Kd.int .u8) 5 w39 w.heap.size (fun k_ => some k_ ≠ (v409 : Value).ownBlock ∧ some k_ ≠ (.slice Ao37 t416.length co37 : Value).ownBlock ∧ some k_ ≠ (.slice Ao38 t419.length co38 : Value).ownBlock) v395 t394) := ⟨(by rw [hw]; exact (by (with_reducible repeat (first | apply Kd.R_alloc | apply Kd.R_drewN | apply Kd.R_drew)); exact Kd.R_mono (Kd.R_far (p := ⟨gb423, 5, none⟩) (Kd.R_far (p := ⟨gb423, 4, none⟩) (Kd.R_far (p := ⟨gb423, 3, none⟩) (Kd.R_far (p := ⟨gb423, 2, none⟩) (Kd.R_far (p := ⟨gb423, 1, none⟩) (Kd.R_far (p := ⟨gb423, 0, none⟩) (Kd.R_types HO396.out BK423.out (by decide)) (fun _ hk => hk.2) (.int .i64 t412)) (fun _ hk => hk.2) (.int .i64 t413)) (fun _ hk => hk.2) (.int .i64 t414)) (fun _ hk => hk.2) (.int .i64 t415)) (fun _ hk => hk.2) (.slice Ao37 t416.length co37)) (fun _ hk => hk.2) (.slice Ao38 t419.length co38)) (fun _ hk => ⟨hk.1.1.1.2, ⟨hk.1.1.2, hk.1.2⟩⟩)))⟩; have n1_ : Aside0 (Kd.V (Kd.int .u8) 5 w39 w.heap.size (fun k_ => some k_ ≠ (v395 : Value).ownBlock ∧ some k_ ≠ (v409 : Value).ownBlock ∧ some k_ ≠ (.slice Ao37 t416.length co37 : Value).ownBlock ∧ some k_ ≠ (.slice Ao38 t419.length co38 : Value).ownBlock ∧ k_ ≠ gb391 ∧ k_ ≠ gb423) (.slice Ao30 t402.length co30) t402) := ⟨(by rw [hw]; exact (by (with_reducible repeat (first | apply Kd.V_alloc | apply Kd.V_drewN | apply Kd.V_drew)); exact Kd.V_mono (Kd.V_far (p := ⟨gb423, 5, none⟩) (Kd.V_far (p := ⟨gb423, 4, none⟩) (Kd.V_far (p := ⟨gb423, 3, none⟩) (Kd.V_far (p := ⟨gb423, 2, none⟩) (Kd.V_far (p := ⟨gb423, 1, none⟩) (Kd.V_far (p := ⟨gb423, 0, none⟩) (Kd.V_mono HO404.out (fun k_ hk => (⟨hk, hk.2⟩ : _ ∧ k_ ≠ gb423))) (fun _ hk => hk.2) (.int .i64 t412)) (fun _ hk => hk.2) (.int .i64 t413)) (fun _ hk => hk.2) (.int .i64 t414)) (fun _ hk => hk.2) (.int .i64 t415)) (fun _ hk => hk.2) (.slice Ao37 t416.length co37)) (fun _ hk => hk.2) (.slice Ao38 t419.length co38)) (fun _ hk => ⟨hk.1.1.1.1.1.1, ⟨hk.1.1.1.1.2, ⟨hk.1.1.1.2, ⟨hk.1.1.2, ⟨hk.1.1.1.1.1.2, hk.1.2⟩⟩⟩⟩⟩)))⟩; have n2_ : Aside0 (Kd.V (Kd.int .u8) 5 w39 w.heap.size (fun k_ => some k_ ≠ (v395 : Value).ownBlock ∧ some k_ ≠ (v409 : Value).ownBlock ∧ some k_ ≠ (.slice Ao37 t416.length co37 : Value).ownBlock ∧ some k_ ≠ (.slice Ao38 t419.length co38 : Value).ownBlock ∧ k_ ≠ gb391 ∧ k_ ≠ gb423) (.slice Ao31 t405.length co31) t405) := ⟨(by rw [hw]; exact (by (with_reducible repeat (first | apply Kd.V_alloc | apply Kd.V_drewN | apply Kd.V_drew)); exact Kd.V_mono (Kd.V_far (p := ⟨gb423, 5, none⟩) (Kd.V_far (p := ⟨gb423, 4, none⟩) (Kd.V_far (p := ⟨gb423, 3, none⟩) (Kd.V_far (p := ⟨gb423, 2, none⟩) (Kd.V_far (p := ⟨gb423, 1, none⟩) (Kd.V_far (p := ⟨gb423, 0, none⟩) (Kd.V_mono HO407.out (fun k_ hk => (⟨hk, hk.2⟩ : _ ∧ k_ ≠ gb423))) (fun _ hk => hk.2) (.int .i64 t412)) (fun _ hk => hk.2) (.int .i64 t413)) (fun _ hk => hk.2) (.int .i64 t414)) (fun _ hk => hk.2) (.int .i64 t415)) (fun _ hk => hk.2) (.slice Ao37 t416.length co37)) (fun _ hk => hk.2) (.slice Ao38 t419.length co38)) (fun _ hk => ⟨hk.1.1.1.1.1.1, ⟨hk.1.1.1.1.2, ⟨hk.1.1.1.2, ⟨hk.1.1.2, ⟨hk.1.1.1.1.1.2, hk.1.2⟩⟩⟩⟩⟩)))⟩; have n3_ : Aside0 (Kd.R (Kd.int .u8) 5 w39 w.heap.size (fun k_ => some k_ ≠ (v395 : Value).ownBlock ∧ some k_ ≠ (.slice Ao37 t416.length co37 : Value).ownBlock ∧ some k_ ≠ (.slice Ao38 t419.length co38 : Value).ownBlock) v409 t408) := ⟨(by rw [hw]; exact (by (with_reducible repeat (first | apply Kd.R_alloc | apply Kd.R_drewN | apply Kd.R_drew)); exact Kd.R_mono (Kd.R_far (p := ⟨gb423, 5, none⟩) (Kd.R_far (p := ⟨gb423, 4, none⟩) (Kd.R_far (p := ⟨gb423, 3, none⟩) (Kd.R_far (p := ⟨gb423, 2, none⟩) (Kd.R_far (p := ⟨gb423, 1, none⟩) (Kd.R_far (p := ⟨gb423, 0, none⟩) (Kd.R_types HO410.out BK423.out (by decide)) (fun _ hk => hk.2) (.int .i64 t412)) (fun _ hk => hk.2) (.int .i64 t413)) (fun _ hk => hk.2) (.int .i64 t414)) (fun _ hk => hk.2) (.int .i64 t415)) (fun _ hk => hk.2) (.slice Ao37 t416.length co37)) (fun _ hk => hk.2) (.slice Ao38 t419.length co38)) (fun _ hk => ⟨hk.1.1.1.2, ⟨hk.1.1.2, hk.1.2⟩⟩)))⟩; have n4_ : Aside0 (Kd.R (Kd.int .u8) 5 w39 w.heap.size (fun k_ => some k_ ≠ (v395 : Value).ownBlock ∧ some k_ ≠ (v409 : Value).ownBlock ∧ some k_ ≠ (.slice Ao38 t419.length co38 : Value).ownBlock) (.slice Ao37 t416.length co37) t416) := ⟨(by rw [hw]; exact (by (with_reducible repeat (first | apply Kd.R_alloc | apply Kd.R_drewN | apply Kd.R_drew)); exact Kd.R_mono (Kd.R_far (p := ⟨gb423, 5, none⟩) (Kd.R_far (p := ⟨gb423, 4, none⟩) (Kd.R_far (p := ⟨gb423, 3, none⟩) (Kd.R_far (p := ⟨gb423, 2, none⟩) (Kd.R_far (p := ⟨gb423, 1, none⟩) (Kd.R_far (p := ⟨gb423, 0, none⟩) (Kd.R_types HO418.out BK423.out (by decide)) (fun _ hk => hk.2) (.int .i64 t412)) (fun _ hk => hk.2) (.int .i64 t413)) (fun _ hk => hk.2) (.int .i64 t414)) (fun _ hk => hk.2) (.int .i64 t415)) (fun _ hk => hk.2) (.slice Ao37 t416.length co37)) (fun _ hk => hk.2) (.slice Ao38 t419.length co38)) (fun _ hk => ⟨hk.1.1.2, ⟨hk.1.2, hk.1.1.1⟩⟩)))⟩; have n5_ : Aside0 (Kd.R (Kd.int .u8) 5 w39 w.heap.size (fun k_ => some k_ ≠ (v395 : Value).ownBlock ∧ some k_ ≠ (v409 : Value).ownBlock ∧ some k_ ≠ (.slice Ao37 t416.length co37 : Value).ownBlock) (.slice Ao38 t419.length co38) t419) := ⟨(by rw [hw]; exact (by (with_reducible repeat (first | apply Kd.R_alloc | apply Kd.R_drewN | apply Kd.R_drew)); exact Kd.R_mono (Kd.R_far (p := ⟨gb423, 5, none⟩) (Kd.R_far (p := ⟨gb423, 4, none⟩) (Kd.R_far (p := ⟨gb423, 3, none⟩) (Kd.R_far (p := ⟨gb423, 2, none⟩) (Kd.R_far (p := ⟨gb423, 1, none⟩) (Kd.R_far (p := ⟨gb423, 0, none⟩) (Kd.R_types HO421.out BK423.out (by decide)) (fun _ hk => hk.2) (.int .i64 t412)) (fun _ hk => hk.2) (.int .i64 t413)) (fun _ hk => hk.2) (.int .i64 t414)) (fun _ hk => hk.2) (.int .i64 t415)) (fun _ hk => hk.2) (.slice Ao37 t416.length co37)) (fun _ hk => hk.2) (.slice Ao38 t419.length co38)) (fun _ hk => ⟨hk.1.1.2, ⟨hk.1.2, hk.1.1.1⟩⟩)))⟩; have n6_ : Aside0 (w39.heap[gb391]? = some (.cells #[.int .i64 a0_0, .int .i64 a0_1, .int .i64 a0_2, .int .i64 a0_3, .slice A0_4 l0_4.length c0_4, .slice A0_5 l0_5.length c0_5] 26 (0, 0))) := ⟨(by rw [hw]; exact (by (with_reducible repeat (first | refine blk_drewN ?_ _ | refine blk_drew ?_ | refine blk_alloc ?_ _)); refine blk_far ?_ NB391_423.out _; (with_reducible repeat (first | refine blk_drewN ?_ _ | refine blk_drew ?_ | refine blk_alloc ?_ _)); refine blk_far ?_ NB391_423.out _; (with_reducible repeat (first | refine blk_drewN ?_ _ | refine blk_drew ?_ | refine blk_alloc ?_ _)); refine blk_far ?_ NB391_423.out _; (with_reducible repeat (first | refine blk_drewN ?_ _ | refine blk_drew ?_ | refine blk_alloc ?_ _)); refine blk_far ?_ NB391_423.out _; (with_reducible repeat (first | refine blk_drewN ?_ _ | refine blk_drew ?_ | refine blk_alloc ?_ _)); refine blk_far ?_ NB391_423.out _; (with_reducible repeat (first | refine blk_drewN ?_ _ | refine blk_drew ?_ | refine blk_alloc ?_ _)); refine blk_far ?_ NB391_423.out _; (with_reducible repeat (first | refine blk_drewN ?_ _ | refine blk_drew ?_ | refine blk_alloc ?_ _)); exact BK391.out))⟩; have n7_ : Aside0 (w39.heap[gb423]? = some (.cells #[.int .i64 t412, .int .i64 t413, .int .i64 t414, .int .i64 t415, .slice Ao37 t416.length co37, .slice Ao38 t419.length co38] 26 (0, 0))) := ⟨(by rw [hw]; exact (by (with_reducible repeat (first | refine blk_drewN ?_ _ | refine blk_drew ?_ | refine blk_alloc ?_ _)); refine blk_put (cs := #[.int .i64 t412, .int .i64 t413, .int .i64 t414, .int .i64 t415, .slice Ao37 t416.length co37, .slice none 0 0]) ?_ 5 _ rfl; (with_reducible repeat (first | refine blk_drewN ?_ _ | refine blk_drew ?_ | refine blk_alloc ?_ _)); refine blk_put (cs := #[.int .i64 t412, .int .i64 t413, .int .i64 t414, .int .i64 t415, .slice none 0 0, .slice none 0 0]) ?_ 4 _ rfl; (with_reducible repeat (first | refine blk_drewN ?_ _ | refine blk_drew ?_ | refine blk_alloc ?_ _)); refine blk_put (cs := #[.int .i64 t412, .int .i64 t413, .int .i64 t414, .int .i64 0, .slice none 0 0, .slice none 0 0]) ?_ 3 _ rfl; (with_reducible repeat (first | refine blk_drewN ?_ _ | refine blk_drew ?_ | refine blk_alloc ?_ _)); refine blk_put (cs := #[.int .i64 t412, .int .i64 t413, .int .i64 0, .int .i64 0, .slice none 0 0, .slice none 0 0]) ?_ 2 _ rfl; (with_reducible repeat (first | refine blk_drewN ?_ _ | refine blk_drew ?_ | refine blk_alloc ?_ _)); refine blk_put (cs := #[.int .i64 t412, .int .i64 0, .int .i64 0, .int .i64 0, .slice none 0 0, .slice none 0 0]) ?_ 1 _ rfl; (with_reducible repeat (first | refine blk_drewN ?_ _ | refine blk_drew ?_ | refine blk_alloc ?_ _)); refine blk_put (cs := #[.int .i64 0, .int .i64 0, .int .i64 0, .int .i64 0, .slice none 0 0, .slice none 0 0]) ?_ 0 _ rfl; (with_reducible repeat (first | refine blk_drewN ?_ _ | refine blk_drew ?_ | refine blk_alloc ?_ _)); exact BK423.out))⟩; have n8_ : Aside0 (Below w.heap.size w w39) := ⟨(by rw [hw]; exact (by repeat (first | (with_reducible first | exact HB.out | apply below_alloc | apply pw_below_drewN | apply below_drew1 | refine below_set ?_ GE391.out | refine below_set ?_ GE423.out) | exact HB.out)))⟩; clear hw; clear HO396; clear HO404; clear HO407; clear HO410; clear HO418; clear HO421; clear BK391; clear BK423; clear HB; have HO396 := n0_; have HO404 := n1_; have HO407 := n2_; have HO410 := n3_; have HO418 := n4_; have HO421 := n5_; have BK391 := n6_; have BK423 := n7_; have HB := n8_; clear n0_ n1_ n2_ n3_ n4_ n5_ n6_ n7_ n8_) | ((with_reducible refine gate_callee (f := 12) rfl ?_); refine goesL_ (some 41) rfl rfl Try.func12 (by kernel_rfl) rfl #[.slice A1 l1.length c1] rfl (by (try simp only [List.map_toArray, List.map_cons, List.map_nil]); first | done | rfl | (simp only [List.length_drop, List.length_take]; rfl)) ?_; (with_reducible refine (greenscreenref24_Parse.calls (fun k_ => k_ < w.heap.size) _ _ l1 t424 t425 t426 t427 t428 t431 t434 _ ?side1 A19.out).mono ?_); (case side1 => exact Kd.V_mk HC1.out (Kd.F_below (Kd.C_F (Kd.heap_int .u8) HR1.out) (by repeat (first | (with_reducible first | exact HB.out | apply below_alloc | apply pw_below_drewN | apply below_drew1 | refine below_set ?_ GE391.out | refine below_set ?_ GE423.out) | exact HB.out)))); rintro e w40 ⟨v429, v432, rfl, ho0, ho1, hb⟩; refine ⟨_, rfl, ?_⟩; have n0_ := Aside0.mk (Kd.R_below (by (with_reducible repeat (first | apply Kd.R_alloc | apply Kd.R_drewN | apply Kd.R_drew)); exact HO396.out) hb); have n1_ := Aside0.mk (Kd.V_below (by (with_reducible repeat (first | apply Kd.V_alloc | apply Kd.V_drewN | apply Kd.V_drew)); exact HO404.out) hb); have n2_ := Aside0.mk (Kd.V_below (by (with_reducible repeat (first | apply Kd.V_alloc | apply Kd.V_drewN | apply Kd.V_drew)); exact HO407.out) hb); have n3_ := Aside0.mk (Kd.R_below (by (with_reducible repeat (first | apply Kd.R_alloc | apply Kd.R_drewN | apply Kd.R_drew)); exact HO410.out) hb); have n4_ := Aside0.mk (Kd.R_below (by (with_reducible repeat (first | apply Kd.R_alloc | apply Kd.R_drewN | apply Kd.R_drew)); exact HO418.out) hb); have n5_ := Aside0.mk (Kd.R_below (by (with_reducible repeat (first | apply Kd.R_alloc | apply Kd.R_drewN | apply Kd.R_drew)); exact HO421.out) hb); have n6_ := Aside0.mk (Kd.V_lower (Kd.V_mono (ok' := fun k_ => some k_ ≠ (v395 : Value).ownBlock ∧ some k_ ≠ (v409 : Value).ownBlock ∧ some k_ ≠ (.slice Ao37 t416.length co37 : Value).ownBlock ∧ some k_ ≠ (.slice Ao38 t419.length co38 : Value).ownBlock ∧ k_ ≠ gb391 ∧ k_ ≠ gb423) ho0 (fun k_ hk_ => ⟨Or.elim hk_ (fun hs_ => fun e_ => Nat.not_le.2 hs_ (Kd.R_base HO396.out k_ e_.symm)) (fun hn_ => (Kd.fresh' (Kd.R_lt (by (with_reducible repeat (first | apply Kd.R_alloc | apply Kd.R_drewN | apply Kd.R_drew)); exact HO396.out)) k_ hn_)), Or.elim hk_ (fun hs_ => fun e_ => Nat.not_le.2 hs_ (Kd.R_base HO410.out k_ e_.symm)) (fun hn_ => (Kd.fresh' (Kd.R_lt (by (with_reducible repeat (first | apply Kd.R_alloc | apply Kd.R_drewN | apply Kd.R_drew)); exact HO410.out)) k_ hn_)), Or.elim hk_ (fun hs_ => fun e_ => Nat.not_le.2 hs_ (Kd.R_base HO418.out k_ e_.symm)) (fun hn_ => (Kd.fresh' (Kd.R_lt (by (with_reducible repeat (first | apply Kd.R_alloc | apply Kd.R_drewN | apply Kd.R_drew)); exact HO418.out)) k_ hn_)), Or.elim hk_ (fun hs_ => fun e_ => Nat.not_le.2 hs_ (Kd.R_base HO421.out k_ e_.symm)) (fun hn_ => (Kd.fresh' (Kd.R_lt (by (with_reducible repeat (first | apply Kd.R_alloc | apply Kd.R_drewN | apply Kd.R_drew)); exact HO421.out)) k_ hn_)), Or.elim hk_ (fun hs_ => fun e_ => Nat.not_le.2 hs_ (by rw [e_]; exact GW391.out)) (fun hn_ => (Kd.freshB (g := gb391) (o := .cells #[.int .i64 a0_0, .int .i64 a0_1, .int .i64 a0_2, .int .i64 a0_3, .slice A0_4 l0_4.length c0_4, .slice A0_5 l0_5.length c0_5] 26 (0, 0)) (by (with_reducible repeat (first | refine blk_drewN ?_ _ | refine blk_drew ?_ | refine blk_alloc ?_ _)); exact BK391.out) k_ hn_)), Or.elim hk_ (fun hs_ => fun e_ => Nat.not_le.2 hs_ (by rw [e_]; exact GW423.out)) (fun hn_ => (Kd.freshB (g := gb423) (o := .cells #[.int .i64 t412, .int .i64 t413, .int .i64 t414, .int .i64 t415, .slice Ao37 t416.length co37, .slice Ao38 t419.length co38] 26 (0, 0)) (by (with_reducible repeat (first | refine blk_drewN ?_ _ | refine blk_drew ?_ | refine blk_alloc ?_ _)); exact BK423.out) k_ hn_))⟩)) (below_size (by repeat (first | (with_reducible first | exact HB.out | apply below_alloc | apply pw_below_drewN | apply below_drew1 | refine below_set ?_ GE391.out | refine below_set ?_ GE423.out) | exact HB.out)))); have n7_ := Aside0.mk (Kd.V_lower (Kd.V_mono (ok' := fun k_ => some k_ ≠ (v395 : Value).ownBlock ∧ some k_ ≠ (v409 : Value).ownBlock ∧ some k_ ≠ (.slice Ao37 t416.length co37 : Value).ownBlock ∧ some k_ ≠ (.slice Ao38 t419.length co38 : Value).ownBlock ∧ k_ ≠ gb391 ∧ k_ ≠ gb423) ho1 (fun k_ hk_ => ⟨Or.elim hk_ (fun hs_ => fun e_ => Nat.not_le.2 hs_ (Kd.R_base HO396.out k_ e_.symm)) (fun hn_ => (Kd.fresh' (Kd.R_lt (by (with_reducible repeat (first | apply Kd.R_alloc | apply Kd.R_drewN | apply Kd.R_drew)); exact HO396.out)) k_ hn_)), Or.elim hk_ (fun hs_ => fun e_ => Nat.not_le.2 hs_ (Kd.R_base HO410.out k_ e_.symm)) (fun hn_ => (Kd.fresh' (Kd.R_lt (by (with_reducible repeat (first | apply Kd.R_alloc | apply Kd.R_drewN | apply Kd.R_drew)); exact HO410.out)) k_ hn_)), Or.elim hk_ (fun hs_ => fun e_ => Nat.not_le.2 hs_ (Kd.R_base HO418.out k_ e_.symm)) (fun hn_ => (Kd.fresh' (Kd.R_lt (by (with_reducible repeat (first | apply Kd.R_alloc | apply Kd.R_drewN | apply Kd.R_drew)); exact HO418.out)) k_ hn_)), Or.elim hk_ (fun hs_ => fun e_ => Nat.not_le.2 hs_ (Kd.R_base HO421.out k_ e_.symm)) (fun hn_ => (Kd.fresh' (Kd.R_lt (by (with_reducible repeat (first | apply Kd.R_alloc | apply Kd.R_drewN | apply Kd.R_drew)); exact HO421.out)) k_ hn_)), Or.elim hk_ (fun hs_ => fun e_ => Nat.not_le.2 hs_ (by rw [e_]; exact GW391.out)) (fun hn_ => (Kd.freshB (g := gb391) (o := .cells #[.int .i64 a0_0, .int .i64 a0_1, .int .i64 a0_2, .int .i64 a0_3, .slice A0_4 l0_4.length c0_4, .slice A0_5 l0_5.length c0_5] 26 (0, 0)) (by (with_reducible repeat (first | refine blk_drewN ?_ _ | refine blk_drew ?_ | refine blk_alloc ?_ _)); exact BK391.out) k_ hn_)), Or.elim hk_ (fun hs_ => fun e_ => Nat.not_le.2 hs_ (by rw [e_]; exact GW423.out)) (fun hn_ => (Kd.freshB (g := gb423) (o := .cells #[.int .i64 t412, .int .i64 t413, .int .i64 t414, .int .i64 t415, .slice Ao37 t416.length co37, .slice Ao38 t419.length co38] 26 (0, 0)) (by (with_reducible repeat (first | refine blk_drewN ?_ _ | refine blk_drew ?_ | refine blk_alloc ?_ _)); exact BK423.out) k_ hn_))⟩)) (below_size (by repeat (first | (with_reducible first | exact HB.out | apply below_alloc | apply pw_below_drewN | apply below_drew1 | refine below_set ?_ GE391.out | refine below_set ?_ GE423.out) | exact HB.out)))); have n8_ := Aside0.mk (blk_below (g := gb391) (o := .cells #[.int .i64 a0_0, .int .i64 a0_1, .int .i64 a0_2, .int .i64 a0_3, .slice A0_4 l0_4.length c0_4, .slice A0_5 l0_5.length c0_5] 26 (0, 0)) (by (with_reducible repeat (first | refine blk_drewN ?_ _ | refine blk_drew ?_ | refine blk_alloc ?_ _)); exact BK391.out) hb); have n9_ := Aside0.mk (blk_below (g := gb423) (o := .cells #[.int .i64 t412, .int .i64 t413, .int .i64 t414, .int .i64 t415, .slice Ao37 t416.length co37, .slice Ao38 t419.length co38] 26 (0, 0)) (by (with_reducible repeat (first | refine blk_drewN ?_ _ | refine blk_drew ?_ | refine blk_alloc ?_ _)); exact BK423.out) hb); have n10_ := Aside0.mk (below_step (by repeat (first | (with_reducible first | exact HB.out | apply below_alloc | apply pw_below_drewN | apply below_drew1 | refine below_set ?_ GE391.out | refine below_set ?_ GE423.out) | exact HB.out)) hb); clear HO396; clear HO404; clear HO407; clear HO410; clear HO418; clear HO421; clear BK391; clear BK423; clear HB; have HO396 := n0_; have HO404 := n1_; have HO407 := n2_; have HO410 := n3_; have HO418 := n4_; have HO421 := n5_; have HO430 := n6_; have HO433 := n7_; have BK391 := n8_; have BK423 := n9_; have HB := n10_; clear n0_ n1_ n2_ n3_ n4_ n5_ n6_ n7_ n8_ n9_ n10_; (try clear hb); (try clear hb2); (try clear hk); (try clear hi); (try clear ho0); (try clear ho1)) | ((with_reducible refine gate_dst (N := 11) rfl ?_); (try (refine gate_guard (by rfl) ?_; dsimp only)); refine box_event ?hg (N := 11) ?hd (cs := #[.int .i64 0, .int .i64 0, .int .i64 0, .int .i64 0, .slice none 0 0, .slice none 0 0]) (t := 34) ?hr ?_; (case hd => rfl); (case hg => rfl); (case hr => first | (go_simp; done) | (go_simp; rfl)); intro gb435 hg w41 hbox hb; have n0_ := Aside0.mk (Kd.R_below (by (with_reducible repeat (first | apply Kd.R_alloc | apply Kd.R_drewN | apply Kd.R_drew)); exact HO396.out) hb); have n1_ := Aside0.mk (Kd.V_below (Kd.V_elderB (by (with_reducible repeat (first | apply Kd.V_alloc | apply Kd.V_drewN | apply Kd.V_drew)); exact HO404.out) gb435 (Nat.le_of_eq hg.symm)) hb); have n2_ := Aside0.mk (Kd.V_below (Kd.V_elderB (by (with_reducible repeat (first | apply Kd.V_alloc | apply Kd.V_drewN | apply Kd.V_drew)); exact HO407.out) gb435 (Nat.le_of_eq hg.symm)) hb); have n3_ := Aside0.mk (Kd.R_below (by (with_reducible repeat (first | apply Kd.R_alloc | apply Kd.R_drewN | apply Kd.R_drew)); exact HO410.out) hb); have n4_ := Aside0.mk (Kd.R_below (by (with_reducible repeat (first | apply Kd.R_alloc | apply Kd.R_drewN | apply Kd.R_drew)); exact HO418.out) hb); have n5_ := Aside0.mk (Kd.R_below (by (with_reducible repeat (first | apply Kd.R_alloc | apply Kd.R_drewN | apply Kd.R_drew)); exact HO421.out) hb); have n6_ := Aside0.mk (Kd.V_below (Kd.V_elderB (by (with_reducible repeat (first | apply Kd.V_alloc | apply Kd.V_drewN | apply Kd.V_drew)); exact HO430.out) gb435 (Nat.le_of_eq hg.symm)) hb); have n7_ := Aside0.mk (Kd.V_below (Kd.V_elderB (by (with_reducible repeat (first | apply Kd.V_alloc | apply Kd.V_drewN | apply Kd.V_drew)); exact HO433.out) gb435 (Nat.le_of_eq hg.symm)) hb); have n8_ := Aside0.mk (blk_below (g := gb391) (o := .cells #[.int .i64 a0_0, .int .i64 a0_1, .int .i64 a0_2, .int .i64 a0_3, .slice A0_4 l0_4.length c0_4, .slice A0_5 l0_5.length c0_5] 26 (0, 0)) (by (with_reducible repeat (first | refine blk_drewN ?_ _ | refine blk_drew ?_ | refine blk_alloc ?_ _)); exact BK391.out) hb); have n9_ := Aside0.mk (blk_below (g := gb423) (o := .cells #[.int .i64 t412, .int .i64 t413, .int .i64 t414, .int .i64 t415, .slice Ao37 t416.length co37, .slice Ao38 t419.length co38] 26 (0, 0)) (by (with_reducible repeat (first | refine blk_drewN ?_ _ | refine blk_drew ?_ | refine blk_alloc ?_ _)); exact BK423.out) hb); have n10_ := Aside0.mk (below_step (by repeat (first | (with_reducible first | exact HB.out | apply below_alloc | apply pw_below_drewN | apply below_drew1 | refine below_set ?_ GE391.out | refine below_set ?_ GE423.out) | exact HB.out)) hb); have n11_ := Aside0.mk (hbox); have n12_ := Aside0.mk ((by rw [hg]; exact (below_size (by repeat (first | (with_reducible first | exact HB.out | apply below_alloc | apply pw_below_drewN | apply below_drew1 | refine below_set ?_ GE391.out | refine below_set ?_ GE423.out) | exact HB.out))) : w.heap.size ≤ gb435)); have n13_ := Aside0.mk ((by rw [hg]; exact (below_size (by repeat (first | (with_reducible first | exact HB.out | apply below_alloc | apply pw_below_drewN | apply below_drew1 | refine below_set ?_ GE391.out | refine below_set ?_ GE423.out) | exact HB.out))) : w.heap.size ≤ gb435)); have n14_ := Aside0.mk ((by rw [hg]; exact Nat.ne_of_lt (blk_lt (g := gb391) (o := .cells #[.int .i64 a0_0, .int .i64 a0_1, .int .i64 a0_2, .int .i64 a0_3, .slice A0_4 l0_4.length c0_4, .slice A0_5 l0_5.length c0_5] 26 (0, 0)) (by (with_reducible repeat (first | refine blk_drewN ?_ _ | refine blk_drew ?_ | refine blk_alloc ?_ _)); exact BK391.out)) : gb391 ≠ gb435)); have n15_ := Aside0.mk ((by rw [hg]; exact Nat.ne_of_gt (blk_lt (g := gb391) (o := .cells #[.int .i64 a0_0, .int .i64 a0_1, .int .i64 a0_2, .int .i64 a0_3, .slice A0_4 l0_4.length c0_4, .slice A0_5 l0_5.length c0_5] 26 (0, 0)) (by (with_reducible repeat (first | refine blk_drewN ?_ _ | refine blk_drew ?_ | refine blk_alloc ?_ _)); exact BK391.out)) : gb435 ≠ gb391)); have n16_ := Aside0.mk ((by rw [hg]; exact Nat.ne_of_lt (blk_lt (g := gb423) (o := .cells #[.int .i64 t412, .int .i64 t413, .int .i64 t414, .int .i64 t415, .slice Ao37 t416.length co37, .slice Ao38 t419.length co38] 26 (0, 0)) (by (with_reducible repeat (first | refine blk_drewN ?_ _ | refine blk_drew ?_ | refine blk_alloc ?_ _)); exact BK423.out)) : gb423 ≠ gb435)); have n17_ := Aside0.mk ((by rw [hg]; exact Nat.ne_of_gt (blk_lt (g := gb423) (o := .cells #[.int .i64 t412, .int .i64 t413, .int .i64 t414, .int .i64 t415, .slice Ao37 t416.length co37, .slice Ao38 t419.length co38] 26 (0, 0)) (by (with_reducible repeat (first | refine blk_drewN ?_ _ | refine blk_drew ?_ | refine blk_alloc ?_ _)); exact BK423.out)) : gb435 ≠ gb423)); clear HO396; clear HO404; clear HO407; clear HO410; clear HO418; clear HO421; clear HO430; clear HO433; clear BK391; clear BK423; clear HB; have HO396 := n0_; have HO404 := n1_; have HO407 := n2_; have HO410 := n3_; have HO418 := n4_; have HO421 := n5_; have HO430 := n6_; have HO433 := n7_; have BK391 := n8_; have BK423 := n9_; have HB := n10_; have BK435 := n11_; have GW435 := n12_; have GE435 := n13_; have NB391_435 := n14_; have NB435_391 := n15_; have NB423_435 := n16_; have NB435_423 := n17_; clear n0_ n1_ n2_ n3_ n4_ n5_ n6_ n7_ n8_ n9_ n10_ n11_ n12_ n13_ n14_ n15_ n16_ n17_; clear hb hbox hg; have hnb42 := NB435_391.out; have hnc42 := NB391_435.out; have hnb43 := NB435_423.out; have hnc43 := NB423_435.out; have hcz44_0 : w41.cell? ⟨gb435, 0, none⟩ = some (.int .i64 0) := (blk_cell BK435.out 0).trans rfl; have hcz44_1 : w41.cell? ⟨gb435, 1, none⟩ = some (.int .i64 0) := (blk_cell BK435.out 1).trans rfl; have hcz44_2 : w41.cell? ⟨gb435, 2, none⟩ = some (.int .i64 0) := (blk_cell BK435.out 2).trans rfl; have hcz44_3 : w41.cell? ⟨gb435, 3, none⟩ = some (.int .i64 0) := (blk_cell BK435.out 3).trans rfl; have hcz44_4 : w41.cell? ⟨gb435, 4, none⟩ = some (.slice none 0 0) := (blk_cell BK435.out 4).trans rfl; have hcz44_5 : w41.cell? ⟨gb435, 5, none⟩ = some (.slice none 0 0) := (blk_cell BK435.out 5).trans rfl; have hfz44_0 := blk_frozen BK435.out 0; have hfz44_1 := blk_frozen BK435.out 1; have hfz44_2 := blk_frozen BK435.out 2; have hfz44_3 := blk_frozen BK435.out 3; have hfz44_4 := blk_frozen BK435.out 4; have hfz44_5 := blk_frozen BK435.out 5; obtain ⟨Ao45, co45, eo45⟩ := Kd.V_slice HO430.out; subst eo45; obtain ⟨Ao46, co46, eo46⟩ := Kd.V_slice HO433.out; subst eo46))
                have n0_ : Aside0 (Kd.R (Kd.int .u8) 5 ((((((w41.setCell ⟨gb435, 0, none⟩ (.int .i64 t424)).setCell ⟨gb435, 1, none⟩ (.int .i64 t425)).setCell ⟨gb435, 2, none⟩ (.int .i64 t426)).setCell ⟨gb435, 3, none⟩ (.int .i64 t427)).setCell ⟨gb435, 4, none⟩ (.slice Ao45 t428.length co45)).setCell ⟨gb435, 5, none⟩ (.slice Ao46 t431.length co46)) w.heap.size (fun k_ => some k_ ≠ (v409 : Value).ownBlock ∧ some k_ ≠ (.slice Ao37 t416.length co37 : Value).ownBlock ∧ some k_ ≠ (.slice Ao38 t419.length co38 : Value).ownBlock) v395 t394) := ⟨by (with_reducible repeat (first | apply Kd.R_alloc | apply Kd.R_drewN | apply Kd.R_drew)); exact Kd.R_mono (Kd.R_far (p := ⟨gb435, 5, none⟩) (Kd.R_far (p := ⟨gb435, 4, none⟩) (Kd.R_far (p := ⟨gb435, 3, none⟩) (Kd.R_far (p := ⟨gb435, 2, none⟩) (Kd.R_far (p := ⟨gb435, 1, none⟩) (Kd.R_far (p := ⟨gb435, 0, none⟩) (Kd.R_types HO396.out BK435.out (by decide)) (fun _ hk => hk.2) (.int .i64 t424)) (fun _ hk => hk.2) (.int .i64 t425)) (fun _ hk => hk.2) (.int .i64 t426)) (fun _ hk => hk.2) (.int .i64 t427)) (fun _ hk => hk.2) (.slice Ao45 t428.length co45)) (fun _ hk => hk.2) (.slice Ao46 t431.length co46)) (fun _ hk => ⟨hk.1.1, ⟨hk.1.2.1, hk.1.2.2⟩⟩)⟩
                have n1_ : Aside0 (Kd.V (Kd.int .u8) 5 ((((((w41.setCell ⟨gb435, 0, none⟩ (.int .i64 t424)).setCell ⟨gb435, 1, none⟩ (.int .i64 t425)).setCell ⟨gb435, 2, none⟩ (.int .i64 t426)).setCell ⟨gb435, 3, none⟩ (.int .i64 t427)).setCell ⟨gb435, 4, none⟩ (.slice Ao45 t428.length co45)).setCell ⟨gb435, 5, none⟩ (.slice Ao46 t431.length co46)) w.heap.size (fun k_ => some k_ ≠ (v395 : Value).ownBlock ∧ some k_ ≠ (v409 : Value).ownBlock ∧ some k_ ≠ (.slice Ao37 t416.length co37 : Value).ownBlock ∧ some k_ ≠ (.slice Ao38 t419.length co38 : Value).ownBlock ∧ k_ ≠ gb391 ∧ k_ ≠ gb423 ∧ k_ ≠ gb435) (.slice Ao30 t402.length co30) t402) := ⟨by (with_reducible repeat (first | apply Kd.V_alloc | apply Kd.V_drewN | apply Kd.V_drew)); exact Kd.V_mono (Kd.V_far (p := ⟨gb435, 5, none⟩) (Kd.V_far (p := ⟨gb435, 4, none⟩) (Kd.V_far (p := ⟨gb435, 3, none⟩) (Kd.V_far (p := ⟨gb435, 2, none⟩) (Kd.V_far (p := ⟨gb435, 1, none⟩) (Kd.V_far (p := ⟨gb435, 0, none⟩) (Kd.V_mono HO404.out (fun k_ hk => (⟨hk, hk.2⟩ : _ ∧ k_ ≠ gb435))) (fun _ hk => hk.2) (.int .i64 t424)) (fun _ hk => hk.2) (.int .i64 t425)) (fun _ hk => hk.2) (.int .i64 t426)) (fun _ hk => hk.2) (.int .i64 t427)) (fun _ hk => hk.2) (.slice Ao45 t428.length co45)) (fun _ hk => hk.2) (.slice Ao46 t431.length co46)) (fun _ hk => ⟨hk.1.1.1, ⟨hk.1.1.2.1, ⟨hk.1.1.2.2.1, ⟨hk.1.1.2.2.2.1, ⟨hk.1.1.2.2.2.2.1, ⟨hk.1.1.2.2.2.2.2, hk.1.2⟩⟩⟩⟩⟩⟩)⟩
                have n2_ : Aside0 (Kd.V (Kd.int .u8) 5 ((((((w41.setCell ⟨gb435, 0, none⟩ (.int .i64 t424)).setCell ⟨gb435, 1, none⟩ (.int .i64 t425)).setCell ⟨gb435, 2, none⟩ (.int .i64 t426)).setCell ⟨gb435, 3, none⟩ (.int .i64 t427)).setCell ⟨gb435, 4, none⟩ (.slice Ao45 t428.length co45)).setCell ⟨gb435, 5, none⟩ (.slice Ao46 t431.length co46)) w.heap.size (fun k_ => some k_ ≠ (v395 : Value).ownBlock ∧ some k_ ≠ (v409 : Value).ownBlock ∧ some k_ ≠ (.slice Ao37 t416.length co37 : Value).ownBlock ∧ some k_ ≠ (.slice Ao38 t419.length co38 : Value).ownBlock ∧ k_ ≠ gb391 ∧ k_ ≠ gb423 ∧ k_ ≠ gb435) (.slice Ao31 t405.length co31) t405) := ⟨by (with_reducible repeat (first | apply Kd.V_alloc | apply Kd.V_drewN | apply Kd.V_drew)); exact Kd.V_mono (Kd.V_far (p := ⟨gb435, 5, none⟩) (Kd.V_far (p := ⟨gb435, 4, none⟩) (Kd.V_far (p := ⟨gb435, 3, none⟩) (Kd.V_far (p := ⟨gb435, 2, none⟩) (Kd.V_far (p := ⟨gb435, 1, none⟩) (Kd.V_far (p := ⟨gb435, 0, none⟩) (Kd.V_mono HO407.out (fun k_ hk => (⟨hk, hk.2⟩ : _ ∧ k_ ≠ gb435))) (fun _ hk => hk.2) (.int .i64 t424)) (fun _ hk => hk.2) (.int .i64 t425)) (fun _ hk => hk.2) (.int .i64 t426)) (fun _ hk => hk.2) (.int .i64 t427)) (fun _ hk => hk.2) (.slice Ao45 t428.length co45)) (fun _ hk => hk.2) (.slice Ao46 t431.length co46)) (fun _ hk => ⟨hk.1.1.1, ⟨hk.1.1.2.1, ⟨hk.1.1.2.2.1, ⟨hk.1.1.2.2.2.1, ⟨hk.1.1.2.2.2.2.1, ⟨hk.1.1.2.2.2.2.2, hk.1.2⟩⟩⟩⟩⟩⟩)⟩
                have n3_ : Aside0 (Kd.R (Kd.int .u8) 5 ((((((w41.setCell ⟨gb435, 0, none⟩ (.int .i64 t424)).setCell ⟨gb435, 1, none⟩ (.int .i64 t425)).setCell ⟨gb435, 2, none⟩ (.int .i64 t426)).setCell ⟨gb435, 3, none⟩ (.int .i64 t427)).setCell ⟨gb435, 4, none⟩ (.slice Ao45 t428.length co45)).setCell ⟨gb435, 5, none⟩ (.slice Ao46 t431.length co46)) w.heap.size (fun k_ => some k_ ≠ (v395 : Value).ownBlock ∧ some k_ ≠ (.slice Ao37 t416.length co37 : Value).ownBlock ∧ some k_ ≠ (.slice Ao38 t419.length co38 : Value).ownBlock) v409 t408) := ⟨by (with_reducible repeat (first | apply Kd.R_alloc | apply Kd.R_drewN | apply Kd.R_drew)); exact Kd.R_mono (Kd.R_far (p := ⟨gb435, 5, none⟩) (Kd.R_far (p := ⟨gb435, 4, none⟩) (Kd.R_far (p := ⟨gb435, 3, none⟩) (Kd.R_far (p := ⟨gb435, 2, none⟩) (Kd.R_far (p := ⟨gb435, 1, none⟩) (Kd.R_far (p := ⟨gb435, 0, none⟩) (Kd.R_types HO410.out BK435.out (by decide)) (fun _ hk => hk.2) (.int .i64 t424)) (fun _ hk => hk.2) (.int .i64 t425)) (fun _ hk => hk.2) (.int .i64 t426)) (fun _ hk => hk.2) (.int .i64 t427)) (fun _ hk => hk.2) (.slice Ao45 t428.length co45)) (fun _ hk => hk.2) (.slice Ao46 t431.length co46)) (fun _ hk => ⟨hk.1.1, ⟨hk.1.2.1, hk.1.2.2⟩⟩)⟩
                have n4_ : Aside0 (Kd.R (Kd.int .u8) 5 ((((((w41.setCell ⟨gb435, 0, none⟩ (.int .i64 t424)).setCell ⟨gb435, 1, none⟩ (.int .i64 t425)).setCell ⟨gb435, 2, none⟩ (.int .i64 t426)).setCell ⟨gb435, 3, none⟩ (.int .i64 t427)).setCell ⟨gb435, 4, none⟩ (.slice Ao45 t428.length co45)).setCell ⟨gb435, 5, none⟩ (.slice Ao46 t431.length co46)) w.heap.size (fun k_ => some k_ ≠ (v395 : Value).ownBlock ∧ some k_ ≠ (v409 : Value).ownBlock ∧ some k_ ≠ (.slice Ao38 t419.length co38 : Value).ownBlock) (.slice Ao37 t416.length co37) t416) := ⟨by (with_reducible repeat (first | apply Kd.R_alloc | apply Kd.R_drewN | apply Kd.R_drew)); exact Kd.R_mono (Kd.R_far (p := ⟨gb435, 5, none⟩) (Kd.R_far (p := ⟨gb435, 4, none⟩) (Kd.R_far (p := ⟨gb435, 3, none⟩) (Kd.R_far (p := ⟨gb435, 2, none⟩) (Kd.R_far (p := ⟨gb435, 1, none⟩) (Kd.R_far (p := ⟨gb435, 0, none⟩) (Kd.R_types HO418.out BK435.out (by decide)) (fun _ hk => hk.2) (.int .i64 t424)) (fun _ hk => hk.2) (.int .i64 t425)) (fun _ hk => hk.2) (.int .i64 t426)) (fun _ hk => hk.2) (.int .i64 t427)) (fun _ hk => hk.2) (.slice Ao45 t428.length co45)) (fun _ hk => hk.2) (.slice Ao46 t431.length co46)) (fun _ hk => ⟨hk.1.1, ⟨hk.1.2.1, hk.1.2.2⟩⟩)⟩
                have n5_ : Aside0 (Kd.R (Kd.int .u8) 5 ((((((w41.setCell ⟨gb435, 0, none⟩ (.int .i64 t424)).setCell ⟨gb435, 1, none⟩ (.int .i64 t425)).setCell ⟨gb435, 2, none⟩ (.int .i64 t426)).setCell ⟨gb435, 3, none⟩ (.int .i64 t427)).setCell ⟨gb435, 4, none⟩ (.slice Ao45 t428.length co45)).setCell ⟨gb435, 5, none⟩ (.slice Ao46 t431.length co46)) w.heap.size (fun k_ => some k_ ≠ (v395 : Value).ownBlock ∧ some k_ ≠ (v409 : Value).ownBlock ∧ some k_ ≠ (.slice Ao37 t416.length co37 : Value).ownBlock) (.slice Ao38 t419.length co38) t419) := ⟨by (with_reducible repeat (first | apply Kd.R_alloc | apply Kd.R_drewN | apply Kd.R_drew)); exact Kd.R_mono (Kd.R_far (p := ⟨gb435, 5, none⟩) (Kd.R_far (p := ⟨gb435, 4, none⟩) (Kd.R_far (p := ⟨gb435, 3, none⟩) (Kd.R_far (p := ⟨gb435, 2, none⟩) (Kd.R_far (p := ⟨gb435, 1, none⟩) (Kd.R_far (p := ⟨gb435, 0, none⟩) (Kd.R_types HO421.out BK435.out (by decide)) (fun _ hk => hk.2) (.int .i64 t424)) (fun _ hk => hk.2) (.int .i64 t425)) (fun _ hk => hk.2) (.int .i64 t426)) (fun _ hk => hk.2) (.int .i64 t427)) (fun _ hk => hk.2) (.slice Ao45 t428.length co45)) (fun _ hk => hk.2) (.slice Ao46 t431.length co46)) (fun _ hk => ⟨hk.1.1, ⟨hk.1.2.1, hk.1.2.2⟩⟩)⟩
                have n6_ : Aside0 (Kd.V (Kd.int .u8) 5 ((((((w41.setCell ⟨gb435, 0, none⟩ (.int .i64 t424)).setCell ⟨gb435, 1, none⟩ (.int .i64 t425)).setCell ⟨gb435, 2, none⟩ (.int .i64 t426)).setCell ⟨gb435, 3, none⟩ (.int .i64 t427)).setCell ⟨gb435, 4, none⟩ (.slice Ao45 t428.length co45)).setCell ⟨gb435, 5, none⟩ (.slice Ao46 t431.length co46)) w.heap.size (fun k_ => some k_ ≠ (v395 : Value).ownBlock ∧ some k_ ≠ (v409 : Value).ownBlock ∧ some k_ ≠ (.slice Ao37 t416.length co37 : Value).ownBlock ∧ some k_ ≠ (.slice Ao38 t419.length co38 : Value).ownBlock ∧ k_ ≠ gb391 ∧ k_ ≠ gb423 ∧ k_ ≠ gb435) (.slice Ao45 t428.length co45) t428) := ⟨by (with_reducible repeat (first | apply Kd.V_alloc | apply Kd.V_drewN | apply Kd.V_drew)); exact Kd.V_mono (Kd.V_far (p := ⟨gb435, 5, none⟩) (Kd.V_far (p := ⟨gb435, 4, none⟩) (Kd.V_far (p := ⟨gb435, 3, none⟩) (Kd.V_far (p := ⟨gb435, 2, none⟩) (Kd.V_far (p := ⟨gb435, 1, none⟩) (Kd.V_far (p := ⟨gb435, 0, none⟩) (Kd.V_mono HO430.out (fun k_ hk => (⟨hk, hk.2⟩ : _ ∧ k_ ≠ gb435))) (fun _ hk => hk.2) (.int .i64 t424)) (fun _ hk => hk.2) (.int .i64 t425)) (fun _ hk => hk.2) (.int .i64 t426)) (fun _ hk => hk.2) (.int .i64 t427)) (fun _ hk => hk.2) (.slice Ao45 t428.length co45)) (fun _ hk => hk.2) (.slice Ao46 t431.length co46)) (fun _ hk => ⟨hk.1.1.1, ⟨hk.1.1.2.1, ⟨hk.1.1.2.2.1, ⟨hk.1.1.2.2.2.1, ⟨hk.1.1.2.2.2.2.1, ⟨hk.1.1.2.2.2.2.2, hk.1.2⟩⟩⟩⟩⟩⟩)⟩
                have n7_ : Aside0 (Kd.V (Kd.int .u8) 5 ((((((w41.setCell ⟨gb435, 0, none⟩ (.int .i64 t424)).setCell ⟨gb435, 1, none⟩ (.int .i64 t425)).setCell ⟨gb435, 2, none⟩ (.int .i64 t426)).setCell ⟨gb435, 3, none⟩ (.int .i64 t427)).setCell ⟨gb435, 4, none⟩ (.slice Ao45 t428.length co45)).setCell ⟨gb435, 5, none⟩ (.slice Ao46 t431.length co46)) w.heap.size (fun k_ => some k_ ≠ (v395 : Value).ownBlock ∧ some k_ ≠ (v409 : Value).ownBlock ∧ some k_ ≠ (.slice Ao37 t416.length co37 : Value).ownBlock ∧ some k_ ≠ (.slice Ao38 t419.length co38 : Value).ownBlock ∧ k_ ≠ gb391 ∧ k_ ≠ gb423 ∧ k_ ≠ gb435) (.slice Ao46 t431.length co46) t431) := ⟨by (with_reducible repeat (first | apply Kd.V_alloc | apply Kd.V_drewN | apply Kd.V_drew)); exact Kd.V_mono (Kd.V_far (p := ⟨gb435, 5, none⟩) (Kd.V_far (p := ⟨gb435, 4, none⟩) (Kd.V_far (p := ⟨gb435, 3, none⟩) (Kd.V_far (p := ⟨gb435, 2, none⟩) (Kd.V_far (p := ⟨gb435, 1, none⟩) (Kd.V_far (p := ⟨gb435, 0, none⟩) (Kd.V_mono HO433.out (fun k_ hk => (⟨hk, hk.2⟩ : _ ∧ k_ ≠ gb435))) (fun _ hk => hk.2) (.int .i64 t424)) (fun _ hk => hk.2) (.int .i64 t425)) (fun _ hk => hk.2) (.int .i64 t426)) (fun _ hk => hk.2) (.int .i64 t427)) (fun _ hk => hk.2) (.slice Ao45 t428.length co45)) (fun _ hk => hk.2) (.slice Ao46 t431.length co46)) (fun _ hk => ⟨hk.1.1.1, ⟨hk.1.1.2.1, ⟨hk.1.1.2.2.1, ⟨hk.1.1.2.2.2.1, ⟨hk.1.1.2.2.2.2.1, ⟨hk.1.1.2.2.2.2.2, hk.1.2⟩⟩⟩⟩⟩⟩)⟩
                have n8_ : Aside0 (((((((w41.setCell ⟨gb435, 0, none⟩ (.int .i64 t424)).setCell ⟨gb435, 1, none⟩ (.int .i64 t425)).setCell ⟨gb435, 2, none⟩ (.int .i64 t426)).setCell ⟨gb435, 3, none⟩ (.int .i64 t427)).setCell ⟨gb435, 4, none⟩ (.slice Ao45 t428.length co45)).setCell ⟨gb435, 5, none⟩ (.slice Ao46 t431.length co46)).heap[gb391]? = some (.cells #[.int .i64 a0_0, .int .i64 a0_1, .int .i64 a0_2, .int .i64 a0_3, .slice A0_4 l0_4.length c0_4, .slice A0_5 l0_5.length c0_5] 26 (0, 0))) := ⟨by (with_reducible repeat (first | refine blk_drewN ?_ _ | refine blk_drew ?_ | refine blk_alloc ?_ _)); refine blk_far ?_ NB391_435.out _; (with_reducible repeat (first | refine blk_drewN ?_ _ | refine blk_drew ?_ | refine blk_alloc ?_ _)); refine blk_far ?_ NB391_435.out _; (with_reducible repeat (first | refine blk_drewN ?_ _ | refine blk_drew ?_ | refine blk_alloc ?_ _)); refine blk_far ?_ NB391_435.out _; (with_reducible repeat (first | refine blk_drewN ?_ _ | refine blk_drew ?_ | refine blk_alloc ?_ _)); refine blk_far ?_ NB391_435.out _; (with_reducible repeat (first | refine blk_drewN ?_ _ | refine blk_drew ?_ | refine blk_alloc ?_ _)); refine blk_far ?_ NB391_435.out _; (with_reducible repeat (first | refine blk_drewN ?_ _ | refine blk_drew ?_ | refine blk_alloc ?_ _)); refine blk_far ?_ NB391_435.out _; (with_reducible repeat (first | refine blk_drewN ?_ _ | refine blk_drew ?_ | refine blk_alloc ?_ _)); exact BK391.out⟩
                have n9_ : Aside0 (((((((w41.setCell ⟨gb435, 0, none⟩ (.int .i64 t424)).setCell ⟨gb435, 1, none⟩ (.int .i64 t425)).setCell ⟨gb435, 2, none⟩ (.int .i64 t426)).setCell ⟨gb435, 3, none⟩ (.int .i64 t427)).setCell ⟨gb435, 4, none⟩ (.slice Ao45 t428.length co45)).setCell ⟨gb435, 5, none⟩ (.slice Ao46 t431.length co46)).heap[gb423]? = some (.cells #[.int .i64 t412, .int .i64 t413, .int .i64 t414, .int .i64 t415, .slice Ao37 t416.length co37, .slice Ao38 t419.length co38] 26 (0, 0))) := ⟨by (with_reducible repeat (first | refine blk_drewN ?_ _ | refine blk_drew ?_ | refine blk_alloc ?_ _)); refine blk_far ?_ NB423_435.out _; (with_reducible repeat (first | refine blk_drewN ?_ _ | refine blk_drew ?_ | refine blk_alloc ?_ _)); refine blk_far ?_ NB423_435.out _; (with_reducible repeat (first | refine blk_drewN ?_ _ | refine blk_drew ?_ | refine blk_alloc ?_ _)); refine blk_far ?_ NB423_435.out _; (with_reducible repeat (first | refine blk_drewN ?_ _ | refine blk_drew ?_ | refine blk_alloc ?_ _)); refine blk_far ?_ NB423_435.out _; (with_reducible repeat (first | refine blk_drewN ?_ _ | refine blk_drew ?_ | refine blk_alloc ?_ _)); refine blk_far ?_ NB423_435.out _; (with_reducible repeat (first | refine blk_drewN ?_ _ | refine blk_drew ?_ | refine blk_alloc ?_ _)); refine blk_far ?_ NB423_435.out _; (with_reducible repeat (first | refine blk_drewN ?_ _ | refine blk_drew ?_ | refine blk_alloc ?_ _)); exact BK423.out⟩
                have n10_ : Aside0 (((((((w41.setCell ⟨gb435, 0, none⟩ (.int .i64 t424)).setCell ⟨gb435, 1, none⟩ (.int .i64 t425)).setCell ⟨gb435, 2, none⟩ (.int .i64 t426)).setCell ⟨gb435, 3, none⟩ (.int .i64 t427)).setCell ⟨gb435, 4, none⟩ (.slice Ao45 t428.length co45)).setCell ⟨gb435, 5, none⟩ (.slice Ao46 t431.length co46)).heap[gb435]? = some (.cells #[.int .i64 t424, .int .i64 t425, .int .i64 t426, .int .i64 t427, .slice Ao45 t428.length co45, .slice Ao46 t431.length co46] 34 (0, 0))) := ⟨by (with_reducible repeat (first | refine blk_drewN ?_ _ | refine blk_drew ?_ | refine blk_alloc ?_ _)); refine blk_put (cs := #[.int .i64 t424, .int .i64 t425, .int .i64 t426, .int .i64 t427, .slice Ao45 t428.length co45, .slice none 0 0]) ?_ 5 _ rfl; (with_reducible repeat (first | refine blk_drewN ?_ _ | refine blk_drew ?_ | refine blk_alloc ?_ _)); refine blk_put (cs := #[.int .i64 t424, .int .i64 t425, .int .i64 t426, .int .i64 t427, .slice none 0 0, .slice none 0 0]) ?_ 4 _ rfl; (with_reducible repeat (first | refine blk_drewN ?_ _ | refine blk_drew ?_ | refine blk_alloc ?_ _)); refine blk_put (cs := #[.int .i64 t424, .int .i64 t425, .int .i64 t426, .int .i64 0, .slice none 0 0, .slice none 0 0]) ?_ 3 _ rfl; (with_reducible repeat (first | refine blk_drewN ?_ _ | refine blk_drew ?_ | refine blk_alloc ?_ _)); refine blk_put (cs := #[.int .i64 t424, .int .i64 t425, .int .i64 0, .int .i64 0, .slice none 0 0, .slice none 0 0]) ?_ 2 _ rfl; (with_reducible repeat (first | refine blk_drewN ?_ _ | refine blk_drew ?_ | refine blk_alloc ?_ _)); refine blk_put (cs := #[.int .i64 t424, .int .i64 0, .int .i64 0, .int .i64 0, .slice none 0 0, .slice none 0 0]) ?_ 1 _ rfl; (with_reducible repeat (first | refine blk_drewN ?_ _ | refine blk_drew ?_ | refine blk_alloc ?_ _)); refine blk_put (cs := #[.int .i64 0, .int .i64 0, .int .i64 0, .int .i64 0, .slice none 0 0, .slice none 0 0]) ?_ 0 _ rfl; (with_reducible repeat (first | refine blk_drewN ?_ _ | refine blk_drew ?_ | refine blk_alloc ?_ _)); exact BK435.out⟩
                have n11_ : Aside0 (Below w.heap.size w ((((((w41.setCell ⟨gb435, 0, none⟩ (.int .i64 t424)).setCell ⟨gb435, 1, none⟩ (.int .i64 t425)).setCell ⟨gb435, 2, none⟩ (.int .i64 t426)).setCell ⟨gb435, 3, none⟩ (.int .i64 t427)).setCell ⟨gb435, 4, none⟩ (.slice Ao45 t428.length co45)).setCell ⟨gb435, 5, none⟩ (.slice Ao46 t431.length co46))) := ⟨by repeat (first | (with_reducible first | exact HB.out | apply below_alloc | apply pw_below_drewN | apply below_drew1 | refine below_set ?_ GE391.out | refine below_set ?_ GE423.out | refine below_set ?_ GE435.out) | exact HB.out)⟩
                (try clear HO396)
                (try clear HO404)
                (try clear HO407)
                (try clear HO410)
                (try clear HO418)
                (try clear HO421)
                (try clear HO430)
                (try clear HO433)
                (try clear BK391)
                (try clear BK423)
                (try clear BK435)
                (try clear HB)
                generalize ((((((w41.setCell ⟨gb435, 0, none⟩ (.int .i64 t424)).setCell ⟨gb435, 1, none⟩ (.int .i64 t425)).setCell ⟨gb435, 2, none⟩ (.int .i64 t426)).setCell ⟨gb435, 3, none⟩ (.int .i64 t427)).setCell ⟨gb435, 4, none⟩ (.slice Ao45 t428.length co45)).setCell ⟨gb435, 5, none⟩ (.slice Ao46 t431.length co46)) = w47 at n0_ n1_ n2_ n3_ n4_ n5_ n6_ n7_ n8_ n9_ n10_ n11_ ⊢
                have HO396 := n0_
                have HO404 := n1_
                have HO407 := n2_
                have HO410 := n3_
                have HO418 := n4_
                have HO421 := n5_
                have HO430 := n6_
                have HO433 := n7_
                have BK391 := n8_
                have BK423 := n9_
                have BK435 := n10_
                have HB := n11_
                clear n0_ n1_ n2_ n3_ n4_ n5_ n6_ n7_ n8_ n9_ n10_ n11_
                have n0_ := Aside0.mk (Kd.R_drew HO396.out)
                have n1_ := Aside0.mk (Kd.V_drew HO404.out)
                have n2_ := Aside0.mk (Kd.V_drew HO407.out)
                have n3_ := Aside0.mk (Kd.R_drew HO410.out)
                have n4_ := Aside0.mk (Kd.R_drew HO418.out)
                have n5_ := Aside0.mk (Kd.R_drew HO421.out)
                have n6_ := Aside0.mk (Kd.V_drew HO430.out)
                have n7_ := Aside0.mk (Kd.V_drew HO433.out)
                have n8_ := Aside0.mk (blk_drew BK391.out)
                have n9_ := Aside0.mk (blk_drew BK423.out)
                have n10_ := Aside0.mk (blk_drew BK435.out)
                have n11_ := Aside0.mk (below_drew1 HB.out)
                clear HO396
                clear HO404
                clear HO407
                clear HO410
                clear HO418
                clear HO421
                clear HO430
                clear HO433
                clear BK391
                clear BK423
                clear BK435
                clear HB
                have HO396 := n0_
                have HO404 := n1_
                have HO407 := n2_
                have HO410 := n3_
                have HO418 := n4_
                have HO421 := n5_
                have HO430 := n6_
                have HO433 := n7_
                have BK391 := n8_
                have BK423 := n9_
                have BK435 := n10_
                have HB := n11_
                clear n0_ n1_ n2_ n3_ n4_ n5_ n6_ n7_ n8_ n9_ n10_ n11_
                obtain ⟨Ao49, co49, eo49⟩ := Kd.R_slice HO396.out
                (first | subst eo49 | (injection eo49 with f1_ f2_ f3_; have f4_ := f1_.symm; have f5_ := f3_.symm; clear f1_ f2_ f3_; subst f4_; subst f5_))
                obtain ⟨Ao50, co50, eo50⟩ := Kd.R_slice HO410.out
                (first | subst eo50 | (injection eo50 with f1_ f2_ f3_; have f4_ := f1_.symm; have f5_ := f3_.symm; clear f1_ f2_ f3_; subst f4_; subst f5_))
                refine start_ (n := 20) (S := fun w' => w'.cell? ⟨gb423, 0, none⟩ = some (.int .i64 t412) ∧ w'.cell? ⟨gb423, 1, none⟩ = some (.int .i64 t413) ∧ w'.cell? ⟨gb423, 2, none⟩ = some (.int .i64 t414) ∧ w'.cell? ⟨gb423, 3, none⟩ = some (.int .i64 t415) ∧ w'.cell? ⟨gb423, 4, none⟩ = some (.slice Ao37 t416.length co37) ∧ w'.cell? ⟨gb423, 5, none⟩ = some (.slice Ao38 t419.length co38) ∧ w'.cell? ⟨gb435, 0, none⟩ = some (.int .i64 t424) ∧ w'.cell? ⟨gb435, 1, none⟩ = some (.int .i64 t425) ∧ w'.cell? ⟨gb435, 2, none⟩ = some (.int .i64 t426) ∧ w'.cell? ⟨gb435, 3, none⟩ = some (.int .i64 t427) ∧ w'.cell? ⟨gb435, 4, none⟩ = some (.slice Ao45 t428.length co45) ∧ w'.cell? ⟨gb435, 5, none⟩ = some (.slice Ao46 t431.length co46)) (ds := []) #[false, false, false, false, false, false, false, false, false, false, false, false, false, false, false, false, false, false, false, false] (by kernel_rfl) rfl rfl ⟨(blk_cell BK423.out 0).trans rfl, (blk_cell BK423.out 1).trans rfl, (blk_cell BK423.out 2).trans rfl, (blk_cell BK423.out 3).trans rfl, (blk_cell BK423.out 4).trans rfl, (blk_cell BK423.out 5).trans rfl, (blk_cell BK435.out 0).trans rfl, (blk_cell BK435.out 1).trans rfl, (blk_cell BK435.out 2).trans rfl, (blk_cell BK435.out 3).trans rfl, (blk_cell BK435.out 4).trans rfl, (blk_cell BK435.out 5).trans rfl⟩ (fun hHeld => ?_); refine with_tabW greenscreenlaw24_QueryBytes.tab9 greenscreenlaw24_QueryBytes.bits9 (fun HT_ HW_ => ?_)
                generalize w47.drew = w48 at HO396 HO404 HO407 HO410 HO418 HO421 HO430 HO433 BK391 BK423 BK435 HB hHeld ⊢
                refine pure_ (i := 0) (N := some 44) (v := ?_) (a' := ?_) #[true, false, false, false, false, false, false, false, false, false, false, false, false, false, false, false, false, false, false, false] rfl rfl (any_of HT_.out (by kernel_rfl)) (fun _ _ _ h => h) (Or.inl ⟨by rfl, ?_⟩) ?_ ?_
                rotate_left
                · intro w'
                  go_simp
                  with_reducible rfl
                rotate_left
                · simp only [Act.put, List.setIfInBounds_toArray, List.set_cons_zero, List.set_cons_succ, i64_w, i32_w]
                  rfl
                refine pure_ (i := 1) (N := some 45) (v := ?_) (a' := ?_) #[true, true, false, false, false, false, false, false, false, false, false, false, false, false, false, false, false, false, false, false] rfl rfl (any_of HT_.out (by kernel_rfl)) (fun _ _ _ h => h) (Or.inl ⟨by rfl, ?_⟩) ?_ ?_
                rotate_left
                · intro w'
                  go_simp
                  with_reducible rfl
                rotate_left
                · simp only [Act.put, List.setIfInBounds_toArray, List.set_cons_zero, List.set_cons_succ, i64_w, i32_w]
                  rfl
                refine pure_ (i := 2) (N := some 46) (v := ?_) (a' := ?_) #[true, true, true, false, false, false, false, false, false, false, false, false, false, false, false, false, false, false, false, false] rfl rfl (any_of HT_.out (by kernel_rfl)) (fun _ _ _ h => h) (Or.inl ⟨by rfl, ?_⟩) ?_ ?_
                rotate_left
                · intro w'
                  go_simp
                  with_reducible rfl
                rotate_left
                · simp only [Act.put, List.setIfInBounds_toArray, List.set_cons_zero, List.set_cons_succ, i64_w, i32_w]
                  rfl
                refine pure_ (i := 3) (N := some 47) (v := ?_) (a' := ?_) #[true, true, true, true, false, false, false, false, false, false, false, false, false, false, false, false, false, false, false, false] rfl rfl (any_of HT_.out (by kernel_rfl)) (fun _ _ _ h => h) (Or.inl ⟨by rfl, ?_⟩) ?_ ?_
                rotate_left
                · intro w'
                  go_simp
                  with_reducible rfl
                rotate_left
                · simp only [Act.put, List.setIfInBounds_toArray, List.set_cons_zero, List.set_cons_succ, i64_w, i32_w]
                  rfl
                refine pure_ (i := 4) (N := some 48) (v := ?_) (a' := ?_) #[true, true, true, true, true, false, false, false, false, false, false, false, false, false, false, false, false, false, false, false] rfl rfl (any_of HT_.out (by kernel_rfl)) (fun _ _ _ h => h) (Or.inl ⟨by rfl, ?_⟩) ?_ ?_
                rotate_left
                · intro w'
                  go_simp
                  with_reducible rfl
                rotate_left
                · simp only [Act.put, List.setIfInBounds_toArray, List.set_cons_zero, List.set_cons_succ, i64_w, i32_w]
                  rfl
                refine pure_ (i := 5) (N := some 49) (v := ?_) (a' := ?_) #[true, true, true, true, true, true, false, false, false, false, false, false, false, false, false, false, false, false, false, false] rfl rfl (any_of HT_.out (by kernel_rfl)) (fun _ _ _ h => h) (Or.inl ⟨by rfl, ?_⟩) ?_ ?_
                rotate_left
                · intro w'
                  go_simp
                  with_reducible rfl
                rotate_left
                · simp only [Act.put, List.setIfInBounds_toArray, List.set_cons_zero, List.set_cons_succ, i64_w, i32_w]
                  rfl
                refine one_ (i := 6) (N := some 50) #[true, true, true, true, true, true, true, false, false, false, false, false, false, false, false, false, false, false, false, false] rfl rfl (one_of HT_.out (by kernel_rfl)) (by decide) (fun K hK => ?_)
                refine goes_ Try.func13 (by kernel_rfl) rfl #[.slice Ao49 t394.length co49, .slice Ao50 t408.length co50] (by rfl) rfl rfl (by (try simp only [List.map_toArray, List.map_cons, List.map_nil]); first | done | rfl | (simp only [List.length_drop, List.length_take]; rfl)) ?_
                with_reducible refine (greenscreenref01_Same.calls kj4 _ _ t394 _ _ t408 true _ ?side1 ?side2 ?side3 ?side4 A21.out).mono ?_
                (case side1 => repeat (first | exact (Kd.R_reads' HO396.out).2.2 | (with_reducible refine Kd.C_alloc ?_ _) | (with_reducible refine Kd.C_drewN ?_ _) | (with_reducible refine Kd.C_drew ?_)))
                (case side2 => exact (Kd.R_reads' HO396.out).2.1)
                (case side3 => repeat (first | exact (Kd.R_reads' HO410.out).2.2 | (with_reducible refine Kd.C_alloc ?_ _) | (with_reducible refine Kd.C_drewN ?_ _) | (with_reducible refine Kd.C_drew ?_)))
                (case side4 => exact (Kd.R_reads' HO410.out).2.1)
                rintro e w' ⟨rfl, ⟨nd, rfl⟩⟩
                refine ⟨_, rfl, ?_⟩
                refine hK.out _ _ ⟨(blk_cell BK423.out 0).trans rfl, (blk_cell BK423.out 1).trans rfl, (blk_cell BK423.out 2).trans rfl, (blk_cell BK423.out 3).trans rfl, (blk_cell BK423.out 4).trans rfl, (blk_cell BK423.out 5).trans rfl, (blk_cell BK435.out 0).trans rfl, (blk_cell BK435.out 1).trans rfl, (blk_cell BK435.out 2).trans rfl, (blk_cell BK435.out 3).trans rfl, (blk_cell BK435.out 4).trans rfl, (blk_cell BK435.out 5).trans rfl⟩ (fun hHeld => ?_)
                clear hK K
                refine norm_ (a' := ?_) ?_ ?_
                rotate_left
                · show Act.put _ (some 50) _ = _
                  simp only [Act.put, List.setIfInBounds_toArray, List.set_cons_zero, List.set_cons_succ, i64_w, i32_w]
                  rfl
                refine pure_ (i := 7) (N := some 51) (v := ?_) (a' := ?_) #[true, true, true, true, true, true, true, true, false, false, false, false, false, false, false, false, false, false, false, false] rfl rfl (any_of HT_.out (by kernel_rfl)) (fun _ _ _ h => h) (Or.inl ⟨by rfl, ?_⟩) ?_ ?_
                rotate_left
                · intro w'
                  go_simp
                  with_reducible rfl
                rotate_left
                · simp only [Act.put, List.setIfInBounds_toArray, List.set_cons_zero, List.set_cons_succ, i64_w, i32_w]
                  rfl
                refine pure_ (i := 8) (N := some 52) (v := ?_) (a' := ?_) #[true, true, true, true, true, true, true, true, true, false, false, false, false, false, false, false, false, false, false, false] rfl rfl (any_of HT_.out (by kernel_rfl)) (fun _ _ _ h => h) (Or.inl ⟨by rfl, ?_⟩) ?_ ?_
                rotate_left
                · intro w'
                  go_simp
                  with_reducible rfl
                rotate_left
                · simp only [Act.put, List.setIfInBounds_toArray, List.set_cons_zero, List.set_cons_succ, i64_w, i32_w]
                  rfl
                refine pure_ (i := 9) (N := some 53) (v := ?_) (a' := ?_) #[true, true, true, true, true, true, true, true, true, true, false, false, false, false, false, false, false, false, false, false] rfl rfl (any_of HT_.out (by kernel_rfl)) (fun _ _ _ h => h) (Or.inl ⟨by rfl, ?_⟩) ?_ ?_
                rotate_left
                · intro w'
                  go_simp
                  with_reducible rfl
                rotate_left
                · simp only [Act.put, List.setIfInBounds_toArray, List.set_cons_zero, List.set_cons_succ, i64_w, i32_w]
                  rfl
                refine pure_ (i := 10) (N := some 54) (v := ?_) (a' := ?_) #[true, true, true, true, true, true, true, true, true, true, true, false, false, false, false, false, false, false, false, false] rfl rfl (any_of HT_.out (by kernel_rfl)) (fun _ _ _ h => h) (Or.inl ⟨by rfl, ?_⟩) ?_ ?_
                rotate_left
                · intro w'
                  go_simp
                  with_reducible rfl
                rotate_left
                · simp only [Act.put, List.setIfInBounds_toArray, List.set_cons_zero, List.set_cons_succ, i64_w, i32_w]
                  rfl
                refine pure_ (i := 11) (N := some 55) (v := ?_) (a' := ?_) #[true, true, true, true, true, true, true, true, true, true, true, true, false, false, false, false, false, false, false, false] rfl rfl (any_of HT_.out (by kernel_rfl)) (fun _ _ _ h => h) (Or.inl ⟨by rfl, ?_⟩) ?_ ?_
                rotate_left
                · intro w'
                  go_simp
                  with_reducible rfl
                rotate_left
                · simp only [Act.put, List.setIfInBounds_toArray, List.set_cons_zero, List.set_cons_succ, i64_w, i32_w]
                  rfl
                refine pure_ (i := 12) (N := some 56) (v := ?_) (a' := ?_) #[true, true, true, true, true, true, true, true, true, true, true, true, true, false, false, false, false, false, false, false] rfl rfl (any_of HT_.out (by kernel_rfl)) (fun _ _ _ h => h) (Or.inl ⟨by rfl, ?_⟩) ?_ ?_
                rotate_left
                · intro w'
                  go_simp
                  with_reducible rfl
                rotate_left
                · simp only [Act.put, List.setIfInBounds_toArray, List.set_cons_zero, List.set_cons_succ, i64_w, i32_w]
                  rfl
                refine pure_ (i := 13) (N := some 57) (v := ?_) (a' := ?_) #[true, true, true, true, true, true, true, true, true, true, true, true, true, true, false, false, false, false, false, false] rfl rfl (any_of HT_.out (by kernel_rfl)) (fun _ _ _ h => h) (Or.inl ⟨by rfl, ?_⟩) ?_ ?_
                rotate_left
                · intro w'
                  go_simp
                  with_reducible rfl
                rotate_left
                · simp only [Act.put, List.setIfInBounds_toArray, List.set_cons_zero, List.set_cons_succ, i64_w, i32_w]
                  rfl
                refine take_ (i := 14) (N := some 58) (v := ?_) (a' := ?_) #[true, true, true, true, true, true, true, true, true, true, true, true, true, true, true, false, false, false, false, false] rfl rfl (take_ofW HT_.out HW_.out (by kernel_rfl)) (fun _ _ _ h => h) (Or.inl ⟨by rfl, ?_⟩) hHeld ?_ ?_
                rotate_left
                · rintro w' ⟨s0, s1, s2, s3, s4, s5, s6, s7, s8, s9, s10, s11⟩
                  go_simp
                  with_reducible rfl
                rotate_left
                · simp only [Act.put, List.setIfInBounds_toArray, List.set_cons_zero, List.set_cons_succ, i64_w, i32_w]
                  rfl
                refine take_ (i := 16) (N := some 60) (v := ?_) (a' := ?_) #[true, true, true, true, true, true, true, true, true, true, true, true, true, true, true, false, true, false, false, false] rfl rfl (take_ofW HT_.out HW_.out (by kernel_rfl)) (fun _ _ _ h => h) (Or.inl ⟨by rfl, ?_⟩) hHeld ?_ ?_
                rotate_left
                · rintro w' ⟨s0, s1, s2, s3, s4, s5, s6, s7, s8, s9, s10, s11⟩
                  go_simp
                  with_reducible rfl
                rotate_left
                · simp only [Act.put, List.setIfInBounds_toArray, List.set_cons_zero, List.set_cons_succ, i64_w, i32_w]
                  rfl
                refine one_ (i := 15) (N := some 59) #[true, true, true, true, true, true, true, true, true, true, true, true, true, true, true, true, true, false, false, false] rfl rfl (one_of HT_.out (by kernel_rfl)) (by decide) (fun K hK => ?_)
                refine goes_ Try.func10 (by kernel_rfl) rfl #[.agg #[.int .i64 t412, .int .i64 t413, .int .i64 t414, .int .i64 t415, .slice Ao37 t416.length co37, .slice Ao38 t419.length co38]] (by rfl) rfl rfl (by (try simp only [List.map_toArray, List.map_cons, List.map_nil]); first | done | rfl | (simp only [List.length_drop, List.length_take]; rfl)) ?_
                with_reducible refine (greenscreenlaw24_as.calls t412 t413 t414 t415 (fun k_ => some k_ = (.slice Ao37 t416.length co37 : Value).ownBlock) _ _ t416 (fun k_ => some k_ = (.slice Ao38 t419.length co38 : Value).ownBlock) _ _ t419 t437 t438 t439 t440 t441 t444 _ ?side1 ?side2 A24.out).mono ?_
                (case side1 => exact Kd.R_V (Kd.R_tight rfl (Kd.R_types (Kd.R_types (Kd.R_types (HO418.out) BK391.out (by decide)) BK423.out (by decide)) BK435.out (by decide))))
                (case side2 => exact Kd.R_V (Kd.R_tight rfl (Kd.R_types (Kd.R_types (Kd.R_types (HO421.out) BK391.out (by decide)) BK423.out (by decide)) BK435.out (by decide))))
                rintro e w51 ⟨v442, v445, rfl, ho0, ho1, hb⟩
                refine ⟨_, rfl, ?_⟩
                have n0_ := Aside0.mk (Kd.R_below (by (with_reducible repeat (first | apply Kd.R_alloc | apply Kd.R_drewN | apply Kd.R_drew)); exact HO396.out) hb)
                have n1_ := Aside0.mk (Kd.V_below (by (with_reducible repeat (first | apply Kd.V_alloc | apply Kd.V_drewN | apply Kd.V_drew)); exact HO404.out) hb)
                have n2_ := Aside0.mk (Kd.V_below (by (with_reducible repeat (first | apply Kd.V_alloc | apply Kd.V_drewN | apply Kd.V_drew)); exact HO407.out) hb)
                have n3_ := Aside0.mk (Kd.R_below (by (with_reducible repeat (first | apply Kd.R_alloc | apply Kd.R_drewN | apply Kd.R_drew)); exact HO410.out) hb)
                have n4_ := Aside0.mk (Kd.R_below (by (with_reducible repeat (first | apply Kd.R_alloc | apply Kd.R_drewN | apply Kd.R_drew)); exact HO418.out) hb)
                have n5_ := Aside0.mk (Kd.R_below (by (with_reducible repeat (first | apply Kd.R_alloc | apply Kd.R_drewN | apply Kd.R_drew)); exact HO421.out) hb)
                have n6_ := Aside0.mk (Kd.V_below (by (with_reducible repeat (first | apply Kd.V_alloc | apply Kd.V_drewN | apply Kd.V_drew)); exact HO430.out) hb)
                have n7_ := Aside0.mk (Kd.V_below (by (with_reducible repeat (first | apply Kd.V_alloc | apply Kd.V_drewN | apply Kd.V_drew)); exact HO433.out) hb)
                have n8_ := Aside0.mk (Kd.V_lower (Kd.V_mono (ok' := fun k_ => some k_ ≠ (.slice Ao49 t394.length co49 : Value).ownBlock ∧ some k_ ≠ (.slice Ao50 t408.length co50 : Value).ownBlock ∧ k_ ≠ gb391 ∧ k_ ≠ gb423 ∧ k_ ≠ gb435) ho0 (fun k_ hk_ => ⟨Or.elim hk_ (fun hs_ => Or.elim hs_ (fun hs_ => ((Kd.R_types (Kd.R_types (Kd.R_types (HO418.out) BK391.out (by decide)) BK423.out (by decide)) BK435.out (by decide)).1 k_ hs_.symm).1.1.1.1) (fun hs_ => ((Kd.R_types (Kd.R_types (Kd.R_types (HO421.out) BK391.out (by decide)) BK423.out (by decide)) BK435.out (by decide)).1 k_ hs_.symm).1.1.1.1)) (fun hn_ => (Kd.fresh' (Kd.R_lt (by (with_reducible repeat (first | apply Kd.R_alloc | apply Kd.R_drewN | apply Kd.R_drew)); exact HO396.out)) k_ hn_)), Or.elim hk_ (fun hs_ => Or.elim hs_ (fun hs_ => ((Kd.R_types (Kd.R_types (Kd.R_types (HO418.out) BK391.out (by decide)) BK423.out (by decide)) BK435.out (by decide)).1 k_ hs_.symm).1.1.1.2.1) (fun hs_ => ((Kd.R_types (Kd.R_types (Kd.R_types (HO421.out) BK391.out (by decide)) BK423.out (by decide)) BK435.out (by decide)).1 k_ hs_.symm).1.1.1.2.1)) (fun hn_ => (Kd.fresh' (Kd.R_lt (by (with_reducible repeat (first | apply Kd.R_alloc | apply Kd.R_drewN | apply Kd.R_drew)); exact HO410.out)) k_ hn_)), Or.elim hk_ (fun hs_ => Or.elim hs_ (fun hs_ => ((Kd.R_types (Kd.R_types (Kd.R_types (HO418.out) BK391.out (by decide)) BK423.out (by decide)) BK435.out (by decide)).1 k_ hs_.symm).1.1.2) (fun hs_ => ((Kd.R_types (Kd.R_types (Kd.R_types (HO421.out) BK391.out (by decide)) BK423.out (by decide)) BK435.out (by decide)).1 k_ hs_.symm).1.1.2)) (fun hn_ => (Kd.freshB (g := gb391) (o := .cells #[.int .i64 a0_0, .int .i64 a0_1, .int .i64 a0_2, .int .i64 a0_3, .slice A0_4 l0_4.length c0_4, .slice A0_5 l0_5.length c0_5] 26 (0, 0)) (by (with_reducible repeat (first | refine blk_drewN ?_ _ | refine blk_drew ?_ | refine blk_alloc ?_ _)); exact BK391.out) k_ hn_)), Or.elim hk_ (fun hs_ => Or.elim hs_ (fun hs_ => ((Kd.R_types (Kd.R_types (Kd.R_types (HO418.out) BK391.out (by decide)) BK423.out (by decide)) BK435.out (by decide)).1 k_ hs_.symm).1.2) (fun hs_ => ((Kd.R_types (Kd.R_types (Kd.R_types (HO421.out) BK391.out (by decide)) BK423.out (by decide)) BK435.out (by decide)).1 k_ hs_.symm).1.2)) (fun hn_ => (Kd.freshB (g := gb423) (o := .cells #[.int .i64 t412, .int .i64 t413, .int .i64 t414, .int .i64 t415, .slice Ao37 t416.length co37, .slice Ao38 t419.length co38] 26 (0, 0)) (by (with_reducible repeat (first | refine blk_drewN ?_ _ | refine blk_drew ?_ | refine blk_alloc ?_ _)); exact BK423.out) k_ hn_)), Or.elim hk_ (fun hs_ => Or.elim hs_ (fun hs_ => ((Kd.R_types (Kd.R_types (Kd.R_types (HO418.out) BK391.out (by decide)) BK423.out (by decide)) BK435.out (by decide)).1 k_ hs_.symm).2) (fun hs_ => ((Kd.R_types (Kd.R_types (Kd.R_types (HO421.out) BK391.out (by decide)) BK423.out (by decide)) BK435.out (by decide)).1 k_ hs_.symm).2)) (fun hn_ => (Kd.freshB (g := gb435) (o := .cells #[.int .i64 t424, .int .i64 t425, .int .i64 t426, .int .i64 t427, .slice Ao45 t428.length co45, .slice Ao46 t431.length co46] 34 (0, 0)) (by (with_reducible repeat (first | refine blk_drewN ?_ _ | refine blk_drew ?_ | refine blk_alloc ?_ _)); exact BK435.out) k_ hn_))⟩)) (below_size (by repeat (first | (with_reducible first | exact HB.out | apply below_alloc | apply pw_below_drewN | apply below_drew1 | refine below_set ?_ GE391.out | refine below_set ?_ GE423.out | refine below_set ?_ GE435.out) | exact HB.out))))
                have n9_ := Aside0.mk (Kd.V_lower (Kd.V_mono (ok' := fun k_ => some k_ ≠ (.slice Ao49 t394.length co49 : Value).ownBlock ∧ some k_ ≠ (.slice Ao50 t408.length co50 : Value).ownBlock ∧ k_ ≠ gb391 ∧ k_ ≠ gb423 ∧ k_ ≠ gb435) ho1 (fun k_ hk_ => ⟨Or.elim hk_ (fun hs_ => Or.elim hs_ (fun hs_ => ((Kd.R_types (Kd.R_types (Kd.R_types (HO418.out) BK391.out (by decide)) BK423.out (by decide)) BK435.out (by decide)).1 k_ hs_.symm).1.1.1.1) (fun hs_ => ((Kd.R_types (Kd.R_types (Kd.R_types (HO421.out) BK391.out (by decide)) BK423.out (by decide)) BK435.out (by decide)).1 k_ hs_.symm).1.1.1.1)) (fun hn_ => (Kd.fresh' (Kd.R_lt (by (with_reducible repeat (first | apply Kd.R_alloc | apply Kd.R_drewN | apply Kd.R_drew)); exact HO396.out)) k_ hn_)), Or.elim hk_ (fun hs_ => Or.elim hs_ (fun hs_ => ((Kd.R_types (Kd.R_types (Kd.R_types (HO418.out) BK391.out (by decide)) BK423.out (by decide)) BK435.out (by decide)).1 k_ hs_.symm).1.1.1.2.1) (fun hs_ => ((Kd.R_types (Kd.R_types (Kd.R_types (HO421.out) BK391.out (by decide)) BK423.out (by decide)) BK435.out (by decide)).1 k_ hs_.symm).1.1.1.2.1)) (fun hn_ => (Kd.fresh' (Kd.R_lt (by (with_reducible repeat (first | apply Kd.R_alloc | apply Kd.R_drewN | apply Kd.R_drew)); exact HO410.out)) k_ hn_)), Or.elim hk_ (fun hs_ => Or.elim hs_ (fun hs_ => ((Kd.R_types (Kd.R_types (Kd.R_types (HO418.out) BK391.out (by decide)) BK423.out (by decide)) BK435.out (by decide)).1 k_ hs_.symm).1.1.2) (fun hs_ => ((Kd.R_types (Kd.R_types (Kd.R_types (HO421.out) BK391.out (by decide)) BK423.out (by decide)) BK435.out (by decide)).1 k_ hs_.symm).1.1.2)) (fun hn_ => (Kd.freshB (g := gb391) (o := .cells #[.int .i64 a0_0, .int .i64 a0_1, .int .i64 a0_2, .int .i64 a0_3, .slice A0_4 l0_4.length c0_4, .slice A0_5 l0_5.length c0_5] 26 (0, 0)) (by (with_reducible repeat (first | refine blk_drewN ?_ _ | refine blk_drew ?_ | refine blk_alloc ?_ _)); exact BK391.out) k_ hn_)), Or.elim hk_ (fun hs_ => Or.elim hs_ (fun hs_ => ((Kd.R_types (Kd.R_types (Kd.R_types (HO418.out) BK391.out (by decide)) BK423.out (by decide)) BK435.out (by decide)).1 k_ hs_.symm).1.2) (fun hs_ => ((Kd.R_types (Kd.R_types (Kd.R_types (HO421.out) BK391.out (by decide)) BK423.out (by decide)) BK435.out (by decide)).1 k_ hs_.symm).1.2)) (fun hn_ => (Kd.freshB (g := gb423) (o := .cells #[.int .i64 t412, .int .i64 t413, .int .i64 t414, .int .i64 t415, .slice Ao37 t416.length co37, .slice Ao38 t419.length co38] 26 (0, 0)) (by (with_reducible repeat (first | refine blk_drewN ?_ _ | refine blk_drew ?_ | refine blk_alloc ?_ _)); exact BK423.out) k_ hn_)), Or.elim hk_ (fun hs_ => Or.elim hs_ (fun hs_ => ((Kd.R_types (Kd.R_types (Kd.R_types (HO418.out) BK391.out (by decide)) BK423.out (by decide)) BK435.out (by decide)).1 k_ hs_.symm).2) (fun hs_ => ((Kd.R_types (Kd.R_types (Kd.R_types (HO421.out) BK391.out (by decide)) BK423.out (by decide)) BK435.out (by decide)).1 k_ hs_.symm).2)) (fun hn_ => (Kd.freshB (g := gb435) (o := .cells #[.int .i64 t424, .int .i64 t425, .int .i64 t426, .int .i64 t427, .slice Ao45 t428.length co45, .slice Ao46 t431.length co46] 34 (0, 0)) (by (with_reducible repeat (first | refine blk_drewN ?_ _ | refine blk_drew ?_ | refine blk_alloc ?_ _)); exact BK435.out) k_ hn_))⟩)) (below_size (by repeat (first | (with_reducible first | exact HB.out | apply below_alloc | apply pw_below_drewN | apply below_drew1 | refine below_set ?_ GE391.out | refine below_set ?_ GE423.out | refine below_set ?_ GE435.out) | exact HB.out))))
                have n10_ := Aside0.mk (blk_below (g := gb391) (o := .cells #[.int .i64 a0_0, .int .i64 a0_1, .int .i64 a0_2, .int .i64 a0_3, .slice A0_4 l0_4.length c0_4, .slice A0_5 l0_5.length c0_5] 26 (0, 0)) (by (with_reducible repeat (first | refine blk_drewN ?_ _ | refine blk_drew ?_ | refine blk_alloc ?_ _)); exact BK391.out) hb)
                have n11_ := Aside0.mk (blk_below (g := gb423) (o := .cells #[.int .i64 t412, .int .i64 t413, .int .i64 t414, .int .i64 t415, .slice Ao37 t416.length co37, .slice Ao38 t419.length co38] 26 (0, 0)) (by (with_reducible repeat (first | refine blk_drewN ?_ _ | refine blk_drew ?_ | refine blk_alloc ?_ _)); exact BK423.out) hb)
                have n12_ := Aside0.mk (blk_below (g := gb435) (o := .cells #[.int .i64 t424, .int .i64 t425, .int .i64 t426, .int .i64 t427, .slice Ao45 t428.length co45, .slice Ao46 t431.length co46] 34 (0, 0)) (by (with_reducible repeat (first | refine blk_drewN ?_ _ | refine blk_drew ?_ | refine blk_alloc ?_ _)); exact BK435.out) hb)
                have n13_ := Aside0.mk (below_step (by repeat (first | (with_reducible first | exact HB.out | apply below_alloc | apply pw_below_drewN | apply below_drew1 | refine below_set ?_ GE391.out | refine below_set ?_ GE423.out | refine below_set ?_ GE435.out) | exact HB.out)) hb)
                clear HO396
                clear HO404
                clear HO407
                clear HO410
                clear HO418
                clear HO421
                clear HO430
                clear HO433
                clear BK391
                clear BK423
                clear BK435
                clear HB
                have HO396 := n0_
                have HO404 := n1_
                have HO407 := n2_
                have HO410 := n3_
                have HO418 := n4_
                have HO421 := n5_
                have HO430 := n6_
                have HO433 := n7_
                have HO443 := n8_
                have HO446 := n9_
                have BK391 := n10_
                have BK423 := n11_
                have BK435 := n12_
                have HB := n13_
                clear n0_ n1_ n2_ n3_ n4_ n5_ n6_ n7_ n8_ n9_ n10_ n11_ n12_ n13_
                (try clear hb)
                (try clear hb2)
                (try clear hk)
                (try clear hi)
                (try clear ho0)
                (try clear ho1)
                obtain ⟨Ao52, co52, eo52⟩ := Kd.V_slice HO443.out
                (first | subst eo52 | (injection eo52 with f1_ f2_ f3_; have f4_ := f1_.symm; have f5_ := f3_.symm; clear f1_ f2_ f3_; subst f4_; subst f5_))
                obtain ⟨Ao53, co53, eo53⟩ := Kd.V_slice HO446.out
                (first | subst eo53 | (injection eo53 with f1_ f2_ f3_; have f4_ := f1_.symm; have f5_ := f3_.symm; clear f1_ f2_ f3_; subst f4_; subst f5_))
                refine hK.out _ _ ⟨(blk_cell BK423.out 0).trans rfl, (blk_cell BK423.out 1).trans rfl, (blk_cell BK423.out 2).trans rfl, (blk_cell BK423.out 3).trans rfl, (blk_cell BK423.out 4).trans rfl, (blk_cell BK423.out 5).trans rfl, (blk_cell BK435.out 0).trans rfl, (blk_cell BK435.out 1).trans rfl, (blk_cell BK435.out 2).trans rfl, (blk_cell BK435.out 3).trans rfl, (blk_cell BK435.out 4).trans rfl, (blk_cell BK435.out 5).trans rfl⟩ (fun hHeld => ?_)
                clear hK K
                refine norm_ (a' := ?_) ?_ ?_
                rotate_left
                · show Act.put _ (some 59) _ = _
                  simp only [Act.put, List.setIfInBounds_toArray, List.set_cons_zero, List.set_cons_succ, i64_w, i32_w]
                  rfl
                refine one_ (i := 17) (N := some 61) #[true, true, true, true, true, true, true, true, true, true, true, true, true, true, true, true, true, true, false, false] rfl rfl (one_of HT_.out (by kernel_rfl)) (by decide) (fun K hK => ?_)
                refine goes_ Try.func14 (by kernel_rfl) rfl #[.agg #[.int .i64 t437, .int .i64 t438, .int .i64 t439, .int .i64 t440, .slice Ao52 t441.length co52, .slice Ao53 t444.length co53], .agg #[.int .i64 t424, .int .i64 t425, .int .i64 t426, .int .i64 t427, .slice Ao45 t428.length co45, .slice Ao46 t431.length co46]] (by rfl) rfl rfl (by (try simp only [List.map_toArray, List.map_cons, List.map_nil]); first | done | rfl | (simp only [List.length_drop, List.length_take]; rfl)) ?_
                with_reducible refine (greenscreenref24_Same.calls kj4 t437 t438 t439 t440 _ _ t441 _ _ t444 t424 t425 t426 t427 _ _ t428 _ _ t431 t447 _ ?side1 ?side2 ?side3 ?side4 ?side5 ?side6 ?side7 ?side8 A25.out).mono ?_
                (case side1 => repeat (first | exact (Kd.V_reads' HO443.out).2.2 | (with_reducible refine Kd.C_alloc ?_ _) | (with_reducible refine Kd.C_drewN ?_ _) | (with_reducible refine Kd.C_drew ?_)))
                (case side2 => exact (Kd.V_reads' HO443.out).2.1)
                (case side3 => repeat (first | exact (Kd.V_reads' HO446.out).2.2 | (with_reducible refine Kd.C_alloc ?_ _) | (with_reducible refine Kd.C_drewN ?_ _) | (with_reducible refine Kd.C_drew ?_)))
                (case side4 => exact (Kd.V_reads' HO446.out).2.1)
                (case side5 => repeat (first | exact (Kd.V_reads' HO430.out).2.2 | (with_reducible refine Kd.C_alloc ?_ _) | (with_reducible refine Kd.C_drewN ?_ _) | (with_reducible refine Kd.C_drew ?_)))
                (case side6 => exact (Kd.V_reads' HO430.out).2.1)
                (case side7 => repeat (first | exact (Kd.V_reads' HO433.out).2.2 | (with_reducible refine Kd.C_alloc ?_ _) | (with_reducible refine Kd.C_drewN ?_ _) | (with_reducible refine Kd.C_drew ?_)))
                (case side8 => exact (Kd.V_reads' HO433.out).2.1)
                rintro e w54 ⟨rfl, hb⟩
                refine ⟨_, rfl, ?_⟩
                have n0_ := Aside0.mk (Kd.R_below (by (with_reducible repeat (first | apply Kd.R_alloc | apply Kd.R_drewN | apply Kd.R_drew)); exact HO396.out) hb)
                have n1_ := Aside0.mk (Kd.V_below (by (with_reducible repeat (first | apply Kd.V_alloc | apply Kd.V_drewN | apply Kd.V_drew)); exact HO404.out) hb)
                have n2_ := Aside0.mk (Kd.V_below (by (with_reducible repeat (first | apply Kd.V_alloc | apply Kd.V_drewN | apply Kd.V_drew)); exact HO407.out) hb)
                have n3_ := Aside0.mk (Kd.R_below (by (with_reducible repeat (first | apply Kd.R_alloc | apply Kd.R_drewN | apply Kd.R_drew)); exact HO410.out) hb)
                have n4_ := Aside0.mk (Kd.R_below (by (with_reducible repeat (first | apply Kd.R_alloc | apply Kd.R_drewN | apply Kd.R_drew)); exact HO418.out) hb)
                have n5_ := Aside0.mk (Kd.R_below (by (with_reducible repeat (first | apply Kd.R_alloc | apply Kd.R_drewN | apply Kd.R_drew)); exact HO421.out) hb)
                have n6_ := Aside0.mk (Kd.V_below (by (with_reducible repeat (first | apply Kd.V_alloc | apply Kd.V_drewN | apply Kd.V_drew)); exact HO430.out) hb)
                have n7_ := Aside0.mk (Kd.V_below (by (with_reducible repeat (first | apply Kd.V_alloc | apply Kd.V_drewN | apply Kd.V_drew)); exact HO433.out) hb)
                have n8_ := Aside0.mk (Kd.V_below (by (with_reducible repeat (first | apply Kd.V_alloc | apply Kd.V_drewN | apply Kd.V_drew)); exact HO443.out) hb)
                have n9_ := Aside0.mk (Kd.V_below (by (with_reducible repeat (first | apply Kd.V_alloc | apply Kd.V_drewN | apply Kd.V_drew)); exact HO446.out) hb)
                have n10_ := Aside0.mk (blk_below (g := gb391) (o := .cells #[.int .i64 a0_0, .int .i64 a0_1, .int .i64 a0_2, .int .i64 a0_3, .slice A0_4 l0_4.length c0_4, .slice A0_5 l0_5.length c0_5] 26 (0, 0)) (by (with_reducible repeat (first | refine blk_drewN ?_ _ | refine blk_drew ?_ | refine blk_alloc ?_ _)); exact BK391.out) hb)
                have n11_ := Aside0.mk (blk_below (g := gb423) (o := .cells #[.int .i64 t412, .int .i64 t413, .int .i64 t414, .int .i64 t415, .slice Ao37 t416.length co37, .slice Ao38 t419.length co38] 26 (0, 0)) (by (with_reducible repeat (first | refine blk_drewN ?_ _ | refine blk_drew ?_ | refine blk_alloc ?_ _)); exact BK423.out) hb)
                have n12_ := Aside0.mk (blk_below (g := gb435) (o := .cells #[.int .i64 t424, .int .i64 t425, .int .i64 t426, .int .i64 t427, .slice Ao45 t428.length co45, .slice Ao46 t431.length co46] 34 (0, 0)) (by (with_reducible repeat (first | refine blk_drewN ?_ _ | refine blk_drew ?_ | refine blk_alloc ?_ _)); exact BK435.out) hb)
                have n13_ := Aside0.mk (below_step (by repeat (first | (with_reducible first | exact HB.out | apply below_alloc | apply pw_below_drewN | apply below_drew1 | refine below_set ?_ GE391.out | refine below_set ?_ GE423.out | refine below_set ?_ GE435.out) | exact HB.out)) hb)
                clear HO396
                clear HO404
                clear HO407
                clear HO410
                clear HO418
                clear HO421
                clear HO430
                clear HO433
                clear HO443
                clear HO446
                clear BK391
                clear BK423
                clear BK435
                clear HB
                have HO396 := n0_
                have HO404 := n1_
                have HO407 := n2_
                have HO410 := n3_
                have HO418 := n4_
                have HO421 := n5_
                have HO430 := n6_
                have HO433 := n7_
                have HO443 := n8_
                have HO446 := n9_
                have BK391 := n10_
                have BK423 := n11_
                have BK435 := n12_
                have HB := n13_
                clear n0_ n1_ n2_ n3_ n4_ n5_ n6_ n7_ n8_ n9_ n10_ n11_ n12_ n13_
                (try clear hb)
                (try clear hb2)
                (try clear hk)
                (try clear hi)
                refine hK.out _ _ ⟨(blk_cell BK423.out 0).trans rfl, (blk_cell BK423.out 1).trans rfl, (blk_cell BK423.out 2).trans rfl, (blk_cell BK423.out 3).trans rfl, (blk_cell BK423.out 4).trans rfl, (blk_cell BK423.out 5).trans rfl, (blk_cell BK435.out 0).trans rfl, (blk_cell BK435.out 1).trans rfl, (blk_cell BK435.out 2).trans rfl, (blk_cell BK435.out 3).trans rfl, (blk_cell BK435.out 4).trans rfl, (blk_cell BK435.out 5).trans rfl⟩ (fun hHeld => ?_)
                clear hK K
                refine norm_ (a' := ?_) ?_ ?_
                rotate_left
                · show Act.put _ (some 61) _ = _
                  simp only [Act.put, List.setIfInBounds_toArray, List.set_cons_zero, List.set_cons_succ, i64_w, i32_w]
                  rfl
                refine pure_ (i := 18) (N := some 62) (v := ?_) (a' := ?_) #[true, true, true, true, true, true, true, true, true, true, true, true, true, true, true, true, true, true, true, false] rfl rfl (any_of HT_.out (by kernel_rfl)) (fun _ _ _ h => h) (Or.inl ⟨by rfl, ?_⟩) ?_ ?_
                rotate_left
                · intro w'
                  go_simp
                  with_reducible rfl
                rotate_left
                · simp only [Act.put, List.setIfInBounds_toArray, List.set_cons_zero, List.set_cons_succ, i64_w, i32_w]
                  rfl
                refine pure_ (i := 19) (N := some 4) (v := ?_) (a' := ?_) #[true, true, true, true, true, true, true, true, true, true, true, true, true, true, true, true, true, true, true, true] rfl rfl (any_of HT_.out (by kernel_rfl)) (fun _ _ _ h => h) (Or.inl ⟨by rfl, ?_⟩) ?_ ?_
                rotate_left
                · intro w'
                  go_simp
                  with_reducible rfl
                rotate_left
                · simp only [Act.put, List.setIfInBounds_toArray, List.set_cons_zero, List.set_cons_succ, i64_w, i32_w]
                  rfl
                refine done_ (done_of HT_.out (by kernel_rfl)) ?_
                try go_wp2
                go_ret
                exact ⟨by first | rfl | (simp [errW_none, errW_some] <;> rfl) | (simp [*, errW_none, errW_some] <;> rfl), by repeat (first | (with_reducible first | exact HB.out | apply below_alloc | apply pw_below_drewN | apply below_drew1 | refine below_set ?_ GE391.out | refine below_set ?_ GE423.out | refine below_set ?_ GE435.out) | exact HB.out)⟩
              · rw [if_neg c23] at H
                have c23b0 : (t422 == t434) = false := beq_eq_false_iff_ne.mpr c23
                have c23b1 : (t422 != t434) = true := bne_iff_ne.mpr c23
                obtain rfl := Option.some.inj H
                exact absurd hr_ (by decide)
            · replace c22 := Bool.eq_false_iff.mpr c22
              subst c22
              have H1 : (some false) = some r := by rw [if_neg (show ¬ (false = true) by decide)] at H; exact H
              clear H
              have H := H1
              clear H1
              obtain rfl := Option.some.inj H
              exact absurd hr_ (by decide)
          · rw [if_neg c20] at H
            have c20b0 : (t397 == t411) = false := beq_eq_false_iff_ne.mpr c20
            have c20b1 : (t397 != t411) = true := bne_iff_ne.mpr c20
            obtain rfl := Option.some.inj H
            exact absurd hr_ (by decide)
  · replace c4 := Bool.eq_false_iff.mpr c4
    subst c4
    have H1 : (some false) = some r := by rw [if_neg (show ¬ (false = true) by decide)] at H; exact H
    clear H
    have H := H1
    clear H1
    obtain rfl := Option.some.inj H
    exact absurd hr_ (by decide)

end Go.Proofs.Ytpdihhfeekoplaa.P
