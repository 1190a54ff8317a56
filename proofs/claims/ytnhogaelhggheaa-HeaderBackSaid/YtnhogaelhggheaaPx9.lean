-- Laid by program out of the translation, some functions' texts by hand (a session's own run, not print.sh's). Lean checks it.
import Derived.Test.YtnhogaelhggheaaPx0
import Derived.Test.YtnhogaelhggheaaPx1
import Derived.Test.YtnhogaelhggheaaPx3
import Derived.Test.YtnhogaelhggheaaPx4
import Derived.Test.YtnhogaelhggheaaPx5
import Derived.Test.YtnhogaelhggheaaPx7
namespace Go.Proofs.Ytnhogaelhggheaa.P
open Go.RowKit Go.Proofs.YtnhogaelhggheaaW.PrintWords Go.Proofs.YtnhogaelhggheaaW.PrintLast Go.Proofs.YtnhogaelhggheaaW.PrintMore
attribute [local go_sem] max2_int min2_int max_two min_two max_three min_three max_four min_four   -- for this text's walks alone
set_option linter.unusedVariables false
set_option linter.unusedSimpArgs false

attribute [local go_sem high] eqA25
/-! ### greenscreenlaw09_HeaderBack: function 4 -/
def greenscreenlaw09_HeaderBack.j0 : Nat → Int → Bool → Int → Int → Int → Int → Option (Bool)
  | 0, _, _, _, _, _, _ => none
  | k + 1, x1, x57, x313000, x313001, x313002, x313003 => if x57 = true then (some false) else ((header_Answer.f k x313000 x313001 x313002 x313003 x1).bind fun bt327 => (if bt327.2 = true then ((header_Parse.f bt327.1).bind fun bt331 => ((header_Sense.f bt331.1 bt331.2.1 bt331.2.2.1 bt331.2.2.2.1 bt331.2.2.2.2.1).bind fun bt340 => (if bt331.2.2.2.2.2 = 0 then (if bt340.2.2 = true then (if bt331.2.2.2.1 = x313003 then (if (bt340.2.1 == (x1 == 0)) = true then (if bt340.2.1 = true then (if bt340.1 = 0 then (some ((bt327.1.length : Int) == 6)) else (some false)) else ((header_Code.f x1).bind fun t343 => (if bt340.1 = t343 then (some ((bt327.1.length : Int) == 6)) else (some false)))) else (some false)) else (some false)) else (some false)) else (some false)))) else (some ((bt327.1.length : Int) == 0))))
def greenscreenlaw09_HeaderBack.f (k : Nat) (a0_0 : Int) (a0_1 : Int) (a0_2 : Int) (a0_3 : Int) (a1 : Int) (l2 : List Int) : Option (Bool) := (greenscreenlaw09_alive.f k).bind fun t313 => (if t313 = true then (if (l2.length : Int) > 300 then (some true) else ((header_Write.f a0_0 a0_1 a0_2 a0_3 l2).bind fun t314 => ((header_Parse.f t314).bind fun bt317 => (if a0_0 ≤ 8 then (if bt317.2.2.2.2.2 = 0 then (if (!(bt317.1 == a0_0) || (!(bt317.2.1 == a0_1) || (!(bt317.2.2.1 == a0_2) || (!(bt317.2.2.2.1 == a0_3))))) = true then (greenscreenlaw09_HeaderBack.j0 k a1 true a0_0 a0_1 a0_2 a0_3) else ((greenscreenref01_Same.f k bt317.2.2.2.2.1 l2).bind fun t326 => (if t326 = true then (if a0_0 > 8 then (greenscreenlaw09_HeaderBack.j0 k a1 (bt317.2.2.2.2.2 != 21) a0_0 a0_1 a0_2 a0_3) else (greenscreenlaw09_HeaderBack.j0 k a1 false a0_0 a0_1 a0_2 a0_3)) else (greenscreenlaw09_HeaderBack.j0 k a1 true a0_0 a0_1 a0_2 a0_3)))) else (greenscreenlaw09_HeaderBack.j0 k a1 true a0_0 a0_1 a0_2 a0_3)) else (if a0_0 > 8 then (greenscreenlaw09_HeaderBack.j0 k a1 (bt317.2.2.2.2.2 != 21) a0_0 a0_1 a0_2 a0_3) else (greenscreenlaw09_HeaderBack.j0 k a1 false a0_0 a0_1 a0_2 a0_3)))))) else (some false))
theorem greenscreenlaw09_HeaderBack.mono_l : ∀ k, (∀ y0 y1 y2 y3 y4 y5, LeO (greenscreenlaw09_HeaderBack.j0 k y0 y1 y2 y3 y4 y5) (greenscreenlaw09_HeaderBack.j0 (k + 1) y0 y1 y2 y3 y4 y5))
  | 0 => fun _ _ _ _ _ _ r h => by simp [greenscreenlaw09_HeaderBack.j0] at h
  | k + 1 => by
    have ih0 := greenscreenlaw09_HeaderBack.mono_l k
    · intro y0 y1 y2 y3 y4 y5
      unfold greenscreenlaw09_HeaderBack.j0
      repeat' first
      | (with_reducible exact ih0 _ _ _ _ _ _)
      | (with_reducible exact greenscreenlaw09_alive.mono _)
      | (with_reducible exact greenscreenref01_Same.mono _ _ _)
      | (with_reducible exact header_Answer.mono _ _ _ _ _ _)
      | (with_reducible exact LeO.refl _)
      | (with_reducible exact LeO.none _)
      | (with_reducible refine LeO.ite ?_ ?_)
      | (with_reducible refine LeO.bind ?_ (fun _ => ?_))
      | exact ih0 _ _ _ _ _ _
      | exact greenscreenlaw09_alive.mono _
      | exact greenscreenref01_Same.mono _ _ _
      | exact header_Answer.mono _ _ _ _ _ _
      | exact LeO.none _
      | refine LeO.ite ?_ ?_
      | refine LeO.bind ?_ (fun _ => ?_)
theorem greenscreenlaw09_HeaderBack.mono : ∀ a0 a1 a2 a3 a4 a5 k, LeO (greenscreenlaw09_HeaderBack.f k a0 a1 a2 a3 a4 a5) (greenscreenlaw09_HeaderBack.f (k + 1) a0 a1 a2 a3 a4 a5) := by
  intro a0 a1 a2 a3 a4 a5 k
  have ih0 := greenscreenlaw09_HeaderBack.mono_l k
  unfold greenscreenlaw09_HeaderBack.f
  repeat' first
      | (with_reducible exact ih0 _ _ _ _ _ _)
      | (with_reducible exact greenscreenlaw09_alive.mono _)
      | (with_reducible exact greenscreenref01_Same.mono _ _ _)
      | (with_reducible exact header_Answer.mono _ _ _ _ _ _)
      | (with_reducible exact LeO.refl _)
      | (with_reducible exact LeO.none _)
      | (with_reducible refine LeO.ite ?_ ?_)
      | (with_reducible refine LeO.bind ?_ (fun _ => ?_))
      | exact ih0 _ _ _ _ _ _
      | exact greenscreenlaw09_alive.mono _
      | exact greenscreenref01_Same.mono _ _ _
      | exact header_Answer.mono _ _ _ _ _ _
      | exact LeO.none _
      | refine LeO.ite ?_ ?_
      | refine LeO.bind ?_ (fun _ => ?_)
set_option maxHeartbeats 8000000 in
set_option maxRecDepth 100000 in
theorem greenscreenlaw09_HeaderBack.calls (k : Nat) (a0_0 : Int) (a0_1 : Int) (a0_2 : Int) (a0_3 : Int) (a1 : Int) (A2 : Option Addr) (c2 : Nat) (l2 : List Int) (r : Bool) (hr_ : r = true) (w : World) (hr2 : Kd.C (Kd.int .u8) w A2 l2.length l2) (hc2 : l2.length ≤ c2) (h : greenscreenlaw09_HeaderBack.f k a0_0 a0_1 a0_2 a0_3 a1 l2 = some r) :
    Calls Try.prog 4 #[.agg #[.int .u8 a0_0, .int .u8 a0_1, .int .u8 a0_2, .int .u16 a0_3], .int .i64 a1, .slice A2 l2.length c2] w fun e w' => e = .returned (.bool r) ∧ Below w.heap.size w w' := by
  have hu25 := Try.underlying25
  have HR2 := Aside0.mk hr2
  have HC2 := Aside0.mk hc2
  clear hr2 hc2
  have HB := Aside0.mk (Below.refl w.heap.size w)
  have H : ((greenscreenlaw09_alive.f k).bind fun t313 => (if t313 = true then (if (l2.length : Int) > 300 then (some true) else ((header_Write.f a0_0 a0_1 a0_2 a0_3 l2).bind fun t314 => ((header_Parse.f t314).bind fun bt317 => (if a0_0 ≤ 8 then (if bt317.2.2.2.2.2 = 0 then (if (!(bt317.1 == a0_0) || (!(bt317.2.1 == a0_1) || (!(bt317.2.2.1 == a0_2) || (!(bt317.2.2.2.1 == a0_3))))) = true then (greenscreenlaw09_HeaderBack.j0 k a1 true a0_0 a0_1 a0_2 a0_3) else ((greenscreenref01_Same.f k bt317.2.2.2.2.1 l2).bind fun t326 => (if t326 = true then (if a0_0 > 8 then (greenscreenlaw09_HeaderBack.j0 k a1 (bt317.2.2.2.2.2 != 21) a0_0 a0_1 a0_2 a0_3) else (greenscreenlaw09_HeaderBack.j0 k a1 false a0_0 a0_1 a0_2 a0_3)) else (greenscreenlaw09_HeaderBack.j0 k a1 true a0_0 a0_1 a0_2 a0_3)))) else (greenscreenlaw09_HeaderBack.j0 k a1 true a0_0 a0_1 a0_2 a0_3)) else (if a0_0 > 8 then (greenscreenlaw09_HeaderBack.j0 k a1 (bt317.2.2.2.2.2 != 21) a0_0 a0_1 a0_2 a0_3) else (greenscreenlaw09_HeaderBack.j0 k a1 false a0_0 a0_1 a0_2 a0_3)))))) else (some false))) = some r := h
  clear h
  replace H := Option.bind_eq_some_iff.mp H
  obtain ⟨t313, A40, H⟩ := H
  replace H : (if t313 = true then (if (l2.length : Int) > 300 then (some true) else ((header_Write.f a0_0 a0_1 a0_2 a0_3 l2).bind fun t314 => ((header_Parse.f t314).bind fun bt317 => (if a0_0 ≤ 8 then (if bt317.2.2.2.2.2 = 0 then (if (!(bt317.1 == a0_0) || (!(bt317.2.1 == a0_1) || (!(bt317.2.2.1 == a0_2) || (!(bt317.2.2.2.1 == a0_3))))) = true then (greenscreenlaw09_HeaderBack.j0 k a1 true a0_0 a0_1 a0_2 a0_3) else ((greenscreenref01_Same.f k bt317.2.2.2.2.1 l2).bind fun t326 => (if t326 = true then (if a0_0 > 8 then (greenscreenlaw09_HeaderBack.j0 k a1 (bt317.2.2.2.2.2 != 21) a0_0 a0_1 a0_2 a0_3) else (greenscreenlaw09_HeaderBack.j0 k a1 false a0_0 a0_1 a0_2 a0_3)) else (greenscreenlaw09_HeaderBack.j0 k a1 true a0_0 a0_1 a0_2 a0_3)))) else (greenscreenlaw09_HeaderBack.j0 k a1 true a0_0 a0_1 a0_2 a0_3)) else (if a0_0 > 8 then (greenscreenlaw09_HeaderBack.j0 k a1 (bt317.2.2.2.2.2 != 21) a0_0 a0_1 a0_2 a0_3) else (greenscreenlaw09_HeaderBack.j0 k a1 false a0_0 a0_1 a0_2 a0_3)))))) else (some false)) = some r := H
  have A4 := Aside0.mk A40
  clear A40
  by_cases c5 : t313 = true
  · subst c5
    have H1 : (if (l2.length : Int) > 300 then (some true) else ((header_Write.f a0_0 a0_1 a0_2 a0_3 l2).bind fun t314 => ((header_Parse.f t314).bind fun bt317 => (if a0_0 ≤ 8 then (if bt317.2.2.2.2.2 = 0 then (if (!(bt317.1 == a0_0) || (!(bt317.2.1 == a0_1) || (!(bt317.2.2.1 == a0_2) || (!(bt317.2.2.2.1 == a0_3))))) = true then (greenscreenlaw09_HeaderBack.j0 k a1 true a0_0 a0_1 a0_2 a0_3) else ((greenscreenref01_Same.f k bt317.2.2.2.2.1 l2).bind fun t326 => (if t326 = true then (if a0_0 > 8 then (greenscreenlaw09_HeaderBack.j0 k a1 (bt317.2.2.2.2.2 != 21) a0_0 a0_1 a0_2 a0_3) else (greenscreenlaw09_HeaderBack.j0 k a1 false a0_0 a0_1 a0_2 a0_3)) else (greenscreenlaw09_HeaderBack.j0 k a1 true a0_0 a0_1 a0_2 a0_3)))) else (greenscreenlaw09_HeaderBack.j0 k a1 true a0_0 a0_1 a0_2 a0_3)) else (if a0_0 > 8 then (greenscreenlaw09_HeaderBack.j0 k a1 (bt317.2.2.2.2.2 != 21) a0_0 a0_1 a0_2 a0_3) else (greenscreenlaw09_HeaderBack.j0 k a1 false a0_0 a0_1 a0_2 a0_3)))))) = some r := by rw [if_pos rfl] at H; exact H
    clear H
    have H := H1
    clear H1
    by_cases c6 : (l2.length : Int) > 300
    · rw [if_pos c6] at H
      have c6b0 : decide (300 < (l2.length : Int)) = true := decide_eq_true c6
      have c6b1 : decide (300 < l2.length) = true := decide_eq_true (by omega)
      clear c6
      obtain rfl := Option.some.inj H
      go_enter Try.func4, Try.ntmps4
      go_wp2_with (first | ((with_reducible refine gate_dst (N := 3) rfl ?_); (try (refine gate_guard (by rfl) ?_; dsimp only)); refine box_event ?hg (N := 3) ?hd (cs := #[.int .u8 a0_0, .int .u8 a0_1, .int .u8 a0_2, .int .u16 a0_3]) (t := 25) ?hr ?_; (case hd => rfl); (case hg => rfl); (case hr => first | (go_simp; done) | (go_simp; rfl)); intro gb312 hg w7 hbox hb; have n0_ := Aside0.mk (below_step (by repeat (first | (with_reducible first | exact HB.out | apply below_alloc | apply pw_below_drewN | apply below_drew1) | exact HB.out)) hb); have n1_ := Aside0.mk (hbox); have n2_ := Aside0.mk ((by rw [hg]; exact (below_size (by repeat (first | (with_reducible first | exact HB.out | apply below_alloc | apply pw_below_drewN | apply below_drew1) | exact HB.out))) : w.heap.size ≤ gb312)); have n3_ := Aside0.mk ((by rw [hg]; exact (below_size (by repeat (first | (with_reducible first | exact HB.out | apply below_alloc | apply pw_below_drewN | apply below_drew1) | exact HB.out))) : w.heap.size ≤ gb312)); clear HB; have HB := n0_; have BK312 := n1_; have GW312 := n2_; have GE312 := n3_; clear n0_ n1_ n2_ n3_; clear hb hbox hg) | ((with_reducible refine gate_callee (f := 7) rfl ?_); refine goesL_ (some 18) rfl rfl Try.func7 (by kernel_rfl) rfl #[] rfl (by (try simp only [List.map_toArray, List.map_cons, List.map_nil]); first | done | rfl | (simp only [List.length_drop, List.length_take]; rfl)) ?_; (with_reducible refine (greenscreenlaw09_alive.calls k  true rfl _ A4.out).mono ?_); rintro e w8 ⟨rfl, hb⟩; refine ⟨_, rfl, ?_⟩; have n0_ := Aside0.mk (blk_below (g := gb312) (o := .cells #[.int .u8 a0_0, .int .u8 a0_1, .int .u8 a0_2, .int .u16 a0_3] 25 (0, 0)) (by (with_reducible repeat (first | refine blk_drewN ?_ _ | refine blk_drew ?_ | refine blk_alloc ?_ _)); exact BK312.out) hb); have n1_ := Aside0.mk (below_step (by repeat (first | (with_reducible first | exact HB.out | apply below_alloc | apply pw_below_drewN | apply below_drew1 | refine below_set ?_ GE312.out) | exact HB.out)) hb); clear BK312; clear HB; have BK312 := n0_; have HB := n1_; clear n0_ n1_; (try clear hb); (try clear hb2); (try clear hk); (try clear hi)))
      go_ret
      exact ⟨by first | rfl | (simp [errW_none, errW_some] <;> rfl) | (simp [*, errW_none, errW_some] <;> rfl), by repeat (first | (with_reducible first | exact HB.out | apply below_alloc | apply pw_below_drewN | apply below_drew1 | refine below_set ?_ GE312.out) | exact HB.out)⟩
    · rw [if_neg c6] at H
      have c6b0 : decide (300 < (l2.length : Int)) = false := decide_eq_false c6
      have c6b1 : decide (300 < l2.length) = false := decide_eq_false (by omega)
      clear c6
      replace H := Option.bind_eq_some_iff.mp H
      obtain ⟨t314, A90, H⟩ := H
      replace H : ((header_Parse.f t314).bind fun bt317 => (if a0_0 ≤ 8 then (if bt317.2.2.2.2.2 = 0 then (if (!(bt317.1 == a0_0) || (!(bt317.2.1 == a0_1) || (!(bt317.2.2.1 == a0_2) || (!(bt317.2.2.2.1 == a0_3))))) = true then (greenscreenlaw09_HeaderBack.j0 k a1 true a0_0 a0_1 a0_2 a0_3) else ((greenscreenref01_Same.f k bt317.2.2.2.2.1 l2).bind fun t326 => (if t326 = true then (if a0_0 > 8 then (greenscreenlaw09_HeaderBack.j0 k a1 (bt317.2.2.2.2.2 != 21) a0_0 a0_1 a0_2 a0_3) else (greenscreenlaw09_HeaderBack.j0 k a1 false a0_0 a0_1 a0_2 a0_3)) else (greenscreenlaw09_HeaderBack.j0 k a1 true a0_0 a0_1 a0_2 a0_3)))) else (greenscreenlaw09_HeaderBack.j0 k a1 true a0_0 a0_1 a0_2 a0_3)) else (if a0_0 > 8 then (greenscreenlaw09_HeaderBack.j0 k a1 (bt317.2.2.2.2.2 != 21) a0_0 a0_1 a0_2 a0_3) else (greenscreenlaw09_HeaderBack.j0 k a1 false a0_0 a0_1 a0_2 a0_3)))) = some r := H
      have A9 := Aside0.mk A90
      clear A90
      replace H := Option.bind_eq_some_iff.mp H
      obtain ⟨⟨t317, t318, t319, t320, t321, t324⟩, A100, H⟩ := H
      replace H : (if a0_0 ≤ 8 then (if t324 = 0 then (if (!(t317 == a0_0) || (!(t318 == a0_1) || (!(t319 == a0_2) || (!(t320 == a0_3))))) = true then (greenscreenlaw09_HeaderBack.j0 k a1 true a0_0 a0_1 a0_2 a0_3) else ((greenscreenref01_Same.f k t321 l2).bind fun t326 => (if t326 = true then (if a0_0 > 8 then (greenscreenlaw09_HeaderBack.j0 k a1 (t324 != 21) a0_0 a0_1 a0_2 a0_3) else (greenscreenlaw09_HeaderBack.j0 k a1 false a0_0 a0_1 a0_2 a0_3)) else (greenscreenlaw09_HeaderBack.j0 k a1 true a0_0 a0_1 a0_2 a0_3)))) else (greenscreenlaw09_HeaderBack.j0 k a1 true a0_0 a0_1 a0_2 a0_3)) else (if a0_0 > 8 then (greenscreenlaw09_HeaderBack.j0 k a1 (t324 != 21) a0_0 a0_1 a0_2 a0_3) else (greenscreenlaw09_HeaderBack.j0 k a1 false a0_0 a0_1 a0_2 a0_3))) = some r := H
      have A10 := Aside0.mk A100
      clear A100
      have HC11 := Aside0.mk H
      clear H
      go_enter Try.func4, Try.ntmps4
      go_upto_region 6 with (first | ((with_reducible refine gate_dst (N := 3) rfl ?_); (try (refine gate_guard (by rfl) ?_; dsimp only)); refine box_event ?hg (N := 3) ?hd (cs := #[.int .u8 a0_0, .int .u8 a0_1, .int .u8 a0_2, .int .u16 a0_3]) (t := 25) ?hr ?_; (case hd => rfl); (case hg => rfl); (case hr => first | (go_simp; done) | (go_simp; rfl)); intro gb312 hg w12 hbox hb; have n0_ := Aside0.mk (below_step (by repeat (first | (with_reducible first | exact HB.out | apply below_alloc | apply pw_below_drewN | apply below_drew1) | exact HB.out)) hb); have n1_ := Aside0.mk (hbox); have n2_ := Aside0.mk ((by rw [hg]; exact (below_size (by repeat (first | (with_reducible first | exact HB.out | apply below_alloc | apply pw_below_drewN | apply below_drew1) | exact HB.out))) : w.heap.size ≤ gb312)); have n3_ := Aside0.mk ((by rw [hg]; exact (below_size (by repeat (first | (with_reducible first | exact HB.out | apply below_alloc | apply pw_below_drewN | apply below_drew1) | exact HB.out))) : w.heap.size ≤ gb312)); clear HB; have HB := n0_; have BK312 := n1_; have GW312 := n2_; have GE312 := n3_; clear n0_ n1_ n2_ n3_; clear hb hbox hg) | ((with_reducible refine gate_callee (f := 7) rfl ?_); refine goesL_ (some 18) rfl rfl Try.func7 (by kernel_rfl) rfl #[] rfl (by (try simp only [List.map_toArray, List.map_cons, List.map_nil]); first | done | rfl | (simp only [List.length_drop, List.length_take]; rfl)) ?_; (with_reducible refine (greenscreenlaw09_alive.calls k  true rfl _ A4.out).mono ?_); rintro e w13 ⟨rfl, hb⟩; refine ⟨_, rfl, ?_⟩; have n0_ := Aside0.mk (blk_below (g := gb312) (o := .cells #[.int .u8 a0_0, .int .u8 a0_1, .int .u8 a0_2, .int .u16 a0_3] 25 (0, 0)) (by (with_reducible repeat (first | refine blk_drewN ?_ _ | refine blk_drew ?_ | refine blk_alloc ?_ _)); exact BK312.out) hb); have n1_ := Aside0.mk (below_step (by repeat (first | (with_reducible first | exact HB.out | apply below_alloc | apply pw_below_drewN | apply below_drew1 | refine below_set ?_ GE312.out) | exact HB.out)) hb); clear BK312; clear HB; have BK312 := n0_; have HB := n1_; clear n0_ n1_; (try clear hb); (try clear hb2); (try clear hk); (try clear hi); have hcz14_0 : w13.cell? ⟨gb312, 0, none⟩ = some (.int .u8 a0_0) := (blk_cell BK312.out 0).trans rfl; have hcz14_1 : w13.cell? ⟨gb312, 1, none⟩ = some (.int .u8 a0_1) := (blk_cell BK312.out 1).trans rfl; have hcz14_2 : w13.cell? ⟨gb312, 2, none⟩ = some (.int .u8 a0_2) := (blk_cell BK312.out 2).trans rfl; have hcz14_3 : w13.cell? ⟨gb312, 3, none⟩ = some (.int .u16 a0_3) := (blk_cell BK312.out 3).trans rfl; have hfz14_0 := blk_frozen BK312.out 0; have hfz14_1 := blk_frozen BK312.out 1; have hfz14_2 := blk_frozen BK312.out 2; have hfz14_3 := blk_frozen BK312.out 3) | ((with_reducible refine gate_callee (f := 17) rfl ?_); refine goesL_ (some 26) rfl rfl Try.func17 (by kernel_rfl) rfl #[.agg #[.int .u8 a0_0, .int .u8 a0_1, .int .u8 a0_2, .int .u16 a0_3], .slice A2 l2.length c2] rfl (by (try simp only [List.map_toArray, List.map_cons, List.map_nil]); first | done | rfl | (simp only [List.length_drop, List.length_take]; rfl)) ?_; (with_reducible refine (header_Write.calls a0_0 a0_1 a0_2 a0_3 _ _ l2 t314 _ ?side1 ?side2 A9.out).mono ?_); (case side1 => repeat (first | exact (Kd.C_below HR2.out HB.out) | (with_reducible refine Kd.C_alloc ?_ _) | (with_reducible refine Kd.C_drewN ?_ _) | (with_reducible refine Kd.C_drew ?_))); (case side2 => exact HC2.out); rintro e w15 ⟨v315, rfl, ho0, hb⟩; refine ⟨_, rfl, ?_⟩; have n0_ := Aside0.mk (Kd.R_lower ho0 (below_size (by repeat (first | (with_reducible first | exact HB.out | apply below_alloc | apply pw_below_drewN | apply below_drew1 | refine below_set ?_ GE312.out) | exact HB.out)))); have n1_ := Aside0.mk (blk_below (g := gb312) (o := .cells #[.int .u8 a0_0, .int .u8 a0_1, .int .u8 a0_2, .int .u16 a0_3] 25 (0, 0)) (by (with_reducible repeat (first | refine blk_drewN ?_ _ | refine blk_drew ?_ | refine blk_alloc ?_ _)); exact BK312.out) hb); have n2_ := Aside0.mk (below_step (by repeat (first | (with_reducible first | exact HB.out | apply below_alloc | apply pw_below_drewN | apply below_drew1 | refine below_set ?_ GE312.out) | exact HB.out)) hb); clear BK312; clear HB; have HO316 := n0_; have BK312 := n1_; have HB := n2_; clear n0_ n1_ n2_; (try clear hb); (try clear hb2); (try clear hk); (try clear hi); (try clear ho0); obtain ⟨Ao16, co16, eo16⟩ := Kd.R_slice HO316.out; subst eo16) | ((with_reducible refine gate_callee (f := 8) rfl ?_); refine goesL_ (some 27) rfl rfl Try.func8 (by kernel_rfl) rfl #[.slice Ao16 t314.length co16] rfl (by (try simp only [List.map_toArray, List.map_cons, List.map_nil]); first | done | rfl | (simp only [List.length_drop, List.length_take]; rfl)) ?_; (with_reducible refine (header_Parse.calls _ _ t314 t317 t318 t319 t320 t321 t324 _ ?side1 ?side2 A10.out).mono ?_); (case side1 => repeat (first | exact (Kd.R_reads' HO316.out).2.2 | (with_reducible refine Kd.C_alloc ?_ _) | (with_reducible refine Kd.C_drewN ?_ _) | (with_reducible refine Kd.C_drew ?_))); (case side2 => exact (Kd.R_reads' HO316.out).2.1); rintro e w17 ⟨v322, rfl, ho0, hb⟩; refine ⟨_, rfl, ?_⟩; have n0_ := Aside0.mk (Kd.R_elder' (by (with_reducible repeat (first | apply Kd.R_alloc | apply Kd.R_drewN | apply Kd.R_drew)); exact HO316.out) (Kd.R_base ho0) hb); have n1_ := Aside0.mk (Kd.R_lower (Kd.R_new' ho0 (Kd.R_lt (by (with_reducible repeat (first | apply Kd.R_alloc | apply Kd.R_drewN | apply Kd.R_drew)); exact HO316.out))) (below_size (by repeat (first | (with_reducible first | exact HB.out | apply below_alloc | apply pw_below_drewN | apply below_drew1 | refine below_set ?_ GE312.out) | exact HB.out)))); have n2_ := Aside0.mk (blk_below (g := gb312) (o := .cells #[.int .u8 a0_0, .int .u8 a0_1, .int .u8 a0_2, .int .u16 a0_3] 25 (0, 0)) (by (with_reducible repeat (first | refine blk_drewN ?_ _ | refine blk_drew ?_ | refine blk_alloc ?_ _)); exact BK312.out) hb); have n3_ := Aside0.mk (below_step (by repeat (first | (with_reducible first | exact HB.out | apply below_alloc | apply pw_below_drewN | apply below_drew1 | refine below_set ?_ GE312.out) | exact HB.out)) hb); clear HO316; clear BK312; clear HB; have HO316 := n0_; have HO323 := n1_; have BK312 := n2_; have HB := n3_; clear n0_ n1_ n2_ n3_; (try clear hb); (try clear hb2); (try clear hk); (try clear hi); (try clear ho0)) | ((with_reducible refine gate_dst (N := 7) rfl ?_); (try (refine gate_guard (by rfl) ?_; dsimp only)); refine box_event ?hg (N := 7) ?hd (cs := #[.int .u8 0, .int .u8 0, .int .u8 0, .int .u16 0]) (t := 25) ?hr ?_; (case hd => rfl); (case hg => rfl); (case hr => first | (go_simp; done) | (go_simp; rfl)); intro gb325 hg w18 hbox hb; have n0_ := Aside0.mk (Kd.R_below (by (with_reducible repeat (first | apply Kd.R_alloc | apply Kd.R_drewN | apply Kd.R_drew)); exact HO316.out) hb); have n1_ := Aside0.mk (Kd.R_below (by (with_reducible repeat (first | apply Kd.R_alloc | apply Kd.R_drewN | apply Kd.R_drew)); exact HO323.out) hb); have n2_ := Aside0.mk (blk_below (g := gb312) (o := .cells #[.int .u8 a0_0, .int .u8 a0_1, .int .u8 a0_2, .int .u16 a0_3] 25 (0, 0)) (by (with_reducible repeat (first | refine blk_drewN ?_ _ | refine blk_drew ?_ | refine blk_alloc ?_ _)); exact BK312.out) hb); have n3_ := Aside0.mk (below_step (by repeat (first | (with_reducible first | exact HB.out | apply below_alloc | apply pw_below_drewN | apply below_drew1 | refine below_set ?_ GE312.out) | exact HB.out)) hb); have n4_ := Aside0.mk (hbox); have n5_ := Aside0.mk ((by rw [hg]; exact (below_size (by repeat (first | (with_reducible first | exact HB.out | apply below_alloc | apply pw_below_drewN | apply below_drew1 | refine below_set ?_ GE312.out) | exact HB.out))) : w.heap.size ≤ gb325)); have n6_ := Aside0.mk ((by rw [hg]; exact (below_size (by repeat (first | (with_reducible first | exact HB.out | apply below_alloc | apply pw_below_drewN | apply below_drew1 | refine below_set ?_ GE312.out) | exact HB.out))) : w.heap.size ≤ gb325)); have n7_ := Aside0.mk ((by rw [hg]; exact Nat.ne_of_lt (blk_lt (g := gb312) (o := .cells #[.int .u8 a0_0, .int .u8 a0_1, .int .u8 a0_2, .int .u16 a0_3] 25 (0, 0)) (by (with_reducible repeat (first | refine blk_drewN ?_ _ | refine blk_drew ?_ | refine blk_alloc ?_ _)); exact BK312.out)) : gb312 ≠ gb325)); have n8_ := Aside0.mk ((by rw [hg]; exact Nat.ne_of_gt (blk_lt (g := gb312) (o := .cells #[.int .u8 a0_0, .int .u8 a0_1, .int .u8 a0_2, .int .u16 a0_3] 25 (0, 0)) (by (with_reducible repeat (first | refine blk_drewN ?_ _ | refine blk_drew ?_ | refine blk_alloc ?_ _)); exact BK312.out)) : gb325 ≠ gb312)); clear HO316; clear HO323; clear BK312; clear HB; have HO316 := n0_; have HO323 := n1_; have BK312 := n2_; have HB := n3_; have BK325 := n4_; have GW325 := n5_; have GE325 := n6_; have NB312_325 := n7_; have NB325_312 := n8_; clear n0_ n1_ n2_ n3_ n4_ n5_ n6_ n7_ n8_; clear hb hbox hg; have hnb19 := NB325_312.out; have hnc19 := NB312_325.out; have hcz20_0 : w18.cell? ⟨gb325, 0, none⟩ = some (.int .u8 0) := (blk_cell BK325.out 0).trans rfl; have hcz20_1 : w18.cell? ⟨gb325, 1, none⟩ = some (.int .u8 0) := (blk_cell BK325.out 1).trans rfl; have hcz20_2 : w18.cell? ⟨gb325, 2, none⟩ = some (.int .u8 0) := (blk_cell BK325.out 2).trans rfl; have hcz20_3 : w18.cell? ⟨gb325, 3, none⟩ = some (.int .u16 0) := (blk_cell BK325.out 3).trans rfl; have hfz20_0 := blk_frozen BK325.out 0; have hfz20_1 := blk_frozen BK325.out 1; have hfz20_2 := blk_frozen BK325.out 2; have hfz20_3 := blk_frozen BK325.out 3))
      (try simp only [Act.put, List.setIfInBounds_toArray, List.set_cons_zero, List.set_cons_succ])
      go_cut [57] (fun v57 wc => ∃ (kq : Nat) (x57_10 : Bool), v57 = .bool x57_10 ∧ Aside0 (greenscreenlaw09_HeaderBack.j0 kq a1 x57_10 a0_0 a0_1 a0_2 a0_3 = some r) ∧ Aside0 (kq ≤ k) ∧ Aside0 (wc.heap[gb312]? = some (.cells #[.int .u8 a0_0, .int .u8 a0_1, .int .u8 a0_2, .int .u16 a0_3] 25 (0, 0))) ∧ Aside0 (wc.heap[gb325]? = some (.cells #[.int .u8 t317, .int .u8 t318, .int .u8 t319, .int .u16 t320] 25 (0, 0))) ∧ Aside0 (Below w.heap.size w wc))
      case first =>
        have H := HC11.out
        clear HC11
        by_cases c21 : a0_0 ≤ 8
        · rw [if_pos c21] at H
          have c21b0 : decide (a0_0 ≤ 8) = true := decide_eq_true c21
          clear c21
          (first | rw [c21b0] | (simp only [i64_w, i32_w]; rw [c21b0]) | skip)
          by_cases c22 : t324 = 0
          · rw [if_pos c22] at H
            have c22b0 : (t324 == 0) = true := beq_iff_eq.mpr c22
            have c22b1 : (t324 != 0) = false := bne_eq_false_iff_eq.mpr c22
            clear c22
            by_cases c23 : (!(t317 == a0_0) || (!(t318 == a0_1) || (!(t319 == a0_2) || (!(t320 == a0_3))))) = true
            · rw [if_pos c23] at H
              have c23b0 : (!(t317 == a0_0) || (!(t318 == a0_1) || (!(t319 == a0_2) || (!(t320 == a0_3))))) = true := c23
              clear c23
              have H' := Aside0.mk H
              clear H
              have hnb24 := NB312_325.out
              have hnc24 := NB325_312.out
              have hcz25_0 : w18.cell? ⟨gb312, 0, none⟩ = some (.int .u8 a0_0) := (blk_cell BK312.out 0).trans rfl
              have hcz25_1 : w18.cell? ⟨gb312, 1, none⟩ = some (.int .u8 a0_1) := (blk_cell BK312.out 1).trans rfl
              have hcz25_2 : w18.cell? ⟨gb312, 2, none⟩ = some (.int .u8 a0_2) := (blk_cell BK312.out 2).trans rfl
              have hcz25_3 : w18.cell? ⟨gb312, 3, none⟩ = some (.int .u16 a0_3) := (blk_cell BK312.out 3).trans rfl
              have hfz25_0 := blk_frozen BK312.out 0
              have hfz25_1 := blk_frozen BK312.out 1
              have hfz25_2 := blk_frozen BK312.out 2
              have hfz25_3 := blk_frozen BK312.out 3
              have hcz26_0 : w18.cell? ⟨gb325, 0, none⟩ = some (.int .u8 0) := (blk_cell BK325.out 0).trans rfl
              have hcz26_1 : w18.cell? ⟨gb325, 1, none⟩ = some (.int .u8 0) := (blk_cell BK325.out 1).trans rfl
              have hcz26_2 : w18.cell? ⟨gb325, 2, none⟩ = some (.int .u8 0) := (blk_cell BK325.out 2).trans rfl
              have hcz26_3 : w18.cell? ⟨gb325, 3, none⟩ = some (.int .u16 0) := (blk_cell BK325.out 3).trans rfl
              have hfz26_0 := blk_frozen BK325.out 0
              have hfz26_1 := blk_frozen BK325.out 1
              have hfz26_2 := blk_frozen BK325.out 2
              have hfz26_3 := blk_frozen BK325.out 3
              go_wp2
              go_meet
              case rel => exact ⟨_, (true), (by first | rfl | (simp; done) | (simp [*]; done)), H', ⟨by first | omega | exact Nat.le_refl _⟩, ⟨by (with_reducible repeat (first | refine blk_drewN ?_ _ | refine blk_drew ?_ | refine blk_alloc ?_ _)); refine blk_far ?_ NB312_325.out _; (with_reducible repeat (first | refine blk_drewN ?_ _ | refine blk_drew ?_ | refine blk_alloc ?_ _)); refine blk_far ?_ NB312_325.out _; (with_reducible repeat (first | refine blk_drewN ?_ _ | refine blk_drew ?_ | refine blk_alloc ?_ _)); refine blk_far ?_ NB312_325.out _; (with_reducible repeat (first | refine blk_drewN ?_ _ | refine blk_drew ?_ | refine blk_alloc ?_ _)); refine blk_far ?_ NB312_325.out _; (with_reducible repeat (first | refine blk_drewN ?_ _ | refine blk_drew ?_ | refine blk_alloc ?_ _)); exact BK312.out⟩, ⟨by (with_reducible repeat (first | refine blk_drewN ?_ _ | refine blk_drew ?_ | refine blk_alloc ?_ _)); refine blk_put (cs := #[.int .u8 t317, .int .u8 t318, .int .u8 t319, .int .u16 0]) ?_ 3 _ rfl; (with_reducible repeat (first | refine blk_drewN ?_ _ | refine blk_drew ?_ | refine blk_alloc ?_ _)); refine blk_put (cs := #[.int .u8 t317, .int .u8 t318, .int .u8 0, .int .u16 0]) ?_ 2 _ rfl; (with_reducible repeat (first | refine blk_drewN ?_ _ | refine blk_drew ?_ | refine blk_alloc ?_ _)); refine blk_put (cs := #[.int .u8 t317, .int .u8 0, .int .u8 0, .int .u16 0]) ?_ 1 _ rfl; (with_reducible repeat (first | refine blk_drewN ?_ _ | refine blk_drew ?_ | refine blk_alloc ?_ _)); refine blk_put (cs := #[.int .u8 0, .int .u8 0, .int .u8 0, .int .u16 0]) ?_ 0 _ rfl; (with_reducible repeat (first | refine blk_drewN ?_ _ | refine blk_drew ?_ | refine blk_alloc ?_ _)); exact BK325.out⟩, ⟨by repeat (first | (with_reducible first | exact HB.out | apply below_alloc | apply pw_below_drewN | apply below_drew1 | refine below_set ?_ GE312.out | refine below_set ?_ GE325.out) | exact HB.out)⟩⟩
            · rw [if_neg c23] at H
              have c23b0 : (!(t317 == a0_0) || (!(t318 == a0_1) || (!(t319 == a0_2) || (!(t320 == a0_3))))) = false := by simpa using c23
              clear c23
              replace H := Option.bind_eq_some_iff.mp H
              obtain ⟨t326, A270, H⟩ := H
              replace H : (if t326 = true then (if a0_0 > 8 then (greenscreenlaw09_HeaderBack.j0 k a1 (t324 != 21) a0_0 a0_1 a0_2 a0_3) else (greenscreenlaw09_HeaderBack.j0 k a1 false a0_0 a0_1 a0_2 a0_3)) else (greenscreenlaw09_HeaderBack.j0 k a1 true a0_0 a0_1 a0_2 a0_3)) = some r := H
              have A27 := Aside0.mk A270
              clear A270
              by_cases c28 : t326 = true
              · subst c28
                have H1 : (if a0_0 > 8 then (greenscreenlaw09_HeaderBack.j0 k a1 (t324 != 21) a0_0 a0_1 a0_2 a0_3) else (greenscreenlaw09_HeaderBack.j0 k a1 false a0_0 a0_1 a0_2 a0_3)) = some r := by rw [if_pos rfl] at H; exact H
                clear H
                have H := H1
                clear H1
                by_cases c29 : a0_0 > 8
                · rw [if_pos c29] at H
                  have c29b0 : decide (8 < a0_0) = true := decide_eq_true c29
                  clear c29
                  have H' := Aside0.mk H
                  clear H
                  have hnb30 := NB312_325.out
                  have hnc30 := NB325_312.out
                  have hcz31_0 : w18.cell? ⟨gb312, 0, none⟩ = some (.int .u8 a0_0) := (blk_cell BK312.out 0).trans rfl
                  have hcz31_1 : w18.cell? ⟨gb312, 1, none⟩ = some (.int .u8 a0_1) := (blk_cell BK312.out 1).trans rfl
                  have hcz31_2 : w18.cell? ⟨gb312, 2, none⟩ = some (.int .u8 a0_2) := (blk_cell BK312.out 2).trans rfl
                  have hcz31_3 : w18.cell? ⟨gb312, 3, none⟩ = some (.int .u16 a0_3) := (blk_cell BK312.out 3).trans rfl
                  have hfz31_0 := blk_frozen BK312.out 0
                  have hfz31_1 := blk_frozen BK312.out 1
                  have hfz31_2 := blk_frozen BK312.out 2
                  have hfz31_3 := blk_frozen BK312.out 3
                  have hcz32_0 : w18.cell? ⟨gb325, 0, none⟩ = some (.int .u8 0) := (blk_cell BK325.out 0).trans rfl
                  have hcz32_1 : w18.cell? ⟨gb325, 1, none⟩ = some (.int .u8 0) := (blk_cell BK325.out 1).trans rfl
                  have hcz32_2 : w18.cell? ⟨gb325, 2, none⟩ = some (.int .u8 0) := (blk_cell BK325.out 2).trans rfl
                  have hcz32_3 : w18.cell? ⟨gb325, 3, none⟩ = some (.int .u16 0) := (blk_cell BK325.out 3).trans rfl
                  have hfz32_0 := blk_frozen BK325.out 0
                  have hfz32_1 := blk_frozen BK325.out 1
                  have hfz32_2 := blk_frozen BK325.out 2
                  have hfz32_3 := blk_frozen BK325.out 3
                  obtain ⟨Ao33, co33, eo33⟩ := Kd.R_slice HO323.out
                  subst eo33
                  go_wp2_with (first | (go_at_call 14; (with_reducible refine (greenscreenref01_Same.calls k _ _ t321 _ _ l2 true _ ?side1 ?side2 ?side3 ?side4 A27.out).mono ?_); (case side1 => refine (Kd.R_reads' (e := 5) (base := w.heap.size) (ok := fun k_ => (True ∧ some k_ ≠ (.slice Ao16 t314.length co16 : Value).ownBlock)) (n := t321.length) (c := co33) ?_).2.2; exact (by (with_reducible repeat (first | apply Kd.R_alloc | apply Kd.R_drewN | apply Kd.R_drew)); exact (Kd.R_mono (Kd.R_far (p := ⟨gb325, 3, none⟩) (Kd.R_far (p := ⟨gb325, 2, none⟩) (Kd.R_far (p := ⟨gb325, 1, none⟩) (Kd.R_far (p := ⟨gb325, 0, none⟩) (Kd.R_types HO323.out BK325.out (by decide)) (fun _ hk => hk.2) (.int .u8 t317)) (fun _ hk => hk.2) (.int .u8 t318)) (fun _ hk => hk.2) (.int .u8 t319)) (fun _ hk => hk.2) (.int .u16 t320)) (fun _ h_ => h_.1)))); (case side2 => exact (Kd.R_reads' HO323.out).2.1); (case side3 => exact Kd.C_below HR2.out (by repeat (first | (with_reducible first | exact HB.out | apply below_alloc | apply pw_below_drewN | apply below_drew1 | refine below_set ?_ GE312.out | refine below_set ?_ GE325.out) | exact HB.out))); (case side4 => exact HC2.out); rintro e w' ⟨rfl, ⟨nd, rfl⟩⟩))
                  go_meet
                  case rel => exact ⟨_, ((t324 != 21)), (by first | rfl | (simp; done) | (simp [*]; done)), H', ⟨by first | omega | exact Nat.le_refl _⟩, ⟨by (with_reducible repeat (first | refine blk_drewN ?_ _ | refine blk_drew ?_ | refine blk_alloc ?_ _)); refine blk_far ?_ NB312_325.out _; (with_reducible repeat (first | refine blk_drewN ?_ _ | refine blk_drew ?_ | refine blk_alloc ?_ _)); refine blk_far ?_ NB312_325.out _; (with_reducible repeat (first | refine blk_drewN ?_ _ | refine blk_drew ?_ | refine blk_alloc ?_ _)); refine blk_far ?_ NB312_325.out _; (with_reducible repeat (first | refine blk_drewN ?_ _ | refine blk_drew ?_ | refine blk_alloc ?_ _)); refine blk_far ?_ NB312_325.out _; (with_reducible repeat (first | refine blk_drewN ?_ _ | refine blk_drew ?_ | refine blk_alloc ?_ _)); exact BK312.out⟩, ⟨by (with_reducible repeat (first | refine blk_drewN ?_ _ | refine blk_drew ?_ | refine blk_alloc ?_ _)); refine blk_put (cs := #[.int .u8 t317, .int .u8 t318, .int .u8 t319, .int .u16 0]) ?_ 3 _ rfl; (with_reducible repeat (first | refine blk_drewN ?_ _ | refine blk_drew ?_ | refine blk_alloc ?_ _)); refine blk_put (cs := #[.int .u8 t317, .int .u8 t318, .int .u8 0, .int .u16 0]) ?_ 2 _ rfl; (with_reducible repeat (first | refine blk_drewN ?_ _ | refine blk_drew ?_ | refine blk_alloc ?_ _)); refine blk_put (cs := #[.int .u8 t317, .int .u8 0, .int .u8 0, .int .u16 0]) ?_ 1 _ rfl; (with_reducible repeat (first | refine blk_drewN ?_ _ | refine blk_drew ?_ | refine blk_alloc ?_ _)); refine blk_put (cs := #[.int .u8 0, .int .u8 0, .int .u8 0, .int .u16 0]) ?_ 0 _ rfl; (with_reducible repeat (first | refine blk_drewN ?_ _ | refine blk_drew ?_ | refine blk_alloc ?_ _)); exact BK325.out⟩, ⟨by repeat (first | (with_reducible first | exact HB.out | apply below_alloc | apply pw_below_drewN | apply below_drew1 | refine below_set ?_ GE312.out | refine below_set ?_ GE325.out) | exact HB.out)⟩⟩
                · rw [if_neg c29] at H
                  have c29b0 : decide (8 < a0_0) = false := decide_eq_false c29
                  clear c29
                  have H' := Aside0.mk H
                  clear H
                  have hnb34 := NB312_325.out
                  have hnc34 := NB325_312.out
                  have hcz35_0 : w18.cell? ⟨gb312, 0, none⟩ = some (.int .u8 a0_0) := (blk_cell BK312.out 0).trans rfl
                  have hcz35_1 : w18.cell? ⟨gb312, 1, none⟩ = some (.int .u8 a0_1) := (blk_cell BK312.out 1).trans rfl
                  have hcz35_2 : w18.cell? ⟨gb312, 2, none⟩ = some (.int .u8 a0_2) := (blk_cell BK312.out 2).trans rfl
                  have hcz35_3 : w18.cell? ⟨gb312, 3, none⟩ = some (.int .u16 a0_3) := (blk_cell BK312.out 3).trans rfl
                  have hfz35_0 := blk_frozen BK312.out 0
                  have hfz35_1 := blk_frozen BK312.out 1
                  have hfz35_2 := blk_frozen BK312.out 2
                  have hfz35_3 := blk_frozen BK312.out 3
                  have hcz36_0 : w18.cell? ⟨gb325, 0, none⟩ = some (.int .u8 0) := (blk_cell BK325.out 0).trans rfl
                  have hcz36_1 : w18.cell? ⟨gb325, 1, none⟩ = some (.int .u8 0) := (blk_cell BK325.out 1).trans rfl
                  have hcz36_2 : w18.cell? ⟨gb325, 2, none⟩ = some (.int .u8 0) := (blk_cell BK325.out 2).trans rfl
                  have hcz36_3 : w18.cell? ⟨gb325, 3, none⟩ = some (.int .u16 0) := (blk_cell BK325.out 3).trans rfl
                  have hfz36_0 := blk_frozen BK325.out 0
                  have hfz36_1 := blk_frozen BK325.out 1
                  have hfz36_2 := blk_frozen BK325.out 2
                  have hfz36_3 := blk_frozen BK325.out 3
                  obtain ⟨Ao37, co37, eo37⟩ := Kd.R_slice HO323.out
                  subst eo37
                  go_wp2_with (first | (go_at_call 14; (with_reducible refine (greenscreenref01_Same.calls k _ _ t321 _ _ l2 true _ ?side1 ?side2 ?side3 ?side4 A27.out).mono ?_); (case side1 => refine (Kd.R_reads' (e := 5) (base := w.heap.size) (ok := fun k_ => (True ∧ some k_ ≠ (.slice Ao16 t314.length co16 : Value).ownBlock)) (n := t321.length) (c := co37) ?_).2.2; exact (by (with_reducible repeat (first | apply Kd.R_alloc | apply Kd.R_drewN | apply Kd.R_drew)); exact (Kd.R_mono (Kd.R_far (p := ⟨gb325, 3, none⟩) (Kd.R_far (p := ⟨gb325, 2, none⟩) (Kd.R_far (p := ⟨gb325, 1, none⟩) (Kd.R_far (p := ⟨gb325, 0, none⟩) (Kd.R_types HO323.out BK325.out (by decide)) (fun _ hk => hk.2) (.int .u8 t317)) (fun _ hk => hk.2) (.int .u8 t318)) (fun _ hk => hk.2) (.int .u8 t319)) (fun _ hk => hk.2) (.int .u16 t320)) (fun _ h_ => h_.1)))); (case side2 => exact (Kd.R_reads' HO323.out).2.1); (case side3 => exact Kd.C_below HR2.out (by repeat (first | (with_reducible first | exact HB.out | apply below_alloc | apply pw_below_drewN | apply below_drew1 | refine below_set ?_ GE312.out | refine below_set ?_ GE325.out) | exact HB.out))); (case side4 => exact HC2.out); rintro e w' ⟨rfl, ⟨nd, rfl⟩⟩))
                  go_meet
                  case rel => exact ⟨_, (false), (by first | rfl | (simp; done) | (simp [*]; done)), H', ⟨by first | omega | exact Nat.le_refl _⟩, ⟨by (with_reducible repeat (first | refine blk_drewN ?_ _ | refine blk_drew ?_ | refine blk_alloc ?_ _)); refine blk_far ?_ NB312_325.out _; (with_reducible repeat (first | refine blk_drewN ?_ _ | refine blk_drew ?_ | refine blk_alloc ?_ _)); refine blk_far ?_ NB312_325.out _; (with_reducible repeat (first | refine blk_drewN ?_ _ | refine blk_drew ?_ | refine blk_alloc ?_ _)); refine blk_far ?_ NB312_325.out _; (with_reducible repeat (first | refine blk_drewN ?_ _ | refine blk_drew ?_ | refine blk_alloc ?_ _)); refine blk_far ?_ NB312_325.out _; (with_reducible repeat (first | refine blk_drewN ?_ _ | refine blk_drew ?_ | refine blk_alloc ?_ _)); exact BK312.out⟩, ⟨by (with_reducible repeat (first | refine blk_drewN ?_ _ | refine blk_drew ?_ | refine blk_alloc ?_ _)); refine blk_put (cs := #[.int .u8 t317, .int .u8 t318, .int .u8 t319, .int .u16 0]) ?_ 3 _ rfl; (with_reducible repeat (first | refine blk_drewN ?_ _ | refine blk_drew ?_ | refine blk_alloc ?_ _)); refine blk_put (cs := #[.int .u8 t317, .int .u8 t318, .int .u8 0, .int .u16 0]) ?_ 2 _ rfl; (with_reducible repeat (first | refine blk_drewN ?_ _ | refine blk_drew ?_ | refine blk_alloc ?_ _)); refine blk_put (cs := #[.int .u8 t317, .int .u8 0, .int .u8 0, .int .u16 0]) ?_ 1 _ rfl; (with_reducible repeat (first | refine blk_drewN ?_ _ | refine blk_drew ?_ | refine blk_alloc ?_ _)); refine blk_put (cs := #[.int .u8 0, .int .u8 0, .int .u8 0, .int .u16 0]) ?_ 0 _ rfl; (with_reducible repeat (first | refine blk_drewN ?_ _ | refine blk_drew ?_ | refine blk_alloc ?_ _)); exact BK325.out⟩, ⟨by repeat (first | (with_reducible first | exact HB.out | apply below_alloc | apply pw_below_drewN | apply below_drew1 | refine below_set ?_ GE312.out | refine below_set ?_ GE325.out) | exact HB.out)⟩⟩
              · replace c28 := Bool.eq_false_iff.mpr c28
                subst c28
                have H1 : (greenscreenlaw09_HeaderBack.j0 k a1 true a0_0 a0_1 a0_2 a0_3) = some r := by rw [if_neg (show ¬ (false = true) by decide)] at H; exact H
                clear H
                have H := H1
                clear H1
                have H' := Aside0.mk H
                clear H
                have hnb38 := NB312_325.out
                have hnc38 := NB325_312.out
                have hcz39_0 : w18.cell? ⟨gb312, 0, none⟩ = some (.int .u8 a0_0) := (blk_cell BK312.out 0).trans rfl
                have hcz39_1 : w18.cell? ⟨gb312, 1, none⟩ = some (.int .u8 a0_1) := (blk_cell BK312.out 1).trans rfl
                have hcz39_2 : w18.cell? ⟨gb312, 2, none⟩ = some (.int .u8 a0_2) := (blk_cell BK312.out 2).trans rfl
                have hcz39_3 : w18.cell? ⟨gb312, 3, none⟩ = some (.int .u16 a0_3) := (blk_cell BK312.out 3).trans rfl
                have hfz39_0 := blk_frozen BK312.out 0
                have hfz39_1 := blk_frozen BK312.out 1
                have hfz39_2 := blk_frozen BK312.out 2
                have hfz39_3 := blk_frozen BK312.out 3
                have hcz40_0 : w18.cell? ⟨gb325, 0, none⟩ = some (.int .u8 0) := (blk_cell BK325.out 0).trans rfl
                have hcz40_1 : w18.cell? ⟨gb325, 1, none⟩ = some (.int .u8 0) := (blk_cell BK325.out 1).trans rfl
                have hcz40_2 : w18.cell? ⟨gb325, 2, none⟩ = some (.int .u8 0) := (blk_cell BK325.out 2).trans rfl
                have hcz40_3 : w18.cell? ⟨gb325, 3, none⟩ = some (.int .u16 0) := (blk_cell BK325.out 3).trans rfl
                have hfz40_0 := blk_frozen BK325.out 0
                have hfz40_1 := blk_frozen BK325.out 1
                have hfz40_2 := blk_frozen BK325.out 2
                have hfz40_3 := blk_frozen BK325.out 3
                obtain ⟨Ao41, co41, eo41⟩ := Kd.R_slice HO323.out
                subst eo41
                go_wp2_with (first | (go_at_call 14; (with_reducible refine (greenscreenref01_Same.calls k _ _ t321 _ _ l2 false _ ?side1 ?side2 ?side3 ?side4 A27.out).mono ?_); (case side1 => refine (Kd.R_reads' (e := 5) (base := w.heap.size) (ok := fun k_ => (True ∧ some k_ ≠ (.slice Ao16 t314.length co16 : Value).ownBlock)) (n := t321.length) (c := co41) ?_).2.2; exact (by (with_reducible repeat (first | apply Kd.R_alloc | apply Kd.R_drewN | apply Kd.R_drew)); exact (Kd.R_mono (Kd.R_far (p := ⟨gb325, 3, none⟩) (Kd.R_far (p := ⟨gb325, 2, none⟩) (Kd.R_far (p := ⟨gb325, 1, none⟩) (Kd.R_far (p := ⟨gb325, 0, none⟩) (Kd.R_types HO323.out BK325.out (by decide)) (fun _ hk => hk.2) (.int .u8 t317)) (fun _ hk => hk.2) (.int .u8 t318)) (fun _ hk => hk.2) (.int .u8 t319)) (fun _ hk => hk.2) (.int .u16 t320)) (fun _ h_ => h_.1)))); (case side2 => exact (Kd.R_reads' HO323.out).2.1); (case side3 => exact Kd.C_below HR2.out (by repeat (first | (with_reducible first | exact HB.out | apply below_alloc | apply pw_below_drewN | apply below_drew1 | refine below_set ?_ GE312.out | refine below_set ?_ GE325.out) | exact HB.out))); (case side4 => exact HC2.out); rintro e w' ⟨rfl, ⟨nd, rfl⟩⟩))
                go_meet
                case rel => exact ⟨_, (true), (by first | rfl | (simp; done) | (simp [*]; done)), H', ⟨by first | omega | exact Nat.le_refl _⟩, ⟨by (with_reducible repeat (first | refine blk_drewN ?_ _ | refine blk_drew ?_ | refine blk_alloc ?_ _)); refine blk_far ?_ NB312_325.out _; (with_reducible repeat (first | refine blk_drewN ?_ _ | refine blk_drew ?_ | refine blk_alloc ?_ _)); refine blk_far ?_ NB312_325.out _; (with_reducible repeat (first | refine blk_drewN ?_ _ | refine blk_drew ?_ | refine blk_alloc ?_ _)); refine blk_far ?_ NB312_325.out _; (with_reducible repeat (first | refine blk_drewN ?_ _ | refine blk_drew ?_ | refine blk_alloc ?_ _)); refine blk_far ?_ NB312_325.out _; (with_reducible repeat (first | refine blk_drewN ?_ _ | refine blk_drew ?_ | refine blk_alloc ?_ _)); exact BK312.out⟩, ⟨by (with_reducible repeat (first | refine blk_drewN ?_ _ | refine blk_drew ?_ | refine blk_alloc ?_ _)); refine blk_put (cs := #[.int .u8 t317, .int .u8 t318, .int .u8 t319, .int .u16 0]) ?_ 3 _ rfl; (with_reducible repeat (first | refine blk_drewN ?_ _ | refine blk_drew ?_ | refine blk_alloc ?_ _)); refine blk_put (cs := #[.int .u8 t317, .int .u8 t318, .int .u8 0, .int .u16 0]) ?_ 2 _ rfl; (with_reducible repeat (first | refine blk_drewN ?_ _ | refine blk_drew ?_ | refine blk_alloc ?_ _)); refine blk_put (cs := #[.int .u8 t317, .int .u8 0, .int .u8 0, .int .u16 0]) ?_ 1 _ rfl; (with_reducible repeat (first | refine blk_drewN ?_ _ | refine blk_drew ?_ | refine blk_alloc ?_ _)); refine blk_put (cs := #[.int .u8 0, .int .u8 0, .int .u8 0, .int .u16 0]) ?_ 0 _ rfl; (with_reducible repeat (first | refine blk_drewN ?_ _ | refine blk_drew ?_ | refine blk_alloc ?_ _)); exact BK325.out⟩, ⟨by repeat (first | (with_reducible first | exact HB.out | apply below_alloc | apply pw_below_drewN | apply below_drew1 | refine below_set ?_ GE312.out | refine below_set ?_ GE325.out) | exact HB.out)⟩⟩
          · rw [if_neg c22] at H
            have c22b0 : (t324 == 0) = false := beq_eq_false_iff_ne.mpr c22
            have c22b1 : (t324 != 0) = true := bne_iff_ne.mpr c22
            have H' := Aside0.mk H
            clear H
            have hnb42 := NB312_325.out
            have hnc42 := NB325_312.out
            have hcz43_0 : w18.cell? ⟨gb312, 0, none⟩ = some (.int .u8 a0_0) := (blk_cell BK312.out 0).trans rfl
            have hcz43_1 : w18.cell? ⟨gb312, 1, none⟩ = some (.int .u8 a0_1) := (blk_cell BK312.out 1).trans rfl
            have hcz43_2 : w18.cell? ⟨gb312, 2, none⟩ = some (.int .u8 a0_2) := (blk_cell BK312.out 2).trans rfl
            have hcz43_3 : w18.cell? ⟨gb312, 3, none⟩ = some (.int .u16 a0_3) := (blk_cell BK312.out 3).trans rfl
            have hfz43_0 := blk_frozen BK312.out 0
            have hfz43_1 := blk_frozen BK312.out 1
            have hfz43_2 := blk_frozen BK312.out 2
            have hfz43_3 := blk_frozen BK312.out 3
            go_wp2
            go_meet
            case rel => exact ⟨_, (true), (by first | rfl | (simp; done) | (simp [*]; done)), H', ⟨by first | omega | exact Nat.le_refl _⟩, ⟨by (with_reducible repeat (first | refine blk_drewN ?_ _ | refine blk_drew ?_ | refine blk_alloc ?_ _)); refine blk_far ?_ NB312_325.out _; (with_reducible repeat (first | refine blk_drewN ?_ _ | refine blk_drew ?_ | refine blk_alloc ?_ _)); refine blk_far ?_ NB312_325.out _; (with_reducible repeat (first | refine blk_drewN ?_ _ | refine blk_drew ?_ | refine blk_alloc ?_ _)); refine blk_far ?_ NB312_325.out _; (with_reducible repeat (first | refine blk_drewN ?_ _ | refine blk_drew ?_ | refine blk_alloc ?_ _)); refine blk_far ?_ NB312_325.out _; (with_reducible repeat (first | refine blk_drewN ?_ _ | refine blk_drew ?_ | refine blk_alloc ?_ _)); exact BK312.out⟩, ⟨by (with_reducible repeat (first | refine blk_drewN ?_ _ | refine blk_drew ?_ | refine blk_alloc ?_ _)); refine blk_put (cs := #[.int .u8 t317, .int .u8 t318, .int .u8 t319, .int .u16 0]) ?_ 3 _ rfl; (with_reducible repeat (first | refine blk_drewN ?_ _ | refine blk_drew ?_ | refine blk_alloc ?_ _)); refine blk_put (cs := #[.int .u8 t317, .int .u8 t318, .int .u8 0, .int .u16 0]) ?_ 2 _ rfl; (with_reducible repeat (first | refine blk_drewN ?_ _ | refine blk_drew ?_ | refine blk_alloc ?_ _)); refine blk_put (cs := #[.int .u8 t317, .int .u8 0, .int .u8 0, .int .u16 0]) ?_ 1 _ rfl; (with_reducible repeat (first | refine blk_drewN ?_ _ | refine blk_drew ?_ | refine blk_alloc ?_ _)); refine blk_put (cs := #[.int .u8 0, .int .u8 0, .int .u8 0, .int .u16 0]) ?_ 0 _ rfl; (with_reducible repeat (first | refine blk_drewN ?_ _ | refine blk_drew ?_ | refine blk_alloc ?_ _)); exact BK325.out⟩, ⟨by repeat (first | (with_reducible first | exact HB.out | apply below_alloc | apply pw_below_drewN | apply below_drew1 | refine below_set ?_ GE312.out | refine below_set ?_ GE325.out) | exact HB.out)⟩⟩
        · rw [if_neg c21] at H
          have c21b0 : decide (a0_0 ≤ 8) = false := decide_eq_false c21
          clear c21
          (first | rw [c21b0] | (simp only [i64_w, i32_w]; rw [c21b0]) | skip)
          by_cases c44 : a0_0 > 8
          · rw [if_pos c44] at H
            have c44b0 : decide (8 < a0_0) = true := decide_eq_true c44
            clear c44
            have H' := Aside0.mk H
            clear H
            have hnb45 := NB312_325.out
            have hnc45 := NB325_312.out
            have hcz46_0 : w18.cell? ⟨gb312, 0, none⟩ = some (.int .u8 a0_0) := (blk_cell BK312.out 0).trans rfl
            have hcz46_1 : w18.cell? ⟨gb312, 1, none⟩ = some (.int .u8 a0_1) := (blk_cell BK312.out 1).trans rfl
            have hcz46_2 : w18.cell? ⟨gb312, 2, none⟩ = some (.int .u8 a0_2) := (blk_cell BK312.out 2).trans rfl
            have hcz46_3 : w18.cell? ⟨gb312, 3, none⟩ = some (.int .u16 a0_3) := (blk_cell BK312.out 3).trans rfl
            have hfz46_0 := blk_frozen BK312.out 0
            have hfz46_1 := blk_frozen BK312.out 1
            have hfz46_2 := blk_frozen BK312.out 2
            have hfz46_3 := blk_frozen BK312.out 3
            go_wp2
            go_meet
            case rel => exact ⟨_, ((t324 != 21)), (by first | rfl | (simp; done) | (simp [*]; done)), H', ⟨by first | omega | exact Nat.le_refl _⟩, ⟨by (with_reducible repeat (first | refine blk_drewN ?_ _ | refine blk_drew ?_ | refine blk_alloc ?_ _)); refine blk_far ?_ NB312_325.out _; (with_reducible repeat (first | refine blk_drewN ?_ _ | refine blk_drew ?_ | refine blk_alloc ?_ _)); refine blk_far ?_ NB312_325.out _; (with_reducible repeat (first | refine blk_drewN ?_ _ | refine blk_drew ?_ | refine blk_alloc ?_ _)); refine blk_far ?_ NB312_325.out _; (with_reducible repeat (first | refine blk_drewN ?_ _ | refine blk_drew ?_ | refine blk_alloc ?_ _)); refine blk_far ?_ NB312_325.out _; (with_reducible repeat (first | refine blk_drewN ?_ _ | refine blk_drew ?_ | refine blk_alloc ?_ _)); exact BK312.out⟩, ⟨by (with_reducible repeat (first | refine blk_drewN ?_ _ | refine blk_drew ?_ | refine blk_alloc ?_ _)); refine blk_put (cs := #[.int .u8 t317, .int .u8 t318, .int .u8 t319, .int .u16 0]) ?_ 3 _ rfl; (with_reducible repeat (first | refine blk_drewN ?_ _ | refine blk_drew ?_ | refine blk_alloc ?_ _)); refine blk_put (cs := #[.int .u8 t317, .int .u8 t318, .int .u8 0, .int .u16 0]) ?_ 2 _ rfl; (with_reducible repeat (first | refine blk_drewN ?_ _ | refine blk_drew ?_ | refine blk_alloc ?_ _)); refine blk_put (cs := #[.int .u8 t317, .int .u8 0, .int .u8 0, .int .u16 0]) ?_ 1 _ rfl; (with_reducible repeat (first | refine blk_drewN ?_ _ | refine blk_drew ?_ | refine blk_alloc ?_ _)); refine blk_put (cs := #[.int .u8 0, .int .u8 0, .int .u8 0, .int .u16 0]) ?_ 0 _ rfl; (with_reducible repeat (first | refine blk_drewN ?_ _ | refine blk_drew ?_ | refine blk_alloc ?_ _)); exact BK325.out⟩, ⟨by repeat (first | (with_reducible first | exact HB.out | apply below_alloc | apply pw_below_drewN | apply below_drew1 | refine below_set ?_ GE312.out | refine below_set ?_ GE325.out) | exact HB.out)⟩⟩
          · rw [if_neg c44] at H
            have c44b0 : decide (8 < a0_0) = false := decide_eq_false c44
            clear c44
            have H' := Aside0.mk H
            clear H
            have hnb47 := NB312_325.out
            have hnc47 := NB325_312.out
            have hcz48_0 : w18.cell? ⟨gb312, 0, none⟩ = some (.int .u8 a0_0) := (blk_cell BK312.out 0).trans rfl
            have hcz48_1 : w18.cell? ⟨gb312, 1, none⟩ = some (.int .u8 a0_1) := (blk_cell BK312.out 1).trans rfl
            have hcz48_2 : w18.cell? ⟨gb312, 2, none⟩ = some (.int .u8 a0_2) := (blk_cell BK312.out 2).trans rfl
            have hcz48_3 : w18.cell? ⟨gb312, 3, none⟩ = some (.int .u16 a0_3) := (blk_cell BK312.out 3).trans rfl
            have hfz48_0 := blk_frozen BK312.out 0
            have hfz48_1 := blk_frozen BK312.out 1
            have hfz48_2 := blk_frozen BK312.out 2
            have hfz48_3 := blk_frozen BK312.out 3
            go_wp2
            go_meet
            case rel => exact ⟨_, (false), (by first | rfl | (simp; done) | (simp [*]; done)), H', ⟨by first | omega | exact Nat.le_refl _⟩, ⟨by (with_reducible repeat (first | refine blk_drewN ?_ _ | refine blk_drew ?_ | refine blk_alloc ?_ _)); refine blk_far ?_ NB312_325.out _; (with_reducible repeat (first | refine blk_drewN ?_ _ | refine blk_drew ?_ | refine blk_alloc ?_ _)); refine blk_far ?_ NB312_325.out _; (with_reducible repeat (first | refine blk_drewN ?_ _ | refine blk_drew ?_ | refine blk_alloc ?_ _)); refine blk_far ?_ NB312_325.out _; (with_reducible repeat (first | refine blk_drewN ?_ _ | refine blk_drew ?_ | refine blk_alloc ?_ _)); refine blk_far ?_ NB312_325.out _; (with_reducible repeat (first | refine blk_drewN ?_ _ | refine blk_drew ?_ | refine blk_alloc ?_ _)); exact BK312.out⟩, ⟨by (with_reducible repeat (first | refine blk_drewN ?_ _ | refine blk_drew ?_ | refine blk_alloc ?_ _)); refine blk_put (cs := #[.int .u8 t317, .int .u8 t318, .int .u8 t319, .int .u16 0]) ?_ 3 _ rfl; (with_reducible repeat (first | refine blk_drewN ?_ _ | refine blk_drew ?_ | refine blk_alloc ?_ _)); refine blk_put (cs := #[.int .u8 t317, .int .u8 t318, .int .u8 0, .int .u16 0]) ?_ 2 _ rfl; (with_reducible repeat (first | refine blk_drewN ?_ _ | refine blk_drew ?_ | refine blk_alloc ?_ _)); refine blk_put (cs := #[.int .u8 t317, .int .u8 0, .int .u8 0, .int .u16 0]) ?_ 1 _ rfl; (with_reducible repeat (first | refine blk_drewN ?_ _ | refine blk_drew ?_ | refine blk_alloc ?_ _)); refine blk_put (cs := #[.int .u8 0, .int .u8 0, .int .u8 0, .int .u16 0]) ?_ 0 _ rfl; (with_reducible repeat (first | refine blk_drewN ?_ _ | refine blk_drew ?_ | refine blk_alloc ?_ _)); exact BK325.out⟩, ⟨by repeat (first | (with_reducible first | exact HB.out | apply below_alloc | apply pw_below_drewN | apply below_drew1 | refine below_set ?_ GE312.out | refine below_set ?_ GE325.out) | exact HB.out)⟩⟩
      case rest =>
        clear HC11
        try clear c1
        try clear c2
        try clear p2
        try clear c3
        try clear c4
        try clear c5
        try clear c6
        try clear c6b0
        try clear c6b1
        try clear c7
        try clear c8
        try clear c17
        try clear c19
        try clear c21
        try clear c21b0
        try clear c22
        try clear c22b0
        try clear c22b1
        try clear c23
        try clear c23b0
        try clear c24
        try clear c28
        try clear c29
        try clear c29b0
        try clear c30
        try clear c34
        try clear c38
        try clear c42
        try clear c44
        try clear c44b0
        try clear c45
        try clear c47
        try clear hcz14_0
        try clear hcz14_1
        try clear hcz14_2
        try clear hcz14_3
        try clear hcz20_0
        try clear hcz20_1
        try clear hcz20_2
        try clear hcz20_3
        try clear hcz25_0
        try clear hcz25_1
        try clear hcz25_2
        try clear hcz25_3
        try clear hcz26_0
        try clear hcz26_1
        try clear hcz26_2
        try clear hcz26_3
        try clear hcz31_0
        try clear hcz31_1
        try clear hcz31_2
        try clear hcz31_3
        try clear hcz32_0
        try clear hcz32_1
        try clear hcz32_2
        try clear hcz32_3
        try clear hcz35_0
        try clear hcz35_1
        try clear hcz35_2
        try clear hcz35_3
        try clear hcz36_0
        try clear hcz36_1
        try clear hcz36_2
        try clear hcz36_3
        try clear hcz39_0
        try clear hcz39_1
        try clear hcz39_2
        try clear hcz39_3
        try clear hcz40_0
        try clear hcz40_1
        try clear hcz40_2
        try clear hcz40_3
        try clear hcz43_0
        try clear hcz43_1
        try clear hcz43_2
        try clear hcz43_3
        try clear hcz46_0
        try clear hcz46_1
        try clear hcz46_2
        try clear hcz46_3
        try clear hcz48_0
        try clear hcz48_1
        try clear hcz48_2
        try clear hcz48_3
        try clear hfz14_0
        try clear hfz14_1
        try clear hfz14_2
        try clear hfz14_3
        try clear hfz20_0
        try clear hfz20_1
        try clear hfz20_2
        try clear hfz20_3
        try clear hfz25_0
        try clear hfz25_1
        try clear hfz25_2
        try clear hfz25_3
        try clear hfz26_0
        try clear hfz26_1
        try clear hfz26_2
        try clear hfz26_3
        try clear hfz31_0
        try clear hfz31_1
        try clear hfz31_2
        try clear hfz31_3
        try clear hfz32_0
        try clear hfz32_1
        try clear hfz32_2
        try clear hfz32_3
        try clear hfz35_0
        try clear hfz35_1
        try clear hfz35_2
        try clear hfz35_3
        try clear hfz36_0
        try clear hfz36_1
        try clear hfz36_2
        try clear hfz36_3
        try clear hfz39_0
        try clear hfz39_1
        try clear hfz39_2
        try clear hfz39_3
        try clear hfz40_0
        try clear hfz40_1
        try clear hfz40_2
        try clear hfz40_3
        try clear hfz43_0
        try clear hfz43_1
        try clear hfz43_2
        try clear hfz43_3
        try clear hfz46_0
        try clear hfz46_1
        try clear hfz46_2
        try clear hfz46_3
        try clear hfz48_0
        try clear hfz48_1
        try clear hfz48_2
        try clear hfz48_3
        obtain ⟨kq, x57_10, rfl, HA, HJ10, BK312, BK325, HB⟩ := hcut
        cases kq with
        | zero => exact absurd HA.out (by simp [greenscreenlaw09_HeaderBack.j0])
        | succ kj10 =>
          have H := HA.out
          clear HA
          simp only [greenscreenlaw09_HeaderBack.j0] at H
          by_cases c49 : x57_10 = true
          · subst c49
            have H1 : (some false) = some r := by rw [if_pos rfl] at H; exact H
            clear H
            have H := H1
            clear H1
            obtain rfl := Option.some.inj H
            exact absurd hr_ (by decide)
          · replace c49 := Bool.eq_false_iff.mpr c49
            subst c49
            have H1 : ((header_Answer.f kj10 a0_0 a0_1 a0_2 a0_3 a1).bind fun bt327 => (if bt327.2 = true then ((header_Parse.f bt327.1).bind fun bt331 => ((header_Sense.f bt331.1 bt331.2.1 bt331.2.2.1 bt331.2.2.2.1 bt331.2.2.2.2.1).bind fun bt340 => (if bt331.2.2.2.2.2 = 0 then (if bt340.2.2 = true then (if bt331.2.2.2.1 = a0_3 then (if (bt340.2.1 == (a1 == 0)) = true then (if bt340.2.1 = true then (if bt340.1 = 0 then (some ((bt327.1.length : Int) == 6)) else (some false)) else ((header_Code.f a1).bind fun t343 => (if bt340.1 = t343 then (some ((bt327.1.length : Int) == 6)) else (some false)))) else (some false)) else (some false)) else (some false)) else (some false)))) else (some ((bt327.1.length : Int) == 0)))) = some r := by rw [if_neg (show ¬ (false = true) by decide)] at H; exact H
            clear H
            have H := H1
            clear H1
            replace H := Option.bind_eq_some_iff.mp H
            obtain ⟨⟨t327, t330⟩, A500, H⟩ := H
            replace H : (if t330 = true then ((header_Parse.f t327).bind fun bt331 => ((header_Sense.f bt331.1 bt331.2.1 bt331.2.2.1 bt331.2.2.2.1 bt331.2.2.2.2.1).bind fun bt340 => (if bt331.2.2.2.2.2 = 0 then (if bt340.2.2 = true then (if bt331.2.2.2.1 = a0_3 then (if (bt340.2.1 == (a1 == 0)) = true then (if bt340.2.1 = true then (if bt340.1 = 0 then (some ((t327.length : Int) == 6)) else (some false)) else ((header_Code.f a1).bind fun t343 => (if bt340.1 = t343 then (some ((t327.length : Int) == 6)) else (some false)))) else (some false)) else (some false)) else (some false)) else (some false)))) else (some ((t327.length : Int) == 0))) = some r := H
            have A50 := Aside0.mk A500
            clear A500
            by_cases c51 : t330 = true
            · subst c51
              have H1 : ((header_Parse.f t327).bind fun bt331 => ((header_Sense.f bt331.1 bt331.2.1 bt331.2.2.1 bt331.2.2.2.1 bt331.2.2.2.2.1).bind fun bt340 => (if bt331.2.2.2.2.2 = 0 then (if bt340.2.2 = true then (if bt331.2.2.2.1 = a0_3 then (if (bt340.2.1 == (a1 == 0)) = true then (if bt340.2.1 = true then (if bt340.1 = 0 then (some ((t327.length : Int) == 6)) else (some false)) else ((header_Code.f a1).bind fun t343 => (if bt340.1 = t343 then (some ((t327.length : Int) == 6)) else (some false)))) else (some false)) else (some false)) else (some false)) else (some false)))) = some r := by rw [if_pos rfl] at H; exact H
              clear H
              have H := H1
              clear H1
              replace H := Option.bind_eq_some_iff.mp H
              obtain ⟨⟨t331, t332, t333, t334, t335, t338⟩, A520, H⟩ := H
              replace H : ((header_Sense.f t331 t332 t333 t334 t335).bind fun bt340 => (if t338 = 0 then (if bt340.2.2 = true then (if t334 = a0_3 then (if (bt340.2.1 == (a1 == 0)) = true then (if bt340.2.1 = true then (if bt340.1 = 0 then (some ((t327.length : Int) == 6)) else (some false)) else ((header_Code.f a1).bind fun t343 => (if bt340.1 = t343 then (some ((t327.length : Int) == 6)) else (some false)))) else (some false)) else (some false)) else (some false)) else (some false))) = some r := H
              have A52 := Aside0.mk A520
              clear A520
              replace H := Option.bind_eq_some_iff.mp H
              obtain ⟨⟨t340, t341, t342⟩, A530, H⟩ := H
              replace H : (if t338 = 0 then (if t342 = true then (if t334 = a0_3 then (if (t341 == (a1 == 0)) = true then (if t341 = true then (if t340 = 0 then (some ((t327.length : Int) == 6)) else (some false)) else ((header_Code.f a1).bind fun t343 => (if t340 = t343 then (some ((t327.length : Int) == 6)) else (some false)))) else (some false)) else (some false)) else (some false)) else (some false)) = some r := H
              have A53 := Aside0.mk A530
              clear A530
              by_cases c54 : t338 = 0
              · rw [if_pos c54] at H
                have c54b0 : (t338 == 0) = true := beq_iff_eq.mpr c54
                have c54b1 : (t338 != 0) = false := bne_eq_false_iff_eq.mpr c54
                clear c54
                by_cases c55 : t342 = true
                · subst c55
                  have H1 : (if t334 = a0_3 then (if (t341 == (a1 == 0)) = true then (if t341 = true then (if t340 = 0 then (some ((t327.length : Int) == 6)) else (some false)) else ((header_Code.f a1).bind fun t343 => (if t340 = t343 then (some ((t327.length : Int) == 6)) else (some false)))) else (some false)) else (some false)) = some r := by rw [if_pos rfl] at H; exact H
                  clear H
                  have H := H1
                  clear H1
                  by_cases c56 : t334 = a0_3
                  · rw [if_pos c56] at H
                    have c56b0 : (t334 == a0_3) = true := beq_iff_eq.mpr c56
                    have c56b1 : (t334 != a0_3) = false := bne_eq_false_iff_eq.mpr c56
                    clear c56
                    by_cases c57 : (t341 == (a1 == 0)) = true
                    · rw [if_pos c57] at H
                      have c57b0 : (t341 == (a1 == 0)) = true := c57
                      (try (have c57e0 : (t341 = (a1 == 0)) = True := by (have he_ := c57b0; revert he_; cases (t341) <;> cases ((a1 == 0)) <;> simp)))
                      (try (have c57e1 : (t341 == (a1 == 0)) = true := by (have he_ := c57b0; revert he_; cases (t341) <;> cases ((a1 == 0)) <;> simp)))
                      (try (have c57b1 : decide (t341 = (a1 == 0)) = true := by simpa using c57))
                      (try (have c57b2 : (t341 == (a1 == 0)) = true := by simpa using c57))
                      clear c57
                      by_cases c58 : t341 = true
                      · subst c58
                        have H1 : (if t340 = 0 then (some ((t327.length : Int) == 6)) else (some false)) = some r := by rw [if_pos rfl] at H; exact H
                        clear H
                        have H := H1
                        clear H1
                        by_cases c59 : t340 = 0
                        · rw [if_pos c59] at H
                          have c59b0 : (t340 == 0) = true := beq_iff_eq.mpr c59
                          have c59b1 : (t340 != 0) = false := bne_eq_false_iff_eq.mpr c59
                          clear c59
                          obtain rfl := Option.some.inj H
                          have hnb60 := NB312_325.out
                          have hnc60 := NB325_312.out
                          have hcz61_0 : wc.cell? ⟨gb312, 0, none⟩ = some (.int .u8 a0_0) := (blk_cell BK312.out 0).trans rfl
                          have hcz61_1 : wc.cell? ⟨gb312, 1, none⟩ = some (.int .u8 a0_1) := (blk_cell BK312.out 1).trans rfl
                          have hcz61_2 : wc.cell? ⟨gb312, 2, none⟩ = some (.int .u8 a0_2) := (blk_cell BK312.out 2).trans rfl
                          have hcz61_3 : wc.cell? ⟨gb312, 3, none⟩ = some (.int .u16 a0_3) := (blk_cell BK312.out 3).trans rfl
                          have hfz61_0 := blk_frozen BK312.out 0
                          have hfz61_1 := blk_frozen BK312.out 1
                          have hfz61_2 := blk_frozen BK312.out 2
                          have hfz61_3 := blk_frozen BK312.out 3
                          go_wp2_with (first | ((with_reducible refine gate_callee (f := 10) rfl ?_); refine goesL_ (some 61) rfl rfl Try.func10 (by kernel_rfl) rfl #[.agg #[.int .u8 a0_0, .int .u8 a0_1, .int .u8 a0_2, .int .u16 a0_3], .int .i64 a1] rfl (by (try simp only [List.map_toArray, List.map_cons, List.map_nil]); first | done | rfl | (simp only [List.length_drop, List.length_take]; rfl)) ?_; (with_reducible refine (header_Answer.calls kj10 a0_0 a0_1 a0_2 a0_3 a1 t327 true _ A50.out).mono ?_); rintro e w62 ⟨v328, rfl, ho0, hb⟩; refine ⟨_, rfl, ?_⟩; have n0_ := Aside0.mk (Kd.R_lower ho0 (below_size (by repeat (first | (with_reducible first | exact HB.out | apply below_alloc | apply pw_below_drewN | apply below_drew1 | refine below_set ?_ GE312.out | refine below_set ?_ GE325.out) | exact HB.out)))); have n1_ := Aside0.mk (blk_below (g := gb312) (o := .cells #[.int .u8 a0_0, .int .u8 a0_1, .int .u8 a0_2, .int .u16 a0_3] 25 (0, 0)) (by (with_reducible repeat (first | refine blk_drewN ?_ _ | refine blk_drew ?_ | refine blk_alloc ?_ _)); exact BK312.out) hb); have n2_ := Aside0.mk (blk_below (g := gb325) (o := .cells #[.int .u8 t317, .int .u8 t318, .int .u8 t319, .int .u16 t320] 25 (0, 0)) (by (with_reducible repeat (first | refine blk_drewN ?_ _ | refine blk_drew ?_ | refine blk_alloc ?_ _)); exact BK325.out) hb); have n3_ := Aside0.mk (below_step (by repeat (first | (with_reducible first | exact HB.out | apply below_alloc | apply pw_below_drewN | apply below_drew1 | refine below_set ?_ GE312.out | refine below_set ?_ GE325.out) | exact HB.out)) hb); clear BK312; clear BK325; clear HB; have HO329 := n0_; have BK312 := n1_; have BK325 := n2_; have HB := n3_; clear n0_ n1_ n2_ n3_; (try clear hb); (try clear hb2); (try clear hk); (try clear hi); (try clear ho0); obtain ⟨Ao63, co63, eo63⟩ := Kd.R_slice HO329.out; subst eo63) | ((with_reducible refine gate_callee (f := 8) rfl ?_); refine goesL_ (some 71) rfl rfl Try.func8 (by kernel_rfl) rfl #[.slice Ao63 t327.length co63] rfl (by (try simp only [List.map_toArray, List.map_cons, List.map_nil]); first | done | rfl | (simp only [List.length_drop, List.length_take]; rfl)) ?_; (with_reducible refine (header_Parse.calls _ _ t327 t331 t332 t333 t334 t335 t338 _ ?side1 ?side2 A52.out).mono ?_); (case side1 => repeat (first | exact (Kd.R_reads' HO329.out).2.2 | (with_reducible refine Kd.C_alloc ?_ _) | (with_reducible refine Kd.C_drewN ?_ _) | (with_reducible refine Kd.C_drew ?_))); (case side2 => exact (Kd.R_reads' HO329.out).2.1); rintro e w64 ⟨v336, rfl, ho0, hb⟩; refine ⟨_, rfl, ?_⟩; have n0_ := Aside0.mk (Kd.R_elder' (by (with_reducible repeat (first | apply Kd.R_alloc | apply Kd.R_drewN | apply Kd.R_drew)); exact HO329.out) (Kd.R_base ho0) hb); have n1_ := Aside0.mk (Kd.R_lower (Kd.R_new' ho0 (Kd.R_lt (by (with_reducible repeat (first | apply Kd.R_alloc | apply Kd.R_drewN | apply Kd.R_drew)); exact HO329.out))) (below_size (by repeat (first | (with_reducible first | exact HB.out | apply below_alloc | apply pw_below_drewN | apply below_drew1 | refine below_set ?_ GE312.out | refine below_set ?_ GE325.out) | exact HB.out)))); have n2_ := Aside0.mk (blk_below (g := gb312) (o := .cells #[.int .u8 a0_0, .int .u8 a0_1, .int .u8 a0_2, .int .u16 a0_3] 25 (0, 0)) (by (with_reducible repeat (first | refine blk_drewN ?_ _ | refine blk_drew ?_ | refine blk_alloc ?_ _)); exact BK312.out) hb); have n3_ := Aside0.mk (blk_below (g := gb325) (o := .cells #[.int .u8 t317, .int .u8 t318, .int .u8 t319, .int .u16 t320] 25 (0, 0)) (by (with_reducible repeat (first | refine blk_drewN ?_ _ | refine blk_drew ?_ | refine blk_alloc ?_ _)); exact BK325.out) hb); have n4_ := Aside0.mk (below_step (by repeat (first | (with_reducible first | exact HB.out | apply below_alloc | apply pw_below_drewN | apply below_drew1 | refine below_set ?_ GE312.out | refine below_set ?_ GE325.out) | exact HB.out)) hb); clear HO329; clear BK312; clear BK325; clear HB; have HO329 := n0_; have HO337 := n1_; have BK312 := n2_; have BK325 := n3_; have HB := n4_; clear n0_ n1_ n2_ n3_ n4_; (try clear hb); (try clear hb2); (try clear hk); (try clear hi); (try clear ho0)) | ((with_reducible refine gate_dst (N := 12) rfl ?_); (try (refine gate_guard (by rfl) ?_; dsimp only)); refine box_event ?hg (N := 12) ?hd (cs := #[.int .u8 0, .int .u8 0, .int .u8 0, .int .u16 0]) (t := 25) ?hr ?_; (case hd => rfl); (case hg => rfl); (case hr => first | (go_simp; done) | (go_simp; rfl)); intro gb339 hg w65 hbox hb; have n0_ := Aside0.mk (Kd.R_below (by (with_reducible repeat (first | apply Kd.R_alloc | apply Kd.R_drewN | apply Kd.R_drew)); exact HO329.out) hb); have n1_ := Aside0.mk (Kd.R_below (by (with_reducible repeat (first | apply Kd.R_alloc | apply Kd.R_drewN | apply Kd.R_drew)); exact HO337.out) hb); have n2_ := Aside0.mk (blk_below (g := gb312) (o := .cells #[.int .u8 a0_0, .int .u8 a0_1, .int .u8 a0_2, .int .u16 a0_3] 25 (0, 0)) (by (with_reducible repeat (first | refine blk_drewN ?_ _ | refine blk_drew ?_ | refine blk_alloc ?_ _)); exact BK312.out) hb); have n3_ := Aside0.mk (blk_below (g := gb325) (o := .cells #[.int .u8 t317, .int .u8 t318, .int .u8 t319, .int .u16 t320] 25 (0, 0)) (by (with_reducible repeat (first | refine blk_drewN ?_ _ | refine blk_drew ?_ | refine blk_alloc ?_ _)); exact BK325.out) hb); have n4_ := Aside0.mk (below_step (by repeat (first | (with_reducible first | exact HB.out | apply below_alloc | apply pw_below_drewN | apply below_drew1 | refine below_set ?_ GE312.out | refine below_set ?_ GE325.out) | exact HB.out)) hb); have n5_ := Aside0.mk (hbox); have n6_ := Aside0.mk ((by rw [hg]; exact (below_size (by repeat (first | (with_reducible first | exact HB.out | apply below_alloc | apply pw_below_drewN | apply below_drew1 | refine below_set ?_ GE312.out | refine below_set ?_ GE325.out) | exact HB.out))) : w.heap.size ≤ gb339)); have n7_ := Aside0.mk ((by rw [hg]; exact (below_size (by repeat (first | (with_reducible first | exact HB.out | apply below_alloc | apply pw_below_drewN | apply below_drew1 | refine below_set ?_ GE312.out | refine below_set ?_ GE325.out) | exact HB.out))) : w.heap.size ≤ gb339)); have n8_ := Aside0.mk ((by rw [hg]; exact Nat.ne_of_lt (blk_lt (g := gb312) (o := .cells #[.int .u8 a0_0, .int .u8 a0_1, .int .u8 a0_2, .int .u16 a0_3] 25 (0, 0)) (by (with_reducible repeat (first | refine blk_drewN ?_ _ | refine blk_drew ?_ | refine blk_alloc ?_ _)); exact BK312.out)) : gb312 ≠ gb339)); have n9_ := Aside0.mk ((by rw [hg]; exact Nat.ne_of_gt (blk_lt (g := gb312) (o := .cells #[.int .u8 a0_0, .int .u8 a0_1, .int .u8 a0_2, .int .u16 a0_3] 25 (0, 0)) (by (with_reducible repeat (first | refine blk_drewN ?_ _ | refine blk_drew ?_ | refine blk_alloc ?_ _)); exact BK312.out)) : gb339 ≠ gb312)); have n10_ := Aside0.mk ((by rw [hg]; exact Nat.ne_of_lt (blk_lt (g := gb325) (o := .cells #[.int .u8 t317, .int .u8 t318, .int .u8 t319, .int .u16 t320] 25 (0, 0)) (by (with_reducible repeat (first | refine blk_drewN ?_ _ | refine blk_drew ?_ | refine blk_alloc ?_ _)); exact BK325.out)) : gb325 ≠ gb339)); have n11_ := Aside0.mk ((by rw [hg]; exact Nat.ne_of_gt (blk_lt (g := gb325) (o := .cells #[.int .u8 t317, .int .u8 t318, .int .u8 t319, .int .u16 t320] 25 (0, 0)) (by (with_reducible repeat (first | refine blk_drewN ?_ _ | refine blk_drew ?_ | refine blk_alloc ?_ _)); exact BK325.out)) : gb339 ≠ gb325)); clear HO329; clear HO337; clear BK312; clear BK325; clear HB; have HO329 := n0_; have HO337 := n1_; have BK312 := n2_; have BK325 := n3_; have HB := n4_; have BK339 := n5_; have GW339 := n6_; have GE339 := n7_; have NB312_339 := n8_; have NB339_312 := n9_; have NB325_339 := n10_; have NB339_325 := n11_; clear n0_ n1_ n2_ n3_ n4_ n5_ n6_ n7_ n8_ n9_ n10_ n11_; clear hb hbox hg; have hnb66 := NB339_312.out; have hnc66 := NB312_339.out; have hnb67 := NB339_325.out; have hnc67 := NB325_339.out; have hcz68_0 : w65.cell? ⟨gb339, 0, none⟩ = some (.int .u8 0) := (blk_cell BK339.out 0).trans rfl; have hcz68_1 : w65.cell? ⟨gb339, 1, none⟩ = some (.int .u8 0) := (blk_cell BK339.out 1).trans rfl; have hcz68_2 : w65.cell? ⟨gb339, 2, none⟩ = some (.int .u8 0) := (blk_cell BK339.out 2).trans rfl; have hcz68_3 : w65.cell? ⟨gb339, 3, none⟩ = some (.int .u16 0) := (blk_cell BK339.out 3).trans rfl; have hfz68_0 := blk_frozen BK339.out 0; have hfz68_1 := blk_frozen BK339.out 1; have hfz68_2 := blk_frozen BK339.out 2; have hfz68_3 := blk_frozen BK339.out 3; obtain ⟨Ao69, co69, eo69⟩ := Kd.R_slice HO337.out; subst eo69) | ((with_reducible refine gate_callee (f := 13) rfl ?_); refine goesL_ (some 78) rfl rfl Try.func13 (by kernel_rfl) rfl #[.agg #[.int .u8 t331, .int .u8 t332, .int .u8 t333, .int .u16 t334], .slice Ao69 t335.length co69] rfl (by (try simp only [List.map_toArray, List.map_cons, List.map_nil]); first | done | rfl | (simp only [List.length_drop, List.length_take]; rfl)) ?_; (with_reducible refine (header_Sense.calls t331 t332 t333 t334 _ _ t335 t340 true true _ ?side1 ?side2 A53.out).mono ?_); (case side1 => refine (Kd.R_reads' (e := 5) (base := w.heap.size) (ok := fun k_ => (True ∧ some k_ ≠ (.slice Ao63 t327.length co63 : Value).ownBlock)) (n := t335.length) (c := co69) ?_).2.2; exact (by (with_reducible repeat (first | apply Kd.R_alloc | apply Kd.R_drewN | apply Kd.R_drew)); exact (Kd.R_mono (Kd.R_far (p := ⟨gb339, 3, none⟩) (Kd.R_far (p := ⟨gb339, 2, none⟩) (Kd.R_far (p := ⟨gb339, 1, none⟩) (Kd.R_far (p := ⟨gb339, 0, none⟩) (Kd.R_types HO337.out BK339.out (by decide)) (fun _ hk => hk.2) (.int .u8 t331)) (fun _ hk => hk.2) (.int .u8 t332)) (fun _ hk => hk.2) (.int .u8 t333)) (fun _ hk => hk.2) (.int .u16 t334)) (fun _ h_ => h_.1)))); (case side2 => exact (Kd.R_reads' HO337.out).2.1); rintro e w70 ⟨rfl, hb⟩; refine ⟨_, rfl, ?_⟩; have n0_ := Aside0.mk (Kd.R_below (by (with_reducible repeat (first | apply Kd.R_alloc | apply Kd.R_drewN | apply Kd.R_drew)); exact (Kd.R_mono (Kd.R_far (p := ⟨gb339, 3, none⟩) (Kd.R_far (p := ⟨gb339, 2, none⟩) (Kd.R_far (p := ⟨gb339, 1, none⟩) (Kd.R_far (p := ⟨gb339, 0, none⟩) (Kd.R_types HO329.out BK339.out (by decide)) (fun _ hk => hk.2) (.int .u8 t331)) (fun _ hk => hk.2) (.int .u8 t332)) (fun _ hk => hk.2) (.int .u8 t333)) (fun _ hk => hk.2) (.int .u16 t334)) (fun _ h_ => h_.1))) hb); have n1_ := Aside0.mk (Kd.R_below (by (with_reducible repeat (first | apply Kd.R_alloc | apply Kd.R_drewN | apply Kd.R_drew)); exact (Kd.R_mono (Kd.R_far (p := ⟨gb339, 3, none⟩) (Kd.R_far (p := ⟨gb339, 2, none⟩) (Kd.R_far (p := ⟨gb339, 1, none⟩) (Kd.R_far (p := ⟨gb339, 0, none⟩) (Kd.R_types HO337.out BK339.out (by decide)) (fun _ hk => hk.2) (.int .u8 t331)) (fun _ hk => hk.2) (.int .u8 t332)) (fun _ hk => hk.2) (.int .u8 t333)) (fun _ hk => hk.2) (.int .u16 t334)) (fun _ h_ => h_.1))) hb); have n2_ := Aside0.mk (blk_below (g := gb312) (o := .cells #[.int .u8 a0_0, .int .u8 a0_1, .int .u8 a0_2, .int .u16 a0_3] 25 (0, 0)) (by (with_reducible repeat (first | refine blk_drewN ?_ _ | refine blk_drew ?_ | refine blk_alloc ?_ _)); refine blk_far ?_ NB312_339.out _; (with_reducible repeat (first | refine blk_drewN ?_ _ | refine blk_drew ?_ | refine blk_alloc ?_ _)); refine blk_far ?_ NB312_339.out _; (with_reducible repeat (first | refine blk_drewN ?_ _ | refine blk_drew ?_ | refine blk_alloc ?_ _)); refine blk_far ?_ NB312_339.out _; (with_reducible repeat (first | refine blk_drewN ?_ _ | refine blk_drew ?_ | refine blk_alloc ?_ _)); refine blk_far ?_ NB312_339.out _; (with_reducible repeat (first | refine blk_drewN ?_ _ | refine blk_drew ?_ | refine blk_alloc ?_ _)); exact BK312.out) hb); have n3_ := Aside0.mk (blk_below (g := gb325) (o := .cells #[.int .u8 t317, .int .u8 t318, .int .u8 t319, .int .u16 t320] 25 (0, 0)) (by (with_reducible repeat (first | refine blk_drewN ?_ _ | refine blk_drew ?_ | refine blk_alloc ?_ _)); refine blk_far ?_ NB325_339.out _; (with_reducible repeat (first | refine blk_drewN ?_ _ | refine blk_drew ?_ | refine blk_alloc ?_ _)); refine blk_far ?_ NB325_339.out _; (with_reducible repeat (first | refine blk_drewN ?_ _ | refine blk_drew ?_ | refine blk_alloc ?_ _)); refine blk_far ?_ NB325_339.out _; (with_reducible repeat (first | refine blk_drewN ?_ _ | refine blk_drew ?_ | refine blk_alloc ?_ _)); refine blk_far ?_ NB325_339.out _; (with_reducible repeat (first | refine blk_drewN ?_ _ | refine blk_drew ?_ | refine blk_alloc ?_ _)); exact BK325.out) hb); have n4_ := Aside0.mk (blk_below (g := gb339) (o := .cells #[.int .u8 t331, .int .u8 t332, .int .u8 t333, .int .u16 t334] 25 (0, 0)) (by (with_reducible repeat (first | refine blk_drewN ?_ _ | refine blk_drew ?_ | refine blk_alloc ?_ _)); refine blk_put (cs := #[.int .u8 t331, .int .u8 t332, .int .u8 t333, .int .u16 0]) ?_ 3 _ rfl; (with_reducible repeat (first | refine blk_drewN ?_ _ | refine blk_drew ?_ | refine blk_alloc ?_ _)); refine blk_put (cs := #[.int .u8 t331, .int .u8 t332, .int .u8 0, .int .u16 0]) ?_ 2 _ rfl; (with_reducible repeat (first | refine blk_drewN ?_ _ | refine blk_drew ?_ | refine blk_alloc ?_ _)); refine blk_put (cs := #[.int .u8 t331, .int .u8 0, .int .u8 0, .int .u16 0]) ?_ 1 _ rfl; (with_reducible repeat (first | refine blk_drewN ?_ _ | refine blk_drew ?_ | refine blk_alloc ?_ _)); refine blk_put (cs := #[.int .u8 0, .int .u8 0, .int .u8 0, .int .u16 0]) ?_ 0 _ rfl; (with_reducible repeat (first | refine blk_drewN ?_ _ | refine blk_drew ?_ | refine blk_alloc ?_ _)); exact BK339.out) hb); have n5_ := Aside0.mk (below_step (by repeat (first | (with_reducible first | exact HB.out | apply below_alloc | apply pw_below_drewN | apply below_drew1 | refine below_set ?_ GE312.out | refine below_set ?_ GE325.out | refine below_set ?_ GE339.out) | exact HB.out)) hb); clear HO329; clear HO337; clear BK312; clear BK325; clear BK339; clear HB; have HO329 := n0_; have HO337 := n1_; have BK312 := n2_; have BK325 := n3_; have BK339 := n4_; have HB := n5_; clear n0_ n1_ n2_ n3_ n4_ n5_; (try clear hb); (try clear hb2); (try clear hk); (try clear hi); have hcz71_0 : w70.cell? ⟨gb339, 0, none⟩ = some (.int .u8 t331) := (blk_cell BK339.out 0).trans rfl; have hcz71_1 : w70.cell? ⟨gb339, 1, none⟩ = some (.int .u8 t332) := (blk_cell BK339.out 1).trans rfl; have hcz71_2 : w70.cell? ⟨gb339, 2, none⟩ = some (.int .u8 t333) := (blk_cell BK339.out 2).trans rfl; have hcz71_3 : w70.cell? ⟨gb339, 3, none⟩ = some (.int .u16 t334) := (blk_cell BK339.out 3).trans rfl; have hfz71_0 := blk_frozen BK339.out 0; have hfz71_1 := blk_frozen BK339.out 1; have hfz71_2 := blk_frozen BK339.out 2; have hfz71_3 := blk_frozen BK339.out 3; have hcz72_0 : w70.cell? ⟨gb312, 0, none⟩ = some (.int .u8 a0_0) := (blk_cell BK312.out 0).trans rfl; have hcz72_1 : w70.cell? ⟨gb312, 1, none⟩ = some (.int .u8 a0_1) := (blk_cell BK312.out 1).trans rfl; have hcz72_2 : w70.cell? ⟨gb312, 2, none⟩ = some (.int .u8 a0_2) := (blk_cell BK312.out 2).trans rfl; have hcz72_3 : w70.cell? ⟨gb312, 3, none⟩ = some (.int .u16 a0_3) := (blk_cell BK312.out 3).trans rfl; have hfz72_0 := blk_frozen BK312.out 0; have hfz72_1 := blk_frozen BK312.out 1; have hfz72_2 := blk_frozen BK312.out 2; have hfz72_3 := blk_frozen BK312.out 3))
                          go_ret
                          exact ⟨by first | rfl | (simp [errW_none, errW_some] <;> rfl) | (simp [*, errW_none, errW_some] <;> rfl), by repeat (first | (with_reducible first | exact HB.out | apply below_alloc | apply pw_below_drewN | apply below_drew1 | refine below_set ?_ GE312.out | refine below_set ?_ GE325.out | refine below_set ?_ GE339.out) | exact HB.out)⟩
                        · rw [if_neg c59] at H
                          have c59b0 : (t340 == 0) = false := beq_eq_false_iff_ne.mpr c59
                          have c59b1 : (t340 != 0) = true := bne_iff_ne.mpr c59
                          obtain rfl := Option.some.inj H
                          exact absurd hr_ (by decide)
                      · replace c58 := Bool.eq_false_iff.mpr c58
                        subst c58
                        have H1 : ((header_Code.f a1).bind fun t343 => (if t340 = t343 then (some ((t327.length : Int) == 6)) else (some false))) = some r := by rw [if_neg (show ¬ (false = true) by decide)] at H; exact H
                        clear H
                        have H := H1
                        clear H1
                        replace H := Option.bind_eq_some_iff.mp H
                        obtain ⟨t343, A860, H⟩ := H
                        replace H : (if t340 = t343 then (some ((t327.length : Int) == 6)) else (some false)) = some r := H
                        have A86 := Aside0.mk A860
                        clear A860
                        by_cases c87 : t340 = t343
                        · rw [if_pos c87] at H
                          have c87b0 : (t340 == t343) = true := beq_iff_eq.mpr c87
                          have c87b1 : (t340 != t343) = false := bne_eq_false_iff_eq.mpr c87
                          clear c87
                          obtain rfl := Option.some.inj H
                          have hnb88 := NB312_325.out
                          have hnc88 := NB325_312.out
                          have hcz89_0 : wc.cell? ⟨gb312, 0, none⟩ = some (.int .u8 a0_0) := (blk_cell BK312.out 0).trans rfl
                          have hcz89_1 : wc.cell? ⟨gb312, 1, none⟩ = some (.int .u8 a0_1) := (blk_cell BK312.out 1).trans rfl
                          have hcz89_2 : wc.cell? ⟨gb312, 2, none⟩ = some (.int .u8 a0_2) := (blk_cell BK312.out 2).trans rfl
                          have hcz89_3 : wc.cell? ⟨gb312, 3, none⟩ = some (.int .u16 a0_3) := (blk_cell BK312.out 3).trans rfl
                          have hfz89_0 := blk_frozen BK312.out 0
                          have hfz89_1 := blk_frozen BK312.out 1
                          have hfz89_2 := blk_frozen BK312.out 2
                          have hfz89_3 := blk_frozen BK312.out 3
                          go_wp2_with (first | ((with_reducible refine gate_callee (f := 10) rfl ?_); refine goesL_ (some 61) rfl rfl Try.func10 (by kernel_rfl) rfl #[.agg #[.int .u8 a0_0, .int .u8 a0_1, .int .u8 a0_2, .int .u16 a0_3], .int .i64 a1] rfl (by (try simp only [List.map_toArray, List.map_cons, List.map_nil]); first | done | rfl | (simp only [List.length_drop, List.length_take]; rfl)) ?_; (with_reducible refine (header_Answer.calls kj10 a0_0 a0_1 a0_2 a0_3 a1 t327 true _ A50.out).mono ?_); rintro e w90 ⟨v328, rfl, ho0, hb⟩; refine ⟨_, rfl, ?_⟩; have n0_ := Aside0.mk (Kd.R_lower ho0 (below_size (by repeat (first | (with_reducible first | exact HB.out | apply below_alloc | apply pw_below_drewN | apply below_drew1 | refine below_set ?_ GE312.out | refine below_set ?_ GE325.out) | exact HB.out)))); have n1_ := Aside0.mk (blk_below (g := gb312) (o := .cells #[.int .u8 a0_0, .int .u8 a0_1, .int .u8 a0_2, .int .u16 a0_3] 25 (0, 0)) (by (with_reducible repeat (first | refine blk_drewN ?_ _ | refine blk_drew ?_ | refine blk_alloc ?_ _)); exact BK312.out) hb); have n2_ := Aside0.mk (blk_below (g := gb325) (o := .cells #[.int .u8 t317, .int .u8 t318, .int .u8 t319, .int .u16 t320] 25 (0, 0)) (by (with_reducible repeat (first | refine blk_drewN ?_ _ | refine blk_drew ?_ | refine blk_alloc ?_ _)); exact BK325.out) hb); have n3_ := Aside0.mk (below_step (by repeat (first | (with_reducible first | exact HB.out | apply below_alloc | apply pw_below_drewN | apply below_drew1 | refine below_set ?_ GE312.out | refine below_set ?_ GE325.out) | exact HB.out)) hb); clear BK312; clear BK325; clear HB; have HO329 := n0_; have BK312 := n1_; have BK325 := n2_; have HB := n3_; clear n0_ n1_ n2_ n3_; (try clear hb); (try clear hb2); (try clear hk); (try clear hi); (try clear ho0); obtain ⟨Ao91, co91, eo91⟩ := Kd.R_slice HO329.out; subst eo91) | ((with_reducible refine gate_callee (f := 8) rfl ?_); refine goesL_ (some 71) rfl rfl Try.func8 (by kernel_rfl) rfl #[.slice Ao91 t327.length co91] rfl (by (try simp only [List.map_toArray, List.map_cons, List.map_nil]); first | done | rfl | (simp only [List.length_drop, List.length_take]; rfl)) ?_; (with_reducible refine (header_Parse.calls _ _ t327 t331 t332 t333 t334 t335 t338 _ ?side1 ?side2 A52.out).mono ?_); (case side1 => repeat (first | exact (Kd.R_reads' HO329.out).2.2 | (with_reducible refine Kd.C_alloc ?_ _) | (with_reducible refine Kd.C_drewN ?_ _) | (with_reducible refine Kd.C_drew ?_))); (case side2 => exact (Kd.R_reads' HO329.out).2.1); rintro e w92 ⟨v336, rfl, ho0, hb⟩; refine ⟨_, rfl, ?_⟩; have n0_ := Aside0.mk (Kd.R_elder' (by (with_reducible repeat (first | apply Kd.R_alloc | apply Kd.R_drewN | apply Kd.R_drew)); exact HO329.out) (Kd.R_base ho0) hb); have n1_ := Aside0.mk (Kd.R_lower (Kd.R_new' ho0 (Kd.R_lt (by (with_reducible repeat (first | apply Kd.R_alloc | apply Kd.R_drewN | apply Kd.R_drew)); exact HO329.out))) (below_size (by repeat (first | (with_reducible first | exact HB.out | apply below_alloc | apply pw_below_drewN | apply below_drew1 | refine below_set ?_ GE312.out | refine below_set ?_ GE325.out) | exact HB.out)))); have n2_ := Aside0.mk (blk_below (g := gb312) (o := .cells #[.int .u8 a0_0, .int .u8 a0_1, .int .u8 a0_2, .int .u16 a0_3] 25 (0, 0)) (by (with_reducible repeat (first | refine blk_drewN ?_ _ | refine blk_drew ?_ | refine blk_alloc ?_ _)); exact BK312.out) hb); have n3_ := Aside0.mk (blk_below (g := gb325) (o := .cells #[.int .u8 t317, .int .u8 t318, .int .u8 t319, .int .u16 t320] 25 (0, 0)) (by (with_reducible repeat (first | refine blk_drewN ?_ _ | refine blk_drew ?_ | refine blk_alloc ?_ _)); exact BK325.out) hb); have n4_ := Aside0.mk (below_step (by repeat (first | (with_reducible first | exact HB.out | apply below_alloc | apply pw_below_drewN | apply below_drew1 | refine below_set ?_ GE312.out | refine below_set ?_ GE325.out) | exact HB.out)) hb); clear HO329; clear BK312; clear BK325; clear HB; have HO329 := n0_; have HO337 := n1_; have BK312 := n2_; have BK325 := n3_; have HB := n4_; clear n0_ n1_ n2_ n3_ n4_; (try clear hb); (try clear hb2); (try clear hk); (try clear hi); (try clear ho0)) | ((with_reducible refine gate_dst (N := 12) rfl ?_); (try (refine gate_guard (by rfl) ?_; dsimp only)); refine box_event ?hg (N := 12) ?hd (cs := #[.int .u8 0, .int .u8 0, .int .u8 0, .int .u16 0]) (t := 25) ?hr ?_; (case hd => rfl); (case hg => rfl); (case hr => first | (go_simp; done) | (go_simp; rfl)); intro gb339 hg w93 hbox hb; have n0_ := Aside0.mk (Kd.R_below (by (with_reducible repeat (first | apply Kd.R_alloc | apply Kd.R_drewN | apply Kd.R_drew)); exact HO329.out) hb); have n1_ := Aside0.mk (Kd.R_below (by (with_reducible repeat (first | apply Kd.R_alloc | apply Kd.R_drewN | apply Kd.R_drew)); exact HO337.out) hb); have n2_ := Aside0.mk (blk_below (g := gb312) (o := .cells #[.int .u8 a0_0, .int .u8 a0_1, .int .u8 a0_2, .int .u16 a0_3] 25 (0, 0)) (by (with_reducible repeat (first | refine blk_drewN ?_ _ | refine blk_drew ?_ | refine blk_alloc ?_ _)); exact BK312.out) hb); have n3_ := Aside0.mk (blk_below (g := gb325) (o := .cells #[.int .u8 t317, .int .u8 t318, .int .u8 t319, .int .u16 t320] 25 (0, 0)) (by (with_reducible repeat (first | refine blk_drewN ?_ _ | refine blk_drew ?_ | refine blk_alloc ?_ _)); exact BK325.out) hb); have n4_ := Aside0.mk (below_step (by repeat (first | (with_reducible first | exact HB.out | apply below_alloc | apply pw_below_drewN | apply below_drew1 | refine below_set ?_ GE312.out | refine below_set ?_ GE325.out) | exact HB.out)) hb); have n5_ := Aside0.mk (hbox); have n6_ := Aside0.mk ((by rw [hg]; exact (below_size (by repeat (first | (with_reducible first | exact HB.out | apply below_alloc | apply pw_below_drewN | apply below_drew1 | refine below_set ?_ GE312.out | refine below_set ?_ GE325.out) | exact HB.out))) : w.heap.size ≤ gb339)); have n7_ := Aside0.mk ((by rw [hg]; exact (below_size (by repeat (first | (with_reducible first | exact HB.out | apply below_alloc | apply pw_below_drewN | apply below_drew1 | refine below_set ?_ GE312.out | refine below_set ?_ GE325.out) | exact HB.out))) : w.heap.size ≤ gb339)); have n8_ := Aside0.mk ((by rw [hg]; exact Nat.ne_of_lt (blk_lt (g := gb312) (o := .cells #[.int .u8 a0_0, .int .u8 a0_1, .int .u8 a0_2, .int .u16 a0_3] 25 (0, 0)) (by (with_reducible repeat (first | refine blk_drewN ?_ _ | refine blk_drew ?_ | refine blk_alloc ?_ _)); exact BK312.out)) : gb312 ≠ gb339)); have n9_ := Aside0.mk ((by rw [hg]; exact Nat.ne_of_gt (blk_lt (g := gb312) (o := .cells #[.int .u8 a0_0, .int .u8 a0_1, .int .u8 a0_2, .int .u16 a0_3] 25 (0, 0)) (by (with_reducible repeat (first | refine blk_drewN ?_ _ | refine blk_drew ?_ | refine blk_alloc ?_ _)); exact BK312.out)) : gb339 ≠ gb312)); have n10_ := Aside0.mk ((by rw [hg]; exact Nat.ne_of_lt (blk_lt (g := gb325) (o := .cells #[.int .u8 t317, .int .u8 t318, .int .u8 t319, .int .u16 t320] 25 (0, 0)) (by (with_reducible repeat (first | refine blk_drewN ?_ _ | refine blk_drew ?_ | refine blk_alloc ?_ _)); exact BK325.out)) : gb325 ≠ gb339)); have n11_ := Aside0.mk ((by rw [hg]; exact Nat.ne_of_gt (blk_lt (g := gb325) (o := .cells #[.int .u8 t317, .int .u8 t318, .int .u8 t319, .int .u16 t320] 25 (0, 0)) (by (with_reducible repeat (first | refine blk_drewN ?_ _ | refine blk_drew ?_ | refine blk_alloc ?_ _)); exact BK325.out)) : gb339 ≠ gb325)); clear HO329; clear HO337; clear BK312; clear BK325; clear HB; have HO329 := n0_; have HO337 := n1_; have BK312 := n2_; have BK325 := n3_; have HB := n4_; have BK339 := n5_; have GW339 := n6_; have GE339 := n7_; have NB312_339 := n8_; have NB339_312 := n9_; have NB325_339 := n10_; have NB339_325 := n11_; clear n0_ n1_ n2_ n3_ n4_ n5_ n6_ n7_ n8_ n9_ n10_ n11_; clear hb hbox hg; have hnb94 := NB339_312.out; have hnc94 := NB312_339.out; have hnb95 := NB339_325.out; have hnc95 := NB325_339.out; have hcz96_0 : w93.cell? ⟨gb339, 0, none⟩ = some (.int .u8 0) := (blk_cell BK339.out 0).trans rfl; have hcz96_1 : w93.cell? ⟨gb339, 1, none⟩ = some (.int .u8 0) := (blk_cell BK339.out 1).trans rfl; have hcz96_2 : w93.cell? ⟨gb339, 2, none⟩ = some (.int .u8 0) := (blk_cell BK339.out 2).trans rfl; have hcz96_3 : w93.cell? ⟨gb339, 3, none⟩ = some (.int .u16 0) := (blk_cell BK339.out 3).trans rfl; have hfz96_0 := blk_frozen BK339.out 0; have hfz96_1 := blk_frozen BK339.out 1; have hfz96_2 := blk_frozen BK339.out 2; have hfz96_3 := blk_frozen BK339.out 3; obtain ⟨Ao97, co97, eo97⟩ := Kd.R_slice HO337.out; subst eo97) | ((with_reducible refine gate_callee (f := 13) rfl ?_); refine goesL_ (some 78) rfl rfl Try.func13 (by kernel_rfl) rfl #[.agg #[.int .u8 t331, .int .u8 t332, .int .u8 t333, .int .u16 t334], .slice Ao97 t335.length co97] rfl (by (try simp only [List.map_toArray, List.map_cons, List.map_nil]); first | done | rfl | (simp only [List.length_drop, List.length_take]; rfl)) ?_; (with_reducible refine (header_Sense.calls t331 t332 t333 t334 _ _ t335 t340 false true _ ?side1 ?side2 A53.out).mono ?_); (case side1 => refine (Kd.R_reads' (e := 5) (base := w.heap.size) (ok := fun k_ => (True ∧ some k_ ≠ (.slice Ao91 t327.length co91 : Value).ownBlock)) (n := t335.length) (c := co97) ?_).2.2; exact (by (with_reducible repeat (first | apply Kd.R_alloc | apply Kd.R_drewN | apply Kd.R_drew)); exact (Kd.R_mono (Kd.R_far (p := ⟨gb339, 3, none⟩) (Kd.R_far (p := ⟨gb339, 2, none⟩) (Kd.R_far (p := ⟨gb339, 1, none⟩) (Kd.R_far (p := ⟨gb339, 0, none⟩) (Kd.R_types HO337.out BK339.out (by decide)) (fun _ hk => hk.2) (.int .u8 t331)) (fun _ hk => hk.2) (.int .u8 t332)) (fun _ hk => hk.2) (.int .u8 t333)) (fun _ hk => hk.2) (.int .u16 t334)) (fun _ h_ => h_.1)))); (case side2 => exact (Kd.R_reads' HO337.out).2.1); rintro e w98 ⟨rfl, hb⟩; refine ⟨_, rfl, ?_⟩; have n0_ := Aside0.mk (Kd.R_below (by (with_reducible repeat (first | apply Kd.R_alloc | apply Kd.R_drewN | apply Kd.R_drew)); exact (Kd.R_mono (Kd.R_far (p := ⟨gb339, 3, none⟩) (Kd.R_far (p := ⟨gb339, 2, none⟩) (Kd.R_far (p := ⟨gb339, 1, none⟩) (Kd.R_far (p := ⟨gb339, 0, none⟩) (Kd.R_types HO329.out BK339.out (by decide)) (fun _ hk => hk.2) (.int .u8 t331)) (fun _ hk => hk.2) (.int .u8 t332)) (fun _ hk => hk.2) (.int .u8 t333)) (fun _ hk => hk.2) (.int .u16 t334)) (fun _ h_ => h_.1))) hb); have n1_ := Aside0.mk (Kd.R_below (by (with_reducible repeat (first | apply Kd.R_alloc | apply Kd.R_drewN | apply Kd.R_drew)); exact (Kd.R_mono (Kd.R_far (p := ⟨gb339, 3, none⟩) (Kd.R_far (p := ⟨gb339, 2, none⟩) (Kd.R_far (p := ⟨gb339, 1, none⟩) (Kd.R_far (p := ⟨gb339, 0, none⟩) (Kd.R_types HO337.out BK339.out (by decide)) (fun _ hk => hk.2) (.int .u8 t331)) (fun _ hk => hk.2) (.int .u8 t332)) (fun _ hk => hk.2) (.int .u8 t333)) (fun _ hk => hk.2) (.int .u16 t334)) (fun _ h_ => h_.1))) hb); have n2_ := Aside0.mk (blk_below (g := gb312) (o := .cells #[.int .u8 a0_0, .int .u8 a0_1, .int .u8 a0_2, .int .u16 a0_3] 25 (0, 0)) (by (with_reducible repeat (first | refine blk_drewN ?_ _ | refine blk_drew ?_ | refine blk_alloc ?_ _)); refine blk_far ?_ NB312_339.out _; (with_reducible repeat (first | refine blk_drewN ?_ _ | refine blk_drew ?_ | refine blk_alloc ?_ _)); refine blk_far ?_ NB312_339.out _; (with_reducible repeat (first | refine blk_drewN ?_ _ | refine blk_drew ?_ | refine blk_alloc ?_ _)); refine blk_far ?_ NB312_339.out _; (with_reducible repeat (first | refine blk_drewN ?_ _ | refine blk_drew ?_ | refine blk_alloc ?_ _)); refine blk_far ?_ NB312_339.out _; (with_reducible repeat (first | refine blk_drewN ?_ _ | refine blk_drew ?_ | refine blk_alloc ?_ _)); exact BK312.out) hb); have n3_ := Aside0.mk (blk_below (g := gb325) (o := .cells #[.int .u8 t317, .int .u8 t318, .int .u8 t319, .int .u16 t320] 25 (0, 0)) (by (with_reducible repeat (first | refine blk_drewN ?_ _ | refine blk_drew ?_ | refine blk_alloc ?_ _)); refine blk_far ?_ NB325_339.out _; (with_reducible repeat (first | refine blk_drewN ?_ _ | refine blk_drew ?_ | refine blk_alloc ?_ _)); refine blk_far ?_ NB325_339.out _; (with_reducible repeat (first | refine blk_drewN ?_ _ | refine blk_drew ?_ | refine blk_alloc ?_ _)); refine blk_far ?_ NB325_339.out _; (with_reducible repeat (first | refine blk_drewN ?_ _ | refine blk_drew ?_ | refine blk_alloc ?_ _)); refine blk_far ?_ NB325_339.out _; (with_reducible repeat (first | refine blk_drewN ?_ _ | refine blk_drew ?_ | refine blk_alloc ?_ _)); exact BK325.out) hb); have n4_ := Aside0.mk (blk_below (g := gb339) (o := .cells #[.int .u8 t331, .int .u8 t332, .int .u8 t333, .int .u16 t334] 25 (0, 0)) (by (with_reducible repeat (first | refine blk_drewN ?_ _ | refine blk_drew ?_ | refine blk_alloc ?_ _)); refine blk_put (cs := #[.int .u8 t331, .int .u8 t332, .int .u8 t333, .int .u16 0]) ?_ 3 _ rfl; (with_reducible repeat (first | refine blk_drewN ?_ _ | refine blk_drew ?_ | refine blk_alloc ?_ _)); refine blk_put (cs := #[.int .u8 t331, .int .u8 t332, .int .u8 0, .int .u16 0]) ?_ 2 _ rfl; (with_reducible repeat (first | refine blk_drewN ?_ _ | refine blk_drew ?_ | refine blk_alloc ?_ _)); refine blk_put (cs := #[.int .u8 t331, .int .u8 0, .int .u8 0, .int .u16 0]) ?_ 1 _ rfl; (with_reducible repeat (first | refine blk_drewN ?_ _ | refine blk_drew ?_ | refine blk_alloc ?_ _)); refine blk_put (cs := #[.int .u8 0, .int .u8 0, .int .u8 0, .int .u16 0]) ?_ 0 _ rfl; (with_reducible repeat (first | refine blk_drewN ?_ _ | refine blk_drew ?_ | refine blk_alloc ?_ _)); exact BK339.out) hb); have n5_ := Aside0.mk (below_step (by repeat (first | (with_reducible first | exact HB.out | apply below_alloc | apply pw_below_drewN | apply below_drew1 | refine below_set ?_ GE312.out | refine below_set ?_ GE325.out | refine below_set ?_ GE339.out) | exact HB.out)) hb); clear HO329; clear HO337; clear BK312; clear BK325; clear BK339; clear HB; have HO329 := n0_; have HO337 := n1_; have BK312 := n2_; have BK325 := n3_; have BK339 := n4_; have HB := n5_; clear n0_ n1_ n2_ n3_ n4_ n5_; (try clear hb); (try clear hb2); (try clear hk); (try clear hi); have hcz99_0 : w98.cell? ⟨gb339, 0, none⟩ = some (.int .u8 t331) := (blk_cell BK339.out 0).trans rfl; have hcz99_1 : w98.cell? ⟨gb339, 1, none⟩ = some (.int .u8 t332) := (blk_cell BK339.out 1).trans rfl; have hcz99_2 : w98.cell? ⟨gb339, 2, none⟩ = some (.int .u8 t333) := (blk_cell BK339.out 2).trans rfl; have hcz99_3 : w98.cell? ⟨gb339, 3, none⟩ = some (.int .u16 t334) := (blk_cell BK339.out 3).trans rfl; have hfz99_0 := blk_frozen BK339.out 0; have hfz99_1 := blk_frozen BK339.out 1; have hfz99_2 := blk_frozen BK339.out 2; have hfz99_3 := blk_frozen BK339.out 3; have hcz100_0 : w98.cell? ⟨gb312, 0, none⟩ = some (.int .u8 a0_0) := (blk_cell BK312.out 0).trans rfl; have hcz100_1 : w98.cell? ⟨gb312, 1, none⟩ = some (.int .u8 a0_1) := (blk_cell BK312.out 1).trans rfl; have hcz100_2 : w98.cell? ⟨gb312, 2, none⟩ = some (.int .u8 a0_2) := (blk_cell BK312.out 2).trans rfl; have hcz100_3 : w98.cell? ⟨gb312, 3, none⟩ = some (.int .u16 a0_3) := (blk_cell BK312.out 3).trans rfl; have hfz100_0 := blk_frozen BK312.out 0; have hfz100_1 := blk_frozen BK312.out 1; have hfz100_2 := blk_frozen BK312.out 2; have hfz100_3 := blk_frozen BK312.out 3) | (go_at_call 15; (with_reducible refine (header_Code.calls a1 t343 _ A86.out).mono ?_); rintro e w' ⟨rfl, ⟨nd, rfl⟩⟩))
                          go_ret
                          exact ⟨by first | rfl | (simp [errW_none, errW_some] <;> rfl) | (simp [*, errW_none, errW_some] <;> rfl), by repeat (first | (with_reducible first | exact HB.out | apply below_alloc | apply pw_below_drewN | apply below_drew1 | refine below_set ?_ GE312.out | refine below_set ?_ GE325.out | refine below_set ?_ GE339.out) | exact HB.out)⟩
                        · rw [if_neg c87] at H
                          have c87b0 : (t340 == t343) = false := beq_eq_false_iff_ne.mpr c87
                          have c87b1 : (t340 != t343) = true := bne_iff_ne.mpr c87
                          obtain rfl := Option.some.inj H
                          exact absurd hr_ (by decide)
                    · rw [if_neg c57] at H
                      have c57b0 : (t341 == (a1 == 0)) = false := by simpa using c57
                      (try (have c57e0 : (t341 = (a1 == 0)) = False := by (have he_ := c57b0; revert he_; cases (t341) <;> cases ((a1 == 0)) <;> simp)))
                      (try (have c57e1 : (t341 == (a1 == 0)) = false := by (have he_ := c57b0; revert he_; cases (t341) <;> cases ((a1 == 0)) <;> simp)))
                      (try (have c57b1 : decide (t341 = (a1 == 0)) = false := by simpa using c57))
                      (try (have c57b2 : (t341 == (a1 == 0)) = false := by simpa using c57))
                      (try (have c57b3 : ¬ (t341 = (a1 == 0)) := by simpa using c57))
                      clear c57
                      obtain rfl := Option.some.inj H
                      exact absurd hr_ (by decide)
                  · rw [if_neg c56] at H
                    have c56b0 : (t334 == a0_3) = false := beq_eq_false_iff_ne.mpr c56
                    have c56b1 : (t334 != a0_3) = true := bne_iff_ne.mpr c56
                    obtain rfl := Option.some.inj H
                    exact absurd hr_ (by decide)
                · replace c55 := Bool.eq_false_iff.mpr c55
                  subst c55
                  have H1 : (some false) = some r := by rw [if_neg (show ¬ (false = true) by decide)] at H; exact H
                  clear H
                  have H := H1
                  clear H1
                  obtain rfl := Option.some.inj H
                  exact absurd hr_ (by decide)
              · rw [if_neg c54] at H
                have c54b0 : (t338 == 0) = false := beq_eq_false_iff_ne.mpr c54
                have c54b1 : (t338 != 0) = true := bne_iff_ne.mpr c54
                obtain rfl := Option.some.inj H
                exact absurd hr_ (by decide)
            · replace c51 := Bool.eq_false_iff.mpr c51
              subst c51
              have H1 : (some ((t327.length : Int) == 0)) = some r := by rw [if_neg (show ¬ (false = true) by decide)] at H; exact H
              clear H
              have H := H1
              clear H1
              obtain rfl := Option.some.inj H
              have hnb162 := NB312_325.out
              have hnc162 := NB325_312.out
              have hcz163_0 : wc.cell? ⟨gb312, 0, none⟩ = some (.int .u8 a0_0) := (blk_cell BK312.out 0).trans rfl
              have hcz163_1 : wc.cell? ⟨gb312, 1, none⟩ = some (.int .u8 a0_1) := (blk_cell BK312.out 1).trans rfl
              have hcz163_2 : wc.cell? ⟨gb312, 2, none⟩ = some (.int .u8 a0_2) := (blk_cell BK312.out 2).trans rfl
              have hcz163_3 : wc.cell? ⟨gb312, 3, none⟩ = some (.int .u16 a0_3) := (blk_cell BK312.out 3).trans rfl
              have hfz163_0 := blk_frozen BK312.out 0
              have hfz163_1 := blk_frozen BK312.out 1
              have hfz163_2 := blk_frozen BK312.out 2
              have hfz163_3 := blk_frozen BK312.out 3
              go_wp2_with (first | ((with_reducible refine gate_callee (f := 10) rfl ?_); refine goesL_ (some 61) rfl rfl Try.func10 (by kernel_rfl) rfl #[.agg #[.int .u8 a0_0, .int .u8 a0_1, .int .u8 a0_2, .int .u16 a0_3], .int .i64 a1] rfl (by (try simp only [List.map_toArray, List.map_cons, List.map_nil]); first | done | rfl | (simp only [List.length_drop, List.length_take]; rfl)) ?_; (with_reducible refine (header_Answer.calls kj10 a0_0 a0_1 a0_2 a0_3 a1 t327 false _ A50.out).mono ?_); rintro e w164 ⟨v328, rfl, ho0, hb⟩; refine ⟨_, rfl, ?_⟩; have n0_ := Aside0.mk (Kd.R_lower ho0 (below_size (by repeat (first | (with_reducible first | exact HB.out | apply below_alloc | apply pw_below_drewN | apply below_drew1 | refine below_set ?_ GE312.out | refine below_set ?_ GE325.out) | exact HB.out)))); have n1_ := Aside0.mk (blk_below (g := gb312) (o := .cells #[.int .u8 a0_0, .int .u8 a0_1, .int .u8 a0_2, .int .u16 a0_3] 25 (0, 0)) (by (with_reducible repeat (first | refine blk_drewN ?_ _ | refine blk_drew ?_ | refine blk_alloc ?_ _)); exact BK312.out) hb); have n2_ := Aside0.mk (blk_below (g := gb325) (o := .cells #[.int .u8 t317, .int .u8 t318, .int .u8 t319, .int .u16 t320] 25 (0, 0)) (by (with_reducible repeat (first | refine blk_drewN ?_ _ | refine blk_drew ?_ | refine blk_alloc ?_ _)); exact BK325.out) hb); have n3_ := Aside0.mk (below_step (by repeat (first | (with_reducible first | exact HB.out | apply below_alloc | apply pw_below_drewN | apply below_drew1 | refine below_set ?_ GE312.out | refine below_set ?_ GE325.out) | exact HB.out)) hb); clear BK312; clear BK325; clear HB; have HO329 := n0_; have BK312 := n1_; have BK325 := n2_; have HB := n3_; clear n0_ n1_ n2_ n3_; (try clear hb); (try clear hb2); (try clear hk); (try clear hi); (try clear ho0); obtain ⟨Ao165, co165, eo165⟩ := Kd.R_slice HO329.out; subst eo165))
              go_ret
              exact ⟨by first | rfl | (simp [errW_none, errW_some] <;> rfl) | (simp [*, errW_none, errW_some] <;> rfl), by repeat (first | (with_reducible first | exact HB.out | apply below_alloc | apply pw_below_drewN | apply below_drew1 | refine below_set ?_ GE312.out | refine below_set ?_ GE325.out) | exact HB.out)⟩
  · replace c5 := Bool.eq_false_iff.mpr c5
    subst c5
    have H1 : (some false) = some r := by rw [if_neg (show ¬ (false = true) by decide)] at H; exact H
    clear H
    have H := H1
    clear H1
    obtain rfl := Option.some.inj H
    exact absurd hr_ (by decide)

/-! ### greenscreenref09_Give: function 20 -/
def greenscreenref09_Give.f (a0_0 : Int) (l0_1 : List Int) : Option (Int × List Int × Int) := (some (([] : List Int) : List Int)).bind fun y346 => (if y346.length + l0_1.length < 17592186044416 then ((some (y346 ++ l0_1 : List Int)).bind fun y349 => (if y349.length < 17592186044416 then ((some (y349 ++ [a0_0] : List Int)).bind fun y352 => (if (y352.length : Int) > 64 then (if 1 ≤ (y352.length : Int) then (some (Int.tmod (wrap64 (a0_0 + 1)) 32768, (y352.drop (1 : Int).toNat), a0_0)) else (none)) else (some (Int.tmod (wrap64 (a0_0 + 1)) 32768, y352, a0_0)))) else (none))) else (none))
set_option maxHeartbeats 8000000 in
set_option maxRecDepth 100000 in
theorem greenscreenref09_Give.calls (a0_0 : Int) (A0_1 : Option Addr) (c0_1 : Nat) (l0_1 : List Int) (r1 : Int) (r2 : List Int) (r3 : Int) (w : World) (hr0_1 : Kd.C (Kd.int .i64) w A0_1 l0_1.length l0_1) (hc0_1 : l0_1.length ≤ c0_1) (h : greenscreenref09_Give.f a0_0 l0_1 = some (r1, r2, r3)) :
    Calls Try.prog 20 #[.agg #[.int .i64 a0_0, .slice A0_1 l0_1.length c0_1]] w fun e w' => ∃ v1_ : Value, e = .returned (.tuple #[.agg #[.int .i64 r1, v1_], .int .i64 r3]) ∧ Kd.Q (Kd.int .i64) 3 w' w.heap.size (fun _ => True) v1_ r2 ∧ Below w.heap.size w w' := by
  have hu52 := Try.underlying52
  have HR0_1 := Aside0.mk hr0_1
  have HC0_1 := Aside0.mk hc0_1
  clear hr0_1 hc0_1
  have HB := Aside0.mk (Below.refl w.heap.size w)
  have H : ((some (([] : List Int) : List Int)).bind fun y346 => (if y346.length + l0_1.length < 17592186044416 then ((some (y346 ++ l0_1 : List Int)).bind fun y349 => (if y349.length < 17592186044416 then ((some (y349 ++ [a0_0] : List Int)).bind fun y352 => (if (y352.length : Int) > 64 then (if 1 ≤ (y352.length : Int) then (some (Int.tmod (wrap64 (a0_0 + 1)) 32768, (y352.drop (1 : Int).toNat), a0_0)) else (none)) else (some (Int.tmod (wrap64 (a0_0 + 1)) 32768, y352, a0_0)))) else (none))) else (none))) = some (r1, r2, r3) := h
  clear h
  obtain ⟨y346, hy346⟩ : ∃ y_ : List Int, y_ = (([] : List Int)) := ⟨_, rfl⟩
  replace H : (if y346.length + l0_1.length < 17592186044416 then ((some (y346 ++ l0_1 : List Int)).bind fun y349 => (if y349.length < 17592186044416 then ((some (y349 ++ [a0_0] : List Int)).bind fun y352 => (if (y352.length : Int) > 64 then (if 1 ≤ (y352.length : Int) then (some (Int.tmod (wrap64 (a0_0 + 1)) 32768, (y352.drop (1 : Int).toNat), a0_0)) else (none)) else (some (Int.tmod (wrap64 (a0_0 + 1)) 32768, y352, a0_0)))) else (none))) else (none)) = some (r1, r2, r3) := by first | (rw [hy346]; with_reducible exact H) | (have H2_ := (Option.bind_some _ _).symm.trans H; rw [hy346]; with_reducible exact H2_) | (have H2_ := (Option.bind_some _ _).symm.trans H; with_reducible exact H2_) | with_reducible exact H | (rw [hy346]; exact H) | exact H
  have Ny346 := Aside0.mk hy346
  clear hy346
  by_cases c2 : y346.length + l0_1.length < 17592186044416
  · rw [if_pos c2] at H
    have LMc2 := Aside0.mk c2
    clear c2
    obtain ⟨y349, hy349⟩ : ∃ y_ : List Int, y_ = (y346 ++ l0_1) := ⟨_, rfl⟩
    replace H : (if y349.length < 17592186044416 then ((some (y349 ++ [a0_0] : List Int)).bind fun y352 => (if (y352.length : Int) > 64 then (if 1 ≤ (y352.length : Int) then (some (Int.tmod (wrap64 (a0_0 + 1)) 32768, (y352.drop (1 : Int).toNat), a0_0)) else (none)) else (some (Int.tmod (wrap64 (a0_0 + 1)) 32768, y352, a0_0)))) else (none)) = some (r1, r2, r3) := by first | (rw [hy349]; with_reducible exact H) | (have H2_ := (Option.bind_some _ _).symm.trans H; rw [hy349]; with_reducible exact H2_) | (have H2_ := (Option.bind_some _ _).symm.trans H; with_reducible exact H2_) | with_reducible exact H | (rw [hy349]; exact H) | exact H
    have Ny349 := Aside0.mk hy349
    clear hy349
    by_cases c3 : y349.length < 17592186044416
    · rw [if_pos c3] at H
      have LMc3 := Aside0.mk c3
      clear c3
      obtain ⟨y352, hy352⟩ : ∃ y_ : List Int, y_ = (y349 ++ [a0_0]) := ⟨_, rfl⟩
      replace H : (if (y352.length : Int) > 64 then (if 1 ≤ (y352.length : Int) then (some (Int.tmod (wrap64 (a0_0 + 1)) 32768, (y352.drop (1 : Int).toNat), a0_0)) else (none)) else (some (Int.tmod (wrap64 (a0_0 + 1)) 32768, y352, a0_0))) = some (r1, r2, r3) := by first | (rw [hy352]; with_reducible exact H) | (have H2_ := (Option.bind_some _ _).symm.trans H; rw [hy352]; with_reducible exact H2_) | (have H2_ := (Option.bind_some _ _).symm.trans H; with_reducible exact H2_) | with_reducible exact H | (rw [hy352]; exact H) | exact H
      have Ny352 := Aside0.mk hy352
      clear hy352
      by_cases c4 : (y352.length : Int) > 64
      · rw [if_pos c4] at H
        have c4b0 : decide (64 < (y352.length : Int)) = true := decide_eq_true c4
        have c4b1 : decide (64 < y352.length) = true := decide_eq_true (by omega)
        clear c4
        by_cases c5 : 1 ≤ (y352.length : Int)
        · rw [if_pos c5] at H
          have c5b0 := eq_true c5
          have c5b1 : decide (1 ≤ (y352.length : Int)) = true := decide_eq_true c5
          clear c5
          obtain ⟨y355, hy355⟩ : ∃ y_ : List Int, y_ = (y352.drop (1 : Int).toNat) := ⟨_, rfl⟩
          replace H : (some (Int.tmod (wrap64 (a0_0 + 1)) 32768, y355, a0_0)) = some (r1, r2, r3) := by first | (rw [hy355]; with_reducible exact H) | (have H2_ := (Option.bind_some _ _).symm.trans H; rw [hy355]; with_reducible exact H2_) | (have H2_ := (Option.bind_some _ _).symm.trans H; with_reducible exact H2_) | with_reducible exact H | (rw [hy355]; exact H) | exact H
          have Ny355 := Aside0.mk hy355
          clear hy355
          simp only [Option.some.injEq, Prod.mk.injEq] at H
          obtain ⟨rfl, rfl, rfl⟩ := H
          go_enter Try.func20, Try.ntmps20
          go_wp2_with (first | ((with_reducible refine gate_dst (N := 1) rfl ?_); refine box_event ?hg (N := 1) ?hd (cs := #[.int .i64 a0_0, .slice A0_1 l0_1.length c0_1]) (t := 52) ?hr ?_; (case hd => rfl); (case hg => rfl); (case hr => first | (go_simp; done) | (go_simp; rfl)); intro gb344 hg w6 hbox hb; have n0_ := Aside0.mk (below_step (by repeat (first | (with_reducible first | exact HB.out | apply below_alloc | apply pw_below_drewN | apply below_drew1) | exact HB.out)) hb); have n1_ := Aside0.mk (hbox); have n2_ := Aside0.mk ((by rw [hg]; exact (below_size (by repeat (first | (with_reducible first | exact HB.out | apply below_alloc | apply pw_below_drewN | apply below_drew1) | exact HB.out))) : w.heap.size ≤ gb344)); have n3_ := Aside0.mk ((by rw [hg]; exact (below_size (by repeat (first | (with_reducible first | exact HB.out | apply below_alloc | apply pw_below_drewN | apply below_drew1) | exact HB.out))) : w.heap.size ≤ gb344)); clear HB; have HB := n0_; have BK344 := n1_; have GW344 := n2_; have GE344 := n3_; clear n0_ n1_ n2_ n3_; clear hb hbox hg) | ((with_reducible refine gate_dst (N := 2) rfl ?_); refine box_event ?hg (N := 2) ?hd (cs := #[.int .i64 0, .slice none 0 0]) (t := 52) ?hr ?_; (case hd => rfl); (case hg => rfl); (case hr => first | (go_simp; done) | (go_simp; rfl)); intro gb345 hg w7 hbox hb; have n0_ := Aside0.mk (blk_below (g := gb344) (o := .cells #[.int .i64 a0_0, .slice A0_1 l0_1.length c0_1] 52 (0, 0)) (by (with_reducible repeat (first | refine blk_drewN ?_ _ | refine blk_drew ?_ | refine blk_alloc ?_ _)); exact BK344.out) hb); have n1_ := Aside0.mk (below_step (by repeat (first | (with_reducible first | exact HB.out | apply below_alloc | apply pw_below_drewN | apply below_drew1 | refine below_set ?_ GE344.out) | exact HB.out)) hb); have n2_ := Aside0.mk (hbox); have n3_ := Aside0.mk ((by rw [hg]; exact (below_size (by repeat (first | (with_reducible first | exact HB.out | apply below_alloc | apply pw_below_drewN | apply below_drew1 | refine below_set ?_ GE344.out) | exact HB.out))) : w.heap.size ≤ gb345)); have n4_ := Aside0.mk ((by rw [hg]; exact (below_size (by repeat (first | (with_reducible first | exact HB.out | apply below_alloc | apply pw_below_drewN | apply below_drew1 | refine below_set ?_ GE344.out) | exact HB.out))) : w.heap.size ≤ gb345)); have n5_ := Aside0.mk ((by rw [hg]; exact Nat.ne_of_lt (blk_lt (g := gb344) (o := .cells #[.int .i64 a0_0, .slice A0_1 l0_1.length c0_1] 52 (0, 0)) (by (with_reducible repeat (first | refine blk_drewN ?_ _ | refine blk_drew ?_ | refine blk_alloc ?_ _)); exact BK344.out)) : gb344 ≠ gb345)); have n6_ := Aside0.mk ((by rw [hg]; exact Nat.ne_of_gt (blk_lt (g := gb344) (o := .cells #[.int .i64 a0_0, .slice A0_1 l0_1.length c0_1] 52 (0, 0)) (by (with_reducible repeat (first | refine blk_drewN ?_ _ | refine blk_drew ?_ | refine blk_alloc ?_ _)); exact BK344.out)) : gb345 ≠ gb344)); clear BK344; clear HB; have BK344 := n0_; have HB := n1_; have BK345 := n2_; have GW345 := n3_; have GE345 := n4_; have NB344_345 := n5_; have NB345_344 := n6_; clear n0_ n1_ n2_ n3_ n4_ n5_ n6_; clear hb hbox hg; have hnb8 := NB344_345.out; have hnc8 := NB345_344.out; have hcz9_0 : w7.cell? ⟨gb344, 0, none⟩ = some (.int .i64 a0_0) := (blk_cell BK344.out 0).trans rfl; have hcz9_1 : w7.cell? ⟨gb344, 1, none⟩ = some (.slice A0_1 l0_1.length c0_1) := (blk_cell BK344.out 1).trans rfl; have hfz9_0 := blk_frozen BK344.out 0; have hfz9_1 := blk_frozen BK344.out 1) | ((with_reducible refine gate_dst (N := 12) rfl ?_); refine Kd.R_lit (Kd.int .i64) _ 3 ?hg (N := 12) ?hd (xs := ([] : List Int)) (inner := []) (ok := fun _ => True) (okp := fun _ => True) ?hr ?hp (fun _ hk => hk) trivial (Below.refl _ _) (Nat.le_refl _) (by simp) ?_; (case hd => rfl); (case hg => rfl); (case hr => first | (go_simp; done) | (go_simp; rfl)); (case hp => exact (Reps.none _ _)); intro v347 w10 ho11 hb hg_ hnew_; clear hg_ hnew_; (first | rw [← Ny346.out] at ho11 | (simp only [Int.reduceToNat] at ho11; rw [← Ny346.out] at ho11)); have n0_ := Aside0.mk (Kd.R_lower ho11 (below_size (by repeat (first | (with_reducible first | exact HB.out | apply below_alloc | apply pw_below_drewN | apply below_drew1 | refine below_set ?_ GE344.out | refine below_set ?_ GE345.out) | exact HB.out)))); have n1_ := Aside0.mk (blk_below (g := gb344) (o := .cells #[.int .i64 (Int.tmod (wrap64 (a0_0 + 1)) 32768), .slice A0_1 l0_1.length c0_1] 52 (0, 0)) (by (with_reducible repeat (first | refine blk_drewN ?_ _ | refine blk_drew ?_ | refine blk_alloc ?_ _)); refine blk_put (cs := #[.int .i64 a0_0, .slice A0_1 l0_1.length c0_1]) ?_ 0 _ rfl; (with_reducible repeat (first | refine blk_drewN ?_ _ | refine blk_drew ?_ | refine blk_alloc ?_ _)); exact BK344.out) hb); have n2_ := Aside0.mk (blk_below (g := gb345) (o := .cells #[.int .i64 0, .slice none 0 0] 52 (0, 0)) (by (with_reducible repeat (first | refine blk_drewN ?_ _ | refine blk_drew ?_ | refine blk_alloc ?_ _)); refine blk_far ?_ NB345_344.out _; (with_reducible repeat (first | refine blk_drewN ?_ _ | refine blk_drew ?_ | refine blk_alloc ?_ _)); exact BK345.out) hb); have n3_ := Aside0.mk (below_step (by repeat (first | (with_reducible first | exact HB.out | apply below_alloc | apply pw_below_drewN | apply below_drew1 | refine below_set ?_ GE344.out | refine below_set ?_ GE345.out) | exact HB.out)) hb); clear BK344; clear BK345; clear HB; have HO348 := n0_; have BK344 := n1_; have BK345 := n2_; have HB := n3_; clear n0_ n1_ n2_ n3_; clear hb ho11; have hcz12_0 : w10.cell? ⟨gb344, 0, none⟩ = some (.int .i64 (Int.tmod (wrap64 (a0_0 + 1)) 32768)) := (blk_cell BK344.out 0).trans rfl; have hcz12_1 : w10.cell? ⟨gb344, 1, none⟩ = some (.slice A0_1 l0_1.length c0_1) := (blk_cell BK344.out 1).trans rfl; have hfz12_0 := blk_frozen BK344.out 0; have hfz12_1 := blk_frozen BK344.out 1) | ((with_reducible refine gate_builtin (b := .append) (xs := #[.tmp 13, .tmp 15]) rfl ?_); at_builtin; refine Kd.R_append_rows (Kd.int .i64) (w0 := w) w.heap.size rfl (.tmp 13) (.tmp 15) 47 3 (.int .i64 0) 8 rfl Try.underlying47 info3 rfl (by decide) (by omega) v347 y346 l0_1 _ _ _ (fun _ => True) (fun _ => False) rfl rfl ?aO ?aR (fun _ _ h => h) (fun _ h => h.elim) ?aF ?aB ?aS ?aL ?_; (case aR => repeat (first | exact (Kd.C_below HR0_1.out HB.out) | (with_reducible refine Kd.C_alloc ?_ _) | (with_reducible refine Kd.C_drewN ?_ _) | (with_reducible refine Kd.C_drew ?_))); (case aB => exact (by repeat (first | (with_reducible first | exact HB.out | apply below_alloc | apply pw_below_drewN | apply below_drew1 | refine below_set ?_ GE344.out | refine below_set ?_ GE345.out) | exact HB.out))); (case aF => exact (fun _ _ => trivial)); (case aO => exact (by (with_reducible repeat (first | apply Kd.R_alloc | apply Kd.R_drewN | apply Kd.R_drew)); exact HO348.out)); (case aS => exact (below_size (by repeat (first | (with_reducible first | exact HB.out | apply below_alloc | apply pw_below_drewN | apply below_drew1 | refine below_set ?_ GE344.out | refine below_set ?_ GE345.out) | exact HB.out)))); (case aL => have := LMc2.out; omega); intro v350 w13 ho hb hg hat; rw [← Ny349.out] at ho; have n0_ := Aside0.mk (blk_grown (g := gb344) (o := .cells #[.int .i64 (Int.tmod (wrap64 (a0_0 + 1)) 32768), .slice A0_1 l0_1.length c0_1] 52 (0, 0)) (by (with_reducible repeat (first | refine blk_drewN ?_ _ | refine blk_drew ?_ | refine blk_alloc ?_ _)); exact BK344.out) hg (Kd.R_ne HO348.out BK344.out (by decide))); have n1_ := Aside0.mk (blk_grown (g := gb345) (o := .cells #[.int .i64 0, .slice none 0 0] 52 (0, 0)) (by (with_reducible repeat (first | refine blk_drewN ?_ _ | refine blk_drew ?_ | refine blk_alloc ?_ _)); exact BK345.out) hg (Kd.R_ne HO348.out BK345.out (by decide))); have n2_ := Aside0.mk (hb); have n3_ := Aside0.mk (ho); clear BK344; clear BK345; clear HB; clear HO348; have BK344 := n0_; have BK345 := n1_; have HB := n2_; have HO351 := n3_; clear n0_ n1_ n2_ n3_; clear ho hb hg hat) | ((with_reducible refine gate_builtin (b := .append) (xs := #[.tmp 17, .tmp 19]) rfl ?_); at_builtin; refine Kd.R_append (Kd.int .i64) (w0 := w) w.heap.size rfl (.tmp 17) (.tmp 19) 47 3 (.int .i64 0) 8 rfl Try.underlying47 info3 rfl (by decide) (by omega) v350 y349 a0_0 [.int .i64 a0_0] (fun _ => True) (fun _ => False) rfl rfl ?aP (fun _ hk => hk.elim) ?aF ?aO ?aB ?aS ?aL ?_; (case aP => exact rfl); (case aB => exact (by repeat (first | (with_reducible first | exact HB.out | apply below_alloc | apply pw_below_drewN | apply below_drew1 | refine below_set ?_ GE344.out | refine below_set ?_ GE345.out) | exact HB.out))); (case aF => exact (fun _ _ => trivial)); (case aO => exact (by (with_reducible repeat (first | apply Kd.R_alloc | apply Kd.R_drewN | apply Kd.R_drew)); exact HO351.out)); (case aS => exact (below_size (by repeat (first | (with_reducible first | exact HB.out | apply below_alloc | apply pw_below_drewN | apply below_drew1 | refine below_set ?_ GE344.out | refine below_set ?_ GE345.out) | exact HB.out)))); (case aL => have := LMc3.out; omega); intro v353 w14 ho hb hg hat; rw [← Ny352.out] at ho; have n0_ := Aside0.mk (blk_grown (g := gb344) (o := .cells #[.int .i64 (Int.tmod (wrap64 (a0_0 + 1)) 32768), .slice A0_1 l0_1.length c0_1] 52 (0, 0)) (by (with_reducible repeat (first | refine blk_drewN ?_ _ | refine blk_drew ?_ | refine blk_alloc ?_ _)); exact BK344.out) hg (Kd.R_ne HO351.out BK344.out (by decide))); have n1_ := Aside0.mk (blk_grown (g := gb345) (o := .cells #[.int .i64 0, .slice none 0 0] 52 (0, 0)) (by (with_reducible repeat (first | refine blk_drewN ?_ _ | refine blk_drew ?_ | refine blk_alloc ?_ _)); exact BK345.out) hg (Kd.R_ne HO351.out BK345.out (by decide))); have n2_ := Aside0.mk (hb); have n3_ := Aside0.mk (ho); clear BK344; clear BK345; clear HB; clear HO351; have BK344 := n0_; have BK345 := n1_; have HB := n2_; have HO354 := n3_; clear n0_ n1_ n2_ n3_; clear ho hb hg hat; obtain ⟨Ao15, co15, eo15⟩ := Kd.R_slice HO354.out; subst eo15; have hcz16_0 : w14.cell? ⟨gb344, 0, none⟩ = some (.int .i64 (Int.tmod (wrap64 (a0_0 + 1)) 32768)) := (blk_cell BK344.out 0).trans rfl; have hcz16_1 : w14.cell? ⟨gb344, 1, none⟩ = some (.slice A0_1 l0_1.length c0_1) := (blk_cell BK344.out 1).trans rfl; have hfz16_0 := blk_frozen BK344.out 0; have hfz16_1 := blk_frozen BK344.out 1) | ((with_reducible refine gate_store (t := 47) (p := 21) rfl ?_); refine store_event (t := 47) (p := 21) (v := ?vo_w17) (w1 := (w14.setCell ⟨gb344, 1, none⟩ (.slice Ao15 y352.length co15))) ?hg ?ho ?hn ?hr ?_; (case ho => rfl); (case hg => rfl); (case hn => rfl); (case hr => first | (go_simp; done) | (go_simp; rfl)); intro w17 hw; have n0_ : Aside0 (Kd.R (Kd.int .i64) 3 w17 w.heap.size (fun _ => True) (.slice Ao15 y352.length co15) y352) := ⟨(by rw [hw]; exact (by (with_reducible repeat (first | apply Kd.R_alloc | apply Kd.R_drewN | apply Kd.R_drew)); exact Kd.R_mono (Kd.R_far (p := ⟨gb344, 1, none⟩) (Kd.R_types HO354.out BK344.out (by decide)) (fun _ hk => hk.2) (.slice Ao15 y352.length co15)) (fun _ hk => trivial)))⟩; have n1_ : Aside0 (w17.heap[gb344]? = some (.cells #[.int .i64 (Int.tmod (wrap64 (a0_0 + 1)) 32768), .slice Ao15 y352.length co15] 52 (0, 0))) := ⟨(by rw [hw]; exact (by (with_reducible repeat (first | refine blk_drewN ?_ _ | refine blk_drew ?_ | refine blk_alloc ?_ _)); refine blk_put (cs := #[.int .i64 (Int.tmod (wrap64 (a0_0 + 1)) 32768), .slice A0_1 l0_1.length c0_1]) ?_ 1 _ rfl; (with_reducible repeat (first | refine blk_drewN ?_ _ | refine blk_drew ?_ | refine blk_alloc ?_ _)); exact BK344.out))⟩; have n2_ : Aside0 (w17.heap[gb345]? = some (.cells #[.int .i64 0, .slice none 0 0] 52 (0, 0))) := ⟨(by rw [hw]; exact (by (with_reducible repeat (first | refine blk_drewN ?_ _ | refine blk_drew ?_ | refine blk_alloc ?_ _)); refine blk_far ?_ NB345_344.out _; (with_reducible repeat (first | refine blk_drewN ?_ _ | refine blk_drew ?_ | refine blk_alloc ?_ _)); exact BK345.out))⟩; have n3_ : Aside0 (Below w.heap.size w w17) := ⟨(by rw [hw]; exact (by repeat (first | (with_reducible first | exact HB.out | apply below_alloc | apply pw_below_drewN | apply below_drew1 | refine below_set ?_ GE344.out | refine below_set ?_ GE345.out) | exact HB.out)))⟩; clear hw; clear HO354; clear BK344; clear BK345; clear HB; have HO354 := n0_; have BK344 := n1_; have BK345 := n2_; have HB := n3_; clear n0_ n1_ n2_ n3_; have hcz18_0 : w17.cell? ⟨gb344, 0, none⟩ = some (.int .i64 (Int.tmod (wrap64 (a0_0 + 1)) 32768)) := (blk_cell BK344.out 0).trans rfl; have hcz18_1 : w17.cell? ⟨gb344, 1, none⟩ = some (.slice Ao15 y352.length co15) := (blk_cell BK344.out 1).trans rfl; have hfz18_0 := blk_frozen BK344.out 0; have hfz18_1 := blk_frozen BK344.out 1; have q19 : (1 : Int) ≤ ((y352.length : Int) : Int) := of_decide_eq_true (by first | (with_reducible assumption) | assumption); obtain ⟨i019, hi019, _, hsz19, _⟩ := info_parts info3; have hcut19 := cut_from (P := Try.prog) 47 3 .i64 Try.underlying47 hi019 1 hsz19 Ao15 y352.length co15 1 (by omega) q19; have hr19 := Kd.Q_drop (k := (1 : Int).toNat) (Kd.Q_of_R HO354.out) (by omega); obtain ⟨A19, hA19⟩ : ∃ A1, A1 = (if co15 = (1 : Int).toNat then Ao15 else (Ao15 : Option Addr).map (·.add ((1 : Int).toNat * 1))) := ⟨_, rfl⟩; obtain ⟨c19, hc19⟩ : ∃ c1, c1 = co15 - (1 : Int).toNat := ⟨_, rfl⟩; have hy19 : y355.length = y352.length - (1 : Int).toNat := (by rw [Ny355.out, List.length_drop]); rw [← Ny355.out] at hr19; rw [← hy19, ← hA19, ← hc19] at hcut19; replace hr19 : Kd.Q (Kd.int .i64) 3 w17 w.heap.size (fun _ => True) (.slice A19 y355.length c19) y355 := (by rw [hA19, hc19, hy19]; exact hr19); have HE19 : Aside0 ((Value.slice A19 y355.length c19).ownBlock = (.slice Ao15 y352.length co15 : Value).ownBlock) := ⟨by rw [hA19]; split <;> (cases (Ao15 : Option Addr) <;> rfl)⟩; clear hy19 hi019 hsz19 HO354 hA19 hc19; have HO357 := Aside0.mk hr19; clear hr19; replace q19 := eq_true q19; have hcz20_0 : w17.cell? ⟨gb345, 0, none⟩ = some (.int .i64 0) := (blk_cell BK345.out 0).trans rfl; have hcz20_1 : w17.cell? ⟨gb345, 1, none⟩ = some (.slice none 0 0) := (blk_cell BK345.out 1).trans rfl; have hfz20_0 := blk_frozen BK345.out 0; have hfz20_1 := blk_frozen BK345.out 1))
          refine bodyPost_ret (results_ct rfl _ _ gb345 52 #[.int .i64 (Int.tmod (wrap64 (a0_0 + 1)) 32768), .slice A19 y355.length c19] (0, 0) _ rfl (by (with_reducible repeat (first | refine blk_drewN ?_ _ | refine blk_drew ?_ | refine blk_alloc ?_ _)); refine blk_put (cs := #[.int .i64 (Int.tmod (wrap64 (a0_0 + 1)) 32768), .slice none 0 0]) ?_ 1 _ rfl; (with_reducible repeat (first | refine blk_drewN ?_ _ | refine blk_drew ?_ | refine blk_alloc ?_ _)); refine blk_put (cs := #[.int .i64 0, .slice none 0 0]) ?_ 0 _ rfl; (with_reducible repeat (first | refine blk_drewN ?_ _ | refine blk_drew ?_ | refine blk_alloc ?_ _)); refine blk_far ?_ NB345_344.out _; (with_reducible repeat (first | refine blk_drewN ?_ _ | refine blk_drew ?_ | refine blk_alloc ?_ _)); exact BK345.out) Try.underlying52 rfl (by kernel_rfl)) rfl ?_
          exact ⟨_, by first | rfl | (simp [errW_none, errW_some] <;> rfl) | (simp [*, errW_none, errW_some] <;> rfl), by (with_reducible repeat (first | apply Kd.Q_alloc | apply Kd.Q_drewN | apply Kd.Q_drew)); exact Kd.Q_mono (Kd.Q_far (p := ⟨gb345, 1, none⟩) (Kd.Q_far (p := ⟨gb345, 0, none⟩) (Kd.Q_far (p := ⟨gb344, 1, none⟩) (Kd.Q_types (Kd.Q_types HO357.out BK344.out (by decide)) BK345.out (by decide)) (fun _ hk => hk.1.2) (.slice A19 y355.length c19)) (fun _ hk => hk.2) (.int .i64 (Int.tmod (wrap64 (a0_0 + 1)) 32768))) (fun _ hk => hk.2) (.slice A19 y355.length c19)) (fun _ hk => trivial), by repeat (first | (with_reducible first | exact HB.out | apply below_alloc | apply pw_below_drewN | apply below_drew1 | refine below_set ?_ GE344.out | refine below_set ?_ GE345.out) | exact HB.out)⟩
        · rw [if_neg c5] at H
          exact absurd H (by simp)
      · rw [if_neg c4] at H
        have c4b0 : decide (64 < (y352.length : Int)) = false := decide_eq_false c4
        have c4b1 : decide (64 < y352.length) = false := decide_eq_false (by omega)
        clear c4
        simp only [Option.some.injEq, Prod.mk.injEq] at H
        obtain ⟨rfl, rfl, rfl⟩ := H
        go_enter Try.func20, Try.ntmps20
        go_wp2_with (first | ((with_reducible refine gate_dst (N := 1) rfl ?_); refine box_event ?hg (N := 1) ?hd (cs := #[.int .i64 a0_0, .slice A0_1 l0_1.length c0_1]) (t := 52) ?hr ?_; (case hd => rfl); (case hg => rfl); (case hr => first | (go_simp; done) | (go_simp; rfl)); intro gb344 hg w21 hbox hb; have n0_ := Aside0.mk (below_step (by repeat (first | (with_reducible first | exact HB.out | apply below_alloc | apply pw_below_drewN | apply below_drew1) | exact HB.out)) hb); have n1_ := Aside0.mk (hbox); have n2_ := Aside0.mk ((by rw [hg]; exact (below_size (by repeat (first | (with_reducible first | exact HB.out | apply below_alloc | apply pw_below_drewN | apply below_drew1) | exact HB.out))) : w.heap.size ≤ gb344)); have n3_ := Aside0.mk ((by rw [hg]; exact (below_size (by repeat (first | (with_reducible first | exact HB.out | apply below_alloc | apply pw_below_drewN | apply below_drew1) | exact HB.out))) : w.heap.size ≤ gb344)); clear HB; have HB := n0_; have BK344 := n1_; have GW344 := n2_; have GE344 := n3_; clear n0_ n1_ n2_ n3_; clear hb hbox hg) | ((with_reducible refine gate_dst (N := 2) rfl ?_); refine box_event ?hg (N := 2) ?hd (cs := #[.int .i64 0, .slice none 0 0]) (t := 52) ?hr ?_; (case hd => rfl); (case hg => rfl); (case hr => first | (go_simp; done) | (go_simp; rfl)); intro gb345 hg w22 hbox hb; have n0_ := Aside0.mk (blk_below (g := gb344) (o := .cells #[.int .i64 a0_0, .slice A0_1 l0_1.length c0_1] 52 (0, 0)) (by (with_reducible repeat (first | refine blk_drewN ?_ _ | refine blk_drew ?_ | refine blk_alloc ?_ _)); exact BK344.out) hb); have n1_ := Aside0.mk (below_step (by repeat (first | (with_reducible first | exact HB.out | apply below_alloc | apply pw_below_drewN | apply below_drew1 | refine below_set ?_ GE344.out) | exact HB.out)) hb); have n2_ := Aside0.mk (hbox); have n3_ := Aside0.mk ((by rw [hg]; exact (below_size (by repeat (first | (with_reducible first | exact HB.out | apply below_alloc | apply pw_below_drewN | apply below_drew1 | refine below_set ?_ GE344.out) | exact HB.out))) : w.heap.size ≤ gb345)); have n4_ := Aside0.mk ((by rw [hg]; exact (below_size (by repeat (first | (with_reducible first | exact HB.out | apply below_alloc | apply pw_below_drewN | apply below_drew1 | refine below_set ?_ GE344.out) | exact HB.out))) : w.heap.size ≤ gb345)); have n5_ := Aside0.mk ((by rw [hg]; exact Nat.ne_of_lt (blk_lt (g := gb344) (o := .cells #[.int .i64 a0_0, .slice A0_1 l0_1.length c0_1] 52 (0, 0)) (by (with_reducible repeat (first | refine blk_drewN ?_ _ | refine blk_drew ?_ | refine blk_alloc ?_ _)); exact BK344.out)) : gb344 ≠ gb345)); have n6_ := Aside0.mk ((by rw [hg]; exact Nat.ne_of_gt (blk_lt (g := gb344) (o := .cells #[.int .i64 a0_0, .slice A0_1 l0_1.length c0_1] 52 (0, 0)) (by (with_reducible repeat (first | refine blk_drewN ?_ _ | refine blk_drew ?_ | refine blk_alloc ?_ _)); exact BK344.out)) : gb345 ≠ gb344)); clear BK344; clear HB; have BK344 := n0_; have HB := n1_; have BK345 := n2_; have GW345 := n3_; have GE345 := n4_; have NB344_345 := n5_; have NB345_344 := n6_; clear n0_ n1_ n2_ n3_ n4_ n5_ n6_; clear hb hbox hg; have hnb23 := NB344_345.out; have hnc23 := NB345_344.out; have hcz24_0 : w22.cell? ⟨gb344, 0, none⟩ = some (.int .i64 a0_0) := (blk_cell BK344.out 0).trans rfl; have hcz24_1 : w22.cell? ⟨gb344, 1, none⟩ = some (.slice A0_1 l0_1.length c0_1) := (blk_cell BK344.out 1).trans rfl; have hfz24_0 := blk_frozen BK344.out 0; have hfz24_1 := blk_frozen BK344.out 1) | ((with_reducible refine gate_dst (N := 12) rfl ?_); refine Kd.R_lit (Kd.int .i64) _ 3 ?hg (N := 12) ?hd (xs := ([] : List Int)) (inner := []) (ok := fun _ => True) (okp := fun _ => True) ?hr ?hp (fun _ hk => hk) trivial (Below.refl _ _) (Nat.le_refl _) (by simp) ?_; (case hd => rfl); (case hg => rfl); (case hr => first | (go_simp; done) | (go_simp; rfl)); (case hp => exact (Reps.none _ _)); intro v347 w25 ho26 hb hg_ hnew_; clear hg_ hnew_; (first | rw [← Ny346.out] at ho26 | (simp only [Int.reduceToNat] at ho26; rw [← Ny346.out] at ho26)); have n0_ := Aside0.mk (Kd.R_lower ho26 (below_size (by repeat (first | (with_reducible first | exact HB.out | apply below_alloc | apply pw_below_drewN | apply below_drew1 | refine below_set ?_ GE344.out | refine below_set ?_ GE345.out) | exact HB.out)))); have n1_ := Aside0.mk (blk_below (g := gb344) (o := .cells #[.int .i64 (Int.tmod (wrap64 (a0_0 + 1)) 32768), .slice A0_1 l0_1.length c0_1] 52 (0, 0)) (by (with_reducible repeat (first | refine blk_drewN ?_ _ | refine blk_drew ?_ | refine blk_alloc ?_ _)); refine blk_put (cs := #[.int .i64 a0_0, .slice A0_1 l0_1.length c0_1]) ?_ 0 _ rfl; (with_reducible repeat (first | refine blk_drewN ?_ _ | refine blk_drew ?_ | refine blk_alloc ?_ _)); exact BK344.out) hb); have n2_ := Aside0.mk (blk_below (g := gb345) (o := .cells #[.int .i64 0, .slice none 0 0] 52 (0, 0)) (by (with_reducible repeat (first | refine blk_drewN ?_ _ | refine blk_drew ?_ | refine blk_alloc ?_ _)); refine blk_far ?_ NB345_344.out _; (with_reducible repeat (first | refine blk_drewN ?_ _ | refine blk_drew ?_ | refine blk_alloc ?_ _)); exact BK345.out) hb); have n3_ := Aside0.mk (below_step (by repeat (first | (with_reducible first | exact HB.out | apply below_alloc | apply pw_below_drewN | apply below_drew1 | refine below_set ?_ GE344.out | refine below_set ?_ GE345.out) | exact HB.out)) hb); clear BK344; clear BK345; clear HB; have HO348 := n0_; have BK344 := n1_; have BK345 := n2_; have HB := n3_; clear n0_ n1_ n2_ n3_; clear hb ho26; have hcz27_0 : w25.cell? ⟨gb344, 0, none⟩ = some (.int .i64 (Int.tmod (wrap64 (a0_0 + 1)) 32768)) := (blk_cell BK344.out 0).trans rfl; have hcz27_1 : w25.cell? ⟨gb344, 1, none⟩ = some (.slice A0_1 l0_1.length c0_1) := (blk_cell BK344.out 1).trans rfl; have hfz27_0 := blk_frozen BK344.out 0; have hfz27_1 := blk_frozen BK344.out 1) | ((with_reducible refine gate_builtin (b := .append) (xs := #[.tmp 13, .tmp 15]) rfl ?_); at_builtin; refine Kd.R_append_rows (Kd.int .i64) (w0 := w) w.heap.size rfl (.tmp 13) (.tmp 15) 47 3 (.int .i64 0) 8 rfl Try.underlying47 info3 rfl (by decide) (by omega) v347 y346 l0_1 _ _ _ (fun _ => True) (fun _ => False) rfl rfl ?aO ?aR (fun _ _ h => h) (fun _ h => h.elim) ?aF ?aB ?aS ?aL ?_; (case aR => repeat (first | exact (Kd.C_below HR0_1.out HB.out) | (with_reducible refine Kd.C_alloc ?_ _) | (with_reducible refine Kd.C_drewN ?_ _) | (with_reducible refine Kd.C_drew ?_))); (case aB => exact (by repeat (first | (with_reducible first | exact HB.out | apply below_alloc | apply pw_below_drewN | apply below_drew1 | refine below_set ?_ GE344.out | refine below_set ?_ GE345.out) | exact HB.out))); (case aF => exact (fun _ _ => trivial)); (case aO => exact (by (with_reducible repeat (first | apply Kd.R_alloc | apply Kd.R_drewN | apply Kd.R_drew)); exact HO348.out)); (case aS => exact (below_size (by repeat (first | (with_reducible first | exact HB.out | apply below_alloc | apply pw_below_drewN | apply below_drew1 | refine below_set ?_ GE344.out | refine below_set ?_ GE345.out) | exact HB.out)))); (case aL => have := LMc2.out; omega); intro v350 w28 ho hb hg hat; rw [← Ny349.out] at ho; have n0_ := Aside0.mk (blk_grown (g := gb344) (o := .cells #[.int .i64 (Int.tmod (wrap64 (a0_0 + 1)) 32768), .slice A0_1 l0_1.length c0_1] 52 (0, 0)) (by (with_reducible repeat (first | refine blk_drewN ?_ _ | refine blk_drew ?_ | refine blk_alloc ?_ _)); exact BK344.out) hg (Kd.R_ne HO348.out BK344.out (by decide))); have n1_ := Aside0.mk (blk_grown (g := gb345) (o := .cells #[.int .i64 0, .slice none 0 0] 52 (0, 0)) (by (with_reducible repeat (first | refine blk_drewN ?_ _ | refine blk_drew ?_ | refine blk_alloc ?_ _)); exact BK345.out) hg (Kd.R_ne HO348.out BK345.out (by decide))); have n2_ := Aside0.mk (hb); have n3_ := Aside0.mk (ho); clear BK344; clear BK345; clear HB; clear HO348; have BK344 := n0_; have BK345 := n1_; have HB := n2_; have HO351 := n3_; clear n0_ n1_ n2_ n3_; clear ho hb hg hat) | ((with_reducible refine gate_builtin (b := .append) (xs := #[.tmp 17, .tmp 19]) rfl ?_); at_builtin; refine Kd.R_append (Kd.int .i64) (w0 := w) w.heap.size rfl (.tmp 17) (.tmp 19) 47 3 (.int .i64 0) 8 rfl Try.underlying47 info3 rfl (by decide) (by omega) v350 y349 a0_0 [.int .i64 a0_0] (fun _ => True) (fun _ => False) rfl rfl ?aP (fun _ hk => hk.elim) ?aF ?aO ?aB ?aS ?aL ?_; (case aP => exact rfl); (case aB => exact (by repeat (first | (with_reducible first | exact HB.out | apply below_alloc | apply pw_below_drewN | apply below_drew1 | refine below_set ?_ GE344.out | refine below_set ?_ GE345.out) | exact HB.out))); (case aF => exact (fun _ _ => trivial)); (case aO => exact (by (with_reducible repeat (first | apply Kd.R_alloc | apply Kd.R_drewN | apply Kd.R_drew)); exact HO351.out)); (case aS => exact (below_size (by repeat (first | (with_reducible first | exact HB.out | apply below_alloc | apply pw_below_drewN | apply below_drew1 | refine below_set ?_ GE344.out | refine below_set ?_ GE345.out) | exact HB.out)))); (case aL => have := LMc3.out; omega); intro v353 w29 ho hb hg hat; rw [← Ny352.out] at ho; have n0_ := Aside0.mk (blk_grown (g := gb344) (o := .cells #[.int .i64 (Int.tmod (wrap64 (a0_0 + 1)) 32768), .slice A0_1 l0_1.length c0_1] 52 (0, 0)) (by (with_reducible repeat (first | refine blk_drewN ?_ _ | refine blk_drew ?_ | refine blk_alloc ?_ _)); exact BK344.out) hg (Kd.R_ne HO351.out BK344.out (by decide))); have n1_ := Aside0.mk (blk_grown (g := gb345) (o := .cells #[.int .i64 0, .slice none 0 0] 52 (0, 0)) (by (with_reducible repeat (first | refine blk_drewN ?_ _ | refine blk_drew ?_ | refine blk_alloc ?_ _)); exact BK345.out) hg (Kd.R_ne HO351.out BK345.out (by decide))); have n2_ := Aside0.mk (hb); have n3_ := Aside0.mk (ho); clear BK344; clear BK345; clear HB; clear HO351; have BK344 := n0_; have BK345 := n1_; have HB := n2_; have HO354 := n3_; clear n0_ n1_ n2_ n3_; clear ho hb hg hat; obtain ⟨Ao30, co30, eo30⟩ := Kd.R_slice HO354.out; subst eo30; have hcz31_0 : w29.cell? ⟨gb344, 0, none⟩ = some (.int .i64 (Int.tmod (wrap64 (a0_0 + 1)) 32768)) := (blk_cell BK344.out 0).trans rfl; have hcz31_1 : w29.cell? ⟨gb344, 1, none⟩ = some (.slice A0_1 l0_1.length c0_1) := (blk_cell BK344.out 1).trans rfl; have hfz31_0 := blk_frozen BK344.out 0; have hfz31_1 := blk_frozen BK344.out 1; have hcz32_0 : w29.cell? ⟨gb345, 0, none⟩ = some (.int .i64 0) := (blk_cell BK345.out 0).trans rfl; have hcz32_1 : w29.cell? ⟨gb345, 1, none⟩ = some (.slice none 0 0) := (blk_cell BK345.out 1).trans rfl; have hfz32_0 := blk_frozen BK345.out 0; have hfz32_1 := blk_frozen BK345.out 1))
        refine bodyPost_ret (results_ct rfl _ _ gb345 52 #[.int .i64 (Int.tmod (wrap64 (a0_0 + 1)) 32768), .slice Ao30 y352.length co30] (0, 0) _ rfl (by (with_reducible repeat (first | refine blk_drewN ?_ _ | refine blk_drew ?_ | refine blk_alloc ?_ _)); refine blk_put (cs := #[.int .i64 (Int.tmod (wrap64 (a0_0 + 1)) 32768), .slice none 0 0]) ?_ 1 _ rfl; (with_reducible repeat (first | refine blk_drewN ?_ _ | refine blk_drew ?_ | refine blk_alloc ?_ _)); refine blk_put (cs := #[.int .i64 0, .slice none 0 0]) ?_ 0 _ rfl; (with_reducible repeat (first | refine blk_drewN ?_ _ | refine blk_drew ?_ | refine blk_alloc ?_ _)); refine blk_far ?_ NB345_344.out _; (with_reducible repeat (first | refine blk_drewN ?_ _ | refine blk_drew ?_ | refine blk_alloc ?_ _)); exact BK345.out) Try.underlying52 rfl (by kernel_rfl)) rfl ?_
        exact ⟨_, by first | rfl | (simp [errW_none, errW_some] <;> rfl) | (simp [*, errW_none, errW_some] <;> rfl), Kd.Q_of_R (by (with_reducible repeat (first | apply Kd.R_alloc | apply Kd.R_drewN | apply Kd.R_drew)); exact Kd.R_mono (Kd.R_far (p := ⟨gb345, 1, none⟩) (Kd.R_far (p := ⟨gb345, 0, none⟩) (Kd.R_far (p := ⟨gb344, 1, none⟩) (Kd.R_types (Kd.R_types HO354.out BK344.out (by decide)) BK345.out (by decide)) (fun _ hk => hk.1.2) (.slice Ao30 y352.length co30)) (fun _ hk => hk.2) (.int .i64 (Int.tmod (wrap64 (a0_0 + 1)) 32768))) (fun _ hk => hk.2) (.slice Ao30 y352.length co30)) (fun _ hk => trivial)), by repeat (first | (with_reducible first | exact HB.out | apply below_alloc | apply pw_below_drewN | apply below_drew1 | refine below_set ?_ GE344.out | refine below_set ?_ GE345.out) | exact HB.out)⟩
    · rw [if_neg c3] at H
      exact absurd H (by simp)
  · rw [if_neg c2] at H
    exact absurd H (by simp)

end Go.Proofs.Ytnhogaelhggheaa.P
