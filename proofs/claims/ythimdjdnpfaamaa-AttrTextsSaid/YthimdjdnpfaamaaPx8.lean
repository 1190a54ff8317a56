-- Laid by program out of the translation, some functions' texts by hand (a session's own run, not print.sh's). Lean checks it.
import Derived.Test.YthimdjdnpfaamaaPx0
import Derived.Test.YthimdjdnpfaamaaPx1
import Derived.Test.YthimdjdnpfaamaaPx2
import Derived.Test.YthimdjdnpfaamaaPx3
namespace Go.Proofs.Ythimdjdnpfaamaa.P
open Go.RowKit Go.Proofs.YthimdjdnpfaamaaW.PrintWords Go.Proofs.YthimdjdnpfaamaaW.PrintLast Go.Proofs.YthimdjdnpfaamaaW.PrintMore
attribute [local go_sem] max2_int min2_int max_two min_two max_three min_three max_four min_four   -- for this text's walks alone
set_option linter.unusedVariables false
set_option linter.unusedSimpArgs false

attribute [local go_sem high] eqA33
/-! ### greenscreenlaw11_AttrTexts: function 6 -/
def greenscreenlaw11_AttrTexts.f (k : Nat) (a0 : Int) (a1 : Int) (a2_0 : Int) (a2_1 : Bool) (a2_2 : Bool) (a2_3 : Int) (a2_4 : Int) (l3 : List (S36)) : Option (Bool) := (greenscreenlaw11_alive.f k).bind fun t239 => (if t239 = true then (if (l3.length : Int) > 100 then (some true) else ((attr_Dress.f k a2_0 a2_1 a2_2 a2_3 a2_4 l3).bind fun bt240 => ((attr_Text.f k a0).bind fun t246 => ((attr_Text.f k a1).bind fun t247 => (if ((t246.toList == t247.toList) == ((Go.bits .and .u8 (Go.bits .xor .u8 a0 a1) 61) == 0)) = true then ((attr_Dress.f k bt240.1 bt240.2.1 bt240.2.2.1 bt240.2.2.2.1 bt240.2.2.2.2 l3).bind fun bt248 => (some (bt248.1 == bt240.1 && (bt248.2.1 == bt240.2.1 && (bt248.2.2.1 == bt240.2.2.1 && (bt248.2.2.2.1 == bt240.2.2.2.1 && (bt248.2.2.2.2 == bt240.2.2.2.2))))))) else (some false)))))) else (some false))
theorem greenscreenlaw11_AttrTexts.mono : ∀ a0 a1 a2 a3 a4 a5 a6 a7 k, LeO (greenscreenlaw11_AttrTexts.f k a0 a1 a2 a3 a4 a5 a6 a7) (greenscreenlaw11_AttrTexts.f (k + 1) a0 a1 a2 a3 a4 a5 a6 a7) := by
  intro a0 a1 a2 a3 a4 a5 a6 a7 k
  unfold greenscreenlaw11_AttrTexts.f
  repeat' first
      | (with_reducible exact attr_Dress.mono _ _ _ _ _ _ _)
      | (with_reducible exact attr_Text.mono _ _)
      | (with_reducible exact greenscreenlaw11_alive.mono _)
      | (with_reducible exact LeO.refl _)
      | (with_reducible exact LeO.none _)
      | (with_reducible refine LeO.ite ?_ ?_)
      | (with_reducible refine LeO.bind ?_ (fun _ => ?_))
      | exact attr_Dress.mono _ _ _ _ _ _ _
      | exact attr_Text.mono _ _
      | exact greenscreenlaw11_alive.mono _
      | exact LeO.none _
      | refine LeO.ite ?_ ?_
      | refine LeO.bind ?_ (fun _ => ?_)
def greenscreenlaw11_AttrTexts.T6 : Bool × List (List Nat × List Nat) := (true, [([], []), ([0], [0]), ([], []), ([2, 1], [2]), ([1, 3], [1, 3]), ([], []), ([], []), ([5, 6], [5, 6]), ([7], [7]), ([8], [8]), ([4, 9], [4, 9]), ([10, 3], [10]), ([11], [11]), ([11], [11]), ([12, 13, 11, 11], [11, 12, 13]), ([11], [11]), ([14, 15, 11], [11, 14, 15]), ([11, 16], [11, 16]), ([17, 14, 0, 1, 2, 3, 4, 5, 6, 7, 8, 9, 10, 11, 12, 13, 14, 15, 16, 17], [17])])
def greenscreenlaw11_AttrTexts.B6 : List Nat := [0, 1, 0, 7, 15, 0, 0, 96, 224, 480, 1023, 2047, 4095, 4095, 16383, 4095, 65535, 131071, 262143]
theorem greenscreenlaw11_AttrTexts.tab6 : rtab .any (opsOf Try.f6 6) = greenscreenlaw11_AttrTexts.T6 := by kernel_rfl
theorem greenscreenlaw11_AttrTexts.bits6 : waitsOk greenscreenlaw11_AttrTexts.T6.2 greenscreenlaw11_AttrTexts.B6 = true := by kernel_rfl
set_option maxHeartbeats 8000000 in
set_option maxRecDepth 100000 in
theorem greenscreenlaw11_AttrTexts.calls (k : Nat) (a0 : Int) (a1 : Int) (a2_0 : Int) (a2_1 : Bool) (a2_2 : Bool) (a2_3 : Int) (a2_4 : Int) (A3 : Option Addr) (c3 : Nat) (l3 : List (S36)) (r : Bool) (hr_ : r = true) (w : World) (hr3 : Kd.C k36 w A3 l3.length l3) (hc3 : l3.length ≤ c3) (h : greenscreenlaw11_AttrTexts.f k a0 a1 a2_0 a2_1 a2_2 a2_3 a2_4 l3 = some r) :
    Calls Try.prog 6 #[.int .u8 a0, .int .u8 a1, .agg #[.int .u8 a2_0, .bool a2_1, .bool a2_2, .int .u8 a2_3, .int .u8 a2_4], .slice A3 l3.length c3] w fun e w' => e = .returned (.bool r) ∧ Below w.heap.size w w' := by
  have hu33 := Try.underlying33
  have HR3 := Aside0.mk hr3
  have HC3 := Aside0.mk hc3
  clear hr3 hc3
  have HB := Aside0.mk (Below.refl w.heap.size w)
  have H : ((greenscreenlaw11_alive.f k).bind fun t239 => (if t239 = true then (if (l3.length : Int) > 100 then (some true) else ((attr_Dress.f k a2_0 a2_1 a2_2 a2_3 a2_4 l3).bind fun bt240 => ((attr_Text.f k a0).bind fun t246 => ((attr_Text.f k a1).bind fun t247 => (if ((t246.toList == t247.toList) == ((Go.bits .and .u8 (Go.bits .xor .u8 a0 a1) 61) == 0)) = true then ((attr_Dress.f k bt240.1 bt240.2.1 bt240.2.2.1 bt240.2.2.2.1 bt240.2.2.2.2 l3).bind fun bt248 => (some (bt248.1 == bt240.1 && (bt248.2.1 == bt240.2.1 && (bt248.2.2.1 == bt240.2.2.1 && (bt248.2.2.2.1 == bt240.2.2.2.1 && (bt248.2.2.2.2 == bt240.2.2.2.2))))))) else (some false)))))) else (some false))) = some r := h
  clear h
  replace H := Option.bind_eq_some_iff.mp H
  obtain ⟨t239, A50, H⟩ := H
  replace H : (if t239 = true then (if (l3.length : Int) > 100 then (some true) else ((attr_Dress.f k a2_0 a2_1 a2_2 a2_3 a2_4 l3).bind fun bt240 => ((attr_Text.f k a0).bind fun t246 => ((attr_Text.f k a1).bind fun t247 => (if ((t246.toList == t247.toList) == ((Go.bits .and .u8 (Go.bits .xor .u8 a0 a1) 61) == 0)) = true then ((attr_Dress.f k bt240.1 bt240.2.1 bt240.2.2.1 bt240.2.2.2.1 bt240.2.2.2.2 l3).bind fun bt248 => (some (bt248.1 == bt240.1 && (bt248.2.1 == bt240.2.1 && (bt248.2.2.1 == bt240.2.2.1 && (bt248.2.2.2.1 == bt240.2.2.2.1 && (bt248.2.2.2.2 == bt240.2.2.2.2))))))) else (some false)))))) else (some false)) = some r := H
  have A5 := Aside0.mk A50
  clear A50
  by_cases c6 : t239 = true
  · subst c6
    have H1 : (if (l3.length : Int) > 100 then (some true) else ((attr_Dress.f k a2_0 a2_1 a2_2 a2_3 a2_4 l3).bind fun bt240 => ((attr_Text.f k a0).bind fun t246 => ((attr_Text.f k a1).bind fun t247 => (if ((t246.toList == t247.toList) == ((Go.bits .and .u8 (Go.bits .xor .u8 a0 a1) 61) == 0)) = true then ((attr_Dress.f k bt240.1 bt240.2.1 bt240.2.2.1 bt240.2.2.2.1 bt240.2.2.2.2 l3).bind fun bt248 => (some (bt248.1 == bt240.1 && (bt248.2.1 == bt240.2.1 && (bt248.2.2.1 == bt240.2.2.1 && (bt248.2.2.2.1 == bt240.2.2.2.1 && (bt248.2.2.2.2 == bt240.2.2.2.2))))))) else (some false)))))) = some r := by rw [if_pos rfl] at H; exact H
    clear H
    have H := H1
    clear H1
    by_cases c7 : (l3.length : Int) > 100
    · rw [if_pos c7] at H
      have c7b0 : decide (100 < (l3.length : Int)) = true := decide_eq_true c7
      have c7b1 : decide (100 < l3.length) = true := decide_eq_true (by omega)
      clear c7
      obtain rfl := Option.some.inj H
      go_enter Try.func6, Try.ntmps6
      go_wp2_with (first | ((with_reducible refine gate_dst (N := 6) rfl ?_); refine box_event ?hg (N := 6) ?hd (cs := #[.int .u8 a2_0, .bool a2_1, .bool a2_2, .int .u8 a2_3, .int .u8 a2_4]) (t := 33) ?hr ?_; (case hd => rfl); (case hg => rfl); (case hr => first | (go_simp; done) | (go_simp; rfl)); intro gb238 hg w8 hbox hb; have n0_ := Aside0.mk (below_step (by repeat (first | (with_reducible first | exact HB.out | apply below_alloc | apply pw_below_drewN | apply below_drew1) | exact HB.out)) hb); have n1_ := Aside0.mk (hbox); have n2_ := Aside0.mk ((by rw [hg]; exact (below_size (by repeat (first | (with_reducible first | exact HB.out | apply below_alloc | apply pw_below_drewN | apply below_drew1) | exact HB.out))) : w.heap.size ≤ gb238)); have n3_ := Aside0.mk ((by rw [hg]; exact (below_size (by repeat (first | (with_reducible first | exact HB.out | apply below_alloc | apply pw_below_drewN | apply below_drew1) | exact HB.out))) : w.heap.size ≤ gb238)); clear HB; have HB := n0_; have BK238 := n1_; have GW238 := n2_; have GE238 := n3_; clear n0_ n1_ n2_ n3_; clear hb hbox hg) | ((with_reducible refine gate_callee (f := 7) rfl ?_); refine goesL_ (some 10) rfl rfl Try.func7 (by kernel_rfl) rfl #[] rfl (by (try simp only [List.map_toArray, List.map_cons, List.map_nil]); first | done | rfl | (simp only [List.length_drop, List.length_take]; rfl)) ?_; (with_reducible refine (greenscreenlaw11_alive.calls k  true rfl _ A5.out).mono ?_); rintro e w9 ⟨rfl, hb⟩; refine ⟨_, rfl, ?_⟩; have n0_ := Aside0.mk (blk_below (g := gb238) (o := .cells #[.int .u8 a2_0, .bool a2_1, .bool a2_2, .int .u8 a2_3, .int .u8 a2_4] 33 (0, 0)) (by (with_reducible repeat (first | refine blk_drewN ?_ _ | refine blk_drew ?_ | refine blk_alloc ?_ _)); exact BK238.out) hb); have n1_ := Aside0.mk (below_step (by repeat (first | (with_reducible first | exact HB.out | apply below_alloc | apply pw_below_drewN | apply below_drew1 | refine below_set ?_ GE238.out) | exact HB.out)) hb); clear BK238; clear HB; have BK238 := n0_; have HB := n1_; clear n0_ n1_; (try clear hb); (try clear hb2); (try clear hk); (try clear hi)))
      go_ret
      exact ⟨by first | rfl | (simp [errW_none, errW_some] <;> rfl) | (simp [*, errW_none, errW_some] <;> rfl), by repeat (first | (with_reducible first | exact HB.out | apply below_alloc | apply pw_below_drewN | apply below_drew1 | refine below_set ?_ GE238.out) | exact HB.out)⟩
    · rw [if_neg c7] at H
      have c7b0 : decide (100 < (l3.length : Int)) = false := decide_eq_false c7
      have c7b1 : decide (100 < l3.length) = false := decide_eq_false (by omega)
      clear c7
      replace H := Option.bind_eq_some_iff.mp H
      obtain ⟨⟨t240, t241, t242, t243, t244⟩, A100, H⟩ := H
      replace H : ((attr_Text.f k a0).bind fun t246 => ((attr_Text.f k a1).bind fun t247 => (if ((t246.toList == t247.toList) == ((Go.bits .and .u8 (Go.bits .xor .u8 a0 a1) 61) == 0)) = true then ((attr_Dress.f k t240 t241 t242 t243 t244 l3).bind fun bt248 => (some (bt248.1 == t240 && (bt248.2.1 == t241 && (bt248.2.2.1 == t242 && (bt248.2.2.2.1 == t243 && (bt248.2.2.2.2 == t244))))))) else (some false)))) = some r := H
      have A10 := Aside0.mk A100
      clear A100
      replace H := Option.bind_eq_some_iff.mp H
      obtain ⟨t246, A110, H⟩ := H
      replace H : ((attr_Text.f k a1).bind fun t247 => (if ((t246.toList == t247.toList) == ((Go.bits .and .u8 (Go.bits .xor .u8 a0 a1) 61) == 0)) = true then ((attr_Dress.f k t240 t241 t242 t243 t244 l3).bind fun bt248 => (some (bt248.1 == t240 && (bt248.2.1 == t241 && (bt248.2.2.1 == t242 && (bt248.2.2.2.1 == t243 && (bt248.2.2.2.2 == t244))))))) else (some false))) = some r := H
      have A11 := Aside0.mk A110
      clear A110
      replace H := Option.bind_eq_some_iff.mp H
      obtain ⟨t247, A120, H⟩ := H
      replace H : (if ((t246.toList == t247.toList) == ((Go.bits .and .u8 (Go.bits .xor .u8 a0 a1) 61) == 0)) = true then ((attr_Dress.f k t240 t241 t242 t243 t244 l3).bind fun bt248 => (some (bt248.1 == t240 && (bt248.2.1 == t241 && (bt248.2.2.1 == t242 && (bt248.2.2.2.1 == t243 && (bt248.2.2.2.2 == t244))))))) else (some false)) = some r := H
      have A12 := Aside0.mk A120
      clear A120
      by_cases c13 : ((t246.toList == t247.toList) == ((Go.bits .and .u8 (Go.bits .xor .u8 a0 a1) 61) == 0)) = true
      · rw [if_pos c13] at H
        have c13b0 : ((t246.toList == t247.toList) == ((Go.bits .and .u8 (Go.bits .xor .u8 a0 a1) 61) == 0)) = true := c13
        (try (have c13e0 : ((t246.toList == t247.toList) = ((Go.bits .and .u8 (Go.bits .xor .u8 a0 a1) 61) == 0)) = True := by (have he_ := c13b0; revert he_; cases ((t246.toList == t247.toList)) <;> cases (((Go.bits .and .u8 (Go.bits .xor .u8 a0 a1) 61) == 0)) <;> simp)))
        (try (have c13e1 : ((t246.toList == t247.toList) == ((Go.bits .and .u8 (Go.bits .xor .u8 a0 a1) 61) == 0)) = true := by (have he_ := c13b0; revert he_; cases ((t246.toList == t247.toList)) <;> cases (((Go.bits .and .u8 (Go.bits .xor .u8 a0 a1) 61) == 0)) <;> simp)))
        (try (have c13b1 : decide ((t246.toList == t247.toList) = ((Go.bits .and .u8 (Go.bits .xor .u8 a0 a1) 61) == 0)) = true := by simpa using c13))
        (try (have c13b2 : ((t246.toList == t247.toList) == ((Go.bits .and .u8 (Go.bits .xor .u8 a0 a1) 61) == 0)) = true := by simpa using c13))
        clear c13
        replace H := Option.bind_eq_some_iff.mp H
        obtain ⟨⟨t248, t249, t250, t251, t252⟩, A140, H⟩ := H
        replace H : (some (t248 == t240 && (t249 == t241 && (t250 == t242 && (t251 == t243 && (t252 == t244)))))) = some r := H
        have A14 := Aside0.mk A140
        clear A140
        obtain rfl := Option.some.inj H
        go_enter Try.func6, Try.ntmps6
        try go_wp2_with (first | ((with_reducible refine gate_dst (N := 6) rfl ?_); refine box_event ?hg (N := 6) ?hd (cs := #[.int .u8 a2_0, .bool a2_1, .bool a2_2, .int .u8 a2_3, .int .u8 a2_4]) (t := 33) ?hr ?_; (case hd => rfl); (case hg => rfl); (case hr => first | (go_simp; done) | (go_simp; rfl)); intro gb238 hg w15 hbox hb; have n0_ := Aside0.mk (below_step (by repeat (first | (with_reducible first | exact HB.out | apply below_alloc | apply pw_below_drewN | apply below_drew1) | exact HB.out)) hb); have n1_ := Aside0.mk (hbox); have n2_ := Aside0.mk ((by rw [hg]; exact (below_size (by repeat (first | (with_reducible first | exact HB.out | apply below_alloc | apply pw_below_drewN | apply below_drew1) | exact HB.out))) : w.heap.size ≤ gb238)); have n3_ := Aside0.mk ((by rw [hg]; exact (below_size (by repeat (first | (with_reducible first | exact HB.out | apply below_alloc | apply pw_below_drewN | apply below_drew1) | exact HB.out))) : w.heap.size ≤ gb238)); clear HB; have HB := n0_; have BK238 := n1_; have GW238 := n2_; have GE238 := n3_; clear n0_ n1_ n2_ n3_; clear hb hbox hg) | ((with_reducible refine gate_callee (f := 7) rfl ?_); refine goesL_ (some 10) rfl rfl Try.func7 (by kernel_rfl) rfl #[] rfl (by (try simp only [List.map_toArray, List.map_cons, List.map_nil]); first | done | rfl | (simp only [List.length_drop, List.length_take]; rfl)) ?_; (with_reducible refine (greenscreenlaw11_alive.calls k  true rfl _ A5.out).mono ?_); rintro e w16 ⟨rfl, hb⟩; refine ⟨_, rfl, ?_⟩; have n0_ := Aside0.mk (blk_below (g := gb238) (o := .cells #[.int .u8 a2_0, .bool a2_1, .bool a2_2, .int .u8 a2_3, .int .u8 a2_4] 33 (0, 0)) (by (with_reducible repeat (first | refine blk_drewN ?_ _ | refine blk_drew ?_ | refine blk_alloc ?_ _)); exact BK238.out) hb); have n1_ := Aside0.mk (below_step (by repeat (first | (with_reducible first | exact HB.out | apply below_alloc | apply pw_below_drewN | apply below_drew1 | refine below_set ?_ GE238.out) | exact HB.out)) hb); clear BK238; clear HB; have BK238 := n0_; have HB := n1_; clear n0_ n1_; (try clear hb); (try clear hb2); (try clear hk); (try clear hi); have hcz17_0 : w16.cell? ⟨gb238, 0, none⟩ = some (.int .u8 a2_0) := (blk_cell BK238.out 0).trans rfl; have hcz17_1 : w16.cell? ⟨gb238, 1, none⟩ = some (.bool a2_1) := (blk_cell BK238.out 1).trans rfl; have hcz17_2 : w16.cell? ⟨gb238, 2, none⟩ = some (.bool a2_2) := (blk_cell BK238.out 2).trans rfl; have hcz17_3 : w16.cell? ⟨gb238, 3, none⟩ = some (.int .u8 a2_3) := (blk_cell BK238.out 3).trans rfl; have hcz17_4 : w16.cell? ⟨gb238, 4, none⟩ = some (.int .u8 a2_4) := (blk_cell BK238.out 4).trans rfl; have hfz17_0 := blk_frozen BK238.out 0; have hfz17_1 := blk_frozen BK238.out 1; have hfz17_2 := blk_frozen BK238.out 2; have hfz17_3 := blk_frozen BK238.out 3; have hfz17_4 := blk_frozen BK238.out 4) | ((with_reducible refine gate_callee (f := 24) rfl ?_); refine goesL_ (some 17) rfl rfl Try.func24 (by kernel_rfl) rfl #[.agg #[.int .u8 a2_0, .bool a2_1, .bool a2_2, .int .u8 a2_3, .int .u8 a2_4], .slice A3 l3.length c3] rfl (by (try simp only [List.map_toArray, List.map_cons, List.map_nil]); first | done | rfl | (simp only [List.length_drop, List.length_take]; rfl)) ?_; (with_reducible refine (attr_Dress.calls k a2_0 a2_1 a2_2 a2_3 a2_4 _ _ l3 t240 t241 t242 t243 t244 _ ?side1 ?side2 A10.out).mono ?_); (case side1 => repeat (first | exact (Kd.C_below HR3.out HB.out) | (with_reducible refine Kd.C_alloc ?_ _) | (with_reducible refine Kd.C_drewN ?_ _) | (with_reducible refine Kd.C_drew ?_))); (case side2 => exact HC3.out); rintro e w18 ⟨rfl, hb⟩; refine ⟨_, rfl, ?_⟩; have n0_ := Aside0.mk (blk_below (g := gb238) (o := .cells #[.int .u8 a2_0, .bool a2_1, .bool a2_2, .int .u8 a2_3, .int .u8 a2_4] 33 (0, 0)) (by (with_reducible repeat (first | refine blk_drewN ?_ _ | refine blk_drew ?_ | refine blk_alloc ?_ _)); exact BK238.out) hb); have n1_ := Aside0.mk (below_step (by repeat (first | (with_reducible first | exact HB.out | apply below_alloc | apply pw_below_drewN | apply below_drew1 | refine below_set ?_ GE238.out) | exact HB.out)) hb); clear BK238; clear HB; have BK238 := n0_; have HB := n1_; clear n0_ n1_; (try clear hb); (try clear hb2); (try clear hk); (try clear hi)) | ((with_reducible refine gate_dst (N := 9) rfl ?_); refine box_event ?hg (N := 9) ?hd (cs := #[.int .u8 0, .bool false, .bool false, .int .u8 0, .int .u8 0]) (t := 33) ?hr ?_; (case hd => rfl); (case hg => rfl); (case hr => first | (go_simp; done) | (go_simp; rfl)); intro gb245 hg w19 hbox hb; have n0_ := Aside0.mk (blk_below (g := gb238) (o := .cells #[.int .u8 a2_0, .bool a2_1, .bool a2_2, .int .u8 a2_3, .int .u8 a2_4] 33 (0, 0)) (by (with_reducible repeat (first | refine blk_drewN ?_ _ | refine blk_drew ?_ | refine blk_alloc ?_ _)); exact BK238.out) hb); have n1_ := Aside0.mk (below_step (by repeat (first | (with_reducible first | exact HB.out | apply below_alloc | apply pw_below_drewN | apply below_drew1 | refine below_set ?_ GE238.out) | exact HB.out)) hb); have n2_ := Aside0.mk (hbox); have n3_ := Aside0.mk ((by rw [hg]; exact (below_size (by repeat (first | (with_reducible first | exact HB.out | apply below_alloc | apply pw_below_drewN | apply below_drew1 | refine below_set ?_ GE238.out) | exact HB.out))) : w.heap.size ≤ gb245)); have n4_ := Aside0.mk ((by rw [hg]; exact (below_size (by repeat (first | (with_reducible first | exact HB.out | apply below_alloc | apply pw_below_drewN | apply below_drew1 | refine below_set ?_ GE238.out) | exact HB.out))) : w.heap.size ≤ gb245)); have n5_ := Aside0.mk ((by rw [hg]; exact Nat.ne_of_lt (blk_lt (g := gb238) (o := .cells #[.int .u8 a2_0, .bool a2_1, .bool a2_2, .int .u8 a2_3, .int .u8 a2_4] 33 (0, 0)) (by (with_reducible repeat (first | refine blk_drewN ?_ _ | refine blk_drew ?_ | refine blk_alloc ?_ _)); exact BK238.out)) : gb238 ≠ gb245)); have n6_ := Aside0.mk ((by rw [hg]; exact Nat.ne_of_gt (blk_lt (g := gb238) (o := .cells #[.int .u8 a2_0, .bool a2_1, .bool a2_2, .int .u8 a2_3, .int .u8 a2_4] 33 (0, 0)) (by (with_reducible repeat (first | refine blk_drewN ?_ _ | refine blk_drew ?_ | refine blk_alloc ?_ _)); exact BK238.out)) : gb245 ≠ gb238)); clear BK238; clear HB; have BK238 := n0_; have HB := n1_; have BK245 := n2_; have GW245 := n3_; have GE245 := n4_; have NB238_245 := n5_; have NB245_238 := n6_; clear n0_ n1_ n2_ n3_ n4_ n5_ n6_; clear hb hbox hg; have hnb20 := NB245_238.out; have hnc20 := NB238_245.out; have hcz21_0 : w19.cell? ⟨gb245, 0, none⟩ = some (.int .u8 0) := (blk_cell BK245.out 0).trans rfl; have hcz21_1 : w19.cell? ⟨gb245, 1, none⟩ = some (.bool false) := (blk_cell BK245.out 1).trans rfl; have hcz21_2 : w19.cell? ⟨gb245, 2, none⟩ = some (.bool false) := (blk_cell BK245.out 2).trans rfl; have hcz21_3 : w19.cell? ⟨gb245, 3, none⟩ = some (.int .u8 0) := (blk_cell BK245.out 3).trans rfl; have hcz21_4 : w19.cell? ⟨gb245, 4, none⟩ = some (.int .u8 0) := (blk_cell BK245.out 4).trans rfl; have hfz21_0 := blk_frozen BK245.out 0; have hfz21_1 := blk_frozen BK245.out 1; have hfz21_2 := blk_frozen BK245.out 2; have hfz21_3 := blk_frozen BK245.out 3; have hfz21_4 := blk_frozen BK245.out 4))
        have n0_ : Aside0 ((((((w19.setCell ⟨gb245, 0, none⟩ (.int .u8 t240)).setCell ⟨gb245, 1, none⟩ (.bool t241)).setCell ⟨gb245, 2, none⟩ (.bool t242)).setCell ⟨gb245, 3, none⟩ (.int .u8 t243)).setCell ⟨gb245, 4, none⟩ (.int .u8 t244)).heap[gb238]? = some (.cells #[.int .u8 a2_0, .bool a2_1, .bool a2_2, .int .u8 a2_3, .int .u8 a2_4] 33 (0, 0))) := ⟨by (with_reducible repeat (first | refine blk_drewN ?_ _ | refine blk_drew ?_ | refine blk_alloc ?_ _)); refine blk_far ?_ NB238_245.out _; (with_reducible repeat (first | refine blk_drewN ?_ _ | refine blk_drew ?_ | refine blk_alloc ?_ _)); refine blk_far ?_ NB238_245.out _; (with_reducible repeat (first | refine blk_drewN ?_ _ | refine blk_drew ?_ | refine blk_alloc ?_ _)); refine blk_far ?_ NB238_245.out _; (with_reducible repeat (first | refine blk_drewN ?_ _ | refine blk_drew ?_ | refine blk_alloc ?_ _)); refine blk_far ?_ NB238_245.out _; (with_reducible repeat (first | refine blk_drewN ?_ _ | refine blk_drew ?_ | refine blk_alloc ?_ _)); refine blk_far ?_ NB238_245.out _; (with_reducible repeat (first | refine blk_drewN ?_ _ | refine blk_drew ?_ | refine blk_alloc ?_ _)); exact BK238.out⟩
        have n1_ : Aside0 ((((((w19.setCell ⟨gb245, 0, none⟩ (.int .u8 t240)).setCell ⟨gb245, 1, none⟩ (.bool t241)).setCell ⟨gb245, 2, none⟩ (.bool t242)).setCell ⟨gb245, 3, none⟩ (.int .u8 t243)).setCell ⟨gb245, 4, none⟩ (.int .u8 t244)).heap[gb245]? = some (.cells #[.int .u8 t240, .bool t241, .bool t242, .int .u8 t243, .int .u8 t244] 33 (0, 0))) := ⟨by (with_reducible repeat (first | refine blk_drewN ?_ _ | refine blk_drew ?_ | refine blk_alloc ?_ _)); refine blk_put (cs := #[.int .u8 t240, .bool t241, .bool t242, .int .u8 t243, .int .u8 0]) ?_ 4 _ rfl; (with_reducible repeat (first | refine blk_drewN ?_ _ | refine blk_drew ?_ | refine blk_alloc ?_ _)); refine blk_put (cs := #[.int .u8 t240, .bool t241, .bool t242, .int .u8 0, .int .u8 0]) ?_ 3 _ rfl; (with_reducible repeat (first | refine blk_drewN ?_ _ | refine blk_drew ?_ | refine blk_alloc ?_ _)); refine blk_put (cs := #[.int .u8 t240, .bool t241, .bool false, .int .u8 0, .int .u8 0]) ?_ 2 _ rfl; (with_reducible repeat (first | refine blk_drewN ?_ _ | refine blk_drew ?_ | refine blk_alloc ?_ _)); refine blk_put (cs := #[.int .u8 t240, .bool false, .bool false, .int .u8 0, .int .u8 0]) ?_ 1 _ rfl; (with_reducible repeat (first | refine blk_drewN ?_ _ | refine blk_drew ?_ | refine blk_alloc ?_ _)); refine blk_put (cs := #[.int .u8 0, .bool false, .bool false, .int .u8 0, .int .u8 0]) ?_ 0 _ rfl; (with_reducible repeat (first | refine blk_drewN ?_ _ | refine blk_drew ?_ | refine blk_alloc ?_ _)); exact BK245.out⟩
        have n2_ : Aside0 (Below w.heap.size w (((((w19.setCell ⟨gb245, 0, none⟩ (.int .u8 t240)).setCell ⟨gb245, 1, none⟩ (.bool t241)).setCell ⟨gb245, 2, none⟩ (.bool t242)).setCell ⟨gb245, 3, none⟩ (.int .u8 t243)).setCell ⟨gb245, 4, none⟩ (.int .u8 t244))) := ⟨by repeat (first | (with_reducible first | exact HB.out | apply below_alloc | apply pw_below_drewN | apply below_drew1 | refine below_set ?_ GE238.out | refine below_set ?_ GE245.out) | exact HB.out)⟩
        (try clear BK238)
        (try clear BK245)
        (try clear HB)
        generalize (((((w19.setCell ⟨gb245, 0, none⟩ (.int .u8 t240)).setCell ⟨gb245, 1, none⟩ (.bool t241)).setCell ⟨gb245, 2, none⟩ (.bool t242)).setCell ⟨gb245, 3, none⟩ (.int .u8 t243)).setCell ⟨gb245, 4, none⟩ (.int .u8 t244)) = w22 at n0_ n1_ n2_ ⊢
        have BK238 := n0_
        have BK245 := n1_
        have HB := n2_
        clear n0_ n1_ n2_
        have n0_ := Aside0.mk (blk_drew BK238.out)
        have n1_ := Aside0.mk (blk_drew BK245.out)
        have n2_ := Aside0.mk (below_drew1 HB.out)
        clear BK238
        clear BK245
        clear HB
        have BK238 := n0_
        have BK245 := n1_
        have HB := n2_
        clear n0_ n1_ n2_
        refine start_ (n := 19) (S := fun w' => w'.cell? ⟨gb245, 0, none⟩ = some (.int .u8 t240) ∧ w'.cell? ⟨gb245, 1, none⟩ = some (.bool t241) ∧ w'.cell? ⟨gb245, 2, none⟩ = some (.bool t242) ∧ w'.cell? ⟨gb245, 3, none⟩ = some (.int .u8 t243) ∧ w'.cell? ⟨gb245, 4, none⟩ = some (.int .u8 t244)) (ds := []) #[false, false, false, false, false, false, false, false, false, false, false, false, false, false, false, false, false, false, false] (by kernel_rfl) rfl rfl ⟨(blk_cell BK245.out 0).trans rfl, (blk_cell BK245.out 1).trans rfl, (blk_cell BK245.out 2).trans rfl, (blk_cell BK245.out 3).trans rfl, (blk_cell BK245.out 4).trans rfl⟩ (fun hHeld => ?_); refine with_tabW greenscreenlaw11_AttrTexts.tab6 greenscreenlaw11_AttrTexts.bits6 (fun HT_ HW_ => ?_)
        generalize w22.drew = w23 at BK238 BK245 HB hHeld ⊢
        refine pure_ (i := 0) (N := some 18) (v := ?_) (a' := ?_) #[true, false, false, false, false, false, false, false, false, false, false, false, false, false, false, false, false, false, false] rfl rfl (any_of HT_.out (by kernel_rfl)) (fun _ _ _ h => h) (Or.inl ⟨by rfl, ?_⟩) ?_ ?_
        rotate_left
        · intro w'
          go_simp
          with_reducible rfl
        rotate_left
        · simp only [Act.put, List.setIfInBounds_toArray, List.set_cons_zero, List.set_cons_succ, i64_w, i32_w]
          rfl
        refine pure_ (i := 2) (N := some 20) (v := ?_) (a' := ?_) #[true, false, true, false, false, false, false, false, false, false, false, false, false, false, false, false, false, false, false] rfl rfl (any_of HT_.out (by kernel_rfl)) (fun _ _ _ h => h) (Or.inl ⟨by rfl, ?_⟩) ?_ ?_
        rotate_left
        · intro w'
          go_simp
          with_reducible rfl
        rotate_left
        · simp only [Act.put, List.setIfInBounds_toArray, List.set_cons_zero, List.set_cons_succ, i64_w, i32_w]
          rfl
        refine pure_ (i := 5) (N := some 23) (v := ?_) (a' := ?_) #[true, false, true, false, false, true, false, false, false, false, false, false, false, false, false, false, false, false, false] rfl rfl (any_of HT_.out (by kernel_rfl)) (fun _ _ _ h => h) (Or.inl ⟨by rfl, ?_⟩) ?_ ?_
        rotate_left
        · intro w'
          go_simp
          with_reducible rfl
        rotate_left
        · simp only [Act.put, List.setIfInBounds_toArray, List.set_cons_zero, List.set_cons_succ, i64_w, i32_w]
          rfl
        refine pure_ (i := 6) (N := some 24) (v := ?_) (a' := ?_) #[true, false, true, false, false, true, true, false, false, false, false, false, false, false, false, false, false, false, false] rfl rfl (any_of HT_.out (by kernel_rfl)) (fun _ _ _ h => h) (Or.inl ⟨by rfl, ?_⟩) ?_ ?_
        rotate_left
        · intro w'
          go_simp
          with_reducible rfl
        rotate_left
        · simp only [Act.put, List.setIfInBounds_toArray, List.set_cons_zero, List.set_cons_succ, i64_w, i32_w]
          rfl
        refine pure_ (i := 7) (N := some 25) (v := ?_) (a' := ?_) #[true, false, true, false, false, true, true, true, false, false, false, false, false, false, false, false, false, false, false] rfl rfl (any_of HT_.out (by kernel_rfl)) (fun _ _ _ h => h) (Or.inl ⟨by rfl, ?_⟩) ?_ ?_
        rotate_left
        · intro w'
          go_simp
          with_reducible rfl
        rotate_left
        · simp only [Act.put, List.setIfInBounds_toArray, List.set_cons_zero, List.set_cons_succ, i64_w, i32_w]
          rfl
        refine pure_ (i := 8) (N := some 26) (v := ?_) (a' := ?_) #[true, false, true, false, false, true, true, true, true, false, false, false, false, false, false, false, false, false, false] rfl rfl (any_of HT_.out (by kernel_rfl)) (fun _ _ _ h => h) (Or.inl ⟨by rfl, ?_⟩) ?_ ?_
        rotate_left
        · intro w'
          go_simp
          with_reducible rfl
        rotate_left
        · simp only [Act.put, List.setIfInBounds_toArray, List.set_cons_zero, List.set_cons_succ, i64_w, i32_w]
          rfl
        refine pure_ (i := 9) (N := some 27) (v := ?_) (a' := ?_) #[true, false, true, false, false, true, true, true, true, true, false, false, false, false, false, false, false, false, false] rfl rfl (any_of HT_.out (by kernel_rfl)) (fun _ _ _ h => h) (Or.inl ⟨by rfl, ?_⟩) ?_ ?_
        rotate_left
        · intro w'
          go_simp
          with_reducible rfl
        rotate_left
        · simp only [Act.put, List.setIfInBounds_toArray, List.set_cons_zero, List.set_cons_succ, i64_w, i32_w]
          rfl
        refine one_ (i := 1) (N := some 19) #[true, true, true, false, false, true, true, true, true, true, false, false, false, false, false, false, false, false, false] rfl rfl (one_of HT_.out (by kernel_rfl)) (by decide) (fun K hK => ?_)
        refine goes_ Try.func20 (by kernel_rfl) rfl #[.int .u8 a0] (by rfl) rfl rfl (by (try simp only [List.map_toArray, List.map_cons, List.map_nil]); first | done | rfl | (simp only [List.length_drop, List.length_take]; rfl)) ?_
        with_reducible refine (attr_Text.calls k a0 t246 _ A11.out).mono ?_
        rintro e w' ⟨rfl, ⟨nd, rfl⟩⟩
        refine ⟨_, rfl, ?_⟩
        refine hK.out _ _ ⟨(blk_cell BK245.out 0).trans rfl, (blk_cell BK245.out 1).trans rfl, (blk_cell BK245.out 2).trans rfl, (blk_cell BK245.out 3).trans rfl, (blk_cell BK245.out 4).trans rfl⟩ (fun hHeld => ?_)
        clear hK K
        refine norm_ (a' := ?_) ?_ ?_
        rotate_left
        · show Act.put _ (some 19) _ = _
          simp only [Act.put, List.setIfInBounds_toArray, List.set_cons_zero, List.set_cons_succ, i64_w, i32_w]
          rfl
        refine one_ (i := 3) (N := some 21) #[true, true, true, true, false, true, true, true, true, true, false, false, false, false, false, false, false, false, false] rfl rfl (one_of HT_.out (by kernel_rfl)) (by decide) (fun K hK => ?_)
        refine goes_ Try.func20 (by kernel_rfl) rfl #[.int .u8 a1] (by rfl) rfl rfl (by (try simp only [List.map_toArray, List.map_cons, List.map_nil]); first | done | rfl | (simp only [List.length_drop, List.length_take]; rfl)) ?_
        with_reducible refine (attr_Text.calls k a1 t247 _ A12.out).mono ?_
        rintro e w' ⟨rfl, ⟨nd, rfl⟩⟩
        refine ⟨_, rfl, ?_⟩
        refine hK.out _ _ ⟨(blk_cell BK245.out 0).trans rfl, (blk_cell BK245.out 1).trans rfl, (blk_cell BK245.out 2).trans rfl, (blk_cell BK245.out 3).trans rfl, (blk_cell BK245.out 4).trans rfl⟩ (fun hHeld => ?_)
        clear hK K
        refine norm_ (a' := ?_) ?_ ?_
        rotate_left
        · show Act.put _ (some 21) _ = _
          simp only [Act.put, List.setIfInBounds_toArray, List.set_cons_zero, List.set_cons_succ, i64_w, i32_w]
          rfl
        refine pure_ (i := 4) (N := some 22) (v := ?_) (a' := ?_) #[true, true, true, true, true, true, true, true, true, true, false, false, false, false, false, false, false, false, false] rfl rfl (any_of HT_.out (by kernel_rfl)) (fun _ _ _ h => h) (Or.inl ⟨by rfl, ?_⟩) ?_ ?_
        rotate_left
        · intro w'
          go_simp
          with_reducible rfl
        rotate_left
        · simp only [Act.put, List.setIfInBounds_toArray, List.set_cons_zero, List.set_cons_succ, i64_w, i32_w]
          rfl
        refine pure_ (i := 10) (N := some 28) (v := ?_) (a' := ?_) #[true, true, true, true, true, true, true, true, true, true, true, false, false, false, false, false, false, false, false] rfl rfl (any_of HT_.out (by kernel_rfl)) (fun _ _ _ h => h) (Or.inl ⟨by rfl, ?_⟩) ?_ ?_
        rotate_left
        · intro w'
          go_simp
          with_reducible rfl
        rotate_left
        · simp only [Act.put, List.setIfInBounds_toArray, List.set_cons_zero, List.set_cons_succ, i64_w, i32_w]
          rfl
        refine pure_ (i := 11) (N := some 29) (v := ?_) (a' := ?_) #[true, true, true, true, true, true, true, true, true, true, true, true, false, false, false, false, false, false, false] rfl rfl (any_of HT_.out (by kernel_rfl)) (fun _ _ _ h => h) (Or.inl ⟨by rfl, ?_⟩) ?_ ?_
        rotate_left
        · intro w'
          go_simp
          with_reducible rfl
        rotate_left
        · simp only [Act.put, List.setIfInBounds_toArray, List.set_cons_zero, List.set_cons_succ, i64_w, i32_w]
          rfl
        refine pure_ (i := 13) (N := some 31) (v := ?_) (a' := ?_) #[true, true, true, true, true, true, true, true, true, true, true, true, false, true, false, false, false, false, false] rfl rfl (any_of HT_.out (by kernel_rfl)) (fun _ _ _ h => h) (Or.inl ⟨by rfl, ?_⟩) ?_ ?_
        rotate_left
        · intro w'
          go_simp
          with_reducible rfl
        rotate_left
        · simp only [Act.put, List.setIfInBounds_toArray, List.set_cons_zero, List.set_cons_succ, i64_w, i32_w]
          rfl
        refine take_ (i := 12) (N := some 30) (v := ?_) (a' := ?_) #[true, true, true, true, true, true, true, true, true, true, true, true, true, true, false, false, false, false, false] rfl rfl (take_ofW HT_.out HW_.out (by kernel_rfl)) (fun _ _ _ h => h) (Or.inl ⟨by rfl, ?_⟩) hHeld ?_ ?_
        rotate_left
        · rintro w' ⟨s0, s1, s2, s3, s4⟩
          go_simp
          with_reducible rfl
        rotate_left
        · simp only [Act.put, List.setIfInBounds_toArray, List.set_cons_zero, List.set_cons_succ, i64_w, i32_w]
          rfl
        refine take_ (i := 15) (N := some 33) (v := ?_) (a' := ?_) #[true, true, true, true, true, true, true, true, true, true, true, true, true, true, false, true, false, false, false] rfl rfl (take_ofW HT_.out HW_.out (by kernel_rfl)) (fun _ _ _ h => h) (Or.inl ⟨by rfl, ?_⟩) hHeld ?_ ?_
        rotate_left
        · rintro w' ⟨s0, s1, s2, s3, s4⟩
          go_simp
          with_reducible rfl
        rotate_left
        · simp only [Act.put, List.setIfInBounds_toArray, List.set_cons_zero, List.set_cons_succ, i64_w, i32_w]
          rfl
        refine one_ (i := 14) (N := some 32) #[true, true, true, true, true, true, true, true, true, true, true, true, true, true, true, true, false, false, false] rfl rfl (one_of HT_.out (by kernel_rfl)) (by decide) (fun K hK => ?_)
        refine goes_ Try.func24 (by kernel_rfl) rfl #[.agg #[.int .u8 t240, .bool t241, .bool t242, .int .u8 t243, .int .u8 t244], .slice A3 l3.length c3] (by rfl) rfl rfl (by (try simp only [List.map_toArray, List.map_cons, List.map_nil]); first | done | rfl | (simp only [List.length_drop, List.length_take]; rfl)) ?_
        with_reducible refine (attr_Dress.calls k t240 t241 t242 t243 t244 _ _ l3 t248 t249 t250 t251 t252 _ ?side1 ?side2 A14.out).mono ?_
        (case side1 => repeat (first | exact (Kd.C_below HR3.out (by repeat (first | (with_reducible first | exact HB.out | apply below_alloc | apply pw_below_drewN | apply below_drew1 | refine below_set ?_ GE238.out | refine below_set ?_ GE245.out) | exact HB.out))) | (with_reducible refine Kd.C_alloc ?_ _) | (with_reducible refine Kd.C_drewN ?_ _) | (with_reducible refine Kd.C_drew ?_)))
        (case side2 => exact HC3.out)
        rintro e w24 ⟨rfl, hb⟩
        refine ⟨_, rfl, ?_⟩
        have n0_ := Aside0.mk (blk_below (g := gb238) (o := .cells #[.int .u8 a2_0, .bool a2_1, .bool a2_2, .int .u8 a2_3, .int .u8 a2_4] 33 (0, 0)) (by (with_reducible repeat (first | refine blk_drewN ?_ _ | refine blk_drew ?_ | refine blk_alloc ?_ _)); exact BK238.out) hb)
        have n1_ := Aside0.mk (blk_below (g := gb245) (o := .cells #[.int .u8 t240, .bool t241, .bool t242, .int .u8 t243, .int .u8 t244] 33 (0, 0)) (by (with_reducible repeat (first | refine blk_drewN ?_ _ | refine blk_drew ?_ | refine blk_alloc ?_ _)); exact BK245.out) hb)
        have n2_ := Aside0.mk (below_step (by repeat (first | (with_reducible first | exact HB.out | apply below_alloc | apply pw_below_drewN | apply below_drew1 | refine below_set ?_ GE238.out | refine below_set ?_ GE245.out) | exact HB.out)) hb)
        clear BK238
        clear BK245
        clear HB
        have BK238 := n0_
        have BK245 := n1_
        have HB := n2_
        clear n0_ n1_ n2_
        (try clear hb)
        (try clear hb2)
        (try clear hk)
        (try clear hi)
        refine hK.out _ _ ⟨(blk_cell BK245.out 0).trans rfl, (blk_cell BK245.out 1).trans rfl, (blk_cell BK245.out 2).trans rfl, (blk_cell BK245.out 3).trans rfl, (blk_cell BK245.out 4).trans rfl⟩ (fun hHeld => ?_)
        clear hK K
        refine norm_ (a' := ?_) ?_ ?_
        rotate_left
        · show Act.put _ (some 32) _ = _
          simp only [Act.put, List.setIfInBounds_toArray, List.set_cons_zero, List.set_cons_succ, i64_w, i32_w]
          rfl
        refine pure_ (i := 16) (N := some 34) (v := ?_) (a' := ?_) #[true, true, true, true, true, true, true, true, true, true, true, true, true, true, true, true, true, false, false] rfl rfl (any_of HT_.out (by kernel_rfl)) (fun _ _ _ h => h) (Or.inl ⟨by rfl, ?_⟩) ?_ ?_
        rotate_left
        · intro w'
          go_simp
          with_reducible rfl
        rotate_left
        · simp only [Act.put, List.setIfInBounds_toArray, List.set_cons_zero, List.set_cons_succ, i64_w, i32_w]
          rfl
        refine pure_ (i := 17) (N := some 35) (v := ?_) (a' := ?_) #[true, true, true, true, true, true, true, true, true, true, true, true, true, true, true, true, true, true, false] rfl rfl (any_of HT_.out (by kernel_rfl)) (fun _ _ _ h => h) (Or.inl ⟨by rfl, ?_⟩) ?_ ?_
        rotate_left
        · intro w'
          go_simp
          with_reducible rfl
        rotate_left
        · simp only [Act.put, List.setIfInBounds_toArray, List.set_cons_zero, List.set_cons_succ, i64_w, i32_w]
          rfl
        refine pure_ (i := 18) (N := some 8) (v := ?_) (a' := ?_) #[true, true, true, true, true, true, true, true, true, true, true, true, true, true, true, true, true, true, true] rfl rfl (any_of HT_.out (by kernel_rfl)) (fun _ _ _ h => h) (Or.inl ⟨by rfl, ?_⟩) ?_ ?_
        rotate_left
        · intro w'
          go_simp
          with_reducible rfl
        rotate_left
        · simp only [Act.put, List.setIfInBounds_toArray, List.set_cons_zero, List.set_cons_succ, i64_w, i32_w]
          rfl
        refine done_ (done_of HT_.out (by kernel_rfl)) ?_
        try go_wp2
        go_ret
        exact ⟨by first | rfl | (simp [errW_none, errW_some] <;> rfl) | (simp [*, errW_none, errW_some] <;> rfl), by repeat (first | (with_reducible first | exact HB.out | apply below_alloc | apply pw_below_drewN | apply below_drew1 | refine below_set ?_ GE238.out | refine below_set ?_ GE245.out) | exact HB.out)⟩
      · rw [if_neg c13] at H
        have c13b0 : ((t246.toList == t247.toList) == ((Go.bits .and .u8 (Go.bits .xor .u8 a0 a1) 61) == 0)) = false := by simpa using c13
        (try (have c13e0 : ((t246.toList == t247.toList) = ((Go.bits .and .u8 (Go.bits .xor .u8 a0 a1) 61) == 0)) = False := by (have he_ := c13b0; revert he_; cases ((t246.toList == t247.toList)) <;> cases (((Go.bits .and .u8 (Go.bits .xor .u8 a0 a1) 61) == 0)) <;> simp)))
        (try (have c13e1 : ((t246.toList == t247.toList) == ((Go.bits .and .u8 (Go.bits .xor .u8 a0 a1) 61) == 0)) = false := by (have he_ := c13b0; revert he_; cases ((t246.toList == t247.toList)) <;> cases (((Go.bits .and .u8 (Go.bits .xor .u8 a0 a1) 61) == 0)) <;> simp)))
        (try (have c13b1 : decide ((t246.toList == t247.toList) = ((Go.bits .and .u8 (Go.bits .xor .u8 a0 a1) 61) == 0)) = false := by simpa using c13))
        (try (have c13b2 : ((t246.toList == t247.toList) == ((Go.bits .and .u8 (Go.bits .xor .u8 a0 a1) 61) == 0)) = false := by simpa using c13))
        (try (have c13b3 : ¬ ((t246.toList == t247.toList) = ((Go.bits .and .u8 (Go.bits .xor .u8 a0 a1) 61) == 0)) := by simpa using c13))
        clear c13
        obtain rfl := Option.some.inj H
        exact absurd hr_ (by decide)
  · replace c6 := Bool.eq_false_iff.mpr c6
    subst c6
    have H1 : (some false) = some r := by rw [if_neg (show ¬ (false = true) by decide)] at H; exact H
    clear H
    have H := H1
    clear H1
    obtain rfl := Option.some.inj H
    exact absurd hr_ (by decide)

end Go.Proofs.Ythimdjdnpfaamaa.P
