-- Laid by program out of the translation, some functions' texts by hand (a session's own run, not print.sh's). Lean checks it.
import Derived.Test.YthimdjdnpfaamaaPx0
import Derived.Test.YthimdjdnpfaamaaPx1
import Derived.Test.YthimdjdnpfaamaaPx2
import Derived.Test.YthimdjdnpfaamaaPx3
import Derived.Test.YthimdjdnpfaamaaPx4
import Derived.Test.YthimdjdnpfaamaaPx5
namespace Go.Proofs.Ythimdjdnpfaamaa.P
open Go.RowKit Go.Proofs.YthimdjdnpfaamaaW.PrintWords Go.Proofs.YthimdjdnpfaamaaW.PrintLast Go.Proofs.YthimdjdnpfaamaaW.PrintMore
attribute [local go_sem] max2_int min2_int max_two min_two max_three min_three max_four min_four   -- for this text's walks alone
set_option linter.unusedVariables false
set_option linter.unusedSimpArgs false

attribute [local go_sem high] eqA33
/-! ### greenscreenlaw11_AttrPairs: function 4 -/
def greenscreenlaw11_AttrPairs.l0 : Nat → Int → List (S36) → List (S36) → Int → Int → Int → Bool → Bool → Int → Int → Option (Bool)
  | 0, _, _, _, _, _, _, _, _, _, _ => none
  | k + 1, x1, x2, x15, x16, x17, x184000, x184001, x184002, x184003, x184004 => if x17 < x16 then (if 0 ≤ x17 then (if x17 < (x15.length : Int) then ((attr_Check.f k x1 ((rd_T36 x15 x17).f0) ((rd_T36 x15 x17).f1)).bind fun t197 => ((greenscreenref11_Check.f x1 ((rd_T36 x15 x17).f0) ((rd_T36 x15 x17).f1)).bind fun t198 => (if ((t197 == 0) != t198) = true then (some false) else (if t197 = 0 then (greenscreenlaw11_AttrPairs.l0 k x1 x2 x15 x16 (wrap64 (x17 + 1)) x184000 x184001 x184002 x184003 x184004) else (if t197 = 33 then (greenscreenlaw11_AttrPairs.l0 k x1 x2 x15 x16 (wrap64 (x17 + 1)) x184000 x184001 x184002 x184003 x184004) else (some false)))))) else (none)) else (none)) else ((attr_Dress.f k x184000 x184001 x184002 x184003 x184004 x2).bind fun bt185 => ((greenscreenref11_Dress.f k x184000 x184001 x184002 x184003 x184004 x2).bind fun bt190 => (some (bt185.1 == bt190.1 && (bt185.2.1 == bt190.2.1 && (bt185.2.2.1 == bt190.2.2.1 && (bt185.2.2.2.1 == bt190.2.2.2.1 && (bt185.2.2.2.2 == bt190.2.2.2.2))))))))
def greenscreenlaw11_AttrPairs.f (k : Nat) (a0_0 : Int) (a0_1 : Bool) (a0_2 : Bool) (a0_3 : Int) (a0_4 : Int) (a1 : Int) (l2 : List (S36)) : Option (Bool) := (greenscreenlaw11_alive.f k).bind fun t184 => (if t184 = true then (if (l2.length : Int) > 100 then (some true) else (greenscreenlaw11_AttrPairs.l0 k a1 l2 l2 (l2.length : Int) 0 a0_0 a0_1 a0_2 a0_3 a0_4)) else (some false))
theorem greenscreenlaw11_AttrPairs.mono_l : ∀ k, (∀ y0 y1 y2 y3 y4 y5 y6 y7 y8 y9, LeO (greenscreenlaw11_AttrPairs.l0 k y0 y1 y2 y3 y4 y5 y6 y7 y8 y9) (greenscreenlaw11_AttrPairs.l0 (k + 1) y0 y1 y2 y3 y4 y5 y6 y7 y8 y9))
  | 0 => fun _ _ _ _ _ _ _ _ _ _ r h => by simp [greenscreenlaw11_AttrPairs.l0] at h
  | k + 1 => by
    have ih0 := greenscreenlaw11_AttrPairs.mono_l k
    · intro y0 y1 y2 y3 y4 y5 y6 y7 y8 y9
      unfold greenscreenlaw11_AttrPairs.l0
      repeat' first
      | (with_reducible exact ih0 _ _ _ _ _ _ _ _ _ _)
      | (with_reducible exact attr_Check.mono _ _ _ _)
      | (with_reducible exact attr_Dress.mono _ _ _ _ _ _ _)
      | (with_reducible exact greenscreenlaw11_alive.mono _)
      | (with_reducible exact greenscreenref11_Dress.mono _ _ _ _ _ _ _)
      | (with_reducible exact LeO.refl _)
      | (with_reducible exact LeO.none _)
      | (with_reducible refine LeO.ite ?_ ?_)
      | (with_reducible refine LeO.bind ?_ (fun _ => ?_))
      | exact ih0 _ _ _ _ _ _ _ _ _ _
      | exact attr_Check.mono _ _ _ _
      | exact attr_Dress.mono _ _ _ _ _ _ _
      | exact greenscreenlaw11_alive.mono _
      | exact greenscreenref11_Dress.mono _ _ _ _ _ _ _
      | exact LeO.none _
      | refine LeO.ite ?_ ?_
      | refine LeO.bind ?_ (fun _ => ?_)
theorem greenscreenlaw11_AttrPairs.mono : ∀ a0 a1 a2 a3 a4 a5 a6 k, LeO (greenscreenlaw11_AttrPairs.f k a0 a1 a2 a3 a4 a5 a6) (greenscreenlaw11_AttrPairs.f (k + 1) a0 a1 a2 a3 a4 a5 a6) := by
  intro a0 a1 a2 a3 a4 a5 a6 k
  have ih0 := greenscreenlaw11_AttrPairs.mono_l k
  unfold greenscreenlaw11_AttrPairs.f
  repeat' first
      | (with_reducible exact ih0 _ _ _ _ _ _ _ _ _ _)
      | (with_reducible exact attr_Check.mono _ _ _ _)
      | (with_reducible exact attr_Dress.mono _ _ _ _ _ _ _)
      | (with_reducible exact greenscreenlaw11_alive.mono _)
      | (with_reducible exact greenscreenref11_Dress.mono _ _ _ _ _ _ _)
      | (with_reducible exact LeO.refl _)
      | (with_reducible exact LeO.none _)
      | (with_reducible refine LeO.ite ?_ ?_)
      | (with_reducible refine LeO.bind ?_ (fun _ => ?_))
      | exact ih0 _ _ _ _ _ _ _ _ _ _
      | exact attr_Check.mono _ _ _ _
      | exact attr_Dress.mono _ _ _ _ _ _ _
      | exact greenscreenlaw11_alive.mono _
      | exact greenscreenref11_Dress.mono _ _ _ _ _ _ _
      | exact LeO.none _
      | refine LeO.ite ?_ ?_
      | refine LeO.bind ?_ (fun _ => ?_)
def greenscreenlaw11_AttrPairs.T12 : Bool × List (List Nat × List Nat) := (true, [([], []), ([], []), ([0, 1], [0, 1]), ([], []), ([], []), ([3, 4, 2], [3, 4]), ([2, 5], [2, 5]), ([6, 5, 0, 1, 2, 3, 4, 5, 6], [6])])
def greenscreenlaw11_AttrPairs.B12 : List Nat := [0, 0, 3, 0, 0, 31, 63, 127]
theorem greenscreenlaw11_AttrPairs.tab12 : rtab .any (opsOf Try.f4 12) = greenscreenlaw11_AttrPairs.T12 := by kernel_rfl
theorem greenscreenlaw11_AttrPairs.bits12 : waitsOk greenscreenlaw11_AttrPairs.T12.2 greenscreenlaw11_AttrPairs.B12 = true := by kernel_rfl
set_option maxHeartbeats 8000000 in
set_option maxRecDepth 100000 in
theorem greenscreenlaw11_AttrPairs.calls (k : Nat) (a0_0 : Int) (a0_1 : Bool) (a0_2 : Bool) (a0_3 : Int) (a0_4 : Int) (a1 : Int) (A2 : Option Addr) (c2 : Nat) (l2 : List (S36)) (r : Bool) (hr_ : r = true) (w : World) (hr2 : Kd.C k36 w A2 l2.length l2) (hc2 : l2.length ≤ c2) (h : greenscreenlaw11_AttrPairs.f k a0_0 a0_1 a0_2 a0_3 a0_4 a1 l2 = some r) :
    Calls Try.prog 4 #[.agg #[.int .u8 a0_0, .bool a0_1, .bool a0_2, .int .u8 a0_3, .int .u8 a0_4], .int .u8 a1, .slice A2 l2.length c2] w fun e w' => e = .returned (.bool r) ∧ Below w.heap.size w w' := by
  have hu33 := Try.underlying33
  have hu36 := Try.underlying36
  have HR2 := Aside0.mk hr2
  have HC2 := Aside0.mk hc2
  clear hr2 hc2
  have HB := Aside0.mk (Below.refl w.heap.size w)
  have H : ((greenscreenlaw11_alive.f k).bind fun t184 => (if t184 = true then (if (l2.length : Int) > 100 then (some true) else (greenscreenlaw11_AttrPairs.l0 k a1 l2 l2 (l2.length : Int) 0 a0_0 a0_1 a0_2 a0_3 a0_4)) else (some false))) = some r := h
  clear h
  replace H := Option.bind_eq_some_iff.mp H
  obtain ⟨t184, A40, H⟩ := H
  replace H : (if t184 = true then (if (l2.length : Int) > 100 then (some true) else (greenscreenlaw11_AttrPairs.l0 k a1 l2 l2 (l2.length : Int) 0 a0_0 a0_1 a0_2 a0_3 a0_4)) else (some false)) = some r := H
  have A4 := Aside0.mk A40
  clear A40
  by_cases c5 : t184 = true
  · subst c5
    have H1 : (if (l2.length : Int) > 100 then (some true) else (greenscreenlaw11_AttrPairs.l0 k a1 l2 l2 (l2.length : Int) 0 a0_0 a0_1 a0_2 a0_3 a0_4)) = some r := by rw [if_pos rfl] at H; exact H
    clear H
    have H := H1
    clear H1
    by_cases c6 : (l2.length : Int) > 100
    · rw [if_pos c6] at H
      have c6b0 : decide (100 < (l2.length : Int)) = true := decide_eq_true c6
      have c6b1 : decide (100 < l2.length) = true := decide_eq_true (by omega)
      clear c6
      obtain rfl := Option.some.inj H
      go_enter Try.func4, Try.ntmps4
      go_wp2_with (first | ((with_reducible refine gate_dst (N := 3) rfl ?_); refine box_event ?hg (N := 3) ?hd (cs := #[.int .u8 a0_0, .bool a0_1, .bool a0_2, .int .u8 a0_3, .int .u8 a0_4]) (t := 33) ?hr ?_; (case hd => rfl); (case hg => rfl); (case hr => first | (go_simp; done) | (go_simp; rfl)); intro gb183 hg w7 hbox hb; have n0_ := Aside0.mk (below_step (by repeat (first | (with_reducible first | exact HB.out | apply below_alloc | apply pw_below_drewN | apply below_drew1) | exact HB.out)) hb); have n1_ := Aside0.mk (hbox); have n2_ := Aside0.mk ((by rw [hg]; exact (below_size (by repeat (first | (with_reducible first | exact HB.out | apply below_alloc | apply pw_below_drewN | apply below_drew1) | exact HB.out))) : w.heap.size ≤ gb183)); have n3_ := Aside0.mk ((by rw [hg]; exact (below_size (by repeat (first | (with_reducible first | exact HB.out | apply below_alloc | apply pw_below_drewN | apply below_drew1) | exact HB.out))) : w.heap.size ≤ gb183)); clear HB; have HB := n0_; have BK183 := n1_; have GW183 := n2_; have GE183 := n3_; clear n0_ n1_ n2_ n3_; clear hb hbox hg) | ((with_reducible refine gate_callee (f := 7) rfl ?_); refine goesL_ (some 10) rfl rfl Try.func7 (by kernel_rfl) rfl #[] rfl (by (try simp only [List.map_toArray, List.map_cons, List.map_nil]); first | done | rfl | (simp only [List.length_drop, List.length_take]; rfl)) ?_; (with_reducible refine (greenscreenlaw11_alive.calls k  true rfl _ A4.out).mono ?_); rintro e w8 ⟨rfl, hb⟩; refine ⟨_, rfl, ?_⟩; have n0_ := Aside0.mk (blk_below (g := gb183) (o := .cells #[.int .u8 a0_0, .bool a0_1, .bool a0_2, .int .u8 a0_3, .int .u8 a0_4] 33 (0, 0)) (by (with_reducible repeat (first | refine blk_drewN ?_ _ | refine blk_drew ?_ | refine blk_alloc ?_ _)); exact BK183.out) hb); have n1_ := Aside0.mk (below_step (by repeat (first | (with_reducible first | exact HB.out | apply below_alloc | apply pw_below_drewN | apply below_drew1 | refine below_set ?_ GE183.out) | exact HB.out)) hb); clear BK183; clear HB; have BK183 := n0_; have HB := n1_; clear n0_ n1_; (try clear hb); (try clear hb2); (try clear hk); (try clear hi)))
      go_ret
      exact ⟨by first | rfl | (simp [errW_none, errW_some] <;> rfl) | (simp [*, errW_none, errW_some] <;> rfl), by repeat (first | (with_reducible first | exact HB.out | apply below_alloc | apply pw_below_drewN | apply below_drew1 | refine below_set ?_ GE183.out) | exact HB.out)⟩
    · rw [if_neg c6] at H
      have c6b0 : decide (100 < (l2.length : Int)) = false := decide_eq_false c6
      have c6b1 : decide (100 < l2.length) = false := decide_eq_false (by omega)
      clear c6
      have H' := Aside0.mk H
      clear H
      go_enter Try.func4, Try.ntmps4
      go_wp2_with (first | ((with_reducible refine gate_dst (N := 3) rfl ?_); refine box_event ?hg (N := 3) ?hd (cs := #[.int .u8 a0_0, .bool a0_1, .bool a0_2, .int .u8 a0_3, .int .u8 a0_4]) (t := 33) ?hr ?_; (case hd => rfl); (case hg => rfl); (case hr => first | (go_simp; done) | (go_simp; rfl)); intro gb183 hg w9 hbox hb; have n0_ := Aside0.mk (below_step (by repeat (first | (with_reducible first | exact HB.out | apply below_alloc | apply pw_below_drewN | apply below_drew1) | exact HB.out)) hb); have n1_ := Aside0.mk (hbox); have n2_ := Aside0.mk ((by rw [hg]; exact (below_size (by repeat (first | (with_reducible first | exact HB.out | apply below_alloc | apply pw_below_drewN | apply below_drew1) | exact HB.out))) : w.heap.size ≤ gb183)); have n3_ := Aside0.mk ((by rw [hg]; exact (below_size (by repeat (first | (with_reducible first | exact HB.out | apply below_alloc | apply pw_below_drewN | apply below_drew1) | exact HB.out))) : w.heap.size ≤ gb183)); clear HB; have HB := n0_; have BK183 := n1_; have GW183 := n2_; have GE183 := n3_; clear n0_ n1_ n2_ n3_; clear hb hbox hg) | ((with_reducible refine gate_callee (f := 7) rfl ?_); refine goesL_ (some 10) rfl rfl Try.func7 (by kernel_rfl) rfl #[] rfl (by (try simp only [List.map_toArray, List.map_cons, List.map_nil]); first | done | rfl | (simp only [List.length_drop, List.length_take]; rfl)) ?_; (with_reducible refine (greenscreenlaw11_alive.calls k  true rfl _ A4.out).mono ?_); rintro e w10 ⟨rfl, hb⟩; refine ⟨_, rfl, ?_⟩; have n0_ := Aside0.mk (blk_below (g := gb183) (o := .cells #[.int .u8 a0_0, .bool a0_1, .bool a0_2, .int .u8 a0_3, .int .u8 a0_4] 33 (0, 0)) (by (with_reducible repeat (first | refine blk_drewN ?_ _ | refine blk_drew ?_ | refine blk_alloc ?_ _)); exact BK183.out) hb); have n1_ := Aside0.mk (below_step (by repeat (first | (with_reducible first | exact HB.out | apply below_alloc | apply pw_below_drewN | apply below_drew1 | refine below_set ?_ GE183.out) | exact HB.out)) hb); clear BK183; clear HB; have BK183 := n0_; have HB := n1_; clear n0_ n1_; (try clear hb); (try clear hb2); (try clear hk); (try clear hi)))
      go_loopg [17] k (fun kq v17 w' => ∃ (x17_1 : Int), v17 = .int .i64 x17_1 ∧ Aside0 (greenscreenlaw11_AttrPairs.l0 kq a1 l2 l2 (l2.length : Int) x17_1 a0_0 a0_1 a0_2 a0_3 a0_4 = some r) ∧ Aside0 (kq ≤ k) ∧ Aside0 (w'.heap[gb183]? = some (.cells #[.int .u8 a0_0, .bool a0_1, .bool a0_2, .int .u8 a0_3, .int .u8 a0_4] 33 (0, 0))) ∧ Aside0 (Below w.heap.size w w'))
      case atStart => exact ⟨(0), (by first | rfl | (simp; done) | (simp [*]; done)), H', ⟨Nat.le_refl _⟩, ⟨by (with_reducible repeat (first | refine blk_drewN ?_ _ | refine blk_drew ?_ | refine blk_alloc ?_ _)); exact BK183.out⟩, ⟨by repeat (first | (with_reducible first | exact HB.out | apply below_alloc | apply pw_below_drewN | apply below_drew1 | refine below_set ?_ GE183.out) | exact HB.out)⟩⟩
      case round =>
        clear H'
        try clear c2
        try clear p2
        try clear c4
        try clear c5
        try clear c6
        try clear c6b0
        try clear c6b1
        try clear c7
        obtain ⟨x17_1, rfl, HA, HK1, BK183, HB⟩ := hrel
        cases gk with
        | zero => exact absurd HA.out (by simp [greenscreenlaw11_AttrPairs.l0])
        | succ k1 =>
          have H := HA.out
          clear HA
          simp only [greenscreenlaw11_AttrPairs.l0] at H
          by_cases c11 : x17_1 < (l2.length : Int)
          · rw [if_pos c11] at H
            have c11b0 : decide (x17_1 < (l2.length : Int)) = true := decide_eq_true c11
            clear c11
            by_cases c12 : 0 ≤ x17_1
            · rw [if_pos c12] at H
              have c12b0 : decide (0 ≤ x17_1) = true := decide_eq_true c12
              clear c12
              by_cases c13 : x17_1 < (l2.length : Int)
              · rw [if_pos c13] at H
                have c13b0 : decide (x17_1 < (l2.length : Int)) = true := decide_eq_true c13
                clear c13
                replace H := Option.bind_eq_some_iff.mp H
                obtain ⟨t197, A140, H⟩ := H
                replace H : ((greenscreenref11_Check.f a1 ((rd_T36 l2 x17_1).f0) ((rd_T36 l2 x17_1).f1)).bind fun t198 => (if ((t197 == 0) != t198) = true then (some false) else (if t197 = 0 then (greenscreenlaw11_AttrPairs.l0 k1 a1 l2 l2 (l2.length : Int) (wrap64 (x17_1 + 1)) a0_0 a0_1 a0_2 a0_3 a0_4) else (if t197 = 33 then (greenscreenlaw11_AttrPairs.l0 k1 a1 l2 l2 (l2.length : Int) (wrap64 (x17_1 + 1)) a0_0 a0_1 a0_2 a0_3 a0_4) else (some false))))) = some r := H
                have A14 := Aside0.mk A140
                clear A140
                replace H := Option.bind_eq_some_iff.mp H
                obtain ⟨t198, A150, H⟩ := H
                replace H : (if ((t197 == 0) != t198) = true then (some false) else (if t197 = 0 then (greenscreenlaw11_AttrPairs.l0 k1 a1 l2 l2 (l2.length : Int) (wrap64 (x17_1 + 1)) a0_0 a0_1 a0_2 a0_3 a0_4) else (if t197 = 33 then (greenscreenlaw11_AttrPairs.l0 k1 a1 l2 l2 (l2.length : Int) (wrap64 (x17_1 + 1)) a0_0 a0_1 a0_2 a0_3 a0_4) else (some false)))) = some r := H
                have A15 := Aside0.mk A150
                clear A150
                by_cases c16 : ((t197 == 0) != t198) = true
                · rw [if_pos c16] at H
                  have c16b0 : ((t197 == 0) != t198) = true := c16
                  (try (have c16e0 : ((t197 == 0) = t198) = False := by (have he_ := c16b0; revert he_; cases ((t197 == 0)) <;> cases (t198) <;> simp)))
                  (try (have c16e1 : ((t197 == 0) == t198) = false := by (have he_ := c16b0; revert he_; cases ((t197 == 0)) <;> cases (t198) <;> simp)))
                  (try (have c16b1 : decide ((t197 == 0) = t198) = false := by simpa using c16))
                  (try (have c16b2 : ((t197 == 0) == t198) = false := by simpa using c16))
                  (try (have c16b3 : ¬ ((t197 == 0) = t198) := by simpa using c16))
                  clear c16
                  obtain rfl := Option.some.inj H
                  exact absurd hr_ (by decide)
                · rw [if_neg c16] at H
                  have c16b0 : ((t197 == 0) != t198) = false := by simpa using c16
                  (try (have c16e0 : ((t197 == 0) = t198) = True := by (have he_ := c16b0; revert he_; cases ((t197 == 0)) <;> cases (t198) <;> simp)))
                  (try (have c16e1 : ((t197 == 0) == t198) = true := by (have he_ := c16b0; revert he_; cases ((t197 == 0)) <;> cases (t198) <;> simp)))
                  (try (have c16b1 : decide ((t197 == 0) = t198) = true := by simpa using c16))
                  (try (have c16b2 : ((t197 == 0) == t198) = true := by simpa using c16))
                  clear c16
                  by_cases c23 : t197 = 0
                  · rw [if_pos c23] at H
                    have c23b0 : (t197 == 0) = true := beq_iff_eq.mpr c23
                    (try (have c23xc16 : t198 = true := by (have he_ := c16b0; simp only [ge_iff_le, gt_iff_lt, c23b0] at he_; revert he_; cases t198 <;> simp)))
                    have c23b1 : (t197 != 0) = false := bne_eq_false_iff_eq.mpr c23
                    clear c23
                    have H' := Aside0.mk H
                    clear H
                    have p195 : 0 ≤ (x17_1 : Int) := of_decide_eq_true (by first | (with_reducible assumption) | assumption)
                    have q195 : x17_1 < (l2.length : Int) := of_decide_eq_true (by first | (with_reducible assumption) | assumption)
                    obtain ⟨ad195, e195, hx195_0, hx195_1⟩ := at_T36 HR2.out x17_1 p195 q195
                    cases e195
                    replace hx195_0 := (HB.out.cell (World.block_lt_of_cell? w _ hx195_0)).trans hx195_0
                    replace hx195_1 := (HB.out.cell (World.block_lt_of_cell? w _ hx195_1)).trans hx195_1
                    replace p195 := eq_true p195
                    replace q195 := eq_true q195
                    go_wp2_with (first | ((with_reducible refine gate_dst (N := 8) rfl ?_); refine box_event ?hg (N := 8) ?hd (cs := #[.int .u8 0, .int .u8 0]) (t := 36) ?hr ?_; (case hd => rfl); (case hg => rfl); (case hr => first | (go_simp; done) | (go_simp; rfl)); intro gb196 hg w24 hbox hb; have n0_ := Aside0.mk (blk_below (g := gb183) (o := .cells #[.int .u8 a0_0, .bool a0_1, .bool a0_2, .int .u8 a0_3, .int .u8 a0_4] 33 (0, 0)) (by (with_reducible repeat (first | refine blk_drewN ?_ _ | refine blk_drew ?_ | refine blk_alloc ?_ _)); exact BK183.out) hb); have n1_ := Aside0.mk (below_step (by repeat (first | (with_reducible first | exact HB.out | apply below_alloc | apply pw_below_drewN | apply below_drew1 | refine below_set ?_ GE183.out) | exact HB.out)) hb); have n2_ := Aside0.mk (hbox); have n3_ := Aside0.mk ((by rw [hg]; exact (below_size (by repeat (first | (with_reducible first | exact HB.out | apply below_alloc | apply pw_below_drewN | apply below_drew1 | refine below_set ?_ GE183.out) | exact HB.out))) : w.heap.size ≤ gb196)); have n4_ := Aside0.mk ((by rw [hg]; exact (below_size (by repeat (first | (with_reducible first | exact HB.out | apply below_alloc | apply pw_below_drewN | apply below_drew1 | refine below_set ?_ GE183.out) | exact HB.out))) : w.heap.size ≤ gb196)); have n5_ := Aside0.mk ((by rw [hg]; exact Nat.ne_of_lt (blk_lt (g := gb183) (o := .cells #[.int .u8 a0_0, .bool a0_1, .bool a0_2, .int .u8 a0_3, .int .u8 a0_4] 33 (0, 0)) (by (with_reducible repeat (first | refine blk_drewN ?_ _ | refine blk_drew ?_ | refine blk_alloc ?_ _)); exact BK183.out)) : gb183 ≠ gb196)); have n6_ := Aside0.mk ((by rw [hg]; exact Nat.ne_of_gt (blk_lt (g := gb183) (o := .cells #[.int .u8 a0_0, .bool a0_1, .bool a0_2, .int .u8 a0_3, .int .u8 a0_4] 33 (0, 0)) (by (with_reducible repeat (first | refine blk_drewN ?_ _ | refine blk_drew ?_ | refine blk_alloc ?_ _)); exact BK183.out)) : gb196 ≠ gb183)); clear BK183; clear HB; have BK183 := n0_; have HB := n1_; have BK196 := n2_; have GW196 := n3_; have GE196 := n4_; have NB183_196 := n5_; have NB196_183 := n6_; clear n0_ n1_ n2_ n3_ n4_ n5_ n6_; clear hb hbox hg; have hnb25 := NB196_183.out; have hnc25 := NB183_196.out; have hcz26_0 : w24.cell? ⟨gb196, 0, none⟩ = some (.int .u8 0) := (blk_cell BK196.out 0).trans rfl; have hcz26_1 : w24.cell? ⟨gb196, 1, none⟩ = some (.int .u8 0) := (blk_cell BK196.out 1).trans rfl; have hfz26_0 := blk_frozen BK196.out 0; have hfz26_1 := blk_frozen BK196.out 1) | ((with_reducible refine gate_callee (f := 22) rfl ?_); refine goesL_ (some 23) rfl rfl Try.func22 (by kernel_rfl) rfl #[.int .u8 a1, .agg #[.int .u8 ((rd_T36 l2 x17_1).f0), .int .u8 ((rd_T36 l2 x17_1).f1)]] rfl (by (try simp only [List.map_toArray, List.map_cons, List.map_nil]); first | done | rfl | (simp only [List.length_drop, List.length_take]; rfl)) ?_; (with_reducible refine (attr_Check.calls k1 a1 ((rd_T36 l2 x17_1).f0) ((rd_T36 l2 x17_1).f1) t197 _ A14.out).mono ?_); rintro e w27 ⟨rfl, hb⟩; refine ⟨_, rfl, ?_⟩; have n0_ := Aside0.mk (blk_below (g := gb183) (o := .cells #[.int .u8 a0_0, .bool a0_1, .bool a0_2, .int .u8 a0_3, .int .u8 a0_4] 33 (0, 0)) (by (with_reducible repeat (first | refine blk_drewN ?_ _ | refine blk_drew ?_ | refine blk_alloc ?_ _)); refine blk_far ?_ NB183_196.out _; (with_reducible repeat (first | refine blk_drewN ?_ _ | refine blk_drew ?_ | refine blk_alloc ?_ _)); refine blk_far ?_ NB183_196.out _; (with_reducible repeat (first | refine blk_drewN ?_ _ | refine blk_drew ?_ | refine blk_alloc ?_ _)); exact BK183.out) hb); have n1_ := Aside0.mk (blk_below (g := gb196) (o := .cells #[.int .u8 ((rd_T36 l2 x17_1).f0), .int .u8 ((rd_T36 l2 x17_1).f1)] 36 (0, 0)) (by (with_reducible repeat (first | refine blk_drewN ?_ _ | refine blk_drew ?_ | refine blk_alloc ?_ _)); refine blk_put (cs := #[.int .u8 ((rd_T36 l2 x17_1).f0), .int .u8 0]) ?_ 1 _ rfl; (with_reducible repeat (first | refine blk_drewN ?_ _ | refine blk_drew ?_ | refine blk_alloc ?_ _)); refine blk_put (cs := #[.int .u8 0, .int .u8 0]) ?_ 0 _ rfl; (with_reducible repeat (first | refine blk_drewN ?_ _ | refine blk_drew ?_ | refine blk_alloc ?_ _)); exact BK196.out) hb); have n2_ := Aside0.mk (below_step (by repeat (first | (with_reducible first | exact HB.out | apply below_alloc | apply pw_below_drewN | apply below_drew1 | refine below_set ?_ GE183.out | refine below_set ?_ GE196.out) | exact HB.out)) hb); clear BK183; clear BK196; clear HB; have BK183 := n0_; have BK196 := n1_; have HB := n2_; clear n0_ n1_ n2_; (try clear hb); (try clear hb2); (try clear hk); (try clear hi); have hcz28_0 : w27.cell? ⟨gb196, 0, none⟩ = some (.int .u8 ((rd_T36 l2 x17_1).f0)) := (blk_cell BK196.out 0).trans rfl; have hcz28_1 : w27.cell? ⟨gb196, 1, none⟩ = some (.int .u8 ((rd_T36 l2 x17_1).f1)) := (blk_cell BK196.out 1).trans rfl; have hfz28_0 := blk_frozen BK196.out 0; have hfz28_1 := blk_frozen BK196.out 1) | ((with_reducible refine gate_callee (f := 23) rfl ?_); refine goesL_ (some 28) rfl rfl Try.func23 (by kernel_rfl) rfl #[.int .u8 a1, .agg #[.int .u8 ((rd_T36 l2 x17_1).f0), .int .u8 ((rd_T36 l2 x17_1).f1)]] rfl (by (try simp only [List.map_toArray, List.map_cons, List.map_nil]); first | done | rfl | (simp only [List.length_drop, List.length_take]; rfl)) ?_; (with_reducible refine (greenscreenref11_Check.calls a1 ((rd_T36 l2 x17_1).f0) ((rd_T36 l2 x17_1).f1) t198 _ A15.out).mono ?_); rintro e w29 ⟨rfl, hb⟩; refine ⟨_, rfl, ?_⟩; have n0_ := Aside0.mk (blk_below (g := gb183) (o := .cells #[.int .u8 a0_0, .bool a0_1, .bool a0_2, .int .u8 a0_3, .int .u8 a0_4] 33 (0, 0)) (by (with_reducible repeat (first | refine blk_drewN ?_ _ | refine blk_drew ?_ | refine blk_alloc ?_ _)); exact BK183.out) hb); have n1_ := Aside0.mk (blk_below (g := gb196) (o := .cells #[.int .u8 ((rd_T36 l2 x17_1).f0), .int .u8 ((rd_T36 l2 x17_1).f1)] 36 (0, 0)) (by (with_reducible repeat (first | refine blk_drewN ?_ _ | refine blk_drew ?_ | refine blk_alloc ?_ _)); exact BK196.out) hb); have n2_ := Aside0.mk (below_step (by repeat (first | (with_reducible first | exact HB.out | apply below_alloc | apply pw_below_drewN | apply below_drew1 | refine below_set ?_ GE183.out | refine below_set ?_ GE196.out) | exact HB.out)) hb); clear BK183; clear BK196; clear HB; have BK183 := n0_; have BK196 := n1_; have HB := n2_; clear n0_ n1_ n2_; (try clear hb); (try clear hb2); (try clear hk); (try clear hi)))
                    go_roundg k1
                    case measure => have := HK1.out; omega
                    case rel => exact ⟨(wrap64 (x17_1 + 1)), (by first | rfl | (simp; done) | (simp [*]; done)), H', ⟨by have := HK1.out; omega⟩, ⟨by (with_reducible repeat (first | refine blk_drewN ?_ _ | refine blk_drew ?_ | refine blk_alloc ?_ _)); exact BK183.out⟩, ⟨by repeat (first | (with_reducible first | exact HB.out | apply below_alloc | apply pw_below_drewN | apply below_drew1 | refine below_set ?_ GE183.out | refine below_set ?_ GE196.out) | exact HB.out)⟩⟩
                  · rw [if_neg c23] at H
                    have c23b0 : (t197 == 0) = false := beq_eq_false_iff_ne.mpr c23
                    (try (have c23xc16 : t198 = false := by (have he_ := c16b0; simp only [ge_iff_le, gt_iff_lt, c23b0] at he_; revert he_; cases t198 <;> simp)))
                    have c23b1 : (t197 != 0) = true := bne_iff_ne.mpr c23
                    by_cases c30 : t197 = 33
                    · rw [if_pos c30] at H
                      have c30b0 : (t197 == 33) = true := beq_iff_eq.mpr c30
                      have c30b1 : (t197 != 33) = false := bne_eq_false_iff_eq.mpr c30
                      clear c30
                      have H' := Aside0.mk H
                      clear H
                      have p195 : 0 ≤ (x17_1 : Int) := of_decide_eq_true (by first | (with_reducible assumption) | assumption)
                      have q195 : x17_1 < (l2.length : Int) := of_decide_eq_true (by first | (with_reducible assumption) | assumption)
                      obtain ⟨ad195, e195, hx195_0, hx195_1⟩ := at_T36 HR2.out x17_1 p195 q195
                      cases e195
                      replace hx195_0 := (HB.out.cell (World.block_lt_of_cell? w _ hx195_0)).trans hx195_0
                      replace hx195_1 := (HB.out.cell (World.block_lt_of_cell? w _ hx195_1)).trans hx195_1
                      replace p195 := eq_true p195
                      replace q195 := eq_true q195
                      go_wp2_with (first | ((with_reducible refine gate_dst (N := 8) rfl ?_); refine box_event ?hg (N := 8) ?hd (cs := #[.int .u8 0, .int .u8 0]) (t := 36) ?hr ?_; (case hd => rfl); (case hg => rfl); (case hr => first | (go_simp; done) | (go_simp; rfl)); intro gb196 hg w31 hbox hb; have n0_ := Aside0.mk (blk_below (g := gb183) (o := .cells #[.int .u8 a0_0, .bool a0_1, .bool a0_2, .int .u8 a0_3, .int .u8 a0_4] 33 (0, 0)) (by (with_reducible repeat (first | refine blk_drewN ?_ _ | refine blk_drew ?_ | refine blk_alloc ?_ _)); exact BK183.out) hb); have n1_ := Aside0.mk (below_step (by repeat (first | (with_reducible first | exact HB.out | apply below_alloc | apply pw_below_drewN | apply below_drew1 | refine below_set ?_ GE183.out) | exact HB.out)) hb); have n2_ := Aside0.mk (hbox); have n3_ := Aside0.mk ((by rw [hg]; exact (below_size (by repeat (first | (with_reducible first | exact HB.out | apply below_alloc | apply pw_below_drewN | apply below_drew1 | refine below_set ?_ GE183.out) | exact HB.out))) : w.heap.size ≤ gb196)); have n4_ := Aside0.mk ((by rw [hg]; exact (below_size (by repeat (first | (with_reducible first | exact HB.out | apply below_alloc | apply pw_below_drewN | apply below_drew1 | refine below_set ?_ GE183.out) | exact HB.out))) : w.heap.size ≤ gb196)); have n5_ := Aside0.mk ((by rw [hg]; exact Nat.ne_of_lt (blk_lt (g := gb183) (o := .cells #[.int .u8 a0_0, .bool a0_1, .bool a0_2, .int .u8 a0_3, .int .u8 a0_4] 33 (0, 0)) (by (with_reducible repeat (first | refine blk_drewN ?_ _ | refine blk_drew ?_ | refine blk_alloc ?_ _)); exact BK183.out)) : gb183 ≠ gb196)); have n6_ := Aside0.mk ((by rw [hg]; exact Nat.ne_of_gt (blk_lt (g := gb183) (o := .cells #[.int .u8 a0_0, .bool a0_1, .bool a0_2, .int .u8 a0_3, .int .u8 a0_4] 33 (0, 0)) (by (with_reducible repeat (first | refine blk_drewN ?_ _ | refine blk_drew ?_ | refine blk_alloc ?_ _)); exact BK183.out)) : gb196 ≠ gb183)); clear BK183; clear HB; have BK183 := n0_; have HB := n1_; have BK196 := n2_; have GW196 := n3_; have GE196 := n4_; have NB183_196 := n5_; have NB196_183 := n6_; clear n0_ n1_ n2_ n3_ n4_ n5_ n6_; clear hb hbox hg; have hnb32 := NB196_183.out; have hnc32 := NB183_196.out; have hcz33_0 : w31.cell? ⟨gb196, 0, none⟩ = some (.int .u8 0) := (blk_cell BK196.out 0).trans rfl; have hcz33_1 : w31.cell? ⟨gb196, 1, none⟩ = some (.int .u8 0) := (blk_cell BK196.out 1).trans rfl; have hfz33_0 := blk_frozen BK196.out 0; have hfz33_1 := blk_frozen BK196.out 1) | ((with_reducible refine gate_callee (f := 22) rfl ?_); refine goesL_ (some 23) rfl rfl Try.func22 (by kernel_rfl) rfl #[.int .u8 a1, .agg #[.int .u8 ((rd_T36 l2 x17_1).f0), .int .u8 ((rd_T36 l2 x17_1).f1)]] rfl (by (try simp only [List.map_toArray, List.map_cons, List.map_nil]); first | done | rfl | (simp only [List.length_drop, List.length_take]; rfl)) ?_; (with_reducible refine (attr_Check.calls k1 a1 ((rd_T36 l2 x17_1).f0) ((rd_T36 l2 x17_1).f1) t197 _ A14.out).mono ?_); rintro e w34 ⟨rfl, hb⟩; refine ⟨_, rfl, ?_⟩; have n0_ := Aside0.mk (blk_below (g := gb183) (o := .cells #[.int .u8 a0_0, .bool a0_1, .bool a0_2, .int .u8 a0_3, .int .u8 a0_4] 33 (0, 0)) (by (with_reducible repeat (first | refine blk_drewN ?_ _ | refine blk_drew ?_ | refine blk_alloc ?_ _)); refine blk_far ?_ NB183_196.out _; (with_reducible repeat (first | refine blk_drewN ?_ _ | refine blk_drew ?_ | refine blk_alloc ?_ _)); refine blk_far ?_ NB183_196.out _; (with_reducible repeat (first | refine blk_drewN ?_ _ | refine blk_drew ?_ | refine blk_alloc ?_ _)); exact BK183.out) hb); have n1_ := Aside0.mk (blk_below (g := gb196) (o := .cells #[.int .u8 ((rd_T36 l2 x17_1).f0), .int .u8 ((rd_T36 l2 x17_1).f1)] 36 (0, 0)) (by (with_reducible repeat (first | refine blk_drewN ?_ _ | refine blk_drew ?_ | refine blk_alloc ?_ _)); refine blk_put (cs := #[.int .u8 ((rd_T36 l2 x17_1).f0), .int .u8 0]) ?_ 1 _ rfl; (with_reducible repeat (first | refine blk_drewN ?_ _ | refine blk_drew ?_ | refine blk_alloc ?_ _)); refine blk_put (cs := #[.int .u8 0, .int .u8 0]) ?_ 0 _ rfl; (with_reducible repeat (first | refine blk_drewN ?_ _ | refine blk_drew ?_ | refine blk_alloc ?_ _)); exact BK196.out) hb); have n2_ := Aside0.mk (below_step (by repeat (first | (with_reducible first | exact HB.out | apply below_alloc | apply pw_below_drewN | apply below_drew1 | refine below_set ?_ GE183.out | refine below_set ?_ GE196.out) | exact HB.out)) hb); clear BK183; clear BK196; clear HB; have BK183 := n0_; have BK196 := n1_; have HB := n2_; clear n0_ n1_ n2_; (try clear hb); (try clear hb2); (try clear hk); (try clear hi); have hcz35_0 : w34.cell? ⟨gb196, 0, none⟩ = some (.int .u8 ((rd_T36 l2 x17_1).f0)) := (blk_cell BK196.out 0).trans rfl; have hcz35_1 : w34.cell? ⟨gb196, 1, none⟩ = some (.int .u8 ((rd_T36 l2 x17_1).f1)) := (blk_cell BK196.out 1).trans rfl; have hfz35_0 := blk_frozen BK196.out 0; have hfz35_1 := blk_frozen BK196.out 1) | ((with_reducible refine gate_callee (f := 23) rfl ?_); refine goesL_ (some 28) rfl rfl Try.func23 (by kernel_rfl) rfl #[.int .u8 a1, .agg #[.int .u8 ((rd_T36 l2 x17_1).f0), .int .u8 ((rd_T36 l2 x17_1).f1)]] rfl (by (try simp only [List.map_toArray, List.map_cons, List.map_nil]); first | done | rfl | (simp only [List.length_drop, List.length_take]; rfl)) ?_; (with_reducible refine (greenscreenref11_Check.calls a1 ((rd_T36 l2 x17_1).f0) ((rd_T36 l2 x17_1).f1) t198 _ A15.out).mono ?_); rintro e w36 ⟨rfl, hb⟩; refine ⟨_, rfl, ?_⟩; have n0_ := Aside0.mk (blk_below (g := gb183) (o := .cells #[.int .u8 a0_0, .bool a0_1, .bool a0_2, .int .u8 a0_3, .int .u8 a0_4] 33 (0, 0)) (by (with_reducible repeat (first | refine blk_drewN ?_ _ | refine blk_drew ?_ | refine blk_alloc ?_ _)); exact BK183.out) hb); have n1_ := Aside0.mk (blk_below (g := gb196) (o := .cells #[.int .u8 ((rd_T36 l2 x17_1).f0), .int .u8 ((rd_T36 l2 x17_1).f1)] 36 (0, 0)) (by (with_reducible repeat (first | refine blk_drewN ?_ _ | refine blk_drew ?_ | refine blk_alloc ?_ _)); exact BK196.out) hb); have n2_ := Aside0.mk (below_step (by repeat (first | (with_reducible first | exact HB.out | apply below_alloc | apply pw_below_drewN | apply below_drew1 | refine below_set ?_ GE183.out | refine below_set ?_ GE196.out) | exact HB.out)) hb); clear BK183; clear BK196; clear HB; have BK183 := n0_; have BK196 := n1_; have HB := n2_; clear n0_ n1_ n2_; (try clear hb); (try clear hb2); (try clear hk); (try clear hi)))
                      go_roundg k1
                      case measure => have := HK1.out; omega
                      case rel => exact ⟨(wrap64 (x17_1 + 1)), (by first | rfl | (simp; done) | (simp [*]; done)), H', ⟨by have := HK1.out; omega⟩, ⟨by (with_reducible repeat (first | refine blk_drewN ?_ _ | refine blk_drew ?_ | refine blk_alloc ?_ _)); exact BK183.out⟩, ⟨by repeat (first | (with_reducible first | exact HB.out | apply below_alloc | apply pw_below_drewN | apply below_drew1 | refine below_set ?_ GE183.out | refine below_set ?_ GE196.out) | exact HB.out)⟩⟩
                    · rw [if_neg c30] at H
                      have c30b0 : (t197 == 33) = false := beq_eq_false_iff_ne.mpr c30
                      have c30b1 : (t197 != 33) = true := bne_iff_ne.mpr c30
                      obtain rfl := Option.some.inj H
                      exact absurd hr_ (by decide)
              · rw [if_neg c13] at H
                exact absurd H (by simp)
            · rw [if_neg c12] at H
              exact absurd H (by simp)
          · rw [if_neg c11] at H
            have c11b0 : decide (x17_1 < (l2.length : Int)) = false := decide_eq_false c11
            clear c11
            replace H := Option.bind_eq_some_iff.mp H
            obtain ⟨⟨t185, t186, t187, t188, t189⟩, A430, H⟩ := H
            replace H : ((greenscreenref11_Dress.f k1 a0_0 a0_1 a0_2 a0_3 a0_4 l2).bind fun bt190 => (some (t185 == bt190.1 && (t186 == bt190.2.1 && (t187 == bt190.2.2.1 && (t188 == bt190.2.2.2.1 && (t189 == bt190.2.2.2.2))))))) = some r := H
            have A43 := Aside0.mk A430
            clear A430
            replace H := Option.bind_eq_some_iff.mp H
            obtain ⟨⟨t190, t191, t192, t193, t194⟩, A440, H⟩ := H
            replace H : (some (t185 == t190 && (t186 == t191 && (t187 == t192 && (t188 == t193 && (t189 == t194)))))) = some r := H
            have A44 := Aside0.mk A440
            clear A440
            obtain rfl := Option.some.inj H
            try go_wp2
            have n0_ := Aside0.mk (blk_drew BK183.out)
            have n1_ := Aside0.mk (below_drew1 HB.out)
            clear BK183
            clear HB
            have BK183 := n0_
            have HB := n1_
            clear n0_ n1_
            refine start_ (n := 8) (S := fun w' => w'.cell? ⟨gb183, 0, none⟩ = some (.int .u8 a0_0) ∧ w'.cell? ⟨gb183, 1, none⟩ = some (.bool a0_1) ∧ w'.cell? ⟨gb183, 2, none⟩ = some (.bool a0_2) ∧ w'.cell? ⟨gb183, 3, none⟩ = some (.int .u8 a0_3) ∧ w'.cell? ⟨gb183, 4, none⟩ = some (.int .u8 a0_4)) (ds := []) #[false, false, false, false, false, false, false, false] (by kernel_rfl) rfl rfl ⟨(blk_cell BK183.out 0).trans rfl, (blk_cell BK183.out 1).trans rfl, (blk_cell BK183.out 2).trans rfl, (blk_cell BK183.out 3).trans rfl, (blk_cell BK183.out 4).trans rfl⟩ (fun hHeld => ?_); refine with_tabW greenscreenlaw11_AttrPairs.tab12 greenscreenlaw11_AttrPairs.bits12 (fun HT_ HW_ => ?_)
            generalize wr.drew = w45 at BK183 HB hHeld ⊢
            refine pure_ (i := 1) (N := some 40) (v := ?_) (a' := ?_) #[false, true, false, false, false, false, false, false] rfl rfl (any_of HT_.out (by kernel_rfl)) (fun _ _ _ h => h) (Or.inl ⟨by rfl, ?_⟩) ?_ ?_
            rotate_left
            · intro w'
              go_simp
              with_reducible rfl
            rotate_left
            · simp only [Act.put, List.setIfInBounds_toArray, List.set_cons_zero, List.set_cons_succ, i64_w, i32_w]
              rfl
            refine pure_ (i := 4) (N := some 43) (v := ?_) (a' := ?_) #[false, true, false, false, true, false, false, false] rfl rfl (any_of HT_.out (by kernel_rfl)) (fun _ _ _ h => h) (Or.inl ⟨by rfl, ?_⟩) ?_ ?_
            rotate_left
            · intro w'
              go_simp
              with_reducible rfl
            rotate_left
            · simp only [Act.put, List.setIfInBounds_toArray, List.set_cons_zero, List.set_cons_succ, i64_w, i32_w]
              rfl
            refine take_ (i := 0) (N := some 39) (v := ?_) (a' := ?_) #[true, true, false, false, true, false, false, false] rfl rfl (take_ofW HT_.out HW_.out (by kernel_rfl)) (fun _ _ _ h => h) (Or.inl ⟨by rfl, ?_⟩) hHeld ?_ ?_
            rotate_left
            · rintro w' ⟨s0, s1, s2, s3, s4⟩
              go_simp
              with_reducible rfl
            rotate_left
            · simp only [Act.put, List.setIfInBounds_toArray, List.set_cons_zero, List.set_cons_succ, i64_w, i32_w]
              rfl
            refine take_ (i := 3) (N := some 42) (v := ?_) (a' := ?_) #[true, true, false, true, true, false, false, false] rfl rfl (take_ofW HT_.out HW_.out (by kernel_rfl)) (fun _ _ _ h => h) (Or.inl ⟨by rfl, ?_⟩) hHeld ?_ ?_
            rotate_left
            · rintro w' ⟨s0, s1, s2, s3, s4⟩
              go_simp
              with_reducible rfl
            rotate_left
            · simp only [Act.put, List.setIfInBounds_toArray, List.set_cons_zero, List.set_cons_succ, i64_w, i32_w]
              rfl
            refine one_ (i := 2) (N := some 41) #[true, true, true, true, true, false, false, false] rfl rfl (one_of HT_.out (by kernel_rfl)) (by decide) (fun K hK => ?_)
            refine goes_ Try.func24 (by kernel_rfl) rfl #[.agg #[.int .u8 a0_0, .bool a0_1, .bool a0_2, .int .u8 a0_3, .int .u8 a0_4], .slice A2 l2.length c2] (by rfl) rfl rfl (by (try simp only [List.map_toArray, List.map_cons, List.map_nil]); first | done | rfl | (simp only [List.length_drop, List.length_take]; rfl)) ?_
            with_reducible refine (attr_Dress.calls k1 a0_0 a0_1 a0_2 a0_3 a0_4 _ _ l2 t185 t186 t187 t188 t189 _ ?side1 ?side2 A43.out).mono ?_
            (case side1 => repeat (first | exact (Kd.C_below HR2.out HB.out) | (with_reducible refine Kd.C_alloc ?_ _) | (with_reducible refine Kd.C_drewN ?_ _) | (with_reducible refine Kd.C_drew ?_)))
            (case side2 => exact HC2.out)
            rintro e w46 ⟨rfl, hb⟩
            refine ⟨_, rfl, ?_⟩
            have n0_ := Aside0.mk (blk_below (g := gb183) (o := .cells #[.int .u8 a0_0, .bool a0_1, .bool a0_2, .int .u8 a0_3, .int .u8 a0_4] 33 (0, 0)) (by (with_reducible repeat (first | refine blk_drewN ?_ _ | refine blk_drew ?_ | refine blk_alloc ?_ _)); exact BK183.out) hb)
            have n1_ := Aside0.mk (below_step (by repeat (first | (with_reducible first | exact HB.out | apply below_alloc | apply pw_below_drewN | apply below_drew1 | refine below_set ?_ GE183.out) | exact HB.out)) hb)
            clear BK183
            clear HB
            have BK183 := n0_
            have HB := n1_
            clear n0_ n1_
            (try clear hb)
            (try clear hb2)
            (try clear hk)
            (try clear hi)
            refine hK.out _ _ ⟨(blk_cell BK183.out 0).trans rfl, (blk_cell BK183.out 1).trans rfl, (blk_cell BK183.out 2).trans rfl, (blk_cell BK183.out 3).trans rfl, (blk_cell BK183.out 4).trans rfl⟩ (fun hHeld => ?_)
            clear hK K
            refine norm_ (a' := ?_) ?_ ?_
            rotate_left
            · show Act.put _ (some 41) _ = _
              simp only [Act.put, List.setIfInBounds_toArray, List.set_cons_zero, List.set_cons_succ, i64_w, i32_w]
              rfl
            refine one_ (i := 5) (N := some 44) #[true, true, true, true, true, true, false, false] rfl rfl (one_of HT_.out (by kernel_rfl)) (by decide) (fun K hK => ?_)
            refine goes_ Try.func25 (by kernel_rfl) rfl #[.agg #[.int .u8 a0_0, .bool a0_1, .bool a0_2, .int .u8 a0_3, .int .u8 a0_4], .slice A2 l2.length c2] (by rfl) rfl rfl (by (try simp only [List.map_toArray, List.map_cons, List.map_nil]); first | done | rfl | (simp only [List.length_drop, List.length_take]; rfl)) ?_
            with_reducible refine (greenscreenref11_Dress.calls k1 a0_0 a0_1 a0_2 a0_3 a0_4 _ _ l2 t190 t191 t192 t193 t194 _ ?side1 ?side2 A44.out).mono ?_
            (case side1 => repeat (first | exact (Kd.C_below HR2.out HB.out) | (with_reducible refine Kd.C_alloc ?_ _) | (with_reducible refine Kd.C_drewN ?_ _) | (with_reducible refine Kd.C_drew ?_)))
            (case side2 => exact HC2.out)
            rintro e w47 ⟨rfl, hb⟩
            refine ⟨_, rfl, ?_⟩
            have n0_ := Aside0.mk (blk_below (g := gb183) (o := .cells #[.int .u8 a0_0, .bool a0_1, .bool a0_2, .int .u8 a0_3, .int .u8 a0_4] 33 (0, 0)) (by (with_reducible repeat (first | refine blk_drewN ?_ _ | refine blk_drew ?_ | refine blk_alloc ?_ _)); exact BK183.out) hb)
            have n1_ := Aside0.mk (below_step (by repeat (first | (with_reducible first | exact HB.out | apply below_alloc | apply pw_below_drewN | apply below_drew1 | refine below_set ?_ GE183.out) | exact HB.out)) hb)
            clear BK183
            clear HB
            have BK183 := n0_
            have HB := n1_
            clear n0_ n1_
            (try clear hb)
            (try clear hb2)
            (try clear hk)
            (try clear hi)
            refine hK.out _ _ ⟨(blk_cell BK183.out 0).trans rfl, (blk_cell BK183.out 1).trans rfl, (blk_cell BK183.out 2).trans rfl, (blk_cell BK183.out 3).trans rfl, (blk_cell BK183.out 4).trans rfl⟩ (fun hHeld => ?_)
            clear hK K
            refine norm_ (a' := ?_) ?_ ?_
            rotate_left
            · show Act.put _ (some 44) _ = _
              simp only [Act.put, List.setIfInBounds_toArray, List.set_cons_zero, List.set_cons_succ, i64_w, i32_w]
              rfl
            refine pure_ (i := 6) (N := some 45) (v := ?_) (a' := ?_) #[true, true, true, true, true, true, true, false] rfl rfl (any_of HT_.out (by kernel_rfl)) (fun _ _ _ h => h) (Or.inl ⟨by rfl, ?_⟩) ?_ ?_
            rotate_left
            · intro w'
              go_simp
              with_reducible rfl
            rotate_left
            · simp only [Act.put, List.setIfInBounds_toArray, List.set_cons_zero, List.set_cons_succ, i64_w, i32_w]
              rfl
            refine pure_ (i := 7) (N := some 6) (v := ?_) (a' := ?_) #[true, true, true, true, true, true, true, true] rfl rfl (any_of HT_.out (by kernel_rfl)) (fun _ _ _ h => h) (Or.inl ⟨by rfl, ?_⟩) ?_ ?_
            rotate_left
            · intro w'
              go_simp
              with_reducible rfl
            rotate_left
            · simp only [Act.put, List.setIfInBounds_toArray, List.set_cons_zero, List.set_cons_succ, i64_w, i32_w]
              rfl
            refine done_ (done_of HT_.out (by kernel_rfl)) ?_
            try go_wp2
            go_ret
            exact ⟨by first | rfl | (simp [errW_none, errW_some] <;> rfl) | (simp [*, errW_none, errW_some] <;> rfl), by repeat (first | (with_reducible first | exact HB.out | apply below_alloc | apply pw_below_drewN | apply below_drew1 | refine below_set ?_ GE183.out) | exact HB.out)⟩
  · replace c5 := Bool.eq_false_iff.mpr c5
    subst c5
    have H1 : (some false) = some r := by rw [if_neg (show ¬ (false = true) by decide)] at H; exact H
    clear H
    have H := H1
    clear H1
    obtain rfl := Option.some.inj H
    exact absurd hr_ (by decide)

end Go.Proofs.Ythimdjdnpfaamaa.P
