-- Laid by program out of the translation, some functions' texts by hand (a session's own run, not print.sh's). Lean checks it.
import Derived.Test.YtnhogaelhggheaaPx0
import Derived.Test.YtnhogaelhggheaaPx4
import Derived.Test.YtnhogaelhggheaaPx5
import Derived.Test.YtnhogaelhggheaaPx9
import Derived.Test.YtnhogaelhggheaaPx10
namespace Go.Proofs.Ytnhogaelhggheaa.P
open Go.RowKit Go.Proofs.YtnhogaelhggheaaW.PrintWords Go.Proofs.YtnhogaelhggheaaW.PrintLast Go.Proofs.YtnhogaelhggheaaW.PrintMore
attribute [local go_sem] max2_int min2_int max_two min_two max_three min_three max_four min_four   -- for this text's walks alone
set_option linter.unusedVariables false
set_option linter.unusedSimpArgs false

/-! ### greenscreenlaw09_HeaderCounts: function 5 -/
mutual
def greenscreenlaw09_HeaderCounts.l0 : Nat → List Int → Int → Int → Int → List Int → Int → List Int → Option (Bool)
  | 0, _, _, _, _, _, _, _ => none
  | k + 1, x1, x22, x23, x374000, x374001, x375000, x375001 => if x23 < x22 then ((header_Counter_Next.f x374000 x374001).bind fun bt375 => ((greenscreenref09_Give.f x375000 x375001).bind fun bt378 => (greenscreenlaw09_HeaderCounts.l0 k x1 x22 (wrap64 (x23 + 1)) bt375.2.1 bt375.2.2 bt378.1 bt378.2.1))) else (greenscreenlaw09_HeaderCounts.l1 k x1 (x1.length : Int) 0 x374000 x374001 x375000 x375001)
def greenscreenlaw09_HeaderCounts.l1 : Nat → List Int → Int → Int → Int → List Int → Int → List Int → Option (Bool)
  | 0, _, _, _, _, _, _, _ => none
  | k + 1, x32, x33, x34, x374000, x374001, x375000, x375001 => if x34 < x33 then (if 0 ≤ x34 then (if x34 < (x32.length : Int) then (if (rd x32 x34) < 0 then ((header_Counter_Next.f x374000 x374001).bind fun bt384 => ((greenscreenref09_Give.f x375000 x375001).bind fun bt387 => (if (wrap64 (bt384.1)) = bt387.2.2 then ((header_Counter_Pending.f bt384.2.1 bt384.2.2).bind fun bt393 => (if bt393.1 = (bt387.2.1.length : Int) then (greenscreenlaw09_HeaderCounts.l1 k x32 x33 (wrap64 (x34 + 1)) bt393.2.1 bt393.2.2 bt387.1 bt387.2.1) else (some false))) else (some false)))) else ((header_Counter_Got.f x374000 x374001 (IntKind.u16.wrap (rd x32 x34))).bind fun bt396 => ((greenscreenref09_Got.f k x375000 x375001 (Go.bits .and .i64 (rd x32 x34) 65535)).bind fun bt399 => (if (bt396.1 != bt399.2.2) = true then (some false) else ((header_Counter_Pending.f bt396.2.1 bt396.2.2).bind fun bt405 => (if bt405.1 = (bt399.2.1.length : Int) then (greenscreenlaw09_HeaderCounts.l1 k x32 x33 (wrap64 (x34 + 1)) bt405.2.1 bt405.2.2 bt399.1 bt399.2.1) else (some false))))))) else (none)) else (none)) else (some true)
end
def greenscreenlaw09_HeaderCounts.f (k : Nat) (a0 : Int) (l1 : List Int) : Option (Bool) := (greenscreenlaw09_alive.f k).bind fun t372 => (if t372 = true then (if (l1.length : Int) > 200 then (some true) else (greenscreenlaw09_HeaderCounts.l0 k l1 (Go.bits .and .i64 a0 127) 0 0 ([] : List Int) 0 ([] : List Int))) else (some false))
theorem greenscreenlaw09_HeaderCounts.mono_l : ∀ k, (∀ y0 y1 y2 y3 y4 y5 y6, LeO (greenscreenlaw09_HeaderCounts.l0 k y0 y1 y2 y3 y4 y5 y6) (greenscreenlaw09_HeaderCounts.l0 (k + 1) y0 y1 y2 y3 y4 y5 y6)) ∧ (∀ y0 y1 y2 y3 y4 y5 y6, LeO (greenscreenlaw09_HeaderCounts.l1 k y0 y1 y2 y3 y4 y5 y6) (greenscreenlaw09_HeaderCounts.l1 (k + 1) y0 y1 y2 y3 y4 y5 y6))
  | 0 => ⟨fun _ _ _ _ _ _ _ r h => by simp [greenscreenlaw09_HeaderCounts.l0] at h, fun _ _ _ _ _ _ _ r h => by simp [greenscreenlaw09_HeaderCounts.l1] at h⟩
  | k + 1 => by
    obtain ⟨ih0, ih1⟩ := greenscreenlaw09_HeaderCounts.mono_l k
    refine ⟨?_, ?_⟩
    · intro y0 y1 y2 y3 y4 y5 y6
      unfold greenscreenlaw09_HeaderCounts.l0
      repeat' first
      | (with_reducible exact ih0 _ _ _ _ _ _ _)
      | (with_reducible exact ih1 _ _ _ _ _ _ _)
      | (with_reducible exact greenscreenlaw09_alive.mono _)
      | (with_reducible exact greenscreenref09_Got.mono _ _ _ _)
      | (with_reducible exact LeO.refl _)
      | (with_reducible exact LeO.none _)
      | (with_reducible refine LeO.ite ?_ ?_)
      | (with_reducible refine LeO.bind ?_ (fun _ => ?_))
      | exact ih0 _ _ _ _ _ _ _
      | exact ih1 _ _ _ _ _ _ _
      | exact greenscreenlaw09_alive.mono _
      | exact greenscreenref09_Got.mono _ _ _ _
      | exact LeO.none _
      | refine LeO.ite ?_ ?_
      | refine LeO.bind ?_ (fun _ => ?_)
    · intro y0 y1 y2 y3 y4 y5 y6
      unfold greenscreenlaw09_HeaderCounts.l1
      repeat' first
      | (with_reducible exact ih0 _ _ _ _ _ _ _)
      | (with_reducible exact ih1 _ _ _ _ _ _ _)
      | (with_reducible exact greenscreenlaw09_alive.mono _)
      | (with_reducible exact greenscreenref09_Got.mono _ _ _ _)
      | (with_reducible exact LeO.refl _)
      | (with_reducible exact LeO.none _)
      | (with_reducible refine LeO.ite ?_ ?_)
      | (with_reducible refine LeO.bind ?_ (fun _ => ?_))
      | exact ih0 _ _ _ _ _ _ _
      | exact ih1 _ _ _ _ _ _ _
      | exact greenscreenlaw09_alive.mono _
      | exact greenscreenref09_Got.mono _ _ _ _
      | exact LeO.none _
      | refine LeO.ite ?_ ?_
      | refine LeO.bind ?_ (fun _ => ?_)
theorem greenscreenlaw09_HeaderCounts.mono : ∀ a0 a1 k, LeO (greenscreenlaw09_HeaderCounts.f k a0 a1) (greenscreenlaw09_HeaderCounts.f (k + 1) a0 a1) := by
  intro a0 a1 k
  obtain ⟨ih0, ih1⟩ := greenscreenlaw09_HeaderCounts.mono_l k
  unfold greenscreenlaw09_HeaderCounts.f
  repeat' first
      | (with_reducible exact ih0 _ _ _ _ _ _ _)
      | (with_reducible exact ih1 _ _ _ _ _ _ _)
      | (with_reducible exact greenscreenlaw09_alive.mono _)
      | (with_reducible exact greenscreenref09_Got.mono _ _ _ _)
      | (with_reducible exact LeO.refl _)
      | (with_reducible exact LeO.none _)
      | (with_reducible refine LeO.ite ?_ ?_)
      | (with_reducible refine LeO.bind ?_ (fun _ => ?_))
      | exact ih0 _ _ _ _ _ _ _
      | exact ih1 _ _ _ _ _ _ _
      | exact greenscreenlaw09_alive.mono _
      | exact greenscreenref09_Got.mono _ _ _ _
      | exact LeO.none _
      | refine LeO.ite ?_ ?_
      | refine LeO.bind ?_ (fun _ => ?_)
set_option maxHeartbeats 8000000 in
set_option maxRecDepth 100000 in
theorem greenscreenlaw09_HeaderCounts.calls (k : Nat) (a0 : Int) (A1 : Option Addr) (c1 : Nat) (l1 : List Int) (r : Bool) (hr_ : r = true) (w : World) (hr1 : Kd.C (Kd.int .i64) w A1 l1.length l1) (hc1 : l1.length ≤ c1) (h : greenscreenlaw09_HeaderCounts.f k a0 l1 = some r) :
    Calls Try.prog 5 #[.int .i64 a0, .slice A1 l1.length c1] w fun e w' => e = .returned (.bool r) ∧ Below w.heap.size w w' := by
  have hu50 := Try.underlying50
  have hu52 := Try.underlying52
  have HR1 := Aside0.mk hr1
  have HC1 := Aside0.mk hc1
  clear hr1 hc1
  have HB := Aside0.mk (Below.refl w.heap.size w)
  have H : ((greenscreenlaw09_alive.f k).bind fun t372 => (if t372 = true then (if (l1.length : Int) > 200 then (some true) else (greenscreenlaw09_HeaderCounts.l0 k l1 (Go.bits .and .i64 a0 127) 0 0 ([] : List Int) 0 ([] : List Int))) else (some false))) = some r := h
  clear h
  replace H := Option.bind_eq_some_iff.mp H
  obtain ⟨t372, A30, H⟩ := H
  replace H : (if t372 = true then (if (l1.length : Int) > 200 then (some true) else (greenscreenlaw09_HeaderCounts.l0 k l1 (Go.bits .and .i64 a0 127) 0 0 ([] : List Int) 0 ([] : List Int))) else (some false)) = some r := H
  have A3 := Aside0.mk A30
  clear A30
  by_cases c4 : t372 = true
  · subst c4
    have H1 : (if (l1.length : Int) > 200 then (some true) else (greenscreenlaw09_HeaderCounts.l0 k l1 (Go.bits .and .i64 a0 127) 0 0 ([] : List Int) 0 ([] : List Int))) = some r := by rw [if_pos rfl] at H; exact H
    clear H
    have H := H1
    clear H1
    by_cases c5 : (l1.length : Int) > 200
    · rw [if_pos c5] at H
      have c5b0 : decide (200 < (l1.length : Int)) = true := decide_eq_true c5
      have c5b1 : decide (200 < l1.length) = true := decide_eq_true (by omega)
      clear c5
      obtain rfl := Option.some.inj H
      go_enter Try.func5, Try.ntmps5
      go_wp2_with (first | ((with_reducible refine gate_callee (f := 7) rfl ?_); refine goesL_ (some 15) rfl rfl Try.func7 (by kernel_rfl) rfl #[] rfl (by (try simp only [List.map_toArray, List.map_cons, List.map_nil]); first | done | rfl | (simp only [List.length_drop, List.length_take]; rfl)) ?_; (with_reducible refine (greenscreenlaw09_alive.calls k  true rfl _ A3.out).mono ?_); rintro e w6 ⟨rfl, hb⟩; refine ⟨_, rfl, ?_⟩; have n0_ := Aside0.mk (below_step (by repeat (first | (with_reducible first | exact HB.out | apply below_alloc | apply pw_below_drewN | apply below_drew1) | exact HB.out)) hb); clear HB; have HB := n0_; clear n0_; (try clear hb); (try clear hb2); (try clear hk); (try clear hi)))
      go_ret
      exact ⟨by first | rfl | (simp [errW_none, errW_some] <;> rfl) | (simp [*, errW_none, errW_some] <;> rfl), by repeat (first | (with_reducible first | exact HB.out | apply below_alloc | apply pw_below_drewN | apply below_drew1) | exact HB.out)⟩
    · rw [if_neg c5] at H
      have c5b0 : decide (200 < (l1.length : Int)) = false := decide_eq_false c5
      have c5b1 : decide (200 < l1.length) = false := decide_eq_false (by omega)
      clear c5
      have H' := Aside0.mk H
      clear H
      go_enter Try.func5, Try.ntmps5
      go_wp2_with (first | ((with_reducible refine gate_callee (f := 7) rfl ?_); refine goesL_ (some 15) rfl rfl Try.func7 (by kernel_rfl) rfl #[] rfl (by (try simp only [List.map_toArray, List.map_cons, List.map_nil]); first | done | rfl | (simp only [List.length_drop, List.length_take]; rfl)) ?_; (with_reducible refine (greenscreenlaw09_alive.calls k  true rfl _ A3.out).mono ?_); rintro e w7 ⟨rfl, hb⟩; refine ⟨_, rfl, ?_⟩; have n0_ := Aside0.mk (below_step (by repeat (first | (with_reducible first | exact HB.out | apply below_alloc | apply pw_below_drewN | apply below_drew1) | exact HB.out)) hb); clear HB; have HB := n0_; clear n0_; (try clear hb); (try clear hb2); (try clear hk); (try clear hi)) | ((with_reducible refine gate_dst (N := 5) rfl ?_); refine box_event ?hg (N := 5) ?hd (cs := #[.int .u16 0, .slice none 0 0]) (t := 50) ?hr ?_; (case hd => rfl); (case hg => rfl); (case hr => first | (go_simp; done) | (go_simp; rfl)); intro gb373 hg w8 hbox hb; have n0_ := Aside0.mk (below_step (by repeat (first | (with_reducible first | exact HB.out | apply below_alloc | apply pw_below_drewN | apply below_drew1) | exact HB.out)) hb); have n1_ := Aside0.mk ((IsS50.made hbox (by rw [hg]; exact (below_size (by repeat (first | (with_reducible first | exact HB.out | apply below_alloc | apply pw_below_drewN | apply below_drew1) | exact HB.out))) : w.heap.size ≤ gb373) : IsS50 w _ gb373 0 ([] : List Int))); clear HB; have HB := n0_; have HI373 := n1_; clear n0_ n1_; clear hb hbox hg) | ((with_reducible refine gate_dst (N := 6) rfl ?_); refine box_event ?hg (N := 6) ?hd (cs := #[.int .i64 0, .slice none 0 0]) (t := 52) ?hr ?_; (case hd => rfl); (case hg => rfl); (case hr => first | (go_simp; done) | (go_simp; rfl)); intro gb374 hg w9 hbox hb; have n0_ := Aside0.mk (IsS50.below (by repeat (first | (with_reducible first | exact HI373.out | apply IsS50.alloc | apply IsS50.drewN | apply IsS50.drew | apply IsS50.set_0 | apply IsS50.set_1) | exact HI373.out)) hb); have n1_ := Aside0.mk (below_step (by repeat (first | (with_reducible first | exact HB.out | apply below_alloc | apply pw_below_drewN | apply below_drew1 | refine below_set ?_ (IsS50.ge HI373.out)) | exact HB.out)) hb); have n2_ := Aside0.mk (hbox); have n3_ := Aside0.mk ((by rw [hg]; exact (below_size (by repeat (first | (with_reducible first | exact HB.out | apply below_alloc | apply pw_below_drewN | apply below_drew1 | refine below_set ?_ (IsS50.ge HI373.out)) | exact HB.out))) : w.heap.size ≤ gb374)); have n4_ := Aside0.mk ((by rw [hg]; exact (below_size (by repeat (first | (with_reducible first | exact HB.out | apply below_alloc | apply pw_below_drewN | apply below_drew1 | refine below_set ?_ (IsS50.ge HI373.out)) | exact HB.out))) : w.heap.size ≤ gb374)); have n5_ := Aside0.mk ((by rw [hg]; exact Nat.ne_of_lt (IsS50.lt (show IsS50 w _ gb373 0 ([] : List Int) from by repeat (first | (with_reducible first | exact HI373.out | apply IsS50.alloc | apply IsS50.drewN | apply IsS50.drew | apply IsS50.set_0 | apply IsS50.set_1) | exact HI373.out))) : gb373 ≠ gb374)); have n6_ := Aside0.mk ((by rw [hg]; exact Nat.ne_of_gt (IsS50.lt (show IsS50 w _ gb373 0 ([] : List Int) from by repeat (first | (with_reducible first | exact HI373.out | apply IsS50.alloc | apply IsS50.drewN | apply IsS50.drew | apply IsS50.set_0 | apply IsS50.set_1) | exact HI373.out))) : gb374 ≠ gb373)); clear HI373; clear HB; have HI373 := n0_; have HB := n1_; have BK374 := n2_; have GW374 := n3_; have GE374 := n4_; have NB373_374 := n5_; have NB374_373 := n6_; clear n0_ n1_ n2_ n3_ n4_ n5_ n6_; clear hb hbox hg; have hnb10 := NB374_373.out; have hnc10 := NB373_374.out; have hcz11_0 : w9.cell? ⟨gb374, 0, none⟩ = some (.int .i64 0) := (blk_cell BK374.out 0).trans rfl; have hcz11_1 : w9.cell? ⟨gb374, 1, none⟩ = some (.slice none 0 0) := (blk_cell BK374.out 1).trans rfl; have hfz11_0 := blk_frozen BK374.out 0; have hfz11_1 := blk_frozen BK374.out 1))
      go_loopg [23] k (fun kq v23 w' => ∃ (x23_1 : Int) (x374000_1 : Int) (x374001_1 : List Int) (x375000_1 : Int) (x375001_1 : List Int) (u375001 : Value), v23 = .int .i64 x23_1 ∧ Aside0 (greenscreenlaw09_HeaderCounts.l0 kq l1 (Go.bits .and .i64 a0 127) x23_1 x374000_1 x374001_1 x375000_1 x375001_1 = some r) ∧ Aside0 (kq ≤ k) ∧ Aside0 (Kd.Q (Kd.int .i64) 3 w' w.heap.size (fun _ => True) u375001 x375001_1) ∧ Aside0 (w'.heap[gb374]? = some (.cells #[.int .i64 x375000_1, u375001] 52 (0, 0))) ∧ Aside0 (IsS50 w w' gb373 x374000_1 x374001_1) ∧ Aside0 (Below w.heap.size w w'))
      case atStart => exact ⟨(0), (0), (([] : List Int)), (0), (([] : List Int)), (.slice none 0 0), (by first | rfl | (simp; done) | (simp [*]; done)), H', ⟨Nat.le_refl _⟩, ⟨Kd.Q_of_R (by first | exact Kd.R_nil _ _ _ _ _ | exact Kd.N_nil _ _ _ _ _ | exact Kd.V_nil _ _ _ _ _ | exact Kd.Q_nil _ _ _ _ _ | exact Kd.S_nil _ _ _ _ _)⟩, ⟨by (with_reducible repeat (first | refine blk_drewN ?_ _ | refine blk_drew ?_ | refine blk_alloc ?_ _)); refine blk_put (cs := #[.int .i64 0, .slice none 0 0]) ?_ 1 _ rfl; (with_reducible repeat (first | refine blk_drewN ?_ _ | refine blk_drew ?_ | refine blk_alloc ?_ _)); refine blk_put (cs := #[.int .i64 0, .slice none 0 0]) ?_ 0 _ rfl; (with_reducible repeat (first | refine blk_drewN ?_ _ | refine blk_drew ?_ | refine blk_alloc ?_ _)); exact BK374.out⟩, ⟨by repeat (first | (with_reducible first | exact HI373.out | apply IsS50.alloc | apply IsS50.drewN | apply IsS50.drew | apply IsS50.set_0 | apply IsS50.set_1 | refine IsS50.far ?_ NB373_374.out (by (with_reducible repeat (first | apply typed_set | apply typed_alloc | apply typed_drewN | apply typed_drew)); exact typed_of BK374.out (by decide)) _) | exact HI373.out)⟩, ⟨by repeat (first | (with_reducible first | exact HB.out | apply below_alloc | apply pw_below_drewN | apply below_drew1 | refine below_set ?_ (IsS50.ge HI373.out) | refine below_set ?_ GE374.out) | exact HB.out)⟩⟩
      case round =>
        clear H'
        try clear c1
        try clear p2
        try clear c4
        try clear c5
        try clear c5b0
        try clear c5b1
        try clear c7
        try clear c10
        try clear hcz11_0
        try clear hcz11_1
        try clear hfz11_0
        try clear hfz11_1
        obtain ⟨x23_1, x374000_1, x374001_1, x375000_1, x375001_1, u375001, rfl, HA, HK1, HO_375001, BK374, HI373, HB⟩ := hrel
        cases gk with
        | zero => exact absurd HA.out (by simp [greenscreenlaw09_HeaderCounts.l0])
        | succ k1 =>
          have H := HA.out
          clear HA
          simp only [greenscreenlaw09_HeaderCounts.l0] at H
          by_cases c12 : x23_1 < (Go.bits .and .i64 a0 127)
          · rw [if_pos c12] at H
            have c12b0 : decide (x23_1 < (Go.bits .and .i64 a0 127)) = true := decide_eq_true c12
            clear c12
            replace H := Option.bind_eq_some_iff.mp H
            obtain ⟨⟨t375, t376, t377⟩, A130, H⟩ := H
            replace H : ((greenscreenref09_Give.f x375000_1 x375001_1).bind fun bt378 => (greenscreenlaw09_HeaderCounts.l0 k1 l1 (Go.bits .and .i64 a0 127) (wrap64 (x23_1 + 1)) t376 t377 bt378.1 bt378.2.1)) = some r := H
            have A13 := Aside0.mk A130
            clear A130
            replace H := Option.bind_eq_some_iff.mp H
            obtain ⟨⟨t378, t379, t382⟩, A140, H⟩ := H
            replace H : (greenscreenlaw09_HeaderCounts.l0 k1 l1 (Go.bits .and .i64 a0 127) (wrap64 (x23_1 + 1)) t376 t377 t378 t379) = some r := H
            have A14 := Aside0.mk A140
            clear A140
            have H' := Aside0.mk H
            clear H
            go_wp2_with (first | ((with_reducible refine gate_callee (f := 19) rfl ?_); refine goesL_ (some 25) rfl rfl Try.func19 (by kernel_rfl) rfl #[.pointer (some ⟨gb373, 0, none⟩)] rfl (by (try simp only [List.map_toArray, List.map_cons, List.map_nil]); first | done | rfl | (simp only [List.length_drop, List.length_take]; rfl)) ?_; (with_reducible refine (header_Counter_Next.calls gb373 x374000_1 x374001_1 t375 t376 t377 w _ ?side1 ?side2 A13.out).mono ?_); (case side1 => repeat (first | (with_reducible first | exact HI373.out | apply IsS50.alloc | apply IsS50.drewN | apply IsS50.drew | apply IsS50.set_0 | apply IsS50.set_1 | refine IsS50.far ?_ NB373_374.out (by (with_reducible repeat (first | apply typed_set | apply typed_alloc | apply typed_drewN | apply typed_drew)); exact typed_of BK374.out (by decide)) _) | exact HI373.out)); (case side2 => repeat (first | (with_reducible first | exact HB.out | apply below_alloc | apply pw_below_drewN | apply below_drew1 | refine below_set ?_ (IsS50.ge HI373.out) | refine below_set ?_ GE374.out) | exact HB.out)); rintro e w15 ⟨rfl, hi, hb, hk⟩; refine ⟨_, rfl, ?_⟩; have n0_ := Aside0.mk (Kd.Q_mono (Kd.Q_keepT (IsS50.apartQ (show IsS50 w _ gb373 x374000_1 x374001_1 from by repeat (first | (with_reducible first | exact HI373.out | apply IsS50.alloc | apply IsS50.drewN | apply IsS50.drew | apply IsS50.set_0 | apply IsS50.set_1 | refine IsS50.far ?_ NB373_374.out (by (with_reducible repeat (first | apply typed_set | apply typed_alloc | apply typed_drewN | apply typed_drew)); exact typed_of BK374.out (by decide)) _) | exact HI373.out)) (by (with_reducible repeat (first | apply Kd.Q_alloc | apply Kd.Q_drewN | apply Kd.Q_drew)); exact HO_375001.out) (by decide)) hk (fun _ h => h.2) (by decide)) (fun _ h => h.1)); have n1_ := Aside0.mk (KeepT.blk hk (g' := gb374) (o := .cells #[.int .i64 x375000_1, u375001] 52 (0, 0)) (by (with_reducible repeat (first | refine blk_drewN ?_ _ | refine blk_drew ?_ | refine blk_alloc ?_ _)); exact BK374.out) NB374_373.out (by simp)); have n2_ := Aside0.mk (hb); have n3_ := Aside0.mk (hi); clear HO_375001; clear BK374; clear HB; clear HI373; have HO_375001 := n0_; have BK374 := n1_; have HB := n2_; have HI373 := n3_; clear n0_ n1_ n2_ n3_; (try clear hb); (try clear hb2); (try clear hk); (try clear hi); have hnb16 := NB374_373.out; have hnc16 := NB373_374.out; have hcz17_0 : w15.cell? ⟨gb374, 0, none⟩ = some (.int .i64 x375000_1) := (blk_cell BK374.out 0).trans rfl; have hcz17_1 : w15.cell? ⟨gb374, 1, none⟩ = some (u375001) := (blk_cell BK374.out 1).trans rfl; have hfz17_0 := blk_frozen BK374.out 0; have hfz17_1 := blk_frozen BK374.out 1; obtain ⟨Ao18, co18, eo18, _⟩ := Kd.Q_slice HO_375001.out; subst eo18) | ((with_reducible refine gate_callee (f := 20) rfl ?_); refine goesL_ (some 28) rfl rfl Try.func20 (by kernel_rfl) rfl #[.agg #[.int .i64 x375000_1, .slice Ao18 x375001_1.length co18]] rfl (by (try simp only [List.map_toArray, List.map_cons, List.map_nil]); first | done | rfl | (simp only [List.length_drop, List.length_take]; rfl)) ?_; (with_reducible refine (greenscreenref09_Give.calls x375000_1 _ _ x375001_1 t378 t379 t382 _ ?side1 ?side2 A14.out).mono ?_); (case side1 => repeat (first | exact (Kd.Q_reads' HO_375001.out).2.2 | (with_reducible refine Kd.C_alloc ?_ _) | (with_reducible refine Kd.C_drewN ?_ _) | (with_reducible refine Kd.C_drew ?_))); (case side2 => exact (Kd.Q_reads' HO_375001.out).2.1); rintro e w19 ⟨v380, rfl, ho0, hb⟩; refine ⟨_, rfl, ?_⟩; have n0_ := Aside0.mk (Kd.Q_elder' (by (with_reducible repeat (first | apply Kd.Q_alloc | apply Kd.Q_drewN | apply Kd.Q_drew)); exact HO_375001.out) (Kd.Q_base ho0) hb); have n1_ := Aside0.mk (Kd.Q_lower (Kd.Q_new' ho0 (Kd.Q_lt (by (with_reducible repeat (first | apply Kd.Q_alloc | apply Kd.Q_drewN | apply Kd.Q_drew)); exact HO_375001.out))) (below_size (by repeat (first | (with_reducible first | exact HB.out | apply below_alloc | apply pw_below_drewN | apply below_drew1 | refine below_set ?_ (IsS50.ge HI373.out) | refine below_set ?_ GE374.out) | exact HB.out)))); have n2_ := Aside0.mk (blk_below (g := gb374) (o := .cells #[.int .i64 x375000_1, .slice Ao18 x375001_1.length co18] 52 (0, 0)) (by (with_reducible repeat (first | refine blk_drewN ?_ _ | refine blk_drew ?_ | refine blk_alloc ?_ _)); exact BK374.out) hb); have n3_ := Aside0.mk (IsS50.below (by repeat (first | (with_reducible first | exact HI373.out | apply IsS50.alloc | apply IsS50.drewN | apply IsS50.drew | apply IsS50.set_0 | apply IsS50.set_1 | refine IsS50.far ?_ NB373_374.out (by (with_reducible repeat (first | apply typed_set | apply typed_alloc | apply typed_drewN | apply typed_drew)); exact typed_of BK374.out (by decide)) _) | exact HI373.out)) hb); have n4_ := Aside0.mk (below_step (by repeat (first | (with_reducible first | exact HB.out | apply below_alloc | apply pw_below_drewN | apply below_drew1 | refine below_set ?_ (IsS50.ge HI373.out) | refine below_set ?_ GE374.out) | exact HB.out)) hb); clear HO_375001; clear BK374; clear HI373; clear HB; have HO_375001 := n0_; have HO381 := n1_; have BK374 := n2_; have HI373 := n3_; have HB := n4_; clear n0_ n1_ n2_ n3_ n4_; (try clear hb); (try clear hb2); (try clear hk); (try clear hi); (try clear ho0); have hcz20_0 : w19.cell? ⟨gb374, 0, none⟩ = some (.int .i64 x375000_1) := (blk_cell BK374.out 0).trans rfl; have hcz20_1 : w19.cell? ⟨gb374, 1, none⟩ = some (.slice Ao18 x375001_1.length co18) := (blk_cell BK374.out 1).trans rfl; have hfz20_0 := blk_frozen BK374.out 0; have hfz20_1 := blk_frozen BK374.out 1; obtain ⟨Ao21, co21, eo21, _⟩ := Kd.Q_slice HO381.out; subst eo21))
            go_roundg k1
            case measure => have := HK1.out; omega
            case rel => exact ⟨(wrap64 (x23_1 + 1)), (t376), (t377), (t378), (t379), (.slice Ao21 t379.length co21), (by first | rfl | (simp; done) | (simp [*]; done)), H', ⟨by have := HK1.out; omega⟩, ⟨by (with_reducible repeat (first | apply Kd.Q_alloc | apply Kd.Q_drewN | apply Kd.Q_drew)); exact Kd.Q_mono (Kd.Q_far (p := ⟨gb374, 1, none⟩) (Kd.Q_far (p := ⟨gb374, 0, none⟩) (Kd.Q_types HO381.out BK374.out (by decide)) (fun _ hk => hk.2) (.int .i64 t378)) (fun _ hk => hk.2) (.slice Ao21 t379.length co21)) (fun _ hk => trivial)⟩, ⟨by (with_reducible repeat (first | refine blk_drewN ?_ _ | refine blk_drew ?_ | refine blk_alloc ?_ _)); refine blk_put (cs := #[.int .i64 t378, .slice Ao18 x375001_1.length co18]) ?_ 1 _ rfl; (with_reducible repeat (first | refine blk_drewN ?_ _ | refine blk_drew ?_ | refine blk_alloc ?_ _)); refine blk_put (cs := #[.int .i64 x375000_1, .slice Ao18 x375001_1.length co18]) ?_ 0 _ rfl; (with_reducible repeat (first | refine blk_drewN ?_ _ | refine blk_drew ?_ | refine blk_alloc ?_ _)); exact BK374.out⟩, ⟨by repeat (first | (with_reducible first | exact HI373.out | apply IsS50.alloc | apply IsS50.drewN | apply IsS50.drew | apply IsS50.set_0 | apply IsS50.set_1 | refine IsS50.far ?_ NB373_374.out (by (with_reducible repeat (first | apply typed_set | apply typed_alloc | apply typed_drewN | apply typed_drew)); exact typed_of BK374.out (by decide)) _) | exact HI373.out)⟩, ⟨by repeat (first | (with_reducible first | exact HB.out | apply below_alloc | apply pw_below_drewN | apply below_drew1 | refine below_set ?_ (IsS50.ge HI373.out) | refine below_set ?_ GE374.out) | exact HB.out)⟩⟩
          · rw [if_neg c12] at H
            have c12b0 : decide (x23_1 < (Go.bits .and .i64 a0 127)) = false := decide_eq_false c12
            clear c12
            have H' := Aside0.mk H
            clear H
            go_wp2
            go_loopg [34] k1 (fun kq v34 w' => ∃ (x34_2 : Int) (x374000_2 : Int) (x374001_2 : List Int) (x375000_2 : Int) (x375001_2 : List Int) (u375001 : Value), v34 = .int .i64 x34_2 ∧ Aside0 (greenscreenlaw09_HeaderCounts.l1 kq l1 (l1.length : Int) x34_2 x374000_2 x374001_2 x375000_2 x375001_2 = some r) ∧ Aside0 (kq ≤ k1) ∧ Aside0 (Kd.Q (Kd.int .i64) 3 w' w.heap.size (fun _ => True) u375001 x375001_2) ∧ Aside0 (w'.heap[gb374]? = some (.cells #[.int .i64 x375000_2, u375001] 52 (0, 0))) ∧ Aside0 (IsS50 w w' gb373 x374000_2 x374001_2) ∧ Aside0 (Below w.heap.size w w'))
            case atStart => exact ⟨(0), (x374000_1), (x374001_1), (x375000_1), (x375001_1), (u375001), (by first | rfl | (simp; done) | (simp [*]; done)), H', ⟨Nat.le_refl _⟩, ⟨by (with_reducible repeat (first | apply Kd.Q_alloc | apply Kd.Q_drewN | apply Kd.Q_drew)); exact HO_375001.out⟩, ⟨by (with_reducible repeat (first | refine blk_drewN ?_ _ | refine blk_drew ?_ | refine blk_alloc ?_ _)); exact BK374.out⟩, ⟨by repeat (first | (with_reducible first | exact HI373.out | apply IsS50.alloc | apply IsS50.drewN | apply IsS50.drew | apply IsS50.set_0 | apply IsS50.set_1 | refine IsS50.far ?_ NB373_374.out (by (with_reducible repeat (first | apply typed_set | apply typed_alloc | apply typed_drewN | apply typed_drew)); exact typed_of BK374.out (by decide)) _) | exact HI373.out)⟩, ⟨by repeat (first | (with_reducible first | exact HB.out | apply below_alloc | apply pw_below_drewN | apply below_drew1 | refine below_set ?_ (IsS50.ge HI373.out) | refine below_set ?_ GE374.out) | exact HB.out)⟩⟩
            case round =>
              clear H'
              try clear c1
              try clear c2
              try clear p2
              try clear c4
              try clear c5
              try clear c5b0
              try clear c5b1
              try clear p6
              try clear c7
              try clear c10
              try clear c12
              try clear c12b0
              try clear c16
              try clear c19
              try clear c20
              try clear hcz11_0
              try clear hcz11_1
              try clear hcz17_0
              try clear hcz17_1
              try clear hcz20_0
              try clear hcz20_1
              try clear hfz11_0
              try clear hfz11_1
              try clear hfz17_0
              try clear hfz17_1
              try clear hfz20_0
              try clear hfz20_1
              try clear p2
              obtain ⟨x34_2, x374000_2, x374001_2, x375000_2, x375001_2, u375001, rfl, HA, HK2, HO_375001, BK374, HI373, HB⟩ := hrel
              cases gk with
              | zero => exact absurd HA.out (by simp [greenscreenlaw09_HeaderCounts.l1])
              | succ k2 =>
                have H := HA.out
                clear HA
                simp only [greenscreenlaw09_HeaderCounts.l1] at H
                by_cases c22 : x34_2 < (l1.length : Int)
                · rw [if_pos c22] at H
                  have c22b0 : decide (x34_2 < (l1.length : Int)) = true := decide_eq_true c22
                  clear c22
                  by_cases c23 : 0 ≤ x34_2
                  · rw [if_pos c23] at H
                    have c23b0 : decide (0 ≤ x34_2) = true := decide_eq_true c23
                    clear c23
                    by_cases c24 : x34_2 < (l1.length : Int)
                    · rw [if_pos c24] at H
                      have c24b0 : decide (x34_2 < (l1.length : Int)) = true := decide_eq_true c24
                      clear c24
                      by_cases c25 : (rd l1 x34_2) < 0
                      · rw [if_pos c25] at H
                        have c25b0 : decide ((rd l1 x34_2) < 0) = true := decide_eq_true c25
                        clear c25
                        replace H := Option.bind_eq_some_iff.mp H
                        obtain ⟨⟨t384, t385, t386⟩, A260, H⟩ := H
                        replace H : ((greenscreenref09_Give.f x375000_2 x375001_2).bind fun bt387 => (if (wrap64 (t384)) = bt387.2.2 then ((header_Counter_Pending.f t385 t386).bind fun bt393 => (if bt393.1 = (bt387.2.1.length : Int) then (greenscreenlaw09_HeaderCounts.l1 k2 l1 (l1.length : Int) (wrap64 (x34_2 + 1)) bt393.2.1 bt393.2.2 bt387.1 bt387.2.1) else (some false))) else (some false))) = some r := H
                        have A26 := Aside0.mk A260
                        clear A260
                        replace H := Option.bind_eq_some_iff.mp H
                        obtain ⟨⟨t387, t388, t391⟩, A270, H⟩ := H
                        replace H : (if (wrap64 (t384)) = t391 then ((header_Counter_Pending.f t385 t386).bind fun bt393 => (if bt393.1 = (t388.length : Int) then (greenscreenlaw09_HeaderCounts.l1 k2 l1 (l1.length : Int) (wrap64 (x34_2 + 1)) bt393.2.1 bt393.2.2 t387 t388) else (some false))) else (some false)) = some r := H
                        have A27 := Aside0.mk A270
                        clear A270
                        by_cases c28 : (wrap64 (t384)) = t391
                        · rw [if_pos c28] at H
                          have c28b0 : ((wrap64 (t384)) == t391) = true := beq_iff_eq.mpr c28
                          have c28b1 : ((wrap64 (t384)) != t391) = false := bne_eq_false_iff_eq.mpr c28
                          clear c28
                          replace H := Option.bind_eq_some_iff.mp H
                          obtain ⟨⟨t393, t394, t395⟩, A290, H⟩ := H
                          replace H : (if t393 = (t388.length : Int) then (greenscreenlaw09_HeaderCounts.l1 k2 l1 (l1.length : Int) (wrap64 (x34_2 + 1)) t394 t395 t387 t388) else (some false)) = some r := H
                          have A29 := Aside0.mk A290
                          clear A290
                          by_cases c30 : t393 = (t388.length : Int)
                          · rw [if_pos c30] at H
                            have c30b0 : (t393 == (t388.length : Int)) = true := beq_iff_eq.mpr c30
                            have c30b1 : (t393 != (t388.length : Int)) = false := bne_eq_false_iff_eq.mpr c30
                            clear c30
                            have H' := Aside0.mk H
                            clear H
                            have p383 : 0 ≤ (x34_2 : Int) := of_decide_eq_true (by first | (with_reducible assumption) | assumption)
                            have q383 : x34_2 < (l1.length : Int) := of_decide_eq_true (by first | (with_reducible assumption) | assumption)
                            obtain ⟨ad383, e383, hx383_0⟩ := Kd.at_int HR1.out x34_2 p383 q383
                            cases e383
                            replace hx383_0 := (HB.out.cell (World.block_lt_of_cell? w _ hx383_0)).trans hx383_0
                            replace p383 := eq_true p383
                            replace q383 := eq_true q383
                            try go_wp2_with (first | ((with_reducible refine gate_callee (f := 19) rfl ?_); refine goesL_ (some 40) rfl rfl Try.func19 (by kernel_rfl) rfl #[.pointer (some ⟨gb373, 0, none⟩)] rfl (by (try simp only [List.map_toArray, List.map_cons, List.map_nil]); first | done | rfl | (simp only [List.length_drop, List.length_take]; rfl)) ?_; (with_reducible refine (header_Counter_Next.calls gb373 x374000_2 x374001_2 t384 t385 t386 w _ ?side1 ?side2 A26.out).mono ?_); (case side1 => repeat (first | (with_reducible first | exact HI373.out | apply IsS50.alloc | apply IsS50.drewN | apply IsS50.drew | apply IsS50.set_0 | apply IsS50.set_1 | refine IsS50.far ?_ NB373_374.out (by (with_reducible repeat (first | apply typed_set | apply typed_alloc | apply typed_drewN | apply typed_drew)); exact typed_of BK374.out (by decide)) _) | exact HI373.out)); (case side2 => repeat (first | (with_reducible first | exact HB.out | apply below_alloc | apply pw_below_drewN | apply below_drew1 | refine below_set ?_ (IsS50.ge HI373.out) | refine below_set ?_ GE374.out) | exact HB.out)); rintro e w31 ⟨rfl, hi, hb, hk⟩; refine ⟨_, rfl, ?_⟩; have n0_ := Aside0.mk (Kd.Q_mono (Kd.Q_keepT (IsS50.apartQ (show IsS50 w _ gb373 x374000_2 x374001_2 from by repeat (first | (with_reducible first | exact HI373.out | apply IsS50.alloc | apply IsS50.drewN | apply IsS50.drew | apply IsS50.set_0 | apply IsS50.set_1 | refine IsS50.far ?_ NB373_374.out (by (with_reducible repeat (first | apply typed_set | apply typed_alloc | apply typed_drewN | apply typed_drew)); exact typed_of BK374.out (by decide)) _) | exact HI373.out)) (by (with_reducible repeat (first | apply Kd.Q_alloc | apply Kd.Q_drewN | apply Kd.Q_drew)); exact HO_375001.out) (by decide)) hk (fun _ h => h.2) (by decide)) (fun _ h => h.1)); have n1_ := Aside0.mk (KeepT.blk hk (g' := gb374) (o := .cells #[.int .i64 x375000_2, u375001] 52 (0, 0)) (by (with_reducible repeat (first | refine blk_drewN ?_ _ | refine blk_drew ?_ | refine blk_alloc ?_ _)); exact BK374.out) NB374_373.out (by simp)); have n2_ := Aside0.mk (hb); have n3_ := Aside0.mk (hi); clear HO_375001; clear BK374; clear HB; clear HI373; have HO_375001 := n0_; have BK374 := n1_; have HB := n2_; have HI373 := n3_; clear n0_ n1_ n2_ n3_; (try clear hb); (try clear hb2); (try clear hk); (try clear hi); have hnb32 := NB374_373.out; have hnc32 := NB373_374.out; have hcz33_0 : w31.cell? ⟨gb374, 0, none⟩ = some (.int .i64 x375000_2) := (blk_cell BK374.out 0).trans rfl; have hcz33_1 : w31.cell? ⟨gb374, 1, none⟩ = some (u375001) := (blk_cell BK374.out 1).trans rfl; have hfz33_0 := blk_frozen BK374.out 0; have hfz33_1 := blk_frozen BK374.out 1; obtain ⟨Ao34, co34, eo34, _⟩ := Kd.Q_slice HO_375001.out; subst eo34) | ((with_reducible refine gate_callee (f := 20) rfl ?_); refine goesL_ (some 43) rfl rfl Try.func20 (by kernel_rfl) rfl #[.agg #[.int .i64 x375000_2, .slice Ao34 x375001_2.length co34]] rfl (by (try simp only [List.map_toArray, List.map_cons, List.map_nil]); first | done | rfl | (simp only [List.length_drop, List.length_take]; rfl)) ?_; (with_reducible refine (greenscreenref09_Give.calls x375000_2 _ _ x375001_2 t387 t388 t391 _ ?side1 ?side2 A27.out).mono ?_); (case side1 => repeat (first | exact (Kd.Q_reads' HO_375001.out).2.2 | (with_reducible refine Kd.C_alloc ?_ _) | (with_reducible refine Kd.C_drewN ?_ _) | (with_reducible refine Kd.C_drew ?_))); (case side2 => exact (Kd.Q_reads' HO_375001.out).2.1); rintro e w35 ⟨v389, rfl, ho0, hb⟩; refine ⟨_, rfl, ?_⟩; have n0_ := Aside0.mk (Kd.Q_elder' (by (with_reducible repeat (first | apply Kd.Q_alloc | apply Kd.Q_drewN | apply Kd.Q_drew)); exact HO_375001.out) (Kd.Q_base ho0) hb); have n1_ := Aside0.mk (Kd.Q_lower (Kd.Q_new' ho0 (Kd.Q_lt (by (with_reducible repeat (first | apply Kd.Q_alloc | apply Kd.Q_drewN | apply Kd.Q_drew)); exact HO_375001.out))) (below_size (by repeat (first | (with_reducible first | exact HB.out | apply below_alloc | apply pw_below_drewN | apply below_drew1 | refine below_set ?_ (IsS50.ge HI373.out) | refine below_set ?_ GE374.out) | exact HB.out)))); have n2_ := Aside0.mk (blk_below (g := gb374) (o := .cells #[.int .i64 x375000_2, .slice Ao34 x375001_2.length co34] 52 (0, 0)) (by (with_reducible repeat (first | refine blk_drewN ?_ _ | refine blk_drew ?_ | refine blk_alloc ?_ _)); exact BK374.out) hb); have n3_ := Aside0.mk (IsS50.below (by repeat (first | (with_reducible first | exact HI373.out | apply IsS50.alloc | apply IsS50.drewN | apply IsS50.drew | apply IsS50.set_0 | apply IsS50.set_1 | refine IsS50.far ?_ NB373_374.out (by (with_reducible repeat (first | apply typed_set | apply typed_alloc | apply typed_drewN | apply typed_drew)); exact typed_of BK374.out (by decide)) _) | exact HI373.out)) hb); have n4_ := Aside0.mk (below_step (by repeat (first | (with_reducible first | exact HB.out | apply below_alloc | apply pw_below_drewN | apply below_drew1 | refine below_set ?_ (IsS50.ge HI373.out) | refine below_set ?_ GE374.out) | exact HB.out)) hb); clear HO_375001; clear BK374; clear HI373; clear HB; have HO_375001 := n0_; have HO390 := n1_; have BK374 := n2_; have HI373 := n3_; have HB := n4_; clear n0_ n1_ n2_ n3_ n4_; (try clear hb); (try clear hb2); (try clear hk); (try clear hi); (try clear ho0)) | ((with_reducible refine gate_dst (N := 10) rfl ?_); refine box_event ?hg (N := 10) ?hd (cs := #[.int .i64 0, .slice none 0 0]) (t := 52) ?hr ?_; (case hd => rfl); (case hg => rfl); (case hr => first | (go_simp; done) | (go_simp; rfl)); intro gb392 hg w36 hbox hb; have n0_ := Aside0.mk (Kd.Q_below (by (with_reducible repeat (first | apply Kd.Q_alloc | apply Kd.Q_drewN | apply Kd.Q_drew)); exact HO_375001.out) hb); have n1_ := Aside0.mk (Kd.Q_below (by (with_reducible repeat (first | apply Kd.Q_alloc | apply Kd.Q_drewN | apply Kd.Q_drew)); exact HO390.out) hb); have n2_ := Aside0.mk (blk_below (g := gb374) (o := .cells #[.int .i64 x375000_2, .slice Ao34 x375001_2.length co34] 52 (0, 0)) (by (with_reducible repeat (first | refine blk_drewN ?_ _ | refine blk_drew ?_ | refine blk_alloc ?_ _)); exact BK374.out) hb); have n3_ := Aside0.mk (IsS50.below (by repeat (first | (with_reducible first | exact HI373.out | apply IsS50.alloc | apply IsS50.drewN | apply IsS50.drew | apply IsS50.set_0 | apply IsS50.set_1 | refine IsS50.far ?_ NB373_374.out (by (with_reducible repeat (first | apply typed_set | apply typed_alloc | apply typed_drewN | apply typed_drew)); exact typed_of BK374.out (by decide)) _) | exact HI373.out)) hb); have n4_ := Aside0.mk (below_step (by repeat (first | (with_reducible first | exact HB.out | apply below_alloc | apply pw_below_drewN | apply below_drew1 | refine below_set ?_ (IsS50.ge HI373.out) | refine below_set ?_ GE374.out) | exact HB.out)) hb); have n5_ := Aside0.mk (hbox); have n6_ := Aside0.mk ((by rw [hg]; exact (below_size (by repeat (first | (with_reducible first | exact HB.out | apply below_alloc | apply pw_below_drewN | apply below_drew1 | refine below_set ?_ (IsS50.ge HI373.out) | refine below_set ?_ GE374.out) | exact HB.out))) : w.heap.size ≤ gb392)); have n7_ := Aside0.mk ((by rw [hg]; exact (below_size (by repeat (first | (with_reducible first | exact HB.out | apply below_alloc | apply pw_below_drewN | apply below_drew1 | refine below_set ?_ (IsS50.ge HI373.out) | refine below_set ?_ GE374.out) | exact HB.out))) : w.heap.size ≤ gb392)); have n8_ := Aside0.mk ((by rw [hg]; exact Nat.ne_of_lt (blk_lt (g := gb374) (o := .cells #[.int .i64 x375000_2, .slice Ao34 x375001_2.length co34] 52 (0, 0)) (by (with_reducible repeat (first | refine blk_drewN ?_ _ | refine blk_drew ?_ | refine blk_alloc ?_ _)); exact BK374.out)) : gb374 ≠ gb392)); have n9_ := Aside0.mk ((by rw [hg]; exact Nat.ne_of_gt (blk_lt (g := gb374) (o := .cells #[.int .i64 x375000_2, .slice Ao34 x375001_2.length co34] 52 (0, 0)) (by (with_reducible repeat (first | refine blk_drewN ?_ _ | refine blk_drew ?_ | refine blk_alloc ?_ _)); exact BK374.out)) : gb392 ≠ gb374)); have n10_ := Aside0.mk ((by rw [hg]; exact Nat.ne_of_lt (IsS50.lt (show IsS50 w _ gb373 t385 t386 from by repeat (first | (with_reducible first | exact HI373.out | apply IsS50.alloc | apply IsS50.drewN | apply IsS50.drew | apply IsS50.set_0 | apply IsS50.set_1 | refine IsS50.far ?_ NB373_374.out (by (with_reducible repeat (first | apply typed_set | apply typed_alloc | apply typed_drewN | apply typed_drew)); exact typed_of BK374.out (by decide)) _) | exact HI373.out))) : gb373 ≠ gb392)); have n11_ := Aside0.mk ((by rw [hg]; exact Nat.ne_of_gt (IsS50.lt (show IsS50 w _ gb373 t385 t386 from by repeat (first | (with_reducible first | exact HI373.out | apply IsS50.alloc | apply IsS50.drewN | apply IsS50.drew | apply IsS50.set_0 | apply IsS50.set_1 | refine IsS50.far ?_ NB373_374.out (by (with_reducible repeat (first | apply typed_set | apply typed_alloc | apply typed_drewN | apply typed_drew)); exact typed_of BK374.out (by decide)) _) | exact HI373.out))) : gb392 ≠ gb373)); clear HO_375001; clear HO390; clear BK374; clear HI373; clear HB; have HO_375001 := n0_; have HO390 := n1_; have BK374 := n2_; have HI373 := n3_; have HB := n4_; have BK392 := n5_; have GW392 := n6_; have GE392 := n7_; have NB374_392 := n8_; have NB392_374 := n9_; have NB373_392 := n10_; have NB392_373 := n11_; clear n0_ n1_ n2_ n3_ n4_ n5_ n6_ n7_ n8_ n9_ n10_ n11_; clear hb hbox hg; have hnb37 := NB392_374.out; have hnc37 := NB374_392.out; have hnb38 := NB392_373.out; have hnc38 := NB373_392.out; have hcz39_0 : w36.cell? ⟨gb392, 0, none⟩ = some (.int .i64 0) := (blk_cell BK392.out 0).trans rfl; have hcz39_1 : w36.cell? ⟨gb392, 1, none⟩ = some (.slice none 0 0) := (blk_cell BK392.out 1).trans rfl; have hfz39_0 := blk_frozen BK392.out 0; have hfz39_1 := blk_frozen BK392.out 1; obtain ⟨Ao40, co40, eo40, _⟩ := Kd.Q_slice HO390.out; subst eo40; have hcz41_0 : w36.cell? ⟨gb374, 0, none⟩ = some (.int .i64 x375000_2) := (blk_cell BK374.out 0).trans rfl; have hcz41_1 : w36.cell? ⟨gb374, 1, none⟩ = some (.slice Ao34 x375001_2.length co34) := (blk_cell BK374.out 1).trans rfl; have hfz41_0 := blk_frozen BK374.out 0; have hfz41_1 := blk_frozen BK374.out 1))
                            have n0_ : Aside0 (Kd.Q (Kd.int .i64) 3 ((((w36.setCell ⟨gb392, 0, none⟩ (.int .i64 t387)).setCell ⟨gb392, 1, none⟩ (.slice Ao40 t388.length co40)).setCell ⟨gb374, 0, none⟩ (.int .i64 t387)).setCell ⟨gb374, 1, none⟩ (.slice Ao40 t388.length co40)) w.heap.size (fun k_ => some k_ ≠ (.slice Ao40 t388.length co40 : Value).ownBlock) (.slice Ao34 x375001_2.length co34) x375001_2) := ⟨by (with_reducible repeat (first | apply Kd.Q_alloc | apply Kd.Q_drewN | apply Kd.Q_drew)); exact Kd.Q_mono (Kd.Q_far (p := ⟨gb374, 1, none⟩) (Kd.Q_far (p := ⟨gb374, 0, none⟩) (Kd.Q_far (p := ⟨gb392, 1, none⟩) (Kd.Q_far (p := ⟨gb392, 0, none⟩) (Kd.Q_types (Kd.Q_types HO_375001.out BK392.out (by decide)) BK374.out (by decide)) (fun _ hk => hk.1.2) (.int .i64 t387)) (fun _ hk => hk.1.2) (.slice Ao40 t388.length co40)) (fun _ hk => hk.2) (.int .i64 t387)) (fun _ hk => hk.2) (.slice Ao40 t388.length co40)) (fun _ hk => hk.1.1.2)⟩
                            have n1_ : Aside0 (Kd.Q (Kd.int .i64) 3 ((((w36.setCell ⟨gb392, 0, none⟩ (.int .i64 t387)).setCell ⟨gb392, 1, none⟩ (.slice Ao40 t388.length co40)).setCell ⟨gb374, 0, none⟩ (.int .i64 t387)).setCell ⟨gb374, 1, none⟩ (.slice Ao40 t388.length co40)) w.heap.size (fun k_ => some k_ ≠ (.slice Ao34 x375001_2.length co34 : Value).ownBlock) (.slice Ao40 t388.length co40) t388) := ⟨by (with_reducible repeat (first | apply Kd.Q_alloc | apply Kd.Q_drewN | apply Kd.Q_drew)); exact Kd.Q_mono (Kd.Q_far (p := ⟨gb374, 1, none⟩) (Kd.Q_far (p := ⟨gb374, 0, none⟩) (Kd.Q_far (p := ⟨gb392, 1, none⟩) (Kd.Q_far (p := ⟨gb392, 0, none⟩) (Kd.Q_types (Kd.Q_types HO390.out BK392.out (by decide)) BK374.out (by decide)) (fun _ hk => hk.1.2) (.int .i64 t387)) (fun _ hk => hk.1.2) (.slice Ao40 t388.length co40)) (fun _ hk => hk.2) (.int .i64 t387)) (fun _ hk => hk.2) (.slice Ao40 t388.length co40)) (fun _ hk => hk.1.1.2)⟩
                            have n2_ : Aside0 (((((w36.setCell ⟨gb392, 0, none⟩ (.int .i64 t387)).setCell ⟨gb392, 1, none⟩ (.slice Ao40 t388.length co40)).setCell ⟨gb374, 0, none⟩ (.int .i64 t387)).setCell ⟨gb374, 1, none⟩ (.slice Ao40 t388.length co40)).heap[gb374]? = some (.cells #[.int .i64 t387, .slice Ao40 t388.length co40] 52 (0, 0))) := ⟨by (with_reducible repeat (first | refine blk_drewN ?_ _ | refine blk_drew ?_ | refine blk_alloc ?_ _)); refine blk_put (cs := #[.int .i64 t387, .slice Ao34 x375001_2.length co34]) ?_ 1 _ rfl; (with_reducible repeat (first | refine blk_drewN ?_ _ | refine blk_drew ?_ | refine blk_alloc ?_ _)); refine blk_put (cs := #[.int .i64 x375000_2, .slice Ao34 x375001_2.length co34]) ?_ 0 _ rfl; (with_reducible repeat (first | refine blk_drewN ?_ _ | refine blk_drew ?_ | refine blk_alloc ?_ _)); refine blk_far ?_ NB374_392.out _; (with_reducible repeat (first | refine blk_drewN ?_ _ | refine blk_drew ?_ | refine blk_alloc ?_ _)); refine blk_far ?_ NB374_392.out _; (with_reducible repeat (first | refine blk_drewN ?_ _ | refine blk_drew ?_ | refine blk_alloc ?_ _)); exact BK374.out⟩
                            have n3_ : Aside0 (((((w36.setCell ⟨gb392, 0, none⟩ (.int .i64 t387)).setCell ⟨gb392, 1, none⟩ (.slice Ao40 t388.length co40)).setCell ⟨gb374, 0, none⟩ (.int .i64 t387)).setCell ⟨gb374, 1, none⟩ (.slice Ao40 t388.length co40)).heap[gb392]? = some (.cells #[.int .i64 t387, .slice Ao40 t388.length co40] 52 (0, 0))) := ⟨by (with_reducible repeat (first | refine blk_drewN ?_ _ | refine blk_drew ?_ | refine blk_alloc ?_ _)); refine blk_far ?_ NB392_374.out _; (with_reducible repeat (first | refine blk_drewN ?_ _ | refine blk_drew ?_ | refine blk_alloc ?_ _)); refine blk_far ?_ NB392_374.out _; (with_reducible repeat (first | refine blk_drewN ?_ _ | refine blk_drew ?_ | refine blk_alloc ?_ _)); refine blk_put (cs := #[.int .i64 t387, .slice none 0 0]) ?_ 1 _ rfl; (with_reducible repeat (first | refine blk_drewN ?_ _ | refine blk_drew ?_ | refine blk_alloc ?_ _)); refine blk_put (cs := #[.int .i64 0, .slice none 0 0]) ?_ 0 _ rfl; (with_reducible repeat (first | refine blk_drewN ?_ _ | refine blk_drew ?_ | refine blk_alloc ?_ _)); exact BK392.out⟩
                            have n4_ : Aside0 (IsS50 w ((((w36.setCell ⟨gb392, 0, none⟩ (.int .i64 t387)).setCell ⟨gb392, 1, none⟩ (.slice Ao40 t388.length co40)).setCell ⟨gb374, 0, none⟩ (.int .i64 t387)).setCell ⟨gb374, 1, none⟩ (.slice Ao40 t388.length co40)) gb373 t385 t386) := ⟨by repeat (first | (with_reducible first | exact HI373.out | apply IsS50.alloc | apply IsS50.drewN | apply IsS50.drew | apply IsS50.set_0 | apply IsS50.set_1 | refine IsS50.far ?_ NB373_374.out (by (with_reducible repeat (first | apply typed_set | apply typed_alloc | apply typed_drewN | apply typed_drew)); exact typed_of BK374.out (by decide)) _ | refine IsS50.far ?_ NB373_392.out (by (with_reducible repeat (first | apply typed_set | apply typed_alloc | apply typed_drewN | apply typed_drew)); exact typed_of BK392.out (by decide)) _) | exact HI373.out)⟩
                            have n5_ : Aside0 (Below w.heap.size w ((((w36.setCell ⟨gb392, 0, none⟩ (.int .i64 t387)).setCell ⟨gb392, 1, none⟩ (.slice Ao40 t388.length co40)).setCell ⟨gb374, 0, none⟩ (.int .i64 t387)).setCell ⟨gb374, 1, none⟩ (.slice Ao40 t388.length co40))) := ⟨by repeat (first | (with_reducible first | exact HB.out | apply below_alloc | apply pw_below_drewN | apply below_drew1 | refine below_set ?_ (IsS50.ge HI373.out) | refine below_set ?_ GE374.out | refine below_set ?_ GE392.out) | exact HB.out)⟩
                            (try clear HO_375001)
                            (try clear HO390)
                            (try clear BK374)
                            (try clear BK392)
                            (try clear HI373)
                            (try clear HB)
                            generalize ((((w36.setCell ⟨gb392, 0, none⟩ (.int .i64 t387)).setCell ⟨gb392, 1, none⟩ (.slice Ao40 t388.length co40)).setCell ⟨gb374, 0, none⟩ (.int .i64 t387)).setCell ⟨gb374, 1, none⟩ (.slice Ao40 t388.length co40)) = w42 at n0_ n1_ n2_ n3_ n4_ n5_ ⊢
                            have HO_375001 := n0_
                            have HO390 := n1_
                            have BK374 := n2_
                            have BK392 := n3_
                            have HI373 := n4_
                            have HB := n5_
                            clear n0_ n1_ n2_ n3_ n4_ n5_
                            have n0_ := Aside0.mk (Kd.Q_drew HO_375001.out)
                            have n1_ := Aside0.mk (Kd.Q_drew HO390.out)
                            have n2_ := Aside0.mk (blk_drew BK374.out)
                            have n3_ := Aside0.mk (blk_drew BK392.out)
                            have n4_ := Aside0.mk (IsS50.drew HI373.out)
                            have n5_ := Aside0.mk (below_drew1 HB.out)
                            clear HO_375001
                            clear HO390
                            clear BK374
                            clear BK392
                            clear HI373
                            clear HB
                            have HO_375001 := n0_
                            have HO390 := n1_
                            have BK374 := n2_
                            have BK392 := n3_
                            have HI373 := n4_
                            have HB := n5_
                            clear n0_ n1_ n2_ n3_ n4_ n5_
                            refine start_ (n := 5) (S := fun w' => w'.cell? ⟨gb374, 0, none⟩ = some (.int .i64 t387) ∧ w'.cell? ⟨gb374, 1, none⟩ = some (.slice Ao40 t388.length co40)) (ds := []) #[false, false, false, false, false] (by kernel_rfl) rfl rfl ⟨(blk_cell BK374.out 0).trans rfl, (blk_cell BK374.out 1).trans rfl⟩ (fun hHeld => ?_)
                            generalize w42.drew = w43 at HO_375001 HO390 BK374 BK392 HI373 HB hHeld ⊢
                            refine pure_ (i := 1) (N := some 66) (v := ?_) (a' := ?_) #[false, true, false, false, false] rfl rfl (by kernel_rfl) (fun _ _ _ h => h) (Or.inl ⟨by rfl, ?_⟩) ?_ ?_
                            rotate_left
                            · intro w'
                              go_simp
                              with_reducible rfl
                            rotate_left
                            · simp only [Act.put, List.setIfInBounds_toArray, List.set_cons_zero, List.set_cons_succ, i64_w, i32_w]
                              rfl
                            refine take_ (i := 2) (N := some 67) (v := ?_) (a' := ?_) #[false, true, true, false, false] rfl rfl (by kernel_rfl) (fun _ _ _ h => h) (Or.inl ⟨by rfl, ?_⟩) hHeld ?_ ?_
                            rotate_left
                            · rintro w' ⟨s0, s1⟩
                              go_simp
                              with_reducible rfl
                            rotate_left
                            · simp only [Act.put, List.setIfInBounds_toArray, List.set_cons_zero, List.set_cons_succ, i64_w, i32_w]
                              rfl
                            refine pure_ (i := 3) (N := some 68) (v := ?_) (a' := ?_) #[false, true, true, true, false] rfl rfl (by kernel_rfl) (fun _ _ _ h => h) (Or.inl ⟨by rfl, ?_⟩) ?_ ?_
                            rotate_left
                            · intro w'
                              go_simp
                              with_reducible rfl
                            rotate_left
                            · simp only [Act.put, List.setIfInBounds_toArray, List.set_cons_zero, List.set_cons_succ, i64_w, i32_w]
                              rfl
                            refine one_ (i := 0) (N := some 65) #[true, true, true, true, false] rfl rfl (by kernel_rfl) (by decide) (fun K hK => ?_)
                            refine goes_ Try.func23 (by kernel_rfl) rfl #[.pointer (some ⟨gb373, 0, none⟩)] (by rfl) rfl rfl (by (try simp only [List.map_toArray, List.map_cons, List.map_nil]); first | done | rfl | (simp only [List.length_drop, List.length_take]; rfl)) ?_
                            with_reducible refine (header_Counter_Pending.calls gb373 t385 t386 t393 t394 t395 w _ ?side1 ?side2 A29.out).mono ?_
                            (case side1 => repeat (first | (with_reducible first | exact HI373.out | apply IsS50.alloc | apply IsS50.drewN | apply IsS50.drew | apply IsS50.set_0 | apply IsS50.set_1 | refine IsS50.far ?_ NB373_374.out (by (with_reducible repeat (first | apply typed_set | apply typed_alloc | apply typed_drewN | apply typed_drew)); exact typed_of BK374.out (by decide)) _ | refine IsS50.far ?_ NB373_392.out (by (with_reducible repeat (first | apply typed_set | apply typed_alloc | apply typed_drewN | apply typed_drew)); exact typed_of BK392.out (by decide)) _) | exact HI373.out))
                            (case side2 => repeat (first | (with_reducible first | exact HB.out | apply below_alloc | apply pw_below_drewN | apply below_drew1 | refine below_set ?_ (IsS50.ge HI373.out) | refine below_set ?_ GE374.out | refine below_set ?_ GE392.out) | exact HB.out))
                            rintro e w44 ⟨rfl, hi, hb, hk⟩
                            refine ⟨_, rfl, ?_⟩
                            have n0_ := Aside0.mk (Kd.Q_mono (Kd.Q_keepT (IsS50.apartQ (show IsS50 w _ gb373 t385 t386 from by repeat (first | (with_reducible first | exact HI373.out | apply IsS50.alloc | apply IsS50.drewN | apply IsS50.drew | apply IsS50.set_0 | apply IsS50.set_1 | refine IsS50.far ?_ NB373_374.out (by (with_reducible repeat (first | apply typed_set | apply typed_alloc | apply typed_drewN | apply typed_drew)); exact typed_of BK374.out (by decide)) _ | refine IsS50.far ?_ NB373_392.out (by (with_reducible repeat (first | apply typed_set | apply typed_alloc | apply typed_drewN | apply typed_drew)); exact typed_of BK392.out (by decide)) _) | exact HI373.out)) (by (with_reducible repeat (first | apply Kd.Q_alloc | apply Kd.Q_drewN | apply Kd.Q_drew)); exact HO_375001.out) (by decide)) hk (fun _ h => h.2) (by decide)) (fun _ h => h.1))
                            have n1_ := Aside0.mk (KeepT.blk hk (g' := gb374) (o := .cells #[.int .i64 t387, .slice Ao40 t388.length co40] 52 (0, 0)) (by (with_reducible repeat (first | refine blk_drewN ?_ _ | refine blk_drew ?_ | refine blk_alloc ?_ _)); exact BK374.out) NB374_373.out (by simp))
                            have n2_ := Aside0.mk (Kd.Q_mono (Kd.Q_keepT (IsS50.apartQ (show IsS50 w _ gb373 t385 t386 from by repeat (first | (with_reducible first | exact HI373.out | apply IsS50.alloc | apply IsS50.drewN | apply IsS50.drew | apply IsS50.set_0 | apply IsS50.set_1 | refine IsS50.far ?_ NB373_374.out (by (with_reducible repeat (first | apply typed_set | apply typed_alloc | apply typed_drewN | apply typed_drew)); exact typed_of BK374.out (by decide)) _ | refine IsS50.far ?_ NB373_392.out (by (with_reducible repeat (first | apply typed_set | apply typed_alloc | apply typed_drewN | apply typed_drew)); exact typed_of BK392.out (by decide)) _) | exact HI373.out)) (by (with_reducible repeat (first | apply Kd.Q_alloc | apply Kd.Q_drewN | apply Kd.Q_drew)); exact HO390.out) (by decide)) hk (fun _ h => h.2) (by decide)) (fun _ h => h.1))
                            have n3_ := Aside0.mk (KeepT.blk hk (g' := gb392) (o := .cells #[.int .i64 t387, .slice Ao40 t388.length co40] 52 (0, 0)) (by (with_reducible repeat (first | refine blk_drewN ?_ _ | refine blk_drew ?_ | refine blk_alloc ?_ _)); exact BK392.out) NB392_373.out (by simp))
                            have n4_ := Aside0.mk (hb)
                            have n5_ := Aside0.mk (hi)
                            clear HO_375001
                            clear BK374
                            clear HO390
                            clear BK392
                            clear HB
                            clear HI373
                            have HO_375001 := n0_
                            have BK374 := n1_
                            have HO390 := n2_
                            have BK392 := n3_
                            have HB := n4_
                            have HI373 := n5_
                            clear n0_ n1_ n2_ n3_ n4_ n5_
                            (try clear hb)
                            (try clear hb2)
                            (try clear hk)
                            (try clear hi)
                            refine hK.out _ _ ⟨(blk_cell BK374.out 0).trans rfl, (blk_cell BK374.out 1).trans rfl⟩ (fun hHeld => ?_)
                            clear hK K
                            refine norm_ (a' := ?_) ?_ ?_
                            rotate_left
                            · show Act.put _ (some 65) _ = _
                              simp only [Act.put, List.setIfInBounds_toArray, List.set_cons_zero, List.set_cons_succ, i64_w, i32_w]
                              rfl
                            refine pure_ (i := 4) (N := some 69) (v := ?_) (a' := ?_) #[true, true, true, true, true] rfl rfl (by kernel_rfl) (fun _ _ _ h => h) (Or.inl ⟨by rfl, ?_⟩) ?_ ?_
                            rotate_left
                            · intro w'
                              go_simp
                              with_reducible rfl
                            rotate_left
                            · simp only [Act.put, List.setIfInBounds_toArray, List.set_cons_zero, List.set_cons_succ, i64_w, i32_w]
                              rfl
                            refine done_ (by kernel_rfl) ?_
                            try go_wp2
                            go_roundg k2
                            case measure => have := HK1.out; have := HK2.out; omega
                            case rel => exact ⟨(wrap64 (x34_2 + 1)), (t394), (t395), (t387), (t388), (.slice Ao40 t388.length co40), (by first | rfl | (simp; done) | (simp [*]; done)), H', ⟨by have := HK1.out; have := HK2.out; omega⟩, ⟨by (with_reducible repeat (first | apply Kd.Q_alloc | apply Kd.Q_drewN | apply Kd.Q_drew)); exact Kd.Q_mono HO390.out (fun _ hk => trivial)⟩, ⟨by (with_reducible repeat (first | refine blk_drewN ?_ _ | refine blk_drew ?_ | refine blk_alloc ?_ _)); exact BK374.out⟩, ⟨by repeat (first | (with_reducible first | exact HI373.out | apply IsS50.alloc | apply IsS50.drewN | apply IsS50.drew | apply IsS50.set_0 | apply IsS50.set_1 | refine IsS50.far ?_ NB373_374.out (by (with_reducible repeat (first | apply typed_set | apply typed_alloc | apply typed_drewN | apply typed_drew)); exact typed_of BK374.out (by decide)) _ | refine IsS50.far ?_ NB373_392.out (by (with_reducible repeat (first | apply typed_set | apply typed_alloc | apply typed_drewN | apply typed_drew)); exact typed_of BK392.out (by decide)) _) | exact HI373.out)⟩, ⟨by repeat (first | (with_reducible first | exact HB.out | apply below_alloc | apply pw_below_drewN | apply below_drew1 | refine below_set ?_ (IsS50.ge HI373.out) | refine below_set ?_ GE374.out | refine below_set ?_ GE392.out) | exact HB.out)⟩⟩
                          · rw [if_neg c30] at H
                            have c30b0 : (t393 == (t388.length : Int)) = false := beq_eq_false_iff_ne.mpr c30
                            have c30b1 : (t393 != (t388.length : Int)) = true := bne_iff_ne.mpr c30
                            obtain rfl := Option.some.inj H
                            exact absurd hr_ (by decide)
                        · rw [if_neg c28] at H
                          have c28b0 : ((wrap64 (t384)) == t391) = false := beq_eq_false_iff_ne.mpr c28
                          have c28b1 : ((wrap64 (t384)) != t391) = true := bne_iff_ne.mpr c28
                          obtain rfl := Option.some.inj H
                          exact absurd hr_ (by decide)
                      · rw [if_neg c25] at H
                        have c25b0 : decide ((rd l1 x34_2) < 0) = false := decide_eq_false c25
                        clear c25
                        replace H := Option.bind_eq_some_iff.mp H
                        obtain ⟨⟨t396, t397, t398⟩, A700, H⟩ := H
                        replace H : ((greenscreenref09_Got.f k2 x375000_2 x375001_2 (Go.bits .and .i64 (rd l1 x34_2) 65535)).bind fun bt399 => (if (t396 != bt399.2.2) = true then (some false) else ((header_Counter_Pending.f t397 t398).bind fun bt405 => (if bt405.1 = (bt399.2.1.length : Int) then (greenscreenlaw09_HeaderCounts.l1 k2 l1 (l1.length : Int) (wrap64 (x34_2 + 1)) bt405.2.1 bt405.2.2 bt399.1 bt399.2.1) else (some false))))) = some r := H
                        have A70 := Aside0.mk A700
                        clear A700
                        replace H := Option.bind_eq_some_iff.mp H
                        obtain ⟨⟨t399, t400, t403⟩, A710, H⟩ := H
                        replace H : (if (t396 != t403) = true then (some false) else ((header_Counter_Pending.f t397 t398).bind fun bt405 => (if bt405.1 = (t400.length : Int) then (greenscreenlaw09_HeaderCounts.l1 k2 l1 (l1.length : Int) (wrap64 (x34_2 + 1)) bt405.2.1 bt405.2.2 t399 t400) else (some false)))) = some r := H
                        have A71 := Aside0.mk A710
                        clear A710
                        by_cases c72 : (t396 != t403) = true
                        · rw [if_pos c72] at H
                          have c72b0 : (t396 != t403) = true := c72
                          (try (have c72b1 : decide (t396 = t403) = false := by simpa using c72))
                          (try (have c72b2 : (t396 == t403) = false := by simpa using c72))
                          (try (have c72b3 : ¬ (t396 = t403) := by simpa using c72))
                          clear c72
                          obtain rfl := Option.some.inj H
                          exact absurd hr_ (by decide)
                        · rw [if_neg c72] at H
                          have c72b0 : (t396 != t403) = false := by simpa using c72
                          (try (have c72b1 : decide (t396 = t403) = true := by simpa using c72))
                          (try (have c72b2 : (t396 == t403) = true := by simpa using c72))
                          clear c72
                          replace H := Option.bind_eq_some_iff.mp H
                          obtain ⟨⟨t405, t406, t407⟩, A840, H⟩ := H
                          replace H : (if t405 = (t400.length : Int) then (greenscreenlaw09_HeaderCounts.l1 k2 l1 (l1.length : Int) (wrap64 (x34_2 + 1)) t406 t407 t399 t400) else (some false)) = some r := H
                          have A84 := Aside0.mk A840
                          clear A840
                          by_cases c85 : t405 = (t400.length : Int)
                          · rw [if_pos c85] at H
                            have c85b0 : (t405 == (t400.length : Int)) = true := beq_iff_eq.mpr c85
                            have c85b1 : (t405 != (t400.length : Int)) = false := bne_eq_false_iff_eq.mpr c85
                            clear c85
                            have H' := Aside0.mk H
                            clear H
                            have p383 : 0 ≤ (x34_2 : Int) := of_decide_eq_true (by first | (with_reducible assumption) | assumption)
                            have q383 : x34_2 < (l1.length : Int) := of_decide_eq_true (by first | (with_reducible assumption) | assumption)
                            obtain ⟨ad383, e383, hx383_0⟩ := Kd.at_int HR1.out x34_2 p383 q383
                            cases e383
                            replace hx383_0 := (HB.out.cell (World.block_lt_of_cell? w _ hx383_0)).trans hx383_0
                            replace p383 := eq_true p383
                            replace q383 := eq_true q383
                            try go_wp2_with (first | ((with_reducible refine gate_callee (f := 21) rfl ?_); refine goesL_ (some 53) rfl rfl Try.func21 (by kernel_rfl) rfl #[.pointer (some ⟨gb373, 0, none⟩), .int .u16 (IntKind.u16.wrap (rd l1 x34_2))] rfl (by (try simp only [List.map_toArray, List.map_cons, List.map_nil]); first | done | rfl | (simp only [List.length_drop, List.length_take]; rfl)) ?_; (with_reducible refine (header_Counter_Got.calls gb373 x374000_2 x374001_2 (IntKind.u16.wrap (rd l1 x34_2)) t396 t397 t398 w _ ?side1 ?side2 A70.out).mono ?_); (case side1 => repeat (first | (with_reducible first | exact HI373.out | apply IsS50.alloc | apply IsS50.drewN | apply IsS50.drew | apply IsS50.set_0 | apply IsS50.set_1 | refine IsS50.far ?_ NB373_374.out (by (with_reducible repeat (first | apply typed_set | apply typed_alloc | apply typed_drewN | apply typed_drew)); exact typed_of BK374.out (by decide)) _) | exact HI373.out)); (case side2 => repeat (first | (with_reducible first | exact HB.out | apply below_alloc | apply pw_below_drewN | apply below_drew1 | refine below_set ?_ (IsS50.ge HI373.out) | refine below_set ?_ GE374.out) | exact HB.out)); rintro e w86 ⟨rfl, hi, hb, hk⟩; refine ⟨_, rfl, ?_⟩; have n0_ := Aside0.mk (Kd.Q_mono (Kd.Q_keepT (IsS50.apartQ (show IsS50 w _ gb373 x374000_2 x374001_2 from by repeat (first | (with_reducible first | exact HI373.out | apply IsS50.alloc | apply IsS50.drewN | apply IsS50.drew | apply IsS50.set_0 | apply IsS50.set_1 | refine IsS50.far ?_ NB373_374.out (by (with_reducible repeat (first | apply typed_set | apply typed_alloc | apply typed_drewN | apply typed_drew)); exact typed_of BK374.out (by decide)) _) | exact HI373.out)) (by (with_reducible repeat (first | apply Kd.Q_alloc | apply Kd.Q_drewN | apply Kd.Q_drew)); exact HO_375001.out) (by decide)) hk (fun _ h => h.2) (by decide)) (fun _ h => h.1)); have n1_ := Aside0.mk (KeepT.blk hk (g' := gb374) (o := .cells #[.int .i64 x375000_2, u375001] 52 (0, 0)) (by (with_reducible repeat (first | refine blk_drewN ?_ _ | refine blk_drew ?_ | refine blk_alloc ?_ _)); exact BK374.out) NB374_373.out (by simp)); have n2_ := Aside0.mk (hb); have n3_ := Aside0.mk (hi); clear HO_375001; clear BK374; clear HB; clear HI373; have HO_375001 := n0_; have BK374 := n1_; have HB := n2_; have HI373 := n3_; clear n0_ n1_ n2_ n3_; (try clear hb); (try clear hb2); (try clear hk); (try clear hi); have hnb87 := NB374_373.out; have hnc87 := NB373_374.out; have hcz88_0 : w86.cell? ⟨gb374, 0, none⟩ = some (.int .i64 x375000_2) := (blk_cell BK374.out 0).trans rfl; have hcz88_1 : w86.cell? ⟨gb374, 1, none⟩ = some (u375001) := (blk_cell BK374.out 1).trans rfl; have hfz88_0 := blk_frozen BK374.out 0; have hfz88_1 := blk_frozen BK374.out 1; obtain ⟨Ao89, co89, eo89, _⟩ := Kd.Q_slice HO_375001.out; subst eo89) | ((with_reducible refine gate_callee (f := 22) rfl ?_); refine goesL_ (some 58) rfl rfl Try.func22 (by kernel_rfl) rfl #[.agg #[.int .i64 x375000_2, .slice Ao89 x375001_2.length co89], .int .i64 (Go.bits .and .i64 (rd l1 x34_2) 65535)] rfl (by (try simp only [List.map_toArray, List.map_cons, List.map_nil]); first | done | rfl | (simp only [List.length_drop, List.length_take]; rfl)) ?_; (with_reducible refine (greenscreenref09_Got.calls k2 x375000_2 _ _ x375001_2 (Go.bits .and .i64 (rd l1 x34_2) 65535) t399 t400 t403 _ ?side1 ?side2 A71.out).mono ?_); (case side1 => repeat (first | exact (Kd.Q_reads' HO_375001.out).2.2 | (with_reducible refine Kd.C_alloc ?_ _) | (with_reducible refine Kd.C_drewN ?_ _) | (with_reducible refine Kd.C_drew ?_))); (case side2 => exact (Kd.Q_reads' HO_375001.out).2.1); rintro e w90 ⟨v401, rfl, ho0, hb⟩; refine ⟨_, rfl, ?_⟩; have n0_ := Aside0.mk (Kd.Q_elder' (by (with_reducible repeat (first | apply Kd.Q_alloc | apply Kd.Q_drewN | apply Kd.Q_drew)); exact HO_375001.out) (Kd.R_base ho0) hb); have n1_ := Aside0.mk (Kd.R_lower (Kd.R_new' ho0 (Kd.Q_lt (by (with_reducible repeat (first | apply Kd.Q_alloc | apply Kd.Q_drewN | apply Kd.Q_drew)); exact HO_375001.out))) (below_size (by repeat (first | (with_reducible first | exact HB.out | apply below_alloc | apply pw_below_drewN | apply below_drew1 | refine below_set ?_ (IsS50.ge HI373.out) | refine below_set ?_ GE374.out) | exact HB.out)))); have n2_ := Aside0.mk (blk_below (g := gb374) (o := .cells #[.int .i64 x375000_2, .slice Ao89 x375001_2.length co89] 52 (0, 0)) (by (with_reducible repeat (first | refine blk_drewN ?_ _ | refine blk_drew ?_ | refine blk_alloc ?_ _)); exact BK374.out) hb); have n3_ := Aside0.mk (IsS50.below (by repeat (first | (with_reducible first | exact HI373.out | apply IsS50.alloc | apply IsS50.drewN | apply IsS50.drew | apply IsS50.set_0 | apply IsS50.set_1 | refine IsS50.far ?_ NB373_374.out (by (with_reducible repeat (first | apply typed_set | apply typed_alloc | apply typed_drewN | apply typed_drew)); exact typed_of BK374.out (by decide)) _) | exact HI373.out)) hb); have n4_ := Aside0.mk (below_step (by repeat (first | (with_reducible first | exact HB.out | apply below_alloc | apply pw_below_drewN | apply below_drew1 | refine below_set ?_ (IsS50.ge HI373.out) | refine below_set ?_ GE374.out) | exact HB.out)) hb); clear HO_375001; clear BK374; clear HI373; clear HB; have HO_375001 := n0_; have HO402 := n1_; have BK374 := n2_; have HI373 := n3_; have HB := n4_; clear n0_ n1_ n2_ n3_ n4_; (try clear hb); (try clear hb2); (try clear hk); (try clear hi); (try clear ho0)) | ((with_reducible refine gate_dst (N := 13) rfl ?_); refine box_event ?hg (N := 13) ?hd (cs := #[.int .i64 0, .slice none 0 0]) (t := 52) ?hr ?_; (case hd => rfl); (case hg => rfl); (case hr => first | (go_simp; done) | (go_simp; rfl)); intro gb404 hg w91 hbox hb; have n0_ := Aside0.mk (Kd.Q_below (by (with_reducible repeat (first | apply Kd.Q_alloc | apply Kd.Q_drewN | apply Kd.Q_drew)); exact HO_375001.out) hb); have n1_ := Aside0.mk (Kd.R_below (by (with_reducible repeat (first | apply Kd.R_alloc | apply Kd.R_drewN | apply Kd.R_drew)); exact HO402.out) hb); have n2_ := Aside0.mk (blk_below (g := gb374) (o := .cells #[.int .i64 x375000_2, .slice Ao89 x375001_2.length co89] 52 (0, 0)) (by (with_reducible repeat (first | refine blk_drewN ?_ _ | refine blk_drew ?_ | refine blk_alloc ?_ _)); exact BK374.out) hb); have n3_ := Aside0.mk (IsS50.below (by repeat (first | (with_reducible first | exact HI373.out | apply IsS50.alloc | apply IsS50.drewN | apply IsS50.drew | apply IsS50.set_0 | apply IsS50.set_1 | refine IsS50.far ?_ NB373_374.out (by (with_reducible repeat (first | apply typed_set | apply typed_alloc | apply typed_drewN | apply typed_drew)); exact typed_of BK374.out (by decide)) _) | exact HI373.out)) hb); have n4_ := Aside0.mk (below_step (by repeat (first | (with_reducible first | exact HB.out | apply below_alloc | apply pw_below_drewN | apply below_drew1 | refine below_set ?_ (IsS50.ge HI373.out) | refine below_set ?_ GE374.out) | exact HB.out)) hb); have n5_ := Aside0.mk (hbox); have n6_ := Aside0.mk ((by rw [hg]; exact (below_size (by repeat (first | (with_reducible first | exact HB.out | apply below_alloc | apply pw_below_drewN | apply below_drew1 | refine below_set ?_ (IsS50.ge HI373.out) | refine below_set ?_ GE374.out) | exact HB.out))) : w.heap.size ≤ gb404)); have n7_ := Aside0.mk ((by rw [hg]; exact (below_size (by repeat (first | (with_reducible first | exact HB.out | apply below_alloc | apply pw_below_drewN | apply below_drew1 | refine below_set ?_ (IsS50.ge HI373.out) | refine below_set ?_ GE374.out) | exact HB.out))) : w.heap.size ≤ gb404)); have n8_ := Aside0.mk ((by rw [hg]; exact Nat.ne_of_lt (blk_lt (g := gb374) (o := .cells #[.int .i64 x375000_2, .slice Ao89 x375001_2.length co89] 52 (0, 0)) (by (with_reducible repeat (first | refine blk_drewN ?_ _ | refine blk_drew ?_ | refine blk_alloc ?_ _)); exact BK374.out)) : gb374 ≠ gb404)); have n9_ := Aside0.mk ((by rw [hg]; exact Nat.ne_of_gt (blk_lt (g := gb374) (o := .cells #[.int .i64 x375000_2, .slice Ao89 x375001_2.length co89] 52 (0, 0)) (by (with_reducible repeat (first | refine blk_drewN ?_ _ | refine blk_drew ?_ | refine blk_alloc ?_ _)); exact BK374.out)) : gb404 ≠ gb374)); have n10_ := Aside0.mk ((by rw [hg]; exact Nat.ne_of_lt (IsS50.lt (show IsS50 w _ gb373 t397 t398 from by repeat (first | (with_reducible first | exact HI373.out | apply IsS50.alloc | apply IsS50.drewN | apply IsS50.drew | apply IsS50.set_0 | apply IsS50.set_1 | refine IsS50.far ?_ NB373_374.out (by (with_reducible repeat (first | apply typed_set | apply typed_alloc | apply typed_drewN | apply typed_drew)); exact typed_of BK374.out (by decide)) _) | exact HI373.out))) : gb373 ≠ gb404)); have n11_ := Aside0.mk ((by rw [hg]; exact Nat.ne_of_gt (IsS50.lt (show IsS50 w _ gb373 t397 t398 from by repeat (first | (with_reducible first | exact HI373.out | apply IsS50.alloc | apply IsS50.drewN | apply IsS50.drew | apply IsS50.set_0 | apply IsS50.set_1 | refine IsS50.far ?_ NB373_374.out (by (with_reducible repeat (first | apply typed_set | apply typed_alloc | apply typed_drewN | apply typed_drew)); exact typed_of BK374.out (by decide)) _) | exact HI373.out))) : gb404 ≠ gb373)); clear HO_375001; clear HO402; clear BK374; clear HI373; clear HB; have HO_375001 := n0_; have HO402 := n1_; have BK374 := n2_; have HI373 := n3_; have HB := n4_; have BK404 := n5_; have GW404 := n6_; have GE404 := n7_; have NB374_404 := n8_; have NB404_374 := n9_; have NB373_404 := n10_; have NB404_373 := n11_; clear n0_ n1_ n2_ n3_ n4_ n5_ n6_ n7_ n8_ n9_ n10_ n11_; clear hb hbox hg; have hnb92 := NB404_374.out; have hnc92 := NB374_404.out; have hnb93 := NB404_373.out; have hnc93 := NB373_404.out; have hcz94_0 : w91.cell? ⟨gb404, 0, none⟩ = some (.int .i64 0) := (blk_cell BK404.out 0).trans rfl; have hcz94_1 : w91.cell? ⟨gb404, 1, none⟩ = some (.slice none 0 0) := (blk_cell BK404.out 1).trans rfl; have hfz94_0 := blk_frozen BK404.out 0; have hfz94_1 := blk_frozen BK404.out 1; obtain ⟨Ao95, co95, eo95⟩ := Kd.R_slice HO402.out; subst eo95; have hcz96_0 : w91.cell? ⟨gb374, 0, none⟩ = some (.int .i64 x375000_2) := (blk_cell BK374.out 0).trans rfl; have hcz96_1 : w91.cell? ⟨gb374, 1, none⟩ = some (.slice Ao89 x375001_2.length co89) := (blk_cell BK374.out 1).trans rfl; have hfz96_0 := blk_frozen BK374.out 0; have hfz96_1 := blk_frozen BK374.out 1))
                            have n0_ : Aside0 (Kd.Q (Kd.int .i64) 3 ((((w91.setCell ⟨gb404, 0, none⟩ (.int .i64 t399)).setCell ⟨gb404, 1, none⟩ (.slice Ao95 t400.length co95)).setCell ⟨gb374, 0, none⟩ (.int .i64 t399)).setCell ⟨gb374, 1, none⟩ (.slice Ao95 t400.length co95)) w.heap.size (fun k_ => some k_ ≠ (.slice Ao95 t400.length co95 : Value).ownBlock) (.slice Ao89 x375001_2.length co89) x375001_2) := ⟨by (with_reducible repeat (first | apply Kd.Q_alloc | apply Kd.Q_drewN | apply Kd.Q_drew)); exact Kd.Q_mono (Kd.Q_far (p := ⟨gb374, 1, none⟩) (Kd.Q_far (p := ⟨gb374, 0, none⟩) (Kd.Q_far (p := ⟨gb404, 1, none⟩) (Kd.Q_far (p := ⟨gb404, 0, none⟩) (Kd.Q_types (Kd.Q_types HO_375001.out BK404.out (by decide)) BK374.out (by decide)) (fun _ hk => hk.1.2) (.int .i64 t399)) (fun _ hk => hk.1.2) (.slice Ao95 t400.length co95)) (fun _ hk => hk.2) (.int .i64 t399)) (fun _ hk => hk.2) (.slice Ao95 t400.length co95)) (fun _ hk => hk.1.1.2)⟩
                            have n1_ : Aside0 (Kd.R (Kd.int .i64) 3 ((((w91.setCell ⟨gb404, 0, none⟩ (.int .i64 t399)).setCell ⟨gb404, 1, none⟩ (.slice Ao95 t400.length co95)).setCell ⟨gb374, 0, none⟩ (.int .i64 t399)).setCell ⟨gb374, 1, none⟩ (.slice Ao95 t400.length co95)) w.heap.size (fun k_ => some k_ ≠ (.slice Ao89 x375001_2.length co89 : Value).ownBlock) (.slice Ao95 t400.length co95) t400) := ⟨by (with_reducible repeat (first | apply Kd.R_alloc | apply Kd.R_drewN | apply Kd.R_drew)); exact Kd.R_mono (Kd.R_far (p := ⟨gb374, 1, none⟩) (Kd.R_far (p := ⟨gb374, 0, none⟩) (Kd.R_far (p := ⟨gb404, 1, none⟩) (Kd.R_far (p := ⟨gb404, 0, none⟩) (Kd.R_types (Kd.R_types HO402.out BK404.out (by decide)) BK374.out (by decide)) (fun _ hk => hk.1.2) (.int .i64 t399)) (fun _ hk => hk.1.2) (.slice Ao95 t400.length co95)) (fun _ hk => hk.2) (.int .i64 t399)) (fun _ hk => hk.2) (.slice Ao95 t400.length co95)) (fun _ hk => hk.1.1.2)⟩
                            have n2_ : Aside0 (((((w91.setCell ⟨gb404, 0, none⟩ (.int .i64 t399)).setCell ⟨gb404, 1, none⟩ (.slice Ao95 t400.length co95)).setCell ⟨gb374, 0, none⟩ (.int .i64 t399)).setCell ⟨gb374, 1, none⟩ (.slice Ao95 t400.length co95)).heap[gb374]? = some (.cells #[.int .i64 t399, .slice Ao95 t400.length co95] 52 (0, 0))) := ⟨by (with_reducible repeat (first | refine blk_drewN ?_ _ | refine blk_drew ?_ | refine blk_alloc ?_ _)); refine blk_put (cs := #[.int .i64 t399, .slice Ao89 x375001_2.length co89]) ?_ 1 _ rfl; (with_reducible repeat (first | refine blk_drewN ?_ _ | refine blk_drew ?_ | refine blk_alloc ?_ _)); refine blk_put (cs := #[.int .i64 x375000_2, .slice Ao89 x375001_2.length co89]) ?_ 0 _ rfl; (with_reducible repeat (first | refine blk_drewN ?_ _ | refine blk_drew ?_ | refine blk_alloc ?_ _)); refine blk_far ?_ NB374_404.out _; (with_reducible repeat (first | refine blk_drewN ?_ _ | refine blk_drew ?_ | refine blk_alloc ?_ _)); refine blk_far ?_ NB374_404.out _; (with_reducible repeat (first | refine blk_drewN ?_ _ | refine blk_drew ?_ | refine blk_alloc ?_ _)); exact BK374.out⟩
                            have n3_ : Aside0 (((((w91.setCell ⟨gb404, 0, none⟩ (.int .i64 t399)).setCell ⟨gb404, 1, none⟩ (.slice Ao95 t400.length co95)).setCell ⟨gb374, 0, none⟩ (.int .i64 t399)).setCell ⟨gb374, 1, none⟩ (.slice Ao95 t400.length co95)).heap[gb404]? = some (.cells #[.int .i64 t399, .slice Ao95 t400.length co95] 52 (0, 0))) := ⟨by (with_reducible repeat (first | refine blk_drewN ?_ _ | refine blk_drew ?_ | refine blk_alloc ?_ _)); refine blk_far ?_ NB404_374.out _; (with_reducible repeat (first | refine blk_drewN ?_ _ | refine blk_drew ?_ | refine blk_alloc ?_ _)); refine blk_far ?_ NB404_374.out _; (with_reducible repeat (first | refine blk_drewN ?_ _ | refine blk_drew ?_ | refine blk_alloc ?_ _)); refine blk_put (cs := #[.int .i64 t399, .slice none 0 0]) ?_ 1 _ rfl; (with_reducible repeat (first | refine blk_drewN ?_ _ | refine blk_drew ?_ | refine blk_alloc ?_ _)); refine blk_put (cs := #[.int .i64 0, .slice none 0 0]) ?_ 0 _ rfl; (with_reducible repeat (first | refine blk_drewN ?_ _ | refine blk_drew ?_ | refine blk_alloc ?_ _)); exact BK404.out⟩
                            have n4_ : Aside0 (IsS50 w ((((w91.setCell ⟨gb404, 0, none⟩ (.int .i64 t399)).setCell ⟨gb404, 1, none⟩ (.slice Ao95 t400.length co95)).setCell ⟨gb374, 0, none⟩ (.int .i64 t399)).setCell ⟨gb374, 1, none⟩ (.slice Ao95 t400.length co95)) gb373 t397 t398) := ⟨by repeat (first | (with_reducible first | exact HI373.out | apply IsS50.alloc | apply IsS50.drewN | apply IsS50.drew | apply IsS50.set_0 | apply IsS50.set_1 | refine IsS50.far ?_ NB373_374.out (by (with_reducible repeat (first | apply typed_set | apply typed_alloc | apply typed_drewN | apply typed_drew)); exact typed_of BK374.out (by decide)) _ | refine IsS50.far ?_ NB373_404.out (by (with_reducible repeat (first | apply typed_set | apply typed_alloc | apply typed_drewN | apply typed_drew)); exact typed_of BK404.out (by decide)) _) | exact HI373.out)⟩
                            have n5_ : Aside0 (Below w.heap.size w ((((w91.setCell ⟨gb404, 0, none⟩ (.int .i64 t399)).setCell ⟨gb404, 1, none⟩ (.slice Ao95 t400.length co95)).setCell ⟨gb374, 0, none⟩ (.int .i64 t399)).setCell ⟨gb374, 1, none⟩ (.slice Ao95 t400.length co95))) := ⟨by repeat (first | (with_reducible first | exact HB.out | apply below_alloc | apply pw_below_drewN | apply below_drew1 | refine below_set ?_ (IsS50.ge HI373.out) | refine below_set ?_ GE374.out | refine below_set ?_ GE404.out) | exact HB.out)⟩
                            (try clear HO_375001)
                            (try clear HO402)
                            (try clear BK374)
                            (try clear BK404)
                            (try clear HI373)
                            (try clear HB)
                            generalize ((((w91.setCell ⟨gb404, 0, none⟩ (.int .i64 t399)).setCell ⟨gb404, 1, none⟩ (.slice Ao95 t400.length co95)).setCell ⟨gb374, 0, none⟩ (.int .i64 t399)).setCell ⟨gb374, 1, none⟩ (.slice Ao95 t400.length co95)) = w97 at n0_ n1_ n2_ n3_ n4_ n5_ ⊢
                            have HO_375001 := n0_
                            have HO402 := n1_
                            have BK374 := n2_
                            have BK404 := n3_
                            have HI373 := n4_
                            have HB := n5_
                            clear n0_ n1_ n2_ n3_ n4_ n5_
                            have n0_ := Aside0.mk (Kd.Q_drew HO_375001.out)
                            have n1_ := Aside0.mk (Kd.R_drew HO402.out)
                            have n2_ := Aside0.mk (blk_drew BK374.out)
                            have n3_ := Aside0.mk (blk_drew BK404.out)
                            have n4_ := Aside0.mk (IsS50.drew HI373.out)
                            have n5_ := Aside0.mk (below_drew1 HB.out)
                            clear HO_375001
                            clear HO402
                            clear BK374
                            clear BK404
                            clear HI373
                            clear HB
                            have HO_375001 := n0_
                            have HO402 := n1_
                            have BK374 := n2_
                            have BK404 := n3_
                            have HI373 := n4_
                            have HB := n5_
                            clear n0_ n1_ n2_ n3_ n4_ n5_
                            refine start_ (n := 5) (S := fun w' => w'.cell? ⟨gb374, 0, none⟩ = some (.int .i64 t399) ∧ w'.cell? ⟨gb374, 1, none⟩ = some (.slice Ao95 t400.length co95)) (ds := []) #[false, false, false, false, false] (by kernel_rfl) rfl rfl ⟨(blk_cell BK374.out 0).trans rfl, (blk_cell BK374.out 1).trans rfl⟩ (fun hHeld => ?_)
                            generalize w97.drew = w98 at HO_375001 HO402 BK374 BK404 HI373 HB hHeld ⊢
                            refine pure_ (i := 1) (N := some 66) (v := ?_) (a' := ?_) #[false, true, false, false, false] rfl rfl (by kernel_rfl) (fun _ _ _ h => h) (Or.inl ⟨by rfl, ?_⟩) ?_ ?_
                            rotate_left
                            · intro w'
                              go_simp
                              with_reducible rfl
                            rotate_left
                            · simp only [Act.put, List.setIfInBounds_toArray, List.set_cons_zero, List.set_cons_succ, i64_w, i32_w]
                              rfl
                            refine take_ (i := 2) (N := some 67) (v := ?_) (a' := ?_) #[false, true, true, false, false] rfl rfl (by kernel_rfl) (fun _ _ _ h => h) (Or.inl ⟨by rfl, ?_⟩) hHeld ?_ ?_
                            rotate_left
                            · rintro w' ⟨s0, s1⟩
                              go_simp
                              with_reducible rfl
                            rotate_left
                            · simp only [Act.put, List.setIfInBounds_toArray, List.set_cons_zero, List.set_cons_succ, i64_w, i32_w]
                              rfl
                            refine pure_ (i := 3) (N := some 68) (v := ?_) (a' := ?_) #[false, true, true, true, false] rfl rfl (by kernel_rfl) (fun _ _ _ h => h) (Or.inl ⟨by rfl, ?_⟩) ?_ ?_
                            rotate_left
                            · intro w'
                              go_simp
                              with_reducible rfl
                            rotate_left
                            · simp only [Act.put, List.setIfInBounds_toArray, List.set_cons_zero, List.set_cons_succ, i64_w, i32_w]
                              rfl
                            refine one_ (i := 0) (N := some 65) #[true, true, true, true, false] rfl rfl (by kernel_rfl) (by decide) (fun K hK => ?_)
                            refine goes_ Try.func23 (by kernel_rfl) rfl #[.pointer (some ⟨gb373, 0, none⟩)] (by rfl) rfl rfl (by (try simp only [List.map_toArray, List.map_cons, List.map_nil]); first | done | rfl | (simp only [List.length_drop, List.length_take]; rfl)) ?_
                            with_reducible refine (header_Counter_Pending.calls gb373 t397 t398 t405 t406 t407 w _ ?side1 ?side2 A84.out).mono ?_
                            (case side1 => repeat (first | (with_reducible first | exact HI373.out | apply IsS50.alloc | apply IsS50.drewN | apply IsS50.drew | apply IsS50.set_0 | apply IsS50.set_1 | refine IsS50.far ?_ NB373_374.out (by (with_reducible repeat (first | apply typed_set | apply typed_alloc | apply typed_drewN | apply typed_drew)); exact typed_of BK374.out (by decide)) _ | refine IsS50.far ?_ NB373_404.out (by (with_reducible repeat (first | apply typed_set | apply typed_alloc | apply typed_drewN | apply typed_drew)); exact typed_of BK404.out (by decide)) _) | exact HI373.out))
                            (case side2 => repeat (first | (with_reducible first | exact HB.out | apply below_alloc | apply pw_below_drewN | apply below_drew1 | refine below_set ?_ (IsS50.ge HI373.out) | refine below_set ?_ GE374.out | refine below_set ?_ GE404.out) | exact HB.out))
                            rintro e w99 ⟨rfl, hi, hb, hk⟩
                            refine ⟨_, rfl, ?_⟩
                            have n0_ := Aside0.mk (Kd.Q_mono (Kd.Q_keepT (IsS50.apartQ (show IsS50 w _ gb373 t397 t398 from by repeat (first | (with_reducible first | exact HI373.out | apply IsS50.alloc | apply IsS50.drewN | apply IsS50.drew | apply IsS50.set_0 | apply IsS50.set_1 | refine IsS50.far ?_ NB373_374.out (by (with_reducible repeat (first | apply typed_set | apply typed_alloc | apply typed_drewN | apply typed_drew)); exact typed_of BK374.out (by decide)) _ | refine IsS50.far ?_ NB373_404.out (by (with_reducible repeat (first | apply typed_set | apply typed_alloc | apply typed_drewN | apply typed_drew)); exact typed_of BK404.out (by decide)) _) | exact HI373.out)) (by (with_reducible repeat (first | apply Kd.Q_alloc | apply Kd.Q_drewN | apply Kd.Q_drew)); exact HO_375001.out) (by decide)) hk (fun _ h => h.2) (by decide)) (fun _ h => h.1))
                            have n1_ := Aside0.mk (KeepT.blk hk (g' := gb374) (o := .cells #[.int .i64 t399, .slice Ao95 t400.length co95] 52 (0, 0)) (by (with_reducible repeat (first | refine blk_drewN ?_ _ | refine blk_drew ?_ | refine blk_alloc ?_ _)); exact BK374.out) NB374_373.out (by simp))
                            have n2_ := Aside0.mk (Kd.R_mono (Kd.R_keepT (IsS50.apart (show IsS50 w _ gb373 t397 t398 from by repeat (first | (with_reducible first | exact HI373.out | apply IsS50.alloc | apply IsS50.drewN | apply IsS50.drew | apply IsS50.set_0 | apply IsS50.set_1 | refine IsS50.far ?_ NB373_374.out (by (with_reducible repeat (first | apply typed_set | apply typed_alloc | apply typed_drewN | apply typed_drew)); exact typed_of BK374.out (by decide)) _ | refine IsS50.far ?_ NB373_404.out (by (with_reducible repeat (first | apply typed_set | apply typed_alloc | apply typed_drewN | apply typed_drew)); exact typed_of BK404.out (by decide)) _) | exact HI373.out)) (by (with_reducible repeat (first | apply Kd.R_alloc | apply Kd.R_drewN | apply Kd.R_drew)); exact HO402.out) (by decide)) hk (fun _ h => h.2) (by decide)) (fun _ h => h.1))
                            have n3_ := Aside0.mk (KeepT.blk hk (g' := gb404) (o := .cells #[.int .i64 t399, .slice Ao95 t400.length co95] 52 (0, 0)) (by (with_reducible repeat (first | refine blk_drewN ?_ _ | refine blk_drew ?_ | refine blk_alloc ?_ _)); exact BK404.out) NB404_373.out (by simp))
                            have n4_ := Aside0.mk (hb)
                            have n5_ := Aside0.mk (hi)
                            clear HO_375001
                            clear BK374
                            clear HO402
                            clear BK404
                            clear HB
                            clear HI373
                            have HO_375001 := n0_
                            have BK374 := n1_
                            have HO402 := n2_
                            have BK404 := n3_
                            have HB := n4_
                            have HI373 := n5_
                            clear n0_ n1_ n2_ n3_ n4_ n5_
                            (try clear hb)
                            (try clear hb2)
                            (try clear hk)
                            (try clear hi)
                            refine hK.out _ _ ⟨(blk_cell BK374.out 0).trans rfl, (blk_cell BK374.out 1).trans rfl⟩ (fun hHeld => ?_)
                            clear hK K
                            refine norm_ (a' := ?_) ?_ ?_
                            rotate_left
                            · show Act.put _ (some 65) _ = _
                              simp only [Act.put, List.setIfInBounds_toArray, List.set_cons_zero, List.set_cons_succ, i64_w, i32_w]
                              rfl
                            refine pure_ (i := 4) (N := some 69) (v := ?_) (a' := ?_) #[true, true, true, true, true] rfl rfl (by kernel_rfl) (fun _ _ _ h => h) (Or.inl ⟨by rfl, ?_⟩) ?_ ?_
                            rotate_left
                            · intro w'
                              go_simp
                              with_reducible rfl
                            rotate_left
                            · simp only [Act.put, List.setIfInBounds_toArray, List.set_cons_zero, List.set_cons_succ, i64_w, i32_w]
                              rfl
                            refine done_ (by kernel_rfl) ?_
                            try go_wp2
                            go_roundg k2
                            case measure => have := HK1.out; have := HK2.out; omega
                            case rel => exact ⟨(wrap64 (x34_2 + 1)), (t406), (t407), (t399), (t400), (.slice Ao95 t400.length co95), (by first | rfl | (simp; done) | (simp [*]; done)), H', ⟨by have := HK1.out; have := HK2.out; omega⟩, ⟨Kd.Q_of_R (by (with_reducible repeat (first | apply Kd.R_alloc | apply Kd.R_drewN | apply Kd.R_drew)); exact Kd.R_mono HO402.out (fun _ hk => trivial))⟩, ⟨by (with_reducible repeat (first | refine blk_drewN ?_ _ | refine blk_drew ?_ | refine blk_alloc ?_ _)); exact BK374.out⟩, ⟨by repeat (first | (with_reducible first | exact HI373.out | apply IsS50.alloc | apply IsS50.drewN | apply IsS50.drew | apply IsS50.set_0 | apply IsS50.set_1 | refine IsS50.far ?_ NB373_374.out (by (with_reducible repeat (first | apply typed_set | apply typed_alloc | apply typed_drewN | apply typed_drew)); exact typed_of BK374.out (by decide)) _ | refine IsS50.far ?_ NB373_404.out (by (with_reducible repeat (first | apply typed_set | apply typed_alloc | apply typed_drewN | apply typed_drew)); exact typed_of BK404.out (by decide)) _) | exact HI373.out)⟩, ⟨by repeat (first | (with_reducible first | exact HB.out | apply below_alloc | apply pw_below_drewN | apply below_drew1 | refine below_set ?_ (IsS50.ge HI373.out) | refine below_set ?_ GE374.out | refine below_set ?_ GE404.out) | exact HB.out)⟩⟩
                          · rw [if_neg c85] at H
                            have c85b0 : (t405 == (t400.length : Int)) = false := beq_eq_false_iff_ne.mpr c85
                            have c85b1 : (t405 != (t400.length : Int)) = true := bne_iff_ne.mpr c85
                            obtain rfl := Option.some.inj H
                            exact absurd hr_ (by decide)
                    · rw [if_neg c24] at H
                      exact absurd H (by simp)
                  · rw [if_neg c23] at H
                    exact absurd H (by simp)
                · rw [if_neg c22] at H
                  have c22b0 : decide (x34_2 < (l1.length : Int)) = false := decide_eq_false c22
                  clear c22
                  obtain rfl := Option.some.inj H
                  go_wp2
                  go_ret
                  exact ⟨by first | rfl | (simp [errW_none, errW_some] <;> rfl) | (simp [*, errW_none, errW_some] <;> rfl), by repeat (first | (with_reducible first | exact HB.out | apply below_alloc | apply pw_below_drewN | apply below_drew1 | refine below_set ?_ (IsS50.ge HI373.out) | refine below_set ?_ GE374.out) | exact HB.out)⟩
  · replace c4 := Bool.eq_false_iff.mpr c4
    subst c4
    have H1 : (some false) = some r := by rw [if_neg (show ¬ (false = true) by decide)] at H; exact H
    clear H
    have H := H1
    clear H1
    obtain rfl := Option.some.inj H
    exact absurd hr_ (by decide)

/-- THE ONE PURE STATEMENT of greenscreenlaw09_HeaderCounts: yours. -/
def greenscreenlaw09_HeaderCounts.Pure : Prop := ∀ (a0 : Int) (l1 : List Int), (Lit.int .i64 a0).wf = true → l1.length ≤ maxLen → l1.length * 8 ≤ 140737488351232 → (∀ x ∈ l1, (Lit.int .i64 x).wf = true) → ∃ k, greenscreenlaw09_HeaderCounts.f k a0 l1 = some true
theorem greenscreenlaw09_HeaderCounts.walk (P : greenscreenlaw09_HeaderCounts.Pure) (a0 : Int) (a1 : Option Addr) (len1 cap1 : Nat) (z1 : List Int) (w : World) (w0 : (Lit.int .i64 a0).wf = true) (w1 : (a1 = none ∧ len1 = 0 ∧ cap1 = 0 ∧ z1 = []) ∨ ∃ x, a1 = some x ∧ len1 ≤ cap1 ∧ cap1 ≤ maxLen ∧ z1.length = cap1 ∧ (∀ i, i < z1.length → w.cell? (x.add i) = some (.int .i64 (z1.getD i 0))) ∧ ∀ n ∈ z1, (Lit.int .i64 n).wf = true) (y1 : len1 * 8 ≤ 140737488351232) :
    Calls Try.prog 5 #[.int .i64 a0, .slice a1 len1 cap1] w fun e w' => e = .returned (.bool true) ∧ Below w.heap.size w w' := by
  obtain ⟨l1, rfl, hr1, hm1, hw1, hc1⟩ := ReadsInt.ofRowC w1
  obtain ⟨k, h⟩ := P a0 l1 w0 hm1 y1 hw1
  refine (greenscreenlaw09_HeaderCounts.calls k a0 _ _ l1 true rfl w (Kd.C_of_reads (d := (0 : Int)) (h1 := fun _ => rfl) hr1) hc1 h).mono ?_
  rintro e w' ⟨rfl, hd⟩
  exact ⟨rfl, hd⟩

end Go.Proofs.Ytnhogaelhggheaa.P
