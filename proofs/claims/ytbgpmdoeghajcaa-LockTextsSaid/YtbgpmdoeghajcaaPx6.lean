-- Laid by program out of the translation, some functions' texts by hand (a session's own run, not print.sh's). Lean checks it.
import Derived.Test.YtbgpmdoeghajcaaPx0
import Derived.Test.YtbgpmdoeghajcaaPx1
import Derived.Test.YtbgpmdoeghajcaaPx2
namespace Go.Proofs.Ytbgpmdoeghajcaa.P
open Go.RowKit Go.Proofs.YtbgpmdoeghajcaaW.PrintWords Go.Proofs.YtbgpmdoeghajcaaW.PrintLast Go.Proofs.YtbgpmdoeghajcaaW.PrintMore
attribute [local go_sem] max2_int min2_int max_two min_two max_three min_three max_four min_four   -- for this text's walks alone
set_option linter.unusedVariables false
set_option linter.unusedSimpArgs false

/-! ### greenscreenlaw21_LockTexts: function 5 -/
mutual
def greenscreenlaw21_LockTexts.l0 : Nat → Int → List (S30) → Int → Int → Int → Int → Int → Option (Bool)
  | 0, _, _, _, _, _, _, _ => none
  | k + 1, x1, x13, x14, x15, x346000, x346001, x346002 => if x15 < x14 then (if 0 ≤ x15 then (if x15 < (x13.length : Int) then (if ((rd_T30 x13 x15).f0) = 0 then ((lock_Lock_Open.f x346000 x346001 x346002).bind fun bt348 => (greenscreenlaw21_LockTexts.j2 k x1 x13 x14 x15 bt348.1 bt348.2.1 bt348.2.2)) else (if ((rd_T30 x13 x15).f0) = 1 then ((lock_Lock_Shut.f x346000 x346001 x346002).bind fun bt351 => (greenscreenlaw21_LockTexts.j2 k x1 x13 x14 x15 bt351.1 bt351.2.1 bt351.2.2)) else (if ((rd_T30 x13 x15).f0) = 2 then (greenscreenlaw21_LockTexts.j1 k x1 x13 x14 x15 ((rd_T30 x13 x15).f0) (((rd_T30 x13 x15).f0) == 2) x346000 x346001 x346002 ((rd_T30 x13 x15).f0) ((rd_T30 x13 x15).f1)) else (greenscreenlaw21_LockTexts.j1 k x1 x13 x14 x15 ((rd_T30 x13 x15).f0) (((rd_T30 x13 x15).f0) == 3) x346000 x346001 x346002 ((rd_T30 x13 x15).f0) ((rd_T30 x13 x15).f1))))) else (none)) else (none)) else ((lock_Lock_Open.f x346000 x346001 x346002).bind fun bt386 => ((lock_Lock_May.f bt386.1 bt386.2.1 bt386.2.2).bind fun bt389 => (if bt389.1 = 0 then ((lock_Lock_Fail.f bt389.2.1 bt389.2.2.1 bt389.2.2.2 x1).bind fun bt393 => (if bt393.1 = x1 then ((lock_Lock_State.f bt393.2.1 bt393.2.2.1 bt393.2.2.2).bind fun bt397 => (if ((bt397.1 == 3) != (x1 != 0)) = true then (greenscreenlaw21_LockTexts.j3 k true bt397.2.1 bt397.2.2.1 bt397.2.2.2) else ((lock_Lock_Reset.f bt397.2.1 bt397.2.2.1 bt397.2.2.2).bind fun bt401 => (greenscreenlaw21_LockTexts.j3 k (bt401.1 != (x1 != 0)) bt401.2.1 bt401.2.2.1 bt401.2.2.2)))) else (greenscreenlaw21_LockTexts.j3 k true bt393.2.1 bt393.2.2.1 bt393.2.2.2))) else (greenscreenlaw21_LockTexts.j3 k true bt389.2.1 bt389.2.2.1 bt389.2.2.2))))
def greenscreenlaw21_LockTexts.j2 : Nat → Int → List (S30) → Int → Int → Int → Int → Int → Option (Bool)
  | 0, _, _, _, _, _, _, _ => none
  | k + 1, x1, x13, x14, x15, x346000, x346001, x346002 => (lock_Lock_Text.f x346000 x346001 x346002).bind fun bt370 => ((lock_Lock_May.f bt370.2.1 bt370.2.2.1 bt370.2.2.2).bind fun bt374 => (if ((bt370.1.toList == ([] : List UInt8)) != (bt374.1 == 0)) = true then (some false) else ((lock_Lock_Why.f bt374.2.1 bt374.2.2.1 bt374.2.2.2).bind fun bt378 => ((lock_Lock_State.f bt378.2.1 bt378.2.2.1 bt378.2.2.2).bind fun bt382 => (if ((bt378.1 != 0) != (bt382.1 == 3)) = true then (some false) else (greenscreenlaw21_LockTexts.l0 k x1 x13 x14 (wrap64 (x15 + 1)) bt382.2.1 bt382.2.2.1 bt382.2.2.2))))))
def greenscreenlaw21_LockTexts.j1 : Nat → Int → List (S30) → Int → Int → Int → Bool → Int → Int → Int → Int → Int → Option (Bool)
  | 0, _, _, _, _, _, _, _, _, _, _, _ => none
  | k + 1, x1, x13, x14, x15, x20, x27, x346000, x346001, x346002, x348000, x348001 => if x27 = true then ((lock_Lock_Send.f x346000 x346001 x346002).bind fun bt354 => (greenscreenlaw21_LockTexts.j2 k x1 x13 x14 x15 bt354.2.1 bt354.2.2.1 bt354.2.2.2)) else (if x20 = 4 then ((lock_Lock_Fail.f x346000 x346001 x346002 x348001).bind fun bt358 => (greenscreenlaw21_LockTexts.j2 k x1 x13 x14 x15 bt358.2.1 bt358.2.2.1 bt358.2.2.2)) else (if x20 = 5 then ((lock_Lock_Reset.f x346000 x346001 x346002).bind fun bt362 => (greenscreenlaw21_LockTexts.j2 k x1 x13 x14 x15 bt362.2.1 bt362.2.2.1 bt362.2.2.2)) else (if x20 = 6 then ((lock_Lock_Restore.f x346000 x346001 x346002).bind fun bt366 => (greenscreenlaw21_LockTexts.j2 k x1 x13 x14 x15 bt366.2.1 bt366.2.2.1 bt366.2.2.2)) else (greenscreenlaw21_LockTexts.j2 k x1 x13 x14 x15 x346000 x346001 x346002))))
def greenscreenlaw21_LockTexts.j3 : Nat → Bool → Int → Int → Int → Option (Bool)
  | 0, _, _, _, _ => none
  | k + 1, x76, x346000, x346001, x346002 => if x76 = true then (some false) else ((lock_Lock_State.f x346000 x346001 x346002).bind fun bt405 => (if bt405.1 = 1 then ((lock_Lock_Send.f bt405.2.1 bt405.2.2.1 bt405.2.2.2).bind fun bt409 => (if bt409.1 = 0 then ((lock_Lock_Reset.f bt409.2.1 bt409.2.2.1 bt409.2.2.2).bind fun bt413 => (if bt413.1 = true then (some false) else ((lock_Lock_Restore.f bt413.2.1 bt413.2.2.1 bt413.2.2.2).bind fun bt417 => (some bt417.1)))) else (some false))) else (some false)))
end
def greenscreenlaw21_LockTexts.f (k : Nat) (l0 : List (S30)) (a1 : Int) : Option (Bool) := (greenscreenlaw21_alive.f).bind fun t344 => (if t344 = true then (if (l0.length : Int) > 100 then (some true) else (greenscreenlaw21_LockTexts.l0 k a1 l0 (l0.length : Int) 0 0 0 0)) else (some false))
theorem greenscreenlaw21_LockTexts.mono_l : ∀ k, (∀ y0 y1 y2 y3 y4 y5 y6, LeO (greenscreenlaw21_LockTexts.l0 k y0 y1 y2 y3 y4 y5 y6) (greenscreenlaw21_LockTexts.l0 (k + 1) y0 y1 y2 y3 y4 y5 y6)) ∧ (∀ y0 y1 y2 y3 y4 y5 y6, LeO (greenscreenlaw21_LockTexts.j2 k y0 y1 y2 y3 y4 y5 y6) (greenscreenlaw21_LockTexts.j2 (k + 1) y0 y1 y2 y3 y4 y5 y6)) ∧ (∀ y0 y1 y2 y3 y4 y5 y6 y7 y8 y9 y10, LeO (greenscreenlaw21_LockTexts.j1 k y0 y1 y2 y3 y4 y5 y6 y7 y8 y9 y10) (greenscreenlaw21_LockTexts.j1 (k + 1) y0 y1 y2 y3 y4 y5 y6 y7 y8 y9 y10)) ∧ (∀ y0 y1 y2 y3, LeO (greenscreenlaw21_LockTexts.j3 k y0 y1 y2 y3) (greenscreenlaw21_LockTexts.j3 (k + 1) y0 y1 y2 y3))
  | 0 => ⟨fun _ _ _ _ _ _ _ r h => by simp [greenscreenlaw21_LockTexts.l0] at h, fun _ _ _ _ _ _ _ r h => by simp [greenscreenlaw21_LockTexts.j2] at h, fun _ _ _ _ _ _ _ _ _ _ _ r h => by simp [greenscreenlaw21_LockTexts.j1] at h, fun _ _ _ _ r h => by simp [greenscreenlaw21_LockTexts.j3] at h⟩
  | k + 1 => by
    obtain ⟨ih0, ih1, ih2, ih3⟩ := greenscreenlaw21_LockTexts.mono_l k
    refine ⟨?_, ?_, ?_, ?_⟩
    · intro y0 y1 y2 y3 y4 y5 y6
      unfold greenscreenlaw21_LockTexts.l0
      repeat' first
      | (with_reducible exact ih0 _ _ _ _ _ _ _)
      | (with_reducible exact ih1 _ _ _ _ _ _ _)
      | (with_reducible exact ih2 _ _ _ _ _ _ _ _ _ _ _)
      | (with_reducible exact ih3 _ _ _ _)
      | (with_reducible exact LeO.refl _)
      | (with_reducible exact LeO.none _)
      | (with_reducible refine LeO.ite ?_ ?_)
      | (with_reducible refine LeO.bind ?_ (fun _ => ?_))
      | exact ih0 _ _ _ _ _ _ _
      | exact ih1 _ _ _ _ _ _ _
      | exact ih2 _ _ _ _ _ _ _ _ _ _ _
      | exact ih3 _ _ _ _
      | exact LeO.none _
      | refine LeO.ite ?_ ?_
      | refine LeO.bind ?_ (fun _ => ?_)
    · intro y0 y1 y2 y3 y4 y5 y6
      unfold greenscreenlaw21_LockTexts.j2
      repeat' first
      | (with_reducible exact ih0 _ _ _ _ _ _ _)
      | (with_reducible exact ih1 _ _ _ _ _ _ _)
      | (with_reducible exact ih2 _ _ _ _ _ _ _ _ _ _ _)
      | (with_reducible exact ih3 _ _ _ _)
      | (with_reducible exact LeO.refl _)
      | (with_reducible exact LeO.none _)
      | (with_reducible refine LeO.ite ?_ ?_)
      | (with_reducible refine LeO.bind ?_ (fun _ => ?_))
      | exact ih0 _ _ _ _ _ _ _
      | exact ih1 _ _ _ _ _ _ _
      | exact ih2 _ _ _ _ _ _ _ _ _ _ _
      | exact ih3 _ _ _ _
      | exact LeO.none _
      | refine LeO.ite ?_ ?_
      | refine LeO.bind ?_ (fun _ => ?_)
    · intro y0 y1 y2 y3 y4 y5 y6 y7 y8 y9 y10
      unfold greenscreenlaw21_LockTexts.j1
      repeat' first
      | (with_reducible exact ih0 _ _ _ _ _ _ _)
      | (with_reducible exact ih1 _ _ _ _ _ _ _)
      | (with_reducible exact ih2 _ _ _ _ _ _ _ _ _ _ _)
      | (with_reducible exact ih3 _ _ _ _)
      | (with_reducible exact LeO.refl _)
      | (with_reducible exact LeO.none _)
      | (with_reducible refine LeO.ite ?_ ?_)
      | (with_reducible refine LeO.bind ?_ (fun _ => ?_))
      | exact ih0 _ _ _ _ _ _ _
      | exact ih1 _ _ _ _ _ _ _
      | exact ih2 _ _ _ _ _ _ _ _ _ _ _
      | exact ih3 _ _ _ _
      | exact LeO.none _
      | refine LeO.ite ?_ ?_
      | refine LeO.bind ?_ (fun _ => ?_)
    · intro y0 y1 y2 y3
      unfold greenscreenlaw21_LockTexts.j3
      repeat' first
      | (with_reducible exact ih0 _ _ _ _ _ _ _)
      | (with_reducible exact ih1 _ _ _ _ _ _ _)
      | (with_reducible exact ih2 _ _ _ _ _ _ _ _ _ _ _)
      | (with_reducible exact ih3 _ _ _ _)
      | (with_reducible exact LeO.refl _)
      | (with_reducible exact LeO.none _)
      | (with_reducible refine LeO.ite ?_ ?_)
      | (with_reducible refine LeO.bind ?_ (fun _ => ?_))
      | exact ih0 _ _ _ _ _ _ _
      | exact ih1 _ _ _ _ _ _ _
      | exact ih2 _ _ _ _ _ _ _ _ _ _ _
      | exact ih3 _ _ _ _
      | exact LeO.none _
      | refine LeO.ite ?_ ?_
      | refine LeO.bind ?_ (fun _ => ?_)
theorem greenscreenlaw21_LockTexts.mono : ∀ a0 a1 k, LeO (greenscreenlaw21_LockTexts.f k a0 a1) (greenscreenlaw21_LockTexts.f (k + 1) a0 a1) := by
  intro a0 a1 k
  obtain ⟨ih0, ih1, ih2, ih3⟩ := greenscreenlaw21_LockTexts.mono_l k
  unfold greenscreenlaw21_LockTexts.f
  repeat' first
      | (with_reducible exact ih0 _ _ _ _ _ _ _)
      | (with_reducible exact ih1 _ _ _ _ _ _ _)
      | (with_reducible exact ih2 _ _ _ _ _ _ _ _ _ _ _)
      | (with_reducible exact ih3 _ _ _ _)
      | (with_reducible exact LeO.refl _)
      | (with_reducible exact LeO.none _)
      | (with_reducible refine LeO.ite ?_ ?_)
      | (with_reducible refine LeO.bind ?_ (fun _ => ?_))
      | exact ih0 _ _ _ _ _ _ _
      | exact ih1 _ _ _ _ _ _ _
      | exact ih2 _ _ _ _ _ _ _ _ _ _ _
      | exact ih3 _ _ _ _
      | exact LeO.none _
      | refine LeO.ite ?_ ?_
      | refine LeO.bind ?_ (fun _ => ?_)
set_option maxHeartbeats 8000000 in
set_option maxRecDepth 100000 in
theorem greenscreenlaw21_LockTexts.calls (k : Nat) (A0 : Option Addr) (c0 : Nat) (l0 : List (S30)) (a1 : Int) (r : Bool) (w : World) (hr0 : Kd.C k30 w A0 l0.length l0) (hc0 : l0.length ≤ c0) (h : greenscreenlaw21_LockTexts.f k l0 a1 = some r) :
    Calls Try.prog 5 #[.slice A0 l0.length c0, .int .i64 a1] w fun e w' => e = .returned (.bool r) ∧ Below w.heap.size w w' := by
  have hu26 := Try.underlying26
  have hu30 := Try.underlying30
  have HR0 := Aside0.mk hr0
  have HC0 := Aside0.mk hc0
  clear hr0 hc0
  have HB := Aside0.mk (Below.refl w.heap.size w)
  have H : ((greenscreenlaw21_alive.f).bind fun t344 => (if t344 = true then (if (l0.length : Int) > 100 then (some true) else (greenscreenlaw21_LockTexts.l0 k a1 l0 (l0.length : Int) 0 0 0 0)) else (some false))) = some r := h
  clear h
  replace H := Option.bind_eq_some_iff.mp H
  obtain ⟨t344, A30, H⟩ := H
  replace H : (if t344 = true then (if (l0.length : Int) > 100 then (some true) else (greenscreenlaw21_LockTexts.l0 k a1 l0 (l0.length : Int) 0 0 0 0)) else (some false)) = some r := H
  have A3 := Aside0.mk A30
  clear A30
  by_cases c4 : t344 = true
  · subst c4
    have H1 : (if (l0.length : Int) > 100 then (some true) else (greenscreenlaw21_LockTexts.l0 k a1 l0 (l0.length : Int) 0 0 0 0)) = some r := by rw [if_pos rfl] at H; exact H
    clear H
    have H := H1
    clear H1
    by_cases c5 : (l0.length : Int) > 100
    · rw [if_pos c5] at H
      have c5b0 : decide (100 < (l0.length : Int)) = true := decide_eq_true c5
      have c5b1 : decide (100 < l0.length) = true := decide_eq_true (by omega)
      clear c5
      obtain rfl := Option.some.inj H
      go_enter Try.func5, Try.ntmps5
      go_wp2_with (first | ((with_reducible refine gate_callee (f := 6) rfl ?_); refine goesL_ (some 8) rfl rfl Try.func6 (by kernel_rfl) rfl #[] rfl (by (try simp only [List.map_toArray, List.map_cons, List.map_nil]); first | done | rfl | (simp only [List.length_drop, List.length_take]; rfl)) ?_; (with_reducible refine (greenscreenlaw21_alive.calls  true _ A3.out).mono ?_); rintro e w6 ⟨rfl, hb⟩; refine ⟨_, rfl, ?_⟩; have n0_ := Aside0.mk (below_step (by repeat (first | (with_reducible first | exact HB.out | apply below_alloc | apply pw_below_drewN | apply below_drew1) | exact HB.out)) hb); clear HB; have HB := n0_; clear n0_; (try clear hb); (try clear hb2); (try clear hk); (try clear hi)))
      go_ret
      exact ⟨by first | rfl | (simp [errW_none, errW_some] <;> rfl) | (simp [*, errW_none, errW_some] <;> rfl), by repeat (first | (with_reducible first | exact HB.out | apply below_alloc | apply pw_below_drewN | apply below_drew1) | exact HB.out)⟩
    · rw [if_neg c5] at H
      have c5b0 : decide (100 < (l0.length : Int)) = false := decide_eq_false c5
      have c5b1 : decide (100 < l0.length) = false := decide_eq_false (by omega)
      clear c5
      have H' := Aside0.mk H
      clear H
      go_enter Try.func5, Try.ntmps5
      go_wp2_with (first | ((with_reducible refine gate_callee (f := 6) rfl ?_); refine goesL_ (some 8) rfl rfl Try.func6 (by kernel_rfl) rfl #[] rfl (by (try simp only [List.map_toArray, List.map_cons, List.map_nil]); first | done | rfl | (simp only [List.length_drop, List.length_take]; rfl)) ?_; (with_reducible refine (greenscreenlaw21_alive.calls  true _ A3.out).mono ?_); rintro e w7 ⟨rfl, hb⟩; refine ⟨_, rfl, ?_⟩; have n0_ := Aside0.mk (below_step (by repeat (first | (with_reducible first | exact HB.out | apply below_alloc | apply pw_below_drewN | apply below_drew1) | exact HB.out)) hb); clear HB; have HB := n0_; clear n0_; (try clear hb); (try clear hb2); (try clear hk); (try clear hi)) | ((with_reducible refine gate_dst (N := 5) rfl ?_); refine box_event ?hg (N := 5) ?hd (cs := #[.int .i64 0, .int .i64 0, .int .i64 0]) (t := 26) ?hr ?_; (case hd => rfl); (case hg => rfl); (case hr => first | (go_simp; done) | (go_simp; rfl)); intro gb345 hg w8 hbox hb; have n0_ := Aside0.mk (below_step (by repeat (first | (with_reducible first | exact HB.out | apply below_alloc | apply pw_below_drewN | apply below_drew1) | exact HB.out)) hb); have n1_ := Aside0.mk ((⟨hbox, (by rw [hg]; exact (below_size (by repeat (first | (with_reducible first | exact HB.out | apply below_alloc | apply pw_below_drewN | apply below_drew1) | exact HB.out))) : w.heap.size ≤ gb345)⟩ : IsS26 w _ gb345 0 0 0)); clear HB; have HB := n0_; have HI345 := n1_; clear n0_ n1_; clear hb hbox hg))
      go_loopg [15] k (fun kq v15 w' => ∃ (x15_1 : Int) (x346000_1 : Int) (x346001_1 : Int) (x346002_1 : Int), v15 = .int .i64 x15_1 ∧ Aside0 (greenscreenlaw21_LockTexts.l0 kq a1 l0 (l0.length : Int) x15_1 x346000_1 x346001_1 x346002_1 = some r) ∧ Aside0 (kq ≤ k) ∧ Aside0 (IsS26 w w' gb345 x346000_1 x346001_1 x346002_1) ∧ Aside0 (Below w.heap.size w w'))
      case atStart => exact ⟨(0), (0), (0), (0), (by first | rfl | (simp; done) | (simp [*]; done)), H', ⟨Nat.le_refl _⟩, ⟨by repeat (first | (with_reducible first | exact HI345.out | apply IsS26.alloc | apply IsS26.drewN | apply IsS26.drew | apply IsS26.set_0 | apply IsS26.set_1 | apply IsS26.set_2) | exact HI345.out)⟩, ⟨by repeat (first | (with_reducible first | exact HB.out | apply below_alloc | apply pw_below_drewN | apply below_drew1 | refine below_set ?_ (IsS26.ge HI345.out)) | exact HB.out)⟩⟩
      case round =>
        clear H'
        try clear p2
        try clear c4
        try clear c5
        try clear c5b0
        try clear c5b1
        try clear c6
        obtain ⟨x15_1, x346000_1, x346001_1, x346002_1, rfl, HA, HK1, HI345, HB⟩ := hrel
        cases gk with
        | zero => exact absurd HA.out (by simp [greenscreenlaw21_LockTexts.l0])
        | succ k1 =>
          have H := HA.out
          clear HA
          simp only [greenscreenlaw21_LockTexts.l0] at H
          by_cases c9 : x15_1 < (l0.length : Int)
          · rw [if_pos c9] at H
            have c9b0 : decide (x15_1 < (l0.length : Int)) = true := decide_eq_true c9
            clear c9
            by_cases c10 : 0 ≤ x15_1
            · rw [if_pos c10] at H
              have c10b0 : decide (0 ≤ x15_1) = true := decide_eq_true c10
              clear c10
              by_cases c11 : x15_1 < (l0.length : Int)
              · rw [if_pos c11] at H
                have c11b0 : decide (x15_1 < (l0.length : Int)) = true := decide_eq_true c11
                clear c11
                have HC12 := Aside0.mk H
                clear H
                have p346 : 0 ≤ (x15_1 : Int) := of_decide_eq_true (by first | (with_reducible assumption) | assumption)
                have q346 : x15_1 < (l0.length : Int) := of_decide_eq_true (by first | (with_reducible assumption) | assumption)
                obtain ⟨ad346, e346, hx346_0, hx346_1⟩ := at_T30 HR0.out x15_1 p346 q346
                cases e346
                replace hx346_0 := (HB.out.cell (World.block_lt_of_cell? w _ hx346_0)).trans hx346_0
                replace hx346_1 := (HB.out.cell (World.block_lt_of_cell? w _ hx346_1)).trans hx346_1
                replace p346 := eq_true p346
                replace q346 := eq_true q346
                go_upto_block 2 with (first | ((with_reducible refine gate_dst (N := 7) rfl ?_); refine box_event ?hg (N := 7) ?hd (cs := #[.int .i64 0, .int .i64 0]) (t := 30) ?hr ?_; (case hd => rfl); (case hg => rfl); (case hr => first | (go_simp; done) | (go_simp; rfl)); intro gb347 hg w13 hbox hb; have n0_ := Aside0.mk (IsS26.below (by repeat (first | (with_reducible first | exact HI345.out | apply IsS26.alloc | apply IsS26.drewN | apply IsS26.drew | apply IsS26.set_0 | apply IsS26.set_1 | apply IsS26.set_2) | exact HI345.out)) hb); have n1_ := Aside0.mk (below_step (by repeat (first | (with_reducible first | exact HB.out | apply below_alloc | apply pw_below_drewN | apply below_drew1 | refine below_set ?_ (IsS26.ge HI345.out)) | exact HB.out)) hb); have n2_ := Aside0.mk (hbox); have n3_ := Aside0.mk ((by rw [hg]; exact (below_size (by repeat (first | (with_reducible first | exact HB.out | apply below_alloc | apply pw_below_drewN | apply below_drew1 | refine below_set ?_ (IsS26.ge HI345.out)) | exact HB.out))) : w.heap.size ≤ gb347)); have n4_ := Aside0.mk ((by rw [hg]; exact (below_size (by repeat (first | (with_reducible first | exact HB.out | apply below_alloc | apply pw_below_drewN | apply below_drew1 | refine below_set ?_ (IsS26.ge HI345.out)) | exact HB.out))) : w.heap.size ≤ gb347)); have n5_ := Aside0.mk ((by rw [hg]; exact Nat.ne_of_lt (IsS26.lt (show IsS26 w _ gb345 x346000_1 x346001_1 x346002_1 from by repeat (first | (with_reducible first | exact HI345.out | apply IsS26.alloc | apply IsS26.drewN | apply IsS26.drew | apply IsS26.set_0 | apply IsS26.set_1 | apply IsS26.set_2) | exact HI345.out))) : gb345 ≠ gb347)); have n6_ := Aside0.mk ((by rw [hg]; exact Nat.ne_of_gt (IsS26.lt (show IsS26 w _ gb345 x346000_1 x346001_1 x346002_1 from by repeat (first | (with_reducible first | exact HI345.out | apply IsS26.alloc | apply IsS26.drewN | apply IsS26.drew | apply IsS26.set_0 | apply IsS26.set_1 | apply IsS26.set_2) | exact HI345.out))) : gb347 ≠ gb345)); clear HI345; clear HB; have HI345 := n0_; have HB := n1_; have BK347 := n2_; have GW347 := n3_; have GE347 := n4_; have NB345_347 := n5_; have NB347_345 := n6_; clear n0_ n1_ n2_ n3_ n4_ n5_ n6_; clear hb hbox hg; have hnb14 := NB347_345.out; have hnc14 := NB345_347.out; have hcz15_0 : w13.cell? ⟨gb347, 0, none⟩ = some (.int .i64 0) := (blk_cell BK347.out 0).trans rfl; have hcz15_1 : w13.cell? ⟨gb347, 1, none⟩ = some (.int .i64 0) := (blk_cell BK347.out 1).trans rfl; have hfz15_0 := blk_frozen BK347.out 0; have hfz15_1 := blk_frozen BK347.out 1))
                (try simp only [Act.put, List.setIfInBounds_toArray, List.set_cons_zero, List.set_cons_succ])
                go_cut [] (fun wc => ∃ (kq : Nat) (x346000_11 : Int) (x346001_11 : Int) (x346002_11 : Int), Aside0 (greenscreenlaw21_LockTexts.j2 kq a1 l0 (l0.length : Int) x15_1 x346000_11 x346001_11 x346002_11 = some r) ∧ Aside0 (kq ≤ k1) ∧ Aside0 (wc.heap[gb347]? = some (.cells #[.int .i64 ((rd_T30 l0 x15_1).f0), .int .i64 ((rd_T30 l0 x15_1).f1)] 30 (0, 0))) ∧ Aside0 (IsS26 w wc gb345 x346000_11 x346001_11 x346002_11) ∧ Aside0 (Below w.heap.size w wc))
                case first =>
                  have H := HC12.out
                  clear HC12
                  by_cases c16 : ((rd_T30 l0 x15_1).f0) = 0
                  · rw [if_pos c16] at H
                    have c16b0 : (((rd_T30 l0 x15_1).f0) == 0) = true := beq_iff_eq.mpr c16
                    have c16b1 : (((rd_T30 l0 x15_1).f0) != 0) = false := bne_eq_false_iff_eq.mpr c16
                    clear c16
                    (first | rw [c16b0] | (simp only [i64_w, i32_w]; rw [c16b0]) | skip)
                    replace H := Option.bind_eq_some_iff.mp H
                    obtain ⟨⟨t348, t349, t350⟩, A170, H⟩ := H
                    replace H : (greenscreenlaw21_LockTexts.j2 k1 a1 l0 (l0.length : Int) x15_1 t348 t349 t350) = some r := H
                    have A17 := Aside0.mk A170
                    clear A170
                    have H' := Aside0.mk H
                    clear H
                    go_wp2_with (first | ((with_reducible refine gate_callee (f := 7) rfl ?_); refine goesL_ (some 23) rfl rfl Try.func7 (by kernel_rfl) rfl #[.pointer (some ⟨gb345, 0, none⟩)] rfl (by (try simp only [List.map_toArray, List.map_cons, List.map_nil]); first | done | rfl | (simp only [List.length_drop, List.length_take]; rfl)) ?_; (with_reducible refine (lock_Lock_Open.calls gb345 x346000_1 x346001_1 x346002_1 t348 t349 t350 w _ ?side1 ?side2 A17.out).mono ?_); (case side1 => repeat (first | (with_reducible first | exact HI345.out | apply IsS26.alloc | apply IsS26.drewN | apply IsS26.drew | apply IsS26.set_0 | apply IsS26.set_1 | apply IsS26.set_2 | refine IsS26.far ?_ NB345_347.out _) | exact HI345.out)); (case side2 => repeat (first | (with_reducible first | exact HB.out | apply below_alloc | apply pw_below_drewN | apply below_drew1 | refine below_set ?_ (IsS26.ge HI345.out) | refine below_set ?_ GE347.out) | exact HB.out)); rintro e w18 ⟨rfl, hi, hb, hk⟩; refine ⟨_, rfl, ?_⟩; have n0_ := Aside0.mk (KeepBut.blk hk (g' := gb347) (o := .cells #[.int .i64 ((rd_T30 l0 x15_1).f0), .int .i64 ((rd_T30 l0 x15_1).f1)] 30 (0, 0)) (by (with_reducible repeat (first | refine blk_drewN ?_ _ | refine blk_drew ?_ | refine blk_alloc ?_ _)); refine blk_put (cs := #[.int .i64 ((rd_T30 l0 x15_1).f0), .int .i64 0]) ?_ 1 _ rfl; (with_reducible repeat (first | refine blk_drewN ?_ _ | refine blk_drew ?_ | refine blk_alloc ?_ _)); refine blk_put (cs := #[.int .i64 0, .int .i64 0]) ?_ 0 _ rfl; (with_reducible repeat (first | refine blk_drewN ?_ _ | refine blk_drew ?_ | refine blk_alloc ?_ _)); exact BK347.out) NB347_345.out (by simp)); have n1_ := Aside0.mk (hb); have n2_ := Aside0.mk (hi); clear BK347; clear HB; clear HI345; have BK347 := n0_; have HB := n1_; have HI345 := n2_; clear n0_ n1_ n2_; (try clear hb); (try clear hb2); (try clear hk); (try clear hi)))
                    go_meet
                    case rel => exact ⟨_, (t348), (t349), (t350), H', ⟨by have := HK1.out; first | omega | exact Nat.le_refl _⟩, ⟨by (with_reducible repeat (first | refine blk_drewN ?_ _ | refine blk_drew ?_ | refine blk_alloc ?_ _)); exact BK347.out⟩, ⟨by repeat (first | (with_reducible first | exact HI345.out | apply IsS26.alloc | apply IsS26.drewN | apply IsS26.drew | apply IsS26.set_0 | apply IsS26.set_1 | apply IsS26.set_2 | refine IsS26.far ?_ NB345_347.out _) | exact HI345.out)⟩, ⟨by repeat (first | (with_reducible first | exact HB.out | apply below_alloc | apply pw_below_drewN | apply below_drew1 | refine below_set ?_ (IsS26.ge HI345.out) | refine below_set ?_ GE347.out) | exact HB.out)⟩⟩
                  · rw [if_neg c16] at H
                    have c16b0 : (((rd_T30 l0 x15_1).f0) == 0) = false := beq_eq_false_iff_ne.mpr c16
                    have c16b1 : (((rd_T30 l0 x15_1).f0) != 0) = true := bne_iff_ne.mpr c16
                    (first | rw [c16b0] | (simp only [i64_w, i32_w]; rw [c16b0]) | skip)
                    by_cases c19 : ((rd_T30 l0 x15_1).f0) = 1
                    · rw [if_pos c19] at H
                      have c19b0 : (((rd_T30 l0 x15_1).f0) == 1) = true := beq_iff_eq.mpr c19
                      have c19b1 : (((rd_T30 l0 x15_1).f0) != 1) = false := bne_eq_false_iff_eq.mpr c19
                      clear c19
                      replace H := Option.bind_eq_some_iff.mp H
                      obtain ⟨⟨t351, t352, t353⟩, A200, H⟩ := H
                      replace H : (greenscreenlaw21_LockTexts.j2 k1 a1 l0 (l0.length : Int) x15_1 t351 t352 t353) = some r := H
                      have A20 := Aside0.mk A200
                      clear A200
                      have H' := Aside0.mk H
                      clear H
                      go_wp2_with (first | ((with_reducible refine gate_callee (f := 9) rfl ?_); refine goesL_ (some 26) rfl rfl Try.func9 (by kernel_rfl) rfl #[.pointer (some ⟨gb345, 0, none⟩)] rfl (by (try simp only [List.map_toArray, List.map_cons, List.map_nil]); first | done | rfl | (simp only [List.length_drop, List.length_take]; rfl)) ?_; (with_reducible refine (lock_Lock_Shut.calls gb345 x346000_1 x346001_1 x346002_1 t351 t352 t353 w _ ?side1 ?side2 A20.out).mono ?_); (case side1 => repeat (first | (with_reducible first | exact HI345.out | apply IsS26.alloc | apply IsS26.drewN | apply IsS26.drew | apply IsS26.set_0 | apply IsS26.set_1 | apply IsS26.set_2 | refine IsS26.far ?_ NB345_347.out _) | exact HI345.out)); (case side2 => repeat (first | (with_reducible first | exact HB.out | apply below_alloc | apply pw_below_drewN | apply below_drew1 | refine below_set ?_ (IsS26.ge HI345.out) | refine below_set ?_ GE347.out) | exact HB.out)); rintro e w21 ⟨rfl, hi, hb, hk⟩; refine ⟨_, rfl, ?_⟩; have n0_ := Aside0.mk (KeepBut.blk hk (g' := gb347) (o := .cells #[.int .i64 ((rd_T30 l0 x15_1).f0), .int .i64 ((rd_T30 l0 x15_1).f1)] 30 (0, 0)) (by (with_reducible repeat (first | refine blk_drewN ?_ _ | refine blk_drew ?_ | refine blk_alloc ?_ _)); refine blk_put (cs := #[.int .i64 ((rd_T30 l0 x15_1).f0), .int .i64 0]) ?_ 1 _ rfl; (with_reducible repeat (first | refine blk_drewN ?_ _ | refine blk_drew ?_ | refine blk_alloc ?_ _)); refine blk_put (cs := #[.int .i64 0, .int .i64 0]) ?_ 0 _ rfl; (with_reducible repeat (first | refine blk_drewN ?_ _ | refine blk_drew ?_ | refine blk_alloc ?_ _)); exact BK347.out) NB347_345.out (by simp)); have n1_ := Aside0.mk (hb); have n2_ := Aside0.mk (hi); clear BK347; clear HB; clear HI345; have BK347 := n0_; have HB := n1_; have HI345 := n2_; clear n0_ n1_ n2_; (try clear hb); (try clear hb2); (try clear hk); (try clear hi)))
                      go_meet
                      case rel => exact ⟨_, (t351), (t352), (t353), H', ⟨by have := HK1.out; first | omega | exact Nat.le_refl _⟩, ⟨by (with_reducible repeat (first | refine blk_drewN ?_ _ | refine blk_drew ?_ | refine blk_alloc ?_ _)); exact BK347.out⟩, ⟨by repeat (first | (with_reducible first | exact HI345.out | apply IsS26.alloc | apply IsS26.drewN | apply IsS26.drew | apply IsS26.set_0 | apply IsS26.set_1 | apply IsS26.set_2 | refine IsS26.far ?_ NB345_347.out _) | exact HI345.out)⟩, ⟨by repeat (first | (with_reducible first | exact HB.out | apply below_alloc | apply pw_below_drewN | apply below_drew1 | refine below_set ?_ (IsS26.ge HI345.out) | refine below_set ?_ GE347.out) | exact HB.out)⟩⟩
                    · rw [if_neg c19] at H
                      have c19b0 : (((rd_T30 l0 x15_1).f0) == 1) = false := beq_eq_false_iff_ne.mpr c19
                      have c19b1 : (((rd_T30 l0 x15_1).f0) != 1) = true := bne_iff_ne.mpr c19
                      have HC22 := Aside0.mk H
                      clear H
                      go_upto_if 27 with (fail)
                      go_cut [27] (fun v27 wc => ∃ (kq : Nat) (x27_21 : Bool), v27 = .bool x27_21 ∧ Aside0 (greenscreenlaw21_LockTexts.j1 kq a1 l0 (l0.length : Int) x15_1 ((rd_T30 l0 x15_1).f0) x27_21 x346000_1 x346001_1 x346002_1 ((rd_T30 l0 x15_1).f0) ((rd_T30 l0 x15_1).f1) = some r) ∧ Aside0 (kq ≤ k1) ∧ Aside0 (wc.heap[gb347]? = some (.cells #[.int .i64 ((rd_T30 l0 x15_1).f0), .int .i64 ((rd_T30 l0 x15_1).f1)] 30 (0, 0))) ∧ Aside0 (IsS26 w wc gb345 x346000_1 x346001_1 x346002_1) ∧ Aside0 (Below w.heap.size w wc))
                      case first =>
                        have H := HC22.out
                        clear HC22
                        by_cases c23 : ((rd_T30 l0 x15_1).f0) = 2
                        · rw [if_pos c23] at H
                          have c23b0 : (((rd_T30 l0 x15_1).f0) == 2) = true := beq_iff_eq.mpr c23
                          have c23b1 : (((rd_T30 l0 x15_1).f0) != 2) = false := bne_eq_false_iff_eq.mpr c23
                          clear c23
                          (first | rw [c23b0] | (simp only [i64_w, i32_w]; rw [c23b0]) | skip)
                          have H' := Aside0.mk H
                          clear H
                          go_wp2
                          go_meet
                          case rel => exact ⟨_, ((((rd_T30 l0 x15_1).f0) == 2)), (by first | rfl | (simp; done) | (simp [*]; done)), H', ⟨by have := HK1.out; first | omega | exact Nat.le_refl _⟩, ⟨by (with_reducible repeat (first | refine blk_drewN ?_ _ | refine blk_drew ?_ | refine blk_alloc ?_ _)); refine blk_put (cs := #[.int .i64 ((rd_T30 l0 x15_1).f0), .int .i64 0]) ?_ 1 _ rfl; (with_reducible repeat (first | refine blk_drewN ?_ _ | refine blk_drew ?_ | refine blk_alloc ?_ _)); refine blk_put (cs := #[.int .i64 0, .int .i64 0]) ?_ 0 _ rfl; (with_reducible repeat (first | refine blk_drewN ?_ _ | refine blk_drew ?_ | refine blk_alloc ?_ _)); exact BK347.out⟩, ⟨by repeat (first | (with_reducible first | exact HI345.out | apply IsS26.alloc | apply IsS26.drewN | apply IsS26.drew | apply IsS26.set_0 | apply IsS26.set_1 | apply IsS26.set_2 | refine IsS26.far ?_ NB345_347.out _) | exact HI345.out)⟩, ⟨by repeat (first | (with_reducible first | exact HB.out | apply below_alloc | apply pw_below_drewN | apply below_drew1 | refine below_set ?_ (IsS26.ge HI345.out) | refine below_set ?_ GE347.out) | exact HB.out)⟩⟩
                        · rw [if_neg c23] at H
                          have c23b0 : (((rd_T30 l0 x15_1).f0) == 2) = false := beq_eq_false_iff_ne.mpr c23
                          have c23b1 : (((rd_T30 l0 x15_1).f0) != 2) = true := bne_iff_ne.mpr c23
                          (first | rw [c23b0] | (simp only [i64_w, i32_w]; rw [c23b0]) | skip)
                          have H' := Aside0.mk H
                          clear H
                          go_wp2
                          go_meet
                          case rel => exact ⟨_, ((((rd_T30 l0 x15_1).f0) == 3)), (by first | rfl | (simp; done) | (simp [*]; done)), H', ⟨by have := HK1.out; first | omega | exact Nat.le_refl _⟩, ⟨by (with_reducible repeat (first | refine blk_drewN ?_ _ | refine blk_drew ?_ | refine blk_alloc ?_ _)); refine blk_put (cs := #[.int .i64 ((rd_T30 l0 x15_1).f0), .int .i64 0]) ?_ 1 _ rfl; (with_reducible repeat (first | refine blk_drewN ?_ _ | refine blk_drew ?_ | refine blk_alloc ?_ _)); refine blk_put (cs := #[.int .i64 0, .int .i64 0]) ?_ 0 _ rfl; (with_reducible repeat (first | refine blk_drewN ?_ _ | refine blk_drew ?_ | refine blk_alloc ?_ _)); exact BK347.out⟩, ⟨by repeat (first | (with_reducible first | exact HI345.out | apply IsS26.alloc | apply IsS26.drewN | apply IsS26.drew | apply IsS26.set_0 | apply IsS26.set_1 | apply IsS26.set_2 | refine IsS26.far ?_ NB345_347.out _) | exact HI345.out)⟩, ⟨by repeat (first | (with_reducible first | exact HB.out | apply below_alloc | apply pw_below_drewN | apply below_drew1 | refine below_set ?_ (IsS26.ge HI345.out) | refine below_set ?_ GE347.out) | exact HB.out)⟩⟩
                      case rest =>
                        clear HC22
                        try clear c1
                        try clear c2
                        try clear p2
                        try clear p3
                        try clear q3
                        try clear hx3
                        try clear c4
                        try clear c5
                        try clear c5b0
                        try clear c5b1
                        try clear c6
                        try clear c7
                        try clear c9
                        try clear c9b0
                        try clear c10
                        try clear c10b0
                        try clear c11
                        try clear c11b0
                        try clear c14
                        try clear c16
                        try clear c16b0
                        try clear c16b1
                        try clear c19
                        try clear c19b0
                        try clear c19b1
                        try clear c23
                        try clear c23b0
                        try clear c23b1
                        try clear hcz15_0
                        try clear hcz15_1
                        try clear hfz15_0
                        try clear hfz15_1
                        try clear hx346_0
                        try clear hx346_1
                        try clear p2
                        try clear p346
                        try clear q346
                        obtain ⟨kq, x27_21, rfl, HA, HJ21, BK347, HI345, HB⟩ := hcut
                        cases kq with
                        | zero => exact absurd HA.out (by simp [greenscreenlaw21_LockTexts.j1])
                        | succ kj21 =>
                          have H := HA.out
                          clear HA
                          simp only [greenscreenlaw21_LockTexts.j1] at H
                          by_cases c24 : x27_21 = true
                          · subst c24
                            have H1 : ((lock_Lock_Send.f x346000_1 x346001_1 x346002_1).bind fun bt354 => (greenscreenlaw21_LockTexts.j2 kj21 a1 l0 (l0.length : Int) x15_1 bt354.2.1 bt354.2.2.1 bt354.2.2.2)) = some r := by rw [if_pos rfl] at H; exact H
                            clear H
                            have H := H1
                            clear H1
                            replace H := Option.bind_eq_some_iff.mp H
                            obtain ⟨⟨t354, t355, t356, t357⟩, A250, H⟩ := H
                            replace H : (greenscreenlaw21_LockTexts.j2 kj21 a1 l0 (l0.length : Int) x15_1 t355 t356 t357) = some r := H
                            have A25 := Aside0.mk A250
                            clear A250
                            have H' := Aside0.mk H
                            clear H
                            go_wp2_with (first | ((with_reducible refine gate_callee (f := 10) rfl ?_); refine goesL_ (some 30) rfl rfl Try.func10 (by kernel_rfl) rfl #[.pointer (some ⟨gb345, 0, none⟩)] rfl (by (try simp only [List.map_toArray, List.map_cons, List.map_nil]); first | done | rfl | (simp only [List.length_drop, List.length_take]; rfl)) ?_; (with_reducible refine (lock_Lock_Send.calls gb345 x346000_1 x346001_1 x346002_1 t354 t355 t356 t357 w _ ?side1 ?side2 A25.out).mono ?_); (case side1 => repeat (first | (with_reducible first | exact HI345.out | apply IsS26.alloc | apply IsS26.drewN | apply IsS26.drew | apply IsS26.set_0 | apply IsS26.set_1 | apply IsS26.set_2 | refine IsS26.far ?_ NB345_347.out _) | exact HI345.out)); (case side2 => repeat (first | (with_reducible first | exact HB.out | apply below_alloc | apply pw_below_drewN | apply below_drew1 | refine below_set ?_ (IsS26.ge HI345.out) | refine below_set ?_ GE347.out) | exact HB.out)); rintro e w26 ⟨rfl, hi, hb, hk⟩; refine ⟨_, rfl, ?_⟩; have n0_ := Aside0.mk (KeepBut.blk hk (g' := gb347) (o := .cells #[.int .i64 ((rd_T30 l0 x15_1).f0), .int .i64 ((rd_T30 l0 x15_1).f1)] 30 (0, 0)) (by (with_reducible repeat (first | refine blk_drewN ?_ _ | refine blk_drew ?_ | refine blk_alloc ?_ _)); exact BK347.out) NB347_345.out (by simp)); have n1_ := Aside0.mk (hb); have n2_ := Aside0.mk (hi); clear BK347; clear HB; clear HI345; have BK347 := n0_; have HB := n1_; have HI345 := n2_; clear n0_ n1_ n2_; (try clear hb); (try clear hb2); (try clear hk); (try clear hi)))
                            go_meet
                            case rel => exact ⟨_, (t355), (t356), (t357), H', ⟨by have := HK1.out; have := HJ21.out; first | omega | exact Nat.le_refl _⟩, ⟨by (with_reducible repeat (first | refine blk_drewN ?_ _ | refine blk_drew ?_ | refine blk_alloc ?_ _)); exact BK347.out⟩, ⟨by repeat (first | (with_reducible first | exact HI345.out | apply IsS26.alloc | apply IsS26.drewN | apply IsS26.drew | apply IsS26.set_0 | apply IsS26.set_1 | apply IsS26.set_2 | refine IsS26.far ?_ NB345_347.out _) | exact HI345.out)⟩, ⟨by repeat (first | (with_reducible first | exact HB.out | apply below_alloc | apply pw_below_drewN | apply below_drew1 | refine below_set ?_ (IsS26.ge HI345.out) | refine below_set ?_ GE347.out) | exact HB.out)⟩⟩
                          · replace c24 := Bool.eq_false_iff.mpr c24
                            subst c24
                            have H1 : (if ((rd_T30 l0 x15_1).f0) = 4 then ((lock_Lock_Fail.f x346000_1 x346001_1 x346002_1 ((rd_T30 l0 x15_1).f1)).bind fun bt358 => (greenscreenlaw21_LockTexts.j2 kj21 a1 l0 (l0.length : Int) x15_1 bt358.2.1 bt358.2.2.1 bt358.2.2.2)) else (if ((rd_T30 l0 x15_1).f0) = 5 then ((lock_Lock_Reset.f x346000_1 x346001_1 x346002_1).bind fun bt362 => (greenscreenlaw21_LockTexts.j2 kj21 a1 l0 (l0.length : Int) x15_1 bt362.2.1 bt362.2.2.1 bt362.2.2.2)) else (if ((rd_T30 l0 x15_1).f0) = 6 then ((lock_Lock_Restore.f x346000_1 x346001_1 x346002_1).bind fun bt366 => (greenscreenlaw21_LockTexts.j2 kj21 a1 l0 (l0.length : Int) x15_1 bt366.2.1 bt366.2.2.1 bt366.2.2.2)) else (greenscreenlaw21_LockTexts.j2 kj21 a1 l0 (l0.length : Int) x15_1 x346000_1 x346001_1 x346002_1)))) = some r := by rw [if_neg (show ¬ (false = true) by decide)] at H; exact H
                            clear H
                            have H := H1
                            clear H1
                            by_cases c27 : ((rd_T30 l0 x15_1).f0) = 4
                            · rw [if_pos c27] at H
                              have c27b0 : (((rd_T30 l0 x15_1).f0) == 4) = true := beq_iff_eq.mpr c27
                              have c27b1 : (((rd_T30 l0 x15_1).f0) != 4) = false := bne_eq_false_iff_eq.mpr c27
                              clear c27
                              replace H := Option.bind_eq_some_iff.mp H
                              obtain ⟨⟨t358, t359, t360, t361⟩, A280, H⟩ := H
                              replace H : (greenscreenlaw21_LockTexts.j2 kj21 a1 l0 (l0.length : Int) x15_1 t359 t360 t361) = some r := H
                              have A28 := Aside0.mk A280
                              clear A280
                              have H' := Aside0.mk H
                              clear H
                              have hnb29 := NB347_345.out
                              have hnc29 := NB345_347.out
                              have hcz30_0 : wc.cell? ⟨gb347, 0, none⟩ = some (.int .i64 ((rd_T30 l0 x15_1).f0)) := (blk_cell BK347.out 0).trans rfl
                              have hcz30_1 : wc.cell? ⟨gb347, 1, none⟩ = some (.int .i64 ((rd_T30 l0 x15_1).f1)) := (blk_cell BK347.out 1).trans rfl
                              have hfz30_0 := blk_frozen BK347.out 0
                              have hfz30_1 := blk_frozen BK347.out 1
                              go_wp2_with (first | ((with_reducible refine gate_callee (f := 11) rfl ?_); refine goesL_ (some 35) rfl rfl Try.func11 (by kernel_rfl) rfl #[.pointer (some ⟨gb345, 0, none⟩), .int .i64 ((rd_T30 l0 x15_1).f1)] rfl (by (try simp only [List.map_toArray, List.map_cons, List.map_nil]); first | done | rfl | (simp only [List.length_drop, List.length_take]; rfl)) ?_; (with_reducible refine (lock_Lock_Fail.calls gb345 x346000_1 x346001_1 x346002_1 ((rd_T30 l0 x15_1).f1) t358 t359 t360 t361 w _ ?side1 ?side2 A28.out).mono ?_); (case side1 => repeat (first | (with_reducible first | exact HI345.out | apply IsS26.alloc | apply IsS26.drewN | apply IsS26.drew | apply IsS26.set_0 | apply IsS26.set_1 | apply IsS26.set_2 | refine IsS26.far ?_ NB345_347.out _) | exact HI345.out)); (case side2 => repeat (first | (with_reducible first | exact HB.out | apply below_alloc | apply pw_below_drewN | apply below_drew1 | refine below_set ?_ (IsS26.ge HI345.out) | refine below_set ?_ GE347.out) | exact HB.out)); rintro e w31 ⟨rfl, hi, hb, hk⟩; refine ⟨_, rfl, ?_⟩; have n0_ := Aside0.mk (KeepBut.blk hk (g' := gb347) (o := .cells #[.int .i64 ((rd_T30 l0 x15_1).f0), .int .i64 ((rd_T30 l0 x15_1).f1)] 30 (0, 0)) (by (with_reducible repeat (first | refine blk_drewN ?_ _ | refine blk_drew ?_ | refine blk_alloc ?_ _)); exact BK347.out) NB347_345.out (by simp)); have n1_ := Aside0.mk (hb); have n2_ := Aside0.mk (hi); clear BK347; clear HB; clear HI345; have BK347 := n0_; have HB := n1_; have HI345 := n2_; clear n0_ n1_ n2_; (try clear hb); (try clear hb2); (try clear hk); (try clear hi)))
                              go_meet
                              case rel => exact ⟨_, (t359), (t360), (t361), H', ⟨by have := HK1.out; have := HJ21.out; first | omega | exact Nat.le_refl _⟩, ⟨by (with_reducible repeat (first | refine blk_drewN ?_ _ | refine blk_drew ?_ | refine blk_alloc ?_ _)); exact BK347.out⟩, ⟨by repeat (first | (with_reducible first | exact HI345.out | apply IsS26.alloc | apply IsS26.drewN | apply IsS26.drew | apply IsS26.set_0 | apply IsS26.set_1 | apply IsS26.set_2 | refine IsS26.far ?_ NB345_347.out _) | exact HI345.out)⟩, ⟨by repeat (first | (with_reducible first | exact HB.out | apply below_alloc | apply pw_below_drewN | apply below_drew1 | refine below_set ?_ (IsS26.ge HI345.out) | refine below_set ?_ GE347.out) | exact HB.out)⟩⟩
                            · rw [if_neg c27] at H
                              have c27b0 : (((rd_T30 l0 x15_1).f0) == 4) = false := beq_eq_false_iff_ne.mpr c27
                              have c27b1 : (((rd_T30 l0 x15_1).f0) != 4) = true := bne_iff_ne.mpr c27
                              by_cases c32 : ((rd_T30 l0 x15_1).f0) = 5
                              · rw [if_pos c32] at H
                                have c32b0 : (((rd_T30 l0 x15_1).f0) == 5) = true := beq_iff_eq.mpr c32
                                have c32b1 : (((rd_T30 l0 x15_1).f0) != 5) = false := bne_eq_false_iff_eq.mpr c32
                                clear c32
                                replace H := Option.bind_eq_some_iff.mp H
                                obtain ⟨⟨t362, t363, t364, t365⟩, A330, H⟩ := H
                                replace H : (greenscreenlaw21_LockTexts.j2 kj21 a1 l0 (l0.length : Int) x15_1 t363 t364 t365) = some r := H
                                have A33 := Aside0.mk A330
                                clear A330
                                have H' := Aside0.mk H
                                clear H
                                go_wp2_with (first | ((with_reducible refine gate_callee (f := 13) rfl ?_); refine goesL_ (some 38) rfl rfl Try.func13 (by kernel_rfl) rfl #[.pointer (some ⟨gb345, 0, none⟩)] rfl (by (try simp only [List.map_toArray, List.map_cons, List.map_nil]); first | done | rfl | (simp only [List.length_drop, List.length_take]; rfl)) ?_; (with_reducible refine (lock_Lock_Reset.calls gb345 x346000_1 x346001_1 x346002_1 t362 t363 t364 t365 w _ ?side1 ?side2 A33.out).mono ?_); (case side1 => repeat (first | (with_reducible first | exact HI345.out | apply IsS26.alloc | apply IsS26.drewN | apply IsS26.drew | apply IsS26.set_0 | apply IsS26.set_1 | apply IsS26.set_2 | refine IsS26.far ?_ NB345_347.out _) | exact HI345.out)); (case side2 => repeat (first | (with_reducible first | exact HB.out | apply below_alloc | apply pw_below_drewN | apply below_drew1 | refine below_set ?_ (IsS26.ge HI345.out) | refine below_set ?_ GE347.out) | exact HB.out)); rintro e w34 ⟨rfl, hi, hb, hk⟩; refine ⟨_, rfl, ?_⟩; have n0_ := Aside0.mk (KeepBut.blk hk (g' := gb347) (o := .cells #[.int .i64 ((rd_T30 l0 x15_1).f0), .int .i64 ((rd_T30 l0 x15_1).f1)] 30 (0, 0)) (by (with_reducible repeat (first | refine blk_drewN ?_ _ | refine blk_drew ?_ | refine blk_alloc ?_ _)); exact BK347.out) NB347_345.out (by simp)); have n1_ := Aside0.mk (hb); have n2_ := Aside0.mk (hi); clear BK347; clear HB; clear HI345; have BK347 := n0_; have HB := n1_; have HI345 := n2_; clear n0_ n1_ n2_; (try clear hb); (try clear hb2); (try clear hk); (try clear hi)))
                                go_meet
                                case rel => exact ⟨_, (t363), (t364), (t365), H', ⟨by have := HK1.out; have := HJ21.out; first | omega | exact Nat.le_refl _⟩, ⟨by (with_reducible repeat (first | refine blk_drewN ?_ _ | refine blk_drew ?_ | refine blk_alloc ?_ _)); exact BK347.out⟩, ⟨by repeat (first | (with_reducible first | exact HI345.out | apply IsS26.alloc | apply IsS26.drewN | apply IsS26.drew | apply IsS26.set_0 | apply IsS26.set_1 | apply IsS26.set_2 | refine IsS26.far ?_ NB345_347.out _) | exact HI345.out)⟩, ⟨by repeat (first | (with_reducible first | exact HB.out | apply below_alloc | apply pw_below_drewN | apply below_drew1 | refine below_set ?_ (IsS26.ge HI345.out) | refine below_set ?_ GE347.out) | exact HB.out)⟩⟩
                              · rw [if_neg c32] at H
                                have c32b0 : (((rd_T30 l0 x15_1).f0) == 5) = false := beq_eq_false_iff_ne.mpr c32
                                have c32b1 : (((rd_T30 l0 x15_1).f0) != 5) = true := bne_iff_ne.mpr c32
                                by_cases c35 : ((rd_T30 l0 x15_1).f0) = 6
                                · rw [if_pos c35] at H
                                  have c35b0 : (((rd_T30 l0 x15_1).f0) == 6) = true := beq_iff_eq.mpr c35
                                  have c35b1 : (((rd_T30 l0 x15_1).f0) != 6) = false := bne_eq_false_iff_eq.mpr c35
                                  clear c35
                                  replace H := Option.bind_eq_some_iff.mp H
                                  obtain ⟨⟨t366, t367, t368, t369⟩, A360, H⟩ := H
                                  replace H : (greenscreenlaw21_LockTexts.j2 kj21 a1 l0 (l0.length : Int) x15_1 t367 t368 t369) = some r := H
                                  have A36 := Aside0.mk A360
                                  clear A360
                                  have H' := Aside0.mk H
                                  clear H
                                  go_wp2_with (first | ((with_reducible refine gate_callee (f := 14) rfl ?_); refine goesL_ (some 41) rfl rfl Try.func14 (by kernel_rfl) rfl #[.pointer (some ⟨gb345, 0, none⟩)] rfl (by (try simp only [List.map_toArray, List.map_cons, List.map_nil]); first | done | rfl | (simp only [List.length_drop, List.length_take]; rfl)) ?_; (with_reducible refine (lock_Lock_Restore.calls gb345 x346000_1 x346001_1 x346002_1 t366 t367 t368 t369 w _ ?side1 ?side2 A36.out).mono ?_); (case side1 => repeat (first | (with_reducible first | exact HI345.out | apply IsS26.alloc | apply IsS26.drewN | apply IsS26.drew | apply IsS26.set_0 | apply IsS26.set_1 | apply IsS26.set_2 | refine IsS26.far ?_ NB345_347.out _) | exact HI345.out)); (case side2 => repeat (first | (with_reducible first | exact HB.out | apply below_alloc | apply pw_below_drewN | apply below_drew1 | refine below_set ?_ (IsS26.ge HI345.out) | refine below_set ?_ GE347.out) | exact HB.out)); rintro e w37 ⟨rfl, hi, hb, hk⟩; refine ⟨_, rfl, ?_⟩; have n0_ := Aside0.mk (KeepBut.blk hk (g' := gb347) (o := .cells #[.int .i64 ((rd_T30 l0 x15_1).f0), .int .i64 ((rd_T30 l0 x15_1).f1)] 30 (0, 0)) (by (with_reducible repeat (first | refine blk_drewN ?_ _ | refine blk_drew ?_ | refine blk_alloc ?_ _)); exact BK347.out) NB347_345.out (by simp)); have n1_ := Aside0.mk (hb); have n2_ := Aside0.mk (hi); clear BK347; clear HB; clear HI345; have BK347 := n0_; have HB := n1_; have HI345 := n2_; clear n0_ n1_ n2_; (try clear hb); (try clear hb2); (try clear hk); (try clear hi)))
                                  go_meet
                                  case rel => exact ⟨_, (t367), (t368), (t369), H', ⟨by have := HK1.out; have := HJ21.out; first | omega | exact Nat.le_refl _⟩, ⟨by (with_reducible repeat (first | refine blk_drewN ?_ _ | refine blk_drew ?_ | refine blk_alloc ?_ _)); exact BK347.out⟩, ⟨by repeat (first | (with_reducible first | exact HI345.out | apply IsS26.alloc | apply IsS26.drewN | apply IsS26.drew | apply IsS26.set_0 | apply IsS26.set_1 | apply IsS26.set_2 | refine IsS26.far ?_ NB345_347.out _) | exact HI345.out)⟩, ⟨by repeat (first | (with_reducible first | exact HB.out | apply below_alloc | apply pw_below_drewN | apply below_drew1 | refine below_set ?_ (IsS26.ge HI345.out) | refine below_set ?_ GE347.out) | exact HB.out)⟩⟩
                                · rw [if_neg c35] at H
                                  have c35b0 : (((rd_T30 l0 x15_1).f0) == 6) = false := beq_eq_false_iff_ne.mpr c35
                                  have c35b1 : (((rd_T30 l0 x15_1).f0) != 6) = true := bne_iff_ne.mpr c35
                                  have H' := Aside0.mk H
                                  clear H
                                  go_wp2
                                  go_meet
                                  case rel => exact ⟨_, (x346000_1), (x346001_1), (x346002_1), H', ⟨by have := HK1.out; have := HJ21.out; first | omega | exact Nat.le_refl _⟩, ⟨by (with_reducible repeat (first | refine blk_drewN ?_ _ | refine blk_drew ?_ | refine blk_alloc ?_ _)); exact BK347.out⟩, ⟨by repeat (first | (with_reducible first | exact HI345.out | apply IsS26.alloc | apply IsS26.drewN | apply IsS26.drew | apply IsS26.set_0 | apply IsS26.set_1 | apply IsS26.set_2 | refine IsS26.far ?_ NB345_347.out _) | exact HI345.out)⟩, ⟨by repeat (first | (with_reducible first | exact HB.out | apply below_alloc | apply pw_below_drewN | apply below_drew1 | refine below_set ?_ (IsS26.ge HI345.out) | refine below_set ?_ GE347.out) | exact HB.out)⟩⟩
                case rest =>
                  clear HC12
                  try clear c1
                  try clear c2
                  try clear p2
                  try clear c3
                  try clear p3
                  try clear q3
                  try clear hx3
                  try clear c4
                  try clear c5
                  try clear c5b0
                  try clear c5b1
                  try clear c6
                  try clear c7
                  try clear c9
                  try clear c9b0
                  try clear c10
                  try clear c10b0
                  try clear c11
                  try clear c11b0
                  try clear c13
                  try clear c14
                  try clear c16
                  try clear c16b0
                  try clear c16b1
                  try clear c19
                  try clear c19b0
                  try clear c19b1
                  try clear c23
                  try clear c23b0
                  try clear c23b1
                  try clear c24
                  try clear c27
                  try clear c27b0
                  try clear c27b1
                  try clear c29
                  try clear c32
                  try clear c32b0
                  try clear c32b1
                  try clear p34
                  try clear q34
                  try clear hx34
                  try clear c35
                  try clear c35b0
                  try clear c35b1
                  try clear hcz15_0
                  try clear hcz15_1
                  try clear hcz30_0
                  try clear hcz30_1
                  try clear hfz15_0
                  try clear hfz15_1
                  try clear hfz30_0
                  try clear hfz30_1
                  try clear hx346_0
                  try clear hx346_1
                  try clear p2
                  try clear p3
                  try clear p346
                  try clear q3
                  try clear q346
                  obtain ⟨kq, x346000_11, x346001_11, x346002_11, HA, HJ11, BK347, HI345, HB⟩ := hcut
                  cases kq with
                  | zero => exact absurd HA.out (by simp [greenscreenlaw21_LockTexts.j2])
                  | succ kj11 =>
                    have H := HA.out
                    clear HA
                    simp only [greenscreenlaw21_LockTexts.j2] at H
                    replace H := Option.bind_eq_some_iff.mp H
                    obtain ⟨⟨t370, t371, t372, t373⟩, A380, H⟩ := H
                    replace H : ((lock_Lock_May.f t371 t372 t373).bind fun bt374 => (if ((t370.toList == ([] : List UInt8)) != (bt374.1 == 0)) = true then (some false) else ((lock_Lock_Why.f bt374.2.1 bt374.2.2.1 bt374.2.2.2).bind fun bt378 => ((lock_Lock_State.f bt378.2.1 bt378.2.2.1 bt378.2.2.2).bind fun bt382 => (if ((bt378.1 != 0) != (bt382.1 == 3)) = true then (some false) else (greenscreenlaw21_LockTexts.l0 kj11 a1 l0 (l0.length : Int) (wrap64 (x15_1 + 1)) bt382.2.1 bt382.2.2.1 bt382.2.2.2)))))) = some r := H
                    have A38 := Aside0.mk A380
                    clear A380
                    replace H := Option.bind_eq_some_iff.mp H
                    obtain ⟨⟨t374, t375, t376, t377⟩, A390, H⟩ := H
                    replace H : (if ((t370.toList == ([] : List UInt8)) != (t374 == 0)) = true then (some false) else ((lock_Lock_Why.f t375 t376 t377).bind fun bt378 => ((lock_Lock_State.f bt378.2.1 bt378.2.2.1 bt378.2.2.2).bind fun bt382 => (if ((bt378.1 != 0) != (bt382.1 == 3)) = true then (some false) else (greenscreenlaw21_LockTexts.l0 kj11 a1 l0 (l0.length : Int) (wrap64 (x15_1 + 1)) bt382.2.1 bt382.2.2.1 bt382.2.2.2))))) = some r := H
                    have A39 := Aside0.mk A390
                    clear A390
                    by_cases c40 : ((t370.toList == ([] : List UInt8)) != (t374 == 0)) = true
                    · rw [if_pos c40] at H
                      have c40b0 : ((t370.toList == ([] : List UInt8)) != (t374 == 0)) = true := c40
                      (try (have c40e0 : (t370.toList.isEmpty = (t374 == 0)) = False := by (have he_ := c40b0; rw [show (t370.toList == ([] : List UInt8)) = t370.toList.isEmpty from by cases t370.toList <;> rfl] at he_; revert he_; cases (t370.toList.isEmpty) <;> cases ((t374 == 0)) <;> simp)))
                      (try (have c40e1 : (t370.toList.isEmpty == (t374 == 0)) = false := by (have he_ := c40b0; rw [show (t370.toList == ([] : List UInt8)) = t370.toList.isEmpty from by cases t370.toList <;> rfl] at he_; revert he_; cases (t370.toList.isEmpty) <;> cases ((t374 == 0)) <;> simp)))
                      (try (have c40b1 : decide ((t370.toList == ([] : List UInt8)) = (t374 == 0)) = false := by simpa using c40))
                      (try (have c40b2 : ((t370.toList == ([] : List UInt8)) == (t374 == 0)) = false := by simpa using c40))
                      (try (have c40b3 : ¬ ((t370.toList == ([] : List UInt8)) = (t374 == 0)) := by simpa using c40))
                      clear c40
                      obtain rfl := Option.some.inj H
                      go_wp2_with (first | ((with_reducible refine gate_callee (f := 18) rfl ?_); refine goesL_ (some 42) rfl rfl Try.func18 (by kernel_rfl) rfl #[.pointer (some ⟨gb345, 0, none⟩)] rfl (by (try simp only [List.map_toArray, List.map_cons, List.map_nil]); first | done | rfl | (simp only [List.length_drop, List.length_take]; rfl)) ?_; (with_reducible refine (lock_Lock_Text.calls gb345 x346000_11 x346001_11 x346002_11 t370 t371 t372 t373 w _ ?side1 ?side2 A38.out).mono ?_); (case side1 => repeat (first | (with_reducible first | exact HI345.out | apply IsS26.alloc | apply IsS26.drewN | apply IsS26.drew | apply IsS26.set_0 | apply IsS26.set_1 | apply IsS26.set_2 | refine IsS26.far ?_ NB345_347.out _) | exact HI345.out)); (case side2 => repeat (first | (with_reducible first | exact HB.out | apply below_alloc | apply pw_below_drewN | apply below_drew1 | refine below_set ?_ (IsS26.ge HI345.out) | refine below_set ?_ GE347.out) | exact HB.out)); rintro e w41 ⟨rfl, hi, hb, hk⟩; refine ⟨_, rfl, ?_⟩; have n0_ := Aside0.mk (KeepBut.blk hk (g' := gb347) (o := .cells #[.int .i64 ((rd_T30 l0 x15_1).f0), .int .i64 ((rd_T30 l0 x15_1).f1)] 30 (0, 0)) (by (with_reducible repeat (first | refine blk_drewN ?_ _ | refine blk_drew ?_ | refine blk_alloc ?_ _)); exact BK347.out) NB347_345.out (by simp)); have n1_ := Aside0.mk (hb); have n2_ := Aside0.mk (hi); clear BK347; clear HB; clear HI345; have BK347 := n0_; have HB := n1_; have HI345 := n2_; clear n0_ n1_ n2_; (try clear hb); (try clear hb2); (try clear hk); (try clear hi)) | ((with_reducible refine gate_callee (f := 20) rfl ?_); refine goesL_ (some 44) rfl rfl Try.func20 (by kernel_rfl) rfl #[.pointer (some ⟨gb345, 0, none⟩)] rfl (by (try simp only [List.map_toArray, List.map_cons, List.map_nil]); first | done | rfl | (simp only [List.length_drop, List.length_take]; rfl)) ?_; (with_reducible refine (lock_Lock_May.calls gb345 t371 t372 t373 t374 t375 t376 t377 w _ ?side1 ?side2 A39.out).mono ?_); (case side1 => repeat (first | (with_reducible first | exact HI345.out | apply IsS26.alloc | apply IsS26.drewN | apply IsS26.drew | apply IsS26.set_0 | apply IsS26.set_1 | apply IsS26.set_2 | refine IsS26.far ?_ NB345_347.out _) | exact HI345.out)); (case side2 => repeat (first | (with_reducible first | exact HB.out | apply below_alloc | apply pw_below_drewN | apply below_drew1 | refine below_set ?_ (IsS26.ge HI345.out) | refine below_set ?_ GE347.out) | exact HB.out)); rintro e w42 ⟨rfl, hi, hb, hk⟩; refine ⟨_, rfl, ?_⟩; have n0_ := Aside0.mk (KeepBut.blk hk (g' := gb347) (o := .cells #[.int .i64 ((rd_T30 l0 x15_1).f0), .int .i64 ((rd_T30 l0 x15_1).f1)] 30 (0, 0)) (by (with_reducible repeat (first | refine blk_drewN ?_ _ | refine blk_drew ?_ | refine blk_alloc ?_ _)); exact BK347.out) NB347_345.out (by simp)); have n1_ := Aside0.mk (hb); have n2_ := Aside0.mk (hi); clear BK347; clear HB; clear HI345; have BK347 := n0_; have HB := n1_; have HI345 := n2_; clear n0_ n1_ n2_; (try clear hb); (try clear hb2); (try clear hk); (try clear hi)))
                      go_ret
                      exact ⟨by first | rfl | (simp [errW_none, errW_some] <;> rfl) | (simp [*, errW_none, errW_some] <;> rfl), by repeat (first | (with_reducible first | exact HB.out | apply below_alloc | apply pw_below_drewN | apply below_drew1 | refine below_set ?_ (IsS26.ge HI345.out) | refine below_set ?_ GE347.out) | exact HB.out)⟩
                    · rw [if_neg c40] at H
                      have c40b0 : ((t370.toList == ([] : List UInt8)) != (t374 == 0)) = false := by simpa using c40
                      (try (have c40e0 : (t370.toList.isEmpty = (t374 == 0)) = True := by (have he_ := c40b0; rw [show (t370.toList == ([] : List UInt8)) = t370.toList.isEmpty from by cases t370.toList <;> rfl] at he_; revert he_; cases (t370.toList.isEmpty) <;> cases ((t374 == 0)) <;> simp)))
                      (try (have c40e1 : (t370.toList.isEmpty == (t374 == 0)) = true := by (have he_ := c40b0; rw [show (t370.toList == ([] : List UInt8)) = t370.toList.isEmpty from by cases t370.toList <;> rfl] at he_; revert he_; cases (t370.toList.isEmpty) <;> cases ((t374 == 0)) <;> simp)))
                      (try (have c40b1 : decide ((t370.toList == ([] : List UInt8)) = (t374 == 0)) = true := by simpa using c40))
                      (try (have c40b2 : ((t370.toList == ([] : List UInt8)) == (t374 == 0)) = true := by simpa using c40))
                      clear c40
                      replace H := Option.bind_eq_some_iff.mp H
                      obtain ⟨⟨t378, t379, t380, t381⟩, A430, H⟩ := H
                      replace H : ((lock_Lock_State.f t379 t380 t381).bind fun bt382 => (if ((t378 != 0) != (bt382.1 == 3)) = true then (some false) else (greenscreenlaw21_LockTexts.l0 kj11 a1 l0 (l0.length : Int) (wrap64 (x15_1 + 1)) bt382.2.1 bt382.2.2.1 bt382.2.2.2))) = some r := H
                      have A43 := Aside0.mk A430
                      clear A430
                      replace H := Option.bind_eq_some_iff.mp H
                      obtain ⟨⟨t382, t383, t384, t385⟩, A440, H⟩ := H
                      replace H : (if ((t378 != 0) != (t382 == 3)) = true then (some false) else (greenscreenlaw21_LockTexts.l0 kj11 a1 l0 (l0.length : Int) (wrap64 (x15_1 + 1)) t383 t384 t385)) = some r := H
                      have A44 := Aside0.mk A440
                      clear A440
                      by_cases c45 : ((t378 != 0) != (t382 == 3)) = true
                      · rw [if_pos c45] at H
                        have c45b0 : ((t378 != 0) != (t382 == 3)) = true := c45
                        (try (have c45e0 : ((t378 != 0) = (t382 == 3)) = False := by (have he_ := c45b0; revert he_; cases ((t378 != 0)) <;> cases ((t382 == 3)) <;> simp)))
                        (try (have c45e1 : ((t378 != 0) == (t382 == 3)) = false := by (have he_ := c45b0; revert he_; cases ((t378 != 0)) <;> cases ((t382 == 3)) <;> simp)))
                        (try (have c45b1 : decide ((t378 != 0) = (t382 == 3)) = false := by simpa using c45))
                        (try (have c45b2 : ((t378 != 0) == (t382 == 3)) = false := by simpa using c45))
                        (try (have c45b3 : ¬ ((t378 != 0) = (t382 == 3)) := by simpa using c45))
                        clear c45
                        obtain rfl := Option.some.inj H
                        go_wp2_with (first | ((with_reducible refine gate_callee (f := 18) rfl ?_); refine goesL_ (some 42) rfl rfl Try.func18 (by kernel_rfl) rfl #[.pointer (some ⟨gb345, 0, none⟩)] rfl (by (try simp only [List.map_toArray, List.map_cons, List.map_nil]); first | done | rfl | (simp only [List.length_drop, List.length_take]; rfl)) ?_; (with_reducible refine (lock_Lock_Text.calls gb345 x346000_11 x346001_11 x346002_11 t370 t371 t372 t373 w _ ?side1 ?side2 A38.out).mono ?_); (case side1 => repeat (first | (with_reducible first | exact HI345.out | apply IsS26.alloc | apply IsS26.drewN | apply IsS26.drew | apply IsS26.set_0 | apply IsS26.set_1 | apply IsS26.set_2 | refine IsS26.far ?_ NB345_347.out _) | exact HI345.out)); (case side2 => repeat (first | (with_reducible first | exact HB.out | apply below_alloc | apply pw_below_drewN | apply below_drew1 | refine below_set ?_ (IsS26.ge HI345.out) | refine below_set ?_ GE347.out) | exact HB.out)); rintro e w46 ⟨rfl, hi, hb, hk⟩; refine ⟨_, rfl, ?_⟩; have n0_ := Aside0.mk (KeepBut.blk hk (g' := gb347) (o := .cells #[.int .i64 ((rd_T30 l0 x15_1).f0), .int .i64 ((rd_T30 l0 x15_1).f1)] 30 (0, 0)) (by (with_reducible repeat (first | refine blk_drewN ?_ _ | refine blk_drew ?_ | refine blk_alloc ?_ _)); exact BK347.out) NB347_345.out (by simp)); have n1_ := Aside0.mk (hb); have n2_ := Aside0.mk (hi); clear BK347; clear HB; clear HI345; have BK347 := n0_; have HB := n1_; have HI345 := n2_; clear n0_ n1_ n2_; (try clear hb); (try clear hb2); (try clear hk); (try clear hi)) | ((with_reducible refine gate_callee (f := 20) rfl ?_); refine goesL_ (some 44) rfl rfl Try.func20 (by kernel_rfl) rfl #[.pointer (some ⟨gb345, 0, none⟩)] rfl (by (try simp only [List.map_toArray, List.map_cons, List.map_nil]); first | done | rfl | (simp only [List.length_drop, List.length_take]; rfl)) ?_; (with_reducible refine (lock_Lock_May.calls gb345 t371 t372 t373 t374 t375 t376 t377 w _ ?side1 ?side2 A39.out).mono ?_); (case side1 => repeat (first | (with_reducible first | exact HI345.out | apply IsS26.alloc | apply IsS26.drewN | apply IsS26.drew | apply IsS26.set_0 | apply IsS26.set_1 | apply IsS26.set_2 | refine IsS26.far ?_ NB345_347.out _) | exact HI345.out)); (case side2 => repeat (first | (with_reducible first | exact HB.out | apply below_alloc | apply pw_below_drewN | apply below_drew1 | refine below_set ?_ (IsS26.ge HI345.out) | refine below_set ?_ GE347.out) | exact HB.out)); rintro e w47 ⟨rfl, hi, hb, hk⟩; refine ⟨_, rfl, ?_⟩; have n0_ := Aside0.mk (KeepBut.blk hk (g' := gb347) (o := .cells #[.int .i64 ((rd_T30 l0 x15_1).f0), .int .i64 ((rd_T30 l0 x15_1).f1)] 30 (0, 0)) (by (with_reducible repeat (first | refine blk_drewN ?_ _ | refine blk_drew ?_ | refine blk_alloc ?_ _)); exact BK347.out) NB347_345.out (by simp)); have n1_ := Aside0.mk (hb); have n2_ := Aside0.mk (hi); clear BK347; clear HB; clear HI345; have BK347 := n0_; have HB := n1_; have HI345 := n2_; clear n0_ n1_ n2_; (try clear hb); (try clear hb2); (try clear hk); (try clear hi)) | (go_at_call 16; (with_reducible refine (lock_Lock_Why.calls gb345 t375 t376 t377 t378 t379 t380 t381 w _ ?side1 ?side2 A43.out).mono ?_); (case side1 => repeat (first | (with_reducible first | exact HI345.out | apply IsS26.alloc | apply IsS26.drewN | apply IsS26.drew | apply IsS26.set_0 | apply IsS26.set_1 | apply IsS26.set_2 | refine IsS26.far ?_ NB345_347.out _) | exact HI345.out)); (case side2 => repeat (first | (with_reducible first | exact HB.out | apply below_alloc | apply pw_below_drewN | apply below_drew1 | refine below_set ?_ (IsS26.ge HI345.out) | refine below_set ?_ GE347.out) | exact HB.out)); rintro e w48 ⟨rfl, hi, hb, hk⟩; have n0_ := Aside0.mk (KeepBut.blk hk (g' := gb347) (o := .cells #[.int .i64 ((rd_T30 l0 x15_1).f0), .int .i64 ((rd_T30 l0 x15_1).f1)] 30 (0, 0)) (by (with_reducible repeat (first | refine blk_drewN ?_ _ | refine blk_drew ?_ | refine blk_alloc ?_ _)); exact BK347.out) NB347_345.out (by simp)); have n1_ := Aside0.mk (hb); have n2_ := Aside0.mk (hi); clear BK347; clear HB; clear HI345; have BK347 := n0_; have HB := n1_; have HI345 := n2_; clear n0_ n1_ n2_; (try clear hb); (try clear hb2); (try clear hk); (try clear hi)) | (go_at_call 15; (with_reducible refine (lock_Lock_State.calls gb345 t379 t380 t381 t382 t383 t384 t385 w _ ?side1 ?side2 A44.out).mono ?_); (case side1 => repeat (first | (with_reducible first | exact HI345.out | apply IsS26.alloc | apply IsS26.drewN | apply IsS26.drew | apply IsS26.set_0 | apply IsS26.set_1 | apply IsS26.set_2 | refine IsS26.far ?_ NB345_347.out _) | exact HI345.out)); (case side2 => repeat (first | (with_reducible first | exact HB.out | apply below_alloc | apply pw_below_drewN | apply below_drew1 | refine below_set ?_ (IsS26.ge HI345.out) | refine below_set ?_ GE347.out) | exact HB.out)); rintro e w49 ⟨rfl, hi, hb, hk⟩; have n0_ := Aside0.mk (KeepBut.blk hk (g' := gb347) (o := .cells #[.int .i64 ((rd_T30 l0 x15_1).f0), .int .i64 ((rd_T30 l0 x15_1).f1)] 30 (0, 0)) (by (with_reducible repeat (first | refine blk_drewN ?_ _ | refine blk_drew ?_ | refine blk_alloc ?_ _)); exact BK347.out) NB347_345.out (by simp)); have n1_ := Aside0.mk (hb); have n2_ := Aside0.mk (hi); clear BK347; clear HB; clear HI345; have BK347 := n0_; have HB := n1_; have HI345 := n2_; clear n0_ n1_ n2_; (try clear hb); (try clear hb2); (try clear hk); (try clear hi)))
                        go_ret
                        exact ⟨by first | rfl | (simp [errW_none, errW_some] <;> rfl) | (simp [*, errW_none, errW_some] <;> rfl), by repeat (first | (with_reducible first | exact HB.out | apply below_alloc | apply pw_below_drewN | apply below_drew1 | refine below_set ?_ (IsS26.ge HI345.out) | refine below_set ?_ GE347.out) | exact HB.out)⟩
                      · rw [if_neg c45] at H
                        have c45b0 : ((t378 != 0) != (t382 == 3)) = false := by simpa using c45
                        (try (have c45e0 : ((t378 != 0) = (t382 == 3)) = True := by (have he_ := c45b0; revert he_; cases ((t378 != 0)) <;> cases ((t382 == 3)) <;> simp)))
                        (try (have c45e1 : ((t378 != 0) == (t382 == 3)) = true := by (have he_ := c45b0; revert he_; cases ((t378 != 0)) <;> cases ((t382 == 3)) <;> simp)))
                        (try (have c45b1 : decide ((t378 != 0) = (t382 == 3)) = true := by simpa using c45))
                        (try (have c45b2 : ((t378 != 0) == (t382 == 3)) = true := by simpa using c45))
                        clear c45
                        have H' := Aside0.mk H
                        clear H
                        go_wp2_with (first | ((with_reducible refine gate_callee (f := 18) rfl ?_); refine goesL_ (some 42) rfl rfl Try.func18 (by kernel_rfl) rfl #[.pointer (some ⟨gb345, 0, none⟩)] rfl (by (try simp only [List.map_toArray, List.map_cons, List.map_nil]); first | done | rfl | (simp only [List.length_drop, List.length_take]; rfl)) ?_; (with_reducible refine (lock_Lock_Text.calls gb345 x346000_11 x346001_11 x346002_11 t370 t371 t372 t373 w _ ?side1 ?side2 A38.out).mono ?_); (case side1 => repeat (first | (with_reducible first | exact HI345.out | apply IsS26.alloc | apply IsS26.drewN | apply IsS26.drew | apply IsS26.set_0 | apply IsS26.set_1 | apply IsS26.set_2 | refine IsS26.far ?_ NB345_347.out _) | exact HI345.out)); (case side2 => repeat (first | (with_reducible first | exact HB.out | apply below_alloc | apply pw_below_drewN | apply below_drew1 | refine below_set ?_ (IsS26.ge HI345.out) | refine below_set ?_ GE347.out) | exact HB.out)); rintro e w50 ⟨rfl, hi, hb, hk⟩; refine ⟨_, rfl, ?_⟩; have n0_ := Aside0.mk (KeepBut.blk hk (g' := gb347) (o := .cells #[.int .i64 ((rd_T30 l0 x15_1).f0), .int .i64 ((rd_T30 l0 x15_1).f1)] 30 (0, 0)) (by (with_reducible repeat (first | refine blk_drewN ?_ _ | refine blk_drew ?_ | refine blk_alloc ?_ _)); exact BK347.out) NB347_345.out (by simp)); have n1_ := Aside0.mk (hb); have n2_ := Aside0.mk (hi); clear BK347; clear HB; clear HI345; have BK347 := n0_; have HB := n1_; have HI345 := n2_; clear n0_ n1_ n2_; (try clear hb); (try clear hb2); (try clear hk); (try clear hi)) | ((with_reducible refine gate_callee (f := 20) rfl ?_); refine goesL_ (some 44) rfl rfl Try.func20 (by kernel_rfl) rfl #[.pointer (some ⟨gb345, 0, none⟩)] rfl (by (try simp only [List.map_toArray, List.map_cons, List.map_nil]); first | done | rfl | (simp only [List.length_drop, List.length_take]; rfl)) ?_; (with_reducible refine (lock_Lock_May.calls gb345 t371 t372 t373 t374 t375 t376 t377 w _ ?side1 ?side2 A39.out).mono ?_); (case side1 => repeat (first | (with_reducible first | exact HI345.out | apply IsS26.alloc | apply IsS26.drewN | apply IsS26.drew | apply IsS26.set_0 | apply IsS26.set_1 | apply IsS26.set_2 | refine IsS26.far ?_ NB345_347.out _) | exact HI345.out)); (case side2 => repeat (first | (with_reducible first | exact HB.out | apply below_alloc | apply pw_below_drewN | apply below_drew1 | refine below_set ?_ (IsS26.ge HI345.out) | refine below_set ?_ GE347.out) | exact HB.out)); rintro e w51 ⟨rfl, hi, hb, hk⟩; refine ⟨_, rfl, ?_⟩; have n0_ := Aside0.mk (KeepBut.blk hk (g' := gb347) (o := .cells #[.int .i64 ((rd_T30 l0 x15_1).f0), .int .i64 ((rd_T30 l0 x15_1).f1)] 30 (0, 0)) (by (with_reducible repeat (first | refine blk_drewN ?_ _ | refine blk_drew ?_ | refine blk_alloc ?_ _)); exact BK347.out) NB347_345.out (by simp)); have n1_ := Aside0.mk (hb); have n2_ := Aside0.mk (hi); clear BK347; clear HB; clear HI345; have BK347 := n0_; have HB := n1_; have HI345 := n2_; clear n0_ n1_ n2_; (try clear hb); (try clear hb2); (try clear hk); (try clear hi)) | (go_at_call 16; (with_reducible refine (lock_Lock_Why.calls gb345 t375 t376 t377 t378 t379 t380 t381 w _ ?side1 ?side2 A43.out).mono ?_); (case side1 => repeat (first | (with_reducible first | exact HI345.out | apply IsS26.alloc | apply IsS26.drewN | apply IsS26.drew | apply IsS26.set_0 | apply IsS26.set_1 | apply IsS26.set_2 | refine IsS26.far ?_ NB345_347.out _) | exact HI345.out)); (case side2 => repeat (first | (with_reducible first | exact HB.out | apply below_alloc | apply pw_below_drewN | apply below_drew1 | refine below_set ?_ (IsS26.ge HI345.out) | refine below_set ?_ GE347.out) | exact HB.out)); rintro e w52 ⟨rfl, hi, hb, hk⟩; have n0_ := Aside0.mk (KeepBut.blk hk (g' := gb347) (o := .cells #[.int .i64 ((rd_T30 l0 x15_1).f0), .int .i64 ((rd_T30 l0 x15_1).f1)] 30 (0, 0)) (by (with_reducible repeat (first | refine blk_drewN ?_ _ | refine blk_drew ?_ | refine blk_alloc ?_ _)); exact BK347.out) NB347_345.out (by simp)); have n1_ := Aside0.mk (hb); have n2_ := Aside0.mk (hi); clear BK347; clear HB; clear HI345; have BK347 := n0_; have HB := n1_; have HI345 := n2_; clear n0_ n1_ n2_; (try clear hb); (try clear hb2); (try clear hk); (try clear hi)) | (go_at_call 15; (with_reducible refine (lock_Lock_State.calls gb345 t379 t380 t381 t382 t383 t384 t385 w _ ?side1 ?side2 A44.out).mono ?_); (case side1 => repeat (first | (with_reducible first | exact HI345.out | apply IsS26.alloc | apply IsS26.drewN | apply IsS26.drew | apply IsS26.set_0 | apply IsS26.set_1 | apply IsS26.set_2 | refine IsS26.far ?_ NB345_347.out _) | exact HI345.out)); (case side2 => repeat (first | (with_reducible first | exact HB.out | apply below_alloc | apply pw_below_drewN | apply below_drew1 | refine below_set ?_ (IsS26.ge HI345.out) | refine below_set ?_ GE347.out) | exact HB.out)); rintro e w53 ⟨rfl, hi, hb, hk⟩; have n0_ := Aside0.mk (KeepBut.blk hk (g' := gb347) (o := .cells #[.int .i64 ((rd_T30 l0 x15_1).f0), .int .i64 ((rd_T30 l0 x15_1).f1)] 30 (0, 0)) (by (with_reducible repeat (first | refine blk_drewN ?_ _ | refine blk_drew ?_ | refine blk_alloc ?_ _)); exact BK347.out) NB347_345.out (by simp)); have n1_ := Aside0.mk (hb); have n2_ := Aside0.mk (hi); clear BK347; clear HB; clear HI345; have BK347 := n0_; have HB := n1_; have HI345 := n2_; clear n0_ n1_ n2_; (try clear hb); (try clear hb2); (try clear hk); (try clear hi)))
                        go_roundg kj11
                        case measure => have := HK1.out; have := HJ11.out; omega
                        case rel => exact ⟨(wrap64 (x15_1 + 1)), (t383), (t384), (t385), (by first | rfl | (simp; done) | (simp [*]; done)), H', ⟨by have := HK1.out; have := HJ11.out; omega⟩, ⟨by repeat (first | (with_reducible first | exact HI345.out | apply IsS26.alloc | apply IsS26.drewN | apply IsS26.drew | apply IsS26.set_0 | apply IsS26.set_1 | apply IsS26.set_2 | refine IsS26.far ?_ NB345_347.out _) | exact HI345.out)⟩, ⟨by repeat (first | (with_reducible first | exact HB.out | apply below_alloc | apply pw_below_drewN | apply below_drew1 | refine below_set ?_ (IsS26.ge HI345.out) | refine below_set ?_ GE347.out) | exact HB.out)⟩⟩
              · rw [if_neg c11] at H
                exact absurd H (by simp)
            · rw [if_neg c10] at H
              exact absurd H (by simp)
          · rw [if_neg c9] at H
            have c9b0 : decide (x15_1 < (l0.length : Int)) = false := decide_eq_false c9
            clear c9
            replace H := Option.bind_eq_some_iff.mp H
            obtain ⟨⟨t386, t387, t388⟩, A540, H⟩ := H
            replace H : ((lock_Lock_May.f t386 t387 t388).bind fun bt389 => (if bt389.1 = 0 then ((lock_Lock_Fail.f bt389.2.1 bt389.2.2.1 bt389.2.2.2 a1).bind fun bt393 => (if bt393.1 = a1 then ((lock_Lock_State.f bt393.2.1 bt393.2.2.1 bt393.2.2.2).bind fun bt397 => (if ((bt397.1 == 3) != (a1 != 0)) = true then (greenscreenlaw21_LockTexts.j3 k1 true bt397.2.1 bt397.2.2.1 bt397.2.2.2) else ((lock_Lock_Reset.f bt397.2.1 bt397.2.2.1 bt397.2.2.2).bind fun bt401 => (greenscreenlaw21_LockTexts.j3 k1 (bt401.1 != (a1 != 0)) bt401.2.1 bt401.2.2.1 bt401.2.2.2)))) else (greenscreenlaw21_LockTexts.j3 k1 true bt393.2.1 bt393.2.2.1 bt393.2.2.2))) else (greenscreenlaw21_LockTexts.j3 k1 true bt389.2.1 bt389.2.2.1 bt389.2.2.2))) = some r := H
            have A54 := Aside0.mk A540
            clear A540
            have HC55 := Aside0.mk H
            clear H
            go_upto_region 27 with (first | ((with_reducible refine gate_callee (f := 7) rfl ?_); refine goesL_ (some 55) rfl rfl Try.func7 (by kernel_rfl) rfl #[.pointer (some ⟨gb345, 0, none⟩)] rfl (by (try simp only [List.map_toArray, List.map_cons, List.map_nil]); first | done | rfl | (simp only [List.length_drop, List.length_take]; rfl)) ?_; (with_reducible refine (lock_Lock_Open.calls gb345 x346000_1 x346001_1 x346002_1 t386 t387 t388 w _ ?side1 ?side2 A54.out).mono ?_); (case side1 => repeat (first | (with_reducible first | exact HI345.out | apply IsS26.alloc | apply IsS26.drewN | apply IsS26.drew | apply IsS26.set_0 | apply IsS26.set_1 | apply IsS26.set_2) | exact HI345.out)); (case side2 => repeat (first | (with_reducible first | exact HB.out | apply below_alloc | apply pw_below_drewN | apply below_drew1 | refine below_set ?_ (IsS26.ge HI345.out)) | exact HB.out)); rintro e w56 ⟨rfl, hi, hb, hk⟩; refine ⟨_, rfl, ?_⟩; have n0_ := Aside0.mk (hb); have n1_ := Aside0.mk (hi); clear HB; clear HI345; have HB := n0_; have HI345 := n1_; clear n0_ n1_; (try clear hb); (try clear hb2); (try clear hk); (try clear hi)))
            (try simp only [Act.put, List.setIfInBounds_toArray, List.set_cons_zero, List.set_cons_succ])
            go_cut [76] (fun v76 wc => ∃ (kq : Nat) (x76_54 : Bool) (x346000_54 : Int) (x346001_54 : Int) (x346002_54 : Int), v76 = .bool x76_54 ∧ Aside0 (greenscreenlaw21_LockTexts.j3 kq x76_54 x346000_54 x346001_54 x346002_54 = some r) ∧ Aside0 (kq ≤ k1) ∧ Aside0 (IsS26 w wc gb345 x346000_54 x346001_54 x346002_54) ∧ Aside0 (Below w.heap.size w wc))
            case first =>
              have H := HC55.out
              clear HC55
              replace H := Option.bind_eq_some_iff.mp H
              obtain ⟨⟨t389, t390, t391, t392⟩, A570, H⟩ := H
              replace H : (if t389 = 0 then ((lock_Lock_Fail.f t390 t391 t392 a1).bind fun bt393 => (if bt393.1 = a1 then ((lock_Lock_State.f bt393.2.1 bt393.2.2.1 bt393.2.2.2).bind fun bt397 => (if ((bt397.1 == 3) != (a1 != 0)) = true then (greenscreenlaw21_LockTexts.j3 k1 true bt397.2.1 bt397.2.2.1 bt397.2.2.2) else ((lock_Lock_Reset.f bt397.2.1 bt397.2.2.1 bt397.2.2.2).bind fun bt401 => (greenscreenlaw21_LockTexts.j3 k1 (bt401.1 != (a1 != 0)) bt401.2.1 bt401.2.2.1 bt401.2.2.2)))) else (greenscreenlaw21_LockTexts.j3 k1 true bt393.2.1 bt393.2.2.1 bt393.2.2.2))) else (greenscreenlaw21_LockTexts.j3 k1 true t390 t391 t392)) = some r := H
              have A57 := Aside0.mk A570
              clear A570
              by_cases c58 : t389 = 0
              · rw [if_pos c58] at H
                have c58b0 : (t389 == 0) = true := beq_iff_eq.mpr c58
                have c58b1 : (t389 != 0) = false := bne_eq_false_iff_eq.mpr c58
                clear c58
                (first | rw [c58b0] | (simp only [i64_w, i32_w]; rw [c58b0]) | skip)
                replace H := Option.bind_eq_some_iff.mp H
                obtain ⟨⟨t393, t394, t395, t396⟩, A590, H⟩ := H
                replace H : (if t393 = a1 then ((lock_Lock_State.f t394 t395 t396).bind fun bt397 => (if ((bt397.1 == 3) != (a1 != 0)) = true then (greenscreenlaw21_LockTexts.j3 k1 true bt397.2.1 bt397.2.2.1 bt397.2.2.2) else ((lock_Lock_Reset.f bt397.2.1 bt397.2.2.1 bt397.2.2.2).bind fun bt401 => (greenscreenlaw21_LockTexts.j3 k1 (bt401.1 != (a1 != 0)) bt401.2.1 bt401.2.2.1 bt401.2.2.2)))) else (greenscreenlaw21_LockTexts.j3 k1 true t394 t395 t396)) = some r := H
                have A59 := Aside0.mk A590
                clear A590
                by_cases c60 : t393 = a1
                · rw [if_pos c60] at H
                  have c60b0 : (t393 == a1) = true := beq_iff_eq.mpr c60
                  have c60b1 : (t393 != a1) = false := bne_eq_false_iff_eq.mpr c60
                  clear c60
                  replace H := Option.bind_eq_some_iff.mp H
                  obtain ⟨⟨t397, t398, t399, t400⟩, A610, H⟩ := H
                  replace H : (if ((t397 == 3) != (a1 != 0)) = true then (greenscreenlaw21_LockTexts.j3 k1 true t398 t399 t400) else ((lock_Lock_Reset.f t398 t399 t400).bind fun bt401 => (greenscreenlaw21_LockTexts.j3 k1 (bt401.1 != (a1 != 0)) bt401.2.1 bt401.2.2.1 bt401.2.2.2))) = some r := H
                  have A61 := Aside0.mk A610
                  clear A610
                  by_cases c62 : ((t397 == 3) != (a1 != 0)) = true
                  · rw [if_pos c62] at H
                    have c62b0 : ((t397 == 3) != (a1 != 0)) = true := c62
                    (try (have c62e0 : ((t397 == 3) = (a1 != 0)) = False := by (have he_ := c62b0; revert he_; cases ((t397 == 3)) <;> cases ((a1 != 0)) <;> simp)))
                    (try (have c62e1 : ((t397 == 3) == (a1 != 0)) = false := by (have he_ := c62b0; revert he_; cases ((t397 == 3)) <;> cases ((a1 != 0)) <;> simp)))
                    (try (have c62b1 : decide ((t397 == 3) = (a1 != 0)) = false := by simpa using c62))
                    (try (have c62b2 : ((t397 == 3) == (a1 != 0)) = false := by simpa using c62))
                    (try (have c62b3 : ¬ ((t397 == 3) = (a1 != 0)) := by simpa using c62))
                    clear c62
                    have H' := Aside0.mk H
                    clear H
                    go_wp2_with (first | ((with_reducible refine gate_callee (f := 20) rfl ?_); refine goesL_ (some 56) rfl rfl Try.func20 (by kernel_rfl) rfl #[.pointer (some ⟨gb345, 0, none⟩)] rfl (by (try simp only [List.map_toArray, List.map_cons, List.map_nil]); first | done | rfl | (simp only [List.length_drop, List.length_take]; rfl)) ?_; (with_reducible refine (lock_Lock_May.calls gb345 t386 t387 t388 t389 t390 t391 t392 w _ ?side1 ?side2 A57.out).mono ?_); (case side1 => repeat (first | (with_reducible first | exact HI345.out | apply IsS26.alloc | apply IsS26.drewN | apply IsS26.drew | apply IsS26.set_0 | apply IsS26.set_1 | apply IsS26.set_2) | exact HI345.out)); (case side2 => repeat (first | (with_reducible first | exact HB.out | apply below_alloc | apply pw_below_drewN | apply below_drew1 | refine below_set ?_ (IsS26.ge HI345.out)) | exact HB.out)); rintro e w63 ⟨rfl, hi, hb, hk⟩; refine ⟨_, rfl, ?_⟩; have n0_ := Aside0.mk (hb); have n1_ := Aside0.mk (hi); clear HB; clear HI345; have HB := n0_; have HI345 := n1_; clear n0_ n1_; (try clear hb); (try clear hb2); (try clear hk); (try clear hi)) | (go_at_call 11; (with_reducible refine (lock_Lock_Fail.calls gb345 t390 t391 t392 a1 t393 t394 t395 t396 w _ ?side1 ?side2 A59.out).mono ?_); (case side1 => repeat (first | (with_reducible first | exact HI345.out | apply IsS26.alloc | apply IsS26.drewN | apply IsS26.drew | apply IsS26.set_0 | apply IsS26.set_1 | apply IsS26.set_2) | exact HI345.out)); (case side2 => repeat (first | (with_reducible first | exact HB.out | apply below_alloc | apply pw_below_drewN | apply below_drew1 | refine below_set ?_ (IsS26.ge HI345.out)) | exact HB.out)); rintro e w64 ⟨rfl, hi, hb, hk⟩; have n0_ := Aside0.mk (hb); have n1_ := Aside0.mk (hi); clear HB; clear HI345; have HB := n0_; have HI345 := n1_; clear n0_ n1_; (try clear hb); (try clear hb2); (try clear hk); (try clear hi)) | (go_at_call 15; (with_reducible refine (lock_Lock_State.calls gb345 t394 t395 t396 t397 t398 t399 t400 w _ ?side1 ?side2 A61.out).mono ?_); (case side1 => repeat (first | (with_reducible first | exact HI345.out | apply IsS26.alloc | apply IsS26.drewN | apply IsS26.drew | apply IsS26.set_0 | apply IsS26.set_1 | apply IsS26.set_2) | exact HI345.out)); (case side2 => repeat (first | (with_reducible first | exact HB.out | apply below_alloc | apply pw_below_drewN | apply below_drew1 | refine below_set ?_ (IsS26.ge HI345.out)) | exact HB.out)); rintro e w65 ⟨rfl, hi, hb, hk⟩; have n0_ := Aside0.mk (hb); have n1_ := Aside0.mk (hi); clear HB; clear HI345; have HB := n0_; have HI345 := n1_; clear n0_ n1_; (try clear hb); (try clear hb2); (try clear hk); (try clear hi)))
                    go_meet
                    case rel => exact ⟨_, (true), (t398), (t399), (t400), (by first | rfl | (simp; done) | (simp [*]; done)), H', ⟨by have := HK1.out; first | omega | exact Nat.le_refl _⟩, ⟨by repeat (first | (with_reducible first | exact HI345.out | apply IsS26.alloc | apply IsS26.drewN | apply IsS26.drew | apply IsS26.set_0 | apply IsS26.set_1 | apply IsS26.set_2) | exact HI345.out)⟩, ⟨by repeat (first | (with_reducible first | exact HB.out | apply below_alloc | apply pw_below_drewN | apply below_drew1 | refine below_set ?_ (IsS26.ge HI345.out)) | exact HB.out)⟩⟩
                  · rw [if_neg c62] at H
                    have c62b0 : ((t397 == 3) != (a1 != 0)) = false := by simpa using c62
                    (try (have c62e0 : ((t397 == 3) = (a1 != 0)) = True := by (have he_ := c62b0; revert he_; cases ((t397 == 3)) <;> cases ((a1 != 0)) <;> simp)))
                    (try (have c62e1 : ((t397 == 3) == (a1 != 0)) = true := by (have he_ := c62b0; revert he_; cases ((t397 == 3)) <;> cases ((a1 != 0)) <;> simp)))
                    (try (have c62b1 : decide ((t397 == 3) = (a1 != 0)) = true := by simpa using c62))
                    (try (have c62b2 : ((t397 == 3) == (a1 != 0)) = true := by simpa using c62))
                    clear c62
                    replace H := Option.bind_eq_some_iff.mp H
                    obtain ⟨⟨t401, t402, t403, t404⟩, A660, H⟩ := H
                    replace H : (greenscreenlaw21_LockTexts.j3 k1 (t401 != (a1 != 0)) t402 t403 t404) = some r := H
                    have A66 := Aside0.mk A660
                    clear A660
                    have H' := Aside0.mk H
                    clear H
                    go_wp2_with (first | ((with_reducible refine gate_callee (f := 20) rfl ?_); refine goesL_ (some 56) rfl rfl Try.func20 (by kernel_rfl) rfl #[.pointer (some ⟨gb345, 0, none⟩)] rfl (by (try simp only [List.map_toArray, List.map_cons, List.map_nil]); first | done | rfl | (simp only [List.length_drop, List.length_take]; rfl)) ?_; (with_reducible refine (lock_Lock_May.calls gb345 t386 t387 t388 t389 t390 t391 t392 w _ ?side1 ?side2 A57.out).mono ?_); (case side1 => repeat (first | (with_reducible first | exact HI345.out | apply IsS26.alloc | apply IsS26.drewN | apply IsS26.drew | apply IsS26.set_0 | apply IsS26.set_1 | apply IsS26.set_2) | exact HI345.out)); (case side2 => repeat (first | (with_reducible first | exact HB.out | apply below_alloc | apply pw_below_drewN | apply below_drew1 | refine below_set ?_ (IsS26.ge HI345.out)) | exact HB.out)); rintro e w67 ⟨rfl, hi, hb, hk⟩; refine ⟨_, rfl, ?_⟩; have n0_ := Aside0.mk (hb); have n1_ := Aside0.mk (hi); clear HB; clear HI345; have HB := n0_; have HI345 := n1_; clear n0_ n1_; (try clear hb); (try clear hb2); (try clear hk); (try clear hi)) | (go_at_call 11; (with_reducible refine (lock_Lock_Fail.calls gb345 t390 t391 t392 a1 t393 t394 t395 t396 w _ ?side1 ?side2 A59.out).mono ?_); (case side1 => repeat (first | (with_reducible first | exact HI345.out | apply IsS26.alloc | apply IsS26.drewN | apply IsS26.drew | apply IsS26.set_0 | apply IsS26.set_1 | apply IsS26.set_2) | exact HI345.out)); (case side2 => repeat (first | (with_reducible first | exact HB.out | apply below_alloc | apply pw_below_drewN | apply below_drew1 | refine below_set ?_ (IsS26.ge HI345.out)) | exact HB.out)); rintro e w68 ⟨rfl, hi, hb, hk⟩; have n0_ := Aside0.mk (hb); have n1_ := Aside0.mk (hi); clear HB; clear HI345; have HB := n0_; have HI345 := n1_; clear n0_ n1_; (try clear hb); (try clear hb2); (try clear hk); (try clear hi)) | (go_at_call 15; (with_reducible refine (lock_Lock_State.calls gb345 t394 t395 t396 t397 t398 t399 t400 w _ ?side1 ?side2 A61.out).mono ?_); (case side1 => repeat (first | (with_reducible first | exact HI345.out | apply IsS26.alloc | apply IsS26.drewN | apply IsS26.drew | apply IsS26.set_0 | apply IsS26.set_1 | apply IsS26.set_2) | exact HI345.out)); (case side2 => repeat (first | (with_reducible first | exact HB.out | apply below_alloc | apply pw_below_drewN | apply below_drew1 | refine below_set ?_ (IsS26.ge HI345.out)) | exact HB.out)); rintro e w69 ⟨rfl, hi, hb, hk⟩; have n0_ := Aside0.mk (hb); have n1_ := Aside0.mk (hi); clear HB; clear HI345; have HB := n0_; have HI345 := n1_; clear n0_ n1_; (try clear hb); (try clear hb2); (try clear hk); (try clear hi)) | (go_at_call 13; (with_reducible refine (lock_Lock_Reset.calls gb345 t398 t399 t400 t401 t402 t403 t404 w _ ?side1 ?side2 A66.out).mono ?_); (case side1 => repeat (first | (with_reducible first | exact HI345.out | apply IsS26.alloc | apply IsS26.drewN | apply IsS26.drew | apply IsS26.set_0 | apply IsS26.set_1 | apply IsS26.set_2) | exact HI345.out)); (case side2 => repeat (first | (with_reducible first | exact HB.out | apply below_alloc | apply pw_below_drewN | apply below_drew1 | refine below_set ?_ (IsS26.ge HI345.out)) | exact HB.out)); rintro e w70 ⟨rfl, hi, hb, hk⟩; have n0_ := Aside0.mk (hb); have n1_ := Aside0.mk (hi); clear HB; clear HI345; have HB := n0_; have HI345 := n1_; clear n0_ n1_; (try clear hb); (try clear hb2); (try clear hk); (try clear hi)))
                    go_meet
                    case rel => exact ⟨_, ((t401 != (a1 != 0))), (t402), (t403), (t404), (by first | rfl | (simp; done) | (simp [*]; done)), H', ⟨by have := HK1.out; first | omega | exact Nat.le_refl _⟩, ⟨by repeat (first | (with_reducible first | exact HI345.out | apply IsS26.alloc | apply IsS26.drewN | apply IsS26.drew | apply IsS26.set_0 | apply IsS26.set_1 | apply IsS26.set_2) | exact HI345.out)⟩, ⟨by repeat (first | (with_reducible first | exact HB.out | apply below_alloc | apply pw_below_drewN | apply below_drew1 | refine below_set ?_ (IsS26.ge HI345.out)) | exact HB.out)⟩⟩
                · rw [if_neg c60] at H
                  have c60b0 : (t393 == a1) = false := beq_eq_false_iff_ne.mpr c60
                  have c60b1 : (t393 != a1) = true := bne_iff_ne.mpr c60
                  have H' := Aside0.mk H
                  clear H
                  go_wp2_with (first | ((with_reducible refine gate_callee (f := 20) rfl ?_); refine goesL_ (some 56) rfl rfl Try.func20 (by kernel_rfl) rfl #[.pointer (some ⟨gb345, 0, none⟩)] rfl (by (try simp only [List.map_toArray, List.map_cons, List.map_nil]); first | done | rfl | (simp only [List.length_drop, List.length_take]; rfl)) ?_; (with_reducible refine (lock_Lock_May.calls gb345 t386 t387 t388 t389 t390 t391 t392 w _ ?side1 ?side2 A57.out).mono ?_); (case side1 => repeat (first | (with_reducible first | exact HI345.out | apply IsS26.alloc | apply IsS26.drewN | apply IsS26.drew | apply IsS26.set_0 | apply IsS26.set_1 | apply IsS26.set_2) | exact HI345.out)); (case side2 => repeat (first | (with_reducible first | exact HB.out | apply below_alloc | apply pw_below_drewN | apply below_drew1 | refine below_set ?_ (IsS26.ge HI345.out)) | exact HB.out)); rintro e w71 ⟨rfl, hi, hb, hk⟩; refine ⟨_, rfl, ?_⟩; have n0_ := Aside0.mk (hb); have n1_ := Aside0.mk (hi); clear HB; clear HI345; have HB := n0_; have HI345 := n1_; clear n0_ n1_; (try clear hb); (try clear hb2); (try clear hk); (try clear hi)) | (go_at_call 11; (with_reducible refine (lock_Lock_Fail.calls gb345 t390 t391 t392 a1 t393 t394 t395 t396 w _ ?side1 ?side2 A59.out).mono ?_); (case side1 => repeat (first | (with_reducible first | exact HI345.out | apply IsS26.alloc | apply IsS26.drewN | apply IsS26.drew | apply IsS26.set_0 | apply IsS26.set_1 | apply IsS26.set_2) | exact HI345.out)); (case side2 => repeat (first | (with_reducible first | exact HB.out | apply below_alloc | apply pw_below_drewN | apply below_drew1 | refine below_set ?_ (IsS26.ge HI345.out)) | exact HB.out)); rintro e w72 ⟨rfl, hi, hb, hk⟩; have n0_ := Aside0.mk (hb); have n1_ := Aside0.mk (hi); clear HB; clear HI345; have HB := n0_; have HI345 := n1_; clear n0_ n1_; (try clear hb); (try clear hb2); (try clear hk); (try clear hi)))
                  go_meet
                  case rel => exact ⟨_, (true), (t394), (t395), (t396), (by first | rfl | (simp; done) | (simp [*]; done)), H', ⟨by have := HK1.out; first | omega | exact Nat.le_refl _⟩, ⟨by repeat (first | (with_reducible first | exact HI345.out | apply IsS26.alloc | apply IsS26.drewN | apply IsS26.drew | apply IsS26.set_0 | apply IsS26.set_1 | apply IsS26.set_2) | exact HI345.out)⟩, ⟨by repeat (first | (with_reducible first | exact HB.out | apply below_alloc | apply pw_below_drewN | apply below_drew1 | refine below_set ?_ (IsS26.ge HI345.out)) | exact HB.out)⟩⟩
              · rw [if_neg c58] at H
                have c58b0 : (t389 == 0) = false := beq_eq_false_iff_ne.mpr c58
                have c58b1 : (t389 != 0) = true := bne_iff_ne.mpr c58
                (first | rw [c58b0] | (simp only [i64_w, i32_w]; rw [c58b0]) | skip)
                have H' := Aside0.mk H
                clear H
                go_wp2_with (first | ((with_reducible refine gate_callee (f := 20) rfl ?_); refine goesL_ (some 56) rfl rfl Try.func20 (by kernel_rfl) rfl #[.pointer (some ⟨gb345, 0, none⟩)] rfl (by (try simp only [List.map_toArray, List.map_cons, List.map_nil]); first | done | rfl | (simp only [List.length_drop, List.length_take]; rfl)) ?_; (with_reducible refine (lock_Lock_May.calls gb345 t386 t387 t388 t389 t390 t391 t392 w _ ?side1 ?side2 A57.out).mono ?_); (case side1 => repeat (first | (with_reducible first | exact HI345.out | apply IsS26.alloc | apply IsS26.drewN | apply IsS26.drew | apply IsS26.set_0 | apply IsS26.set_1 | apply IsS26.set_2) | exact HI345.out)); (case side2 => repeat (first | (with_reducible first | exact HB.out | apply below_alloc | apply pw_below_drewN | apply below_drew1 | refine below_set ?_ (IsS26.ge HI345.out)) | exact HB.out)); rintro e w73 ⟨rfl, hi, hb, hk⟩; refine ⟨_, rfl, ?_⟩; have n0_ := Aside0.mk (hb); have n1_ := Aside0.mk (hi); clear HB; clear HI345; have HB := n0_; have HI345 := n1_; clear n0_ n1_; (try clear hb); (try clear hb2); (try clear hk); (try clear hi)))
                go_meet
                case rel => exact ⟨_, (true), (t390), (t391), (t392), (by first | rfl | (simp; done) | (simp [*]; done)), H', ⟨by have := HK1.out; first | omega | exact Nat.le_refl _⟩, ⟨by repeat (first | (with_reducible first | exact HI345.out | apply IsS26.alloc | apply IsS26.drewN | apply IsS26.drew | apply IsS26.set_0 | apply IsS26.set_1 | apply IsS26.set_2) | exact HI345.out)⟩, ⟨by repeat (first | (with_reducible first | exact HB.out | apply below_alloc | apply pw_below_drewN | apply below_drew1 | refine below_set ?_ (IsS26.ge HI345.out)) | exact HB.out)⟩⟩
            case rest =>
              clear HC55
              try clear c1
              try clear c2
              try clear p2
              try clear c3
              try clear p3
              try clear q3
              try clear hx3
              try clear c4
              try clear c5
              try clear c5b0
              try clear c5b1
              try clear c6
              try clear p6
              try clear c7
              try clear c9
              try clear c9b0
              try clear c10
              try clear c10b0
              try clear c11
              try clear c11b0
              try clear c13
              try clear c14
              try clear c16
              try clear c16b0
              try clear c16b1
              try clear c18
              try clear c19
              try clear c19b0
              try clear c19b1
              try clear c20
              try clear c23
              try clear c23b0
              try clear c23b1
              try clear c24
              try clear c27
              try clear c27b0
              try clear c27b1
              try clear c29
              try clear c32
              try clear c32b0
              try clear c32b1
              try clear p34
              try clear q34
              try clear hx34
              try clear c35
              try clear c35b0
              try clear c35b1
              try clear c40
              try clear c40b0
              try clear c40b1
              try clear c40b2
              try clear c45
              try clear c45b0
              try clear c45b1
              try clear c45b2
              try clear c58
              try clear c58b0
              try clear c58b1
              try clear c60
              try clear c60b0
              try clear c60b1
              try clear c62
              try clear c62b0
              try clear c62b1
              try clear c62b2
              try clear p64
              try clear hcz15_0
              try clear hcz15_1
              try clear hcz30_0
              try clear hcz30_1
              try clear hfz15_0
              try clear hfz15_1
              try clear hfz30_0
              try clear hfz30_1
              try clear hx346_0
              try clear hx346_1
              try clear p2
              try clear p3
              try clear p34
              try clear p346
              try clear q3
              try clear q34
              try clear q346
              obtain ⟨kq, x76_54, x346000_54, x346001_54, x346002_54, rfl, HA, HJ54, HI345, HB⟩ := hcut
              cases kq with
              | zero => exact absurd HA.out (by simp [greenscreenlaw21_LockTexts.j3])
              | succ kj54 =>
                have H := HA.out
                clear HA
                simp only [greenscreenlaw21_LockTexts.j3] at H
                by_cases c74 : x76_54 = true
                · subst c74
                  have H1 : (some false) = some r := by rw [if_pos rfl] at H; exact H
                  clear H
                  have H := H1
                  clear H1
                  obtain rfl := Option.some.inj H
                  go_wp2
                  go_ret
                  exact ⟨by first | rfl | (simp [errW_none, errW_some] <;> rfl) | (simp [*, errW_none, errW_some] <;> rfl), by repeat (first | (with_reducible first | exact HB.out | apply below_alloc | apply pw_below_drewN | apply below_drew1 | refine below_set ?_ (IsS26.ge HI345.out)) | exact HB.out)⟩
                · replace c74 := Bool.eq_false_iff.mpr c74
                  subst c74
                  have H1 : ((lock_Lock_State.f x346000_54 x346001_54 x346002_54).bind fun bt405 => (if bt405.1 = 1 then ((lock_Lock_Send.f bt405.2.1 bt405.2.2.1 bt405.2.2.2).bind fun bt409 => (if bt409.1 = 0 then ((lock_Lock_Reset.f bt409.2.1 bt409.2.2.1 bt409.2.2.2).bind fun bt413 => (if bt413.1 = true then (some false) else ((lock_Lock_Restore.f bt413.2.1 bt413.2.2.1 bt413.2.2.2).bind fun bt417 => (some bt417.1)))) else (some false))) else (some false))) = some r := by rw [if_neg (show ¬ (false = true) by decide)] at H; exact H
                  clear H
                  have H := H1
                  clear H1
                  replace H := Option.bind_eq_some_iff.mp H
                  obtain ⟨⟨t405, t406, t407, t408⟩, A750, H⟩ := H
                  replace H : (if t405 = 1 then ((lock_Lock_Send.f t406 t407 t408).bind fun bt409 => (if bt409.1 = 0 then ((lock_Lock_Reset.f bt409.2.1 bt409.2.2.1 bt409.2.2.2).bind fun bt413 => (if bt413.1 = true then (some false) else ((lock_Lock_Restore.f bt413.2.1 bt413.2.2.1 bt413.2.2.2).bind fun bt417 => (some bt417.1)))) else (some false))) else (some false)) = some r := H
                  have A75 := Aside0.mk A750
                  clear A750
                  by_cases c76 : t405 = 1
                  · rw [if_pos c76] at H
                    have c76b0 : (t405 == 1) = true := beq_iff_eq.mpr c76
                    have c76b1 : (t405 != 1) = false := bne_eq_false_iff_eq.mpr c76
                    clear c76
                    replace H := Option.bind_eq_some_iff.mp H
                    obtain ⟨⟨t409, t410, t411, t412⟩, A770, H⟩ := H
                    replace H : (if t409 = 0 then ((lock_Lock_Reset.f t410 t411 t412).bind fun bt413 => (if bt413.1 = true then (some false) else ((lock_Lock_Restore.f bt413.2.1 bt413.2.2.1 bt413.2.2.2).bind fun bt417 => (some bt417.1)))) else (some false)) = some r := H
                    have A77 := Aside0.mk A770
                    clear A770
                    by_cases c78 : t409 = 0
                    · rw [if_pos c78] at H
                      have c78b0 : (t409 == 0) = true := beq_iff_eq.mpr c78
                      have c78b1 : (t409 != 0) = false := bne_eq_false_iff_eq.mpr c78
                      clear c78
                      replace H := Option.bind_eq_some_iff.mp H
                      obtain ⟨⟨t413, t414, t415, t416⟩, A790, H⟩ := H
                      replace H : (if t413 = true then (some false) else ((lock_Lock_Restore.f t414 t415 t416).bind fun bt417 => (some bt417.1))) = some r := H
                      have A79 := Aside0.mk A790
                      clear A790
                      by_cases c80 : t413 = true
                      · subst c80
                        have H1 : (some false) = some r := by rw [if_pos rfl] at H; exact H
                        clear H
                        have H := H1
                        clear H1
                        obtain rfl := Option.some.inj H
                        go_wp2_with (first | ((with_reducible refine gate_callee (f := 15) rfl ?_); refine goesL_ (some 77) rfl rfl Try.func15 (by kernel_rfl) rfl #[.pointer (some ⟨gb345, 0, none⟩)] rfl (by (try simp only [List.map_toArray, List.map_cons, List.map_nil]); first | done | rfl | (simp only [List.length_drop, List.length_take]; rfl)) ?_; (with_reducible refine (lock_Lock_State.calls gb345 x346000_54 x346001_54 x346002_54 t405 t406 t407 t408 w _ ?side1 ?side2 A75.out).mono ?_); (case side1 => repeat (first | (with_reducible first | exact HI345.out | apply IsS26.alloc | apply IsS26.drewN | apply IsS26.drew | apply IsS26.set_0 | apply IsS26.set_1 | apply IsS26.set_2) | exact HI345.out)); (case side2 => repeat (first | (with_reducible first | exact HB.out | apply below_alloc | apply pw_below_drewN | apply below_drew1 | refine below_set ?_ (IsS26.ge HI345.out)) | exact HB.out)); rintro e w81 ⟨rfl, hi, hb, hk⟩; refine ⟨_, rfl, ?_⟩; have n0_ := Aside0.mk (hb); have n1_ := Aside0.mk (hi); clear HB; clear HI345; have HB := n0_; have HI345 := n1_; clear n0_ n1_; (try clear hb); (try clear hb2); (try clear hk); (try clear hi)) | (go_at_call 10; (with_reducible refine (lock_Lock_Send.calls gb345 t406 t407 t408 t409 t410 t411 t412 w _ ?side1 ?side2 A77.out).mono ?_); (case side1 => repeat (first | (with_reducible first | exact HI345.out | apply IsS26.alloc | apply IsS26.drewN | apply IsS26.drew | apply IsS26.set_0 | apply IsS26.set_1 | apply IsS26.set_2) | exact HI345.out)); (case side2 => repeat (first | (with_reducible first | exact HB.out | apply below_alloc | apply pw_below_drewN | apply below_drew1 | refine below_set ?_ (IsS26.ge HI345.out)) | exact HB.out)); rintro e w82 ⟨rfl, hi, hb, hk⟩; have n0_ := Aside0.mk (hb); have n1_ := Aside0.mk (hi); clear HB; clear HI345; have HB := n0_; have HI345 := n1_; clear n0_ n1_; (try clear hb); (try clear hb2); (try clear hk); (try clear hi)) | (go_at_call 13; (with_reducible refine (lock_Lock_Reset.calls gb345 t410 t411 t412 true t414 t415 t416 w _ ?side1 ?side2 A79.out).mono ?_); (case side1 => repeat (first | (with_reducible first | exact HI345.out | apply IsS26.alloc | apply IsS26.drewN | apply IsS26.drew | apply IsS26.set_0 | apply IsS26.set_1 | apply IsS26.set_2) | exact HI345.out)); (case side2 => repeat (first | (with_reducible first | exact HB.out | apply below_alloc | apply pw_below_drewN | apply below_drew1 | refine below_set ?_ (IsS26.ge HI345.out)) | exact HB.out)); rintro e w83 ⟨rfl, hi, hb, hk⟩; have n0_ := Aside0.mk (hb); have n1_ := Aside0.mk (hi); clear HB; clear HI345; have HB := n0_; have HI345 := n1_; clear n0_ n1_; (try clear hb); (try clear hb2); (try clear hk); (try clear hi)))
                        go_ret
                        exact ⟨by first | rfl | (simp [errW_none, errW_some] <;> rfl) | (simp [*, errW_none, errW_some] <;> rfl), by repeat (first | (with_reducible first | exact HB.out | apply below_alloc | apply pw_below_drewN | apply below_drew1 | refine below_set ?_ (IsS26.ge HI345.out)) | exact HB.out)⟩
                      · replace c80 := Bool.eq_false_iff.mpr c80
                        subst c80
                        have H1 : ((lock_Lock_Restore.f t414 t415 t416).bind fun bt417 => (some bt417.1)) = some r := by rw [if_neg (show ¬ (false = true) by decide)] at H; exact H
                        clear H
                        have H := H1
                        clear H1
                        replace H := Option.bind_eq_some_iff.mp H
                        obtain ⟨⟨t417, t418, t419, t420⟩, A840, H⟩ := H
                        replace H : (some t417) = some r := H
                        have A84 := Aside0.mk A840
                        clear A840
                        obtain rfl := Option.some.inj H
                        go_wp2_with (first | ((with_reducible refine gate_callee (f := 15) rfl ?_); refine goesL_ (some 77) rfl rfl Try.func15 (by kernel_rfl) rfl #[.pointer (some ⟨gb345, 0, none⟩)] rfl (by (try simp only [List.map_toArray, List.map_cons, List.map_nil]); first | done | rfl | (simp only [List.length_drop, List.length_take]; rfl)) ?_; (with_reducible refine (lock_Lock_State.calls gb345 x346000_54 x346001_54 x346002_54 t405 t406 t407 t408 w _ ?side1 ?side2 A75.out).mono ?_); (case side1 => repeat (first | (with_reducible first | exact HI345.out | apply IsS26.alloc | apply IsS26.drewN | apply IsS26.drew | apply IsS26.set_0 | apply IsS26.set_1 | apply IsS26.set_2) | exact HI345.out)); (case side2 => repeat (first | (with_reducible first | exact HB.out | apply below_alloc | apply pw_below_drewN | apply below_drew1 | refine below_set ?_ (IsS26.ge HI345.out)) | exact HB.out)); rintro e w85 ⟨rfl, hi, hb, hk⟩; refine ⟨_, rfl, ?_⟩; have n0_ := Aside0.mk (hb); have n1_ := Aside0.mk (hi); clear HB; clear HI345; have HB := n0_; have HI345 := n1_; clear n0_ n1_; (try clear hb); (try clear hb2); (try clear hk); (try clear hi)) | (go_at_call 10; (with_reducible refine (lock_Lock_Send.calls gb345 t406 t407 t408 t409 t410 t411 t412 w _ ?side1 ?side2 A77.out).mono ?_); (case side1 => repeat (first | (with_reducible first | exact HI345.out | apply IsS26.alloc | apply IsS26.drewN | apply IsS26.drew | apply IsS26.set_0 | apply IsS26.set_1 | apply IsS26.set_2) | exact HI345.out)); (case side2 => repeat (first | (with_reducible first | exact HB.out | apply below_alloc | apply pw_below_drewN | apply below_drew1 | refine below_set ?_ (IsS26.ge HI345.out)) | exact HB.out)); rintro e w86 ⟨rfl, hi, hb, hk⟩; have n0_ := Aside0.mk (hb); have n1_ := Aside0.mk (hi); clear HB; clear HI345; have HB := n0_; have HI345 := n1_; clear n0_ n1_; (try clear hb); (try clear hb2); (try clear hk); (try clear hi)) | (go_at_call 13; (with_reducible refine (lock_Lock_Reset.calls gb345 t410 t411 t412 false t414 t415 t416 w _ ?side1 ?side2 A79.out).mono ?_); (case side1 => repeat (first | (with_reducible first | exact HI345.out | apply IsS26.alloc | apply IsS26.drewN | apply IsS26.drew | apply IsS26.set_0 | apply IsS26.set_1 | apply IsS26.set_2) | exact HI345.out)); (case side2 => repeat (first | (with_reducible first | exact HB.out | apply below_alloc | apply pw_below_drewN | apply below_drew1 | refine below_set ?_ (IsS26.ge HI345.out)) | exact HB.out)); rintro e w87 ⟨rfl, hi, hb, hk⟩; have n0_ := Aside0.mk (hb); have n1_ := Aside0.mk (hi); clear HB; clear HI345; have HB := n0_; have HI345 := n1_; clear n0_ n1_; (try clear hb); (try clear hb2); (try clear hk); (try clear hi)) | (go_at_call 14; (with_reducible refine (lock_Lock_Restore.calls gb345 t414 t415 t416 t417 t418 t419 t420 w _ ?side1 ?side2 A84.out).mono ?_); (case side1 => repeat (first | (with_reducible first | exact HI345.out | apply IsS26.alloc | apply IsS26.drewN | apply IsS26.drew | apply IsS26.set_0 | apply IsS26.set_1 | apply IsS26.set_2) | exact HI345.out)); (case side2 => repeat (first | (with_reducible first | exact HB.out | apply below_alloc | apply pw_below_drewN | apply below_drew1 | refine below_set ?_ (IsS26.ge HI345.out)) | exact HB.out)); rintro e w88 ⟨rfl, hi, hb, hk⟩; have n0_ := Aside0.mk (hb); have n1_ := Aside0.mk (hi); clear HB; clear HI345; have HB := n0_; have HI345 := n1_; clear n0_ n1_; (try clear hb); (try clear hb2); (try clear hk); (try clear hi)))
                        go_ret
                        exact ⟨by first | rfl | (simp [errW_none, errW_some] <;> rfl) | (simp [*, errW_none, errW_some] <;> rfl), by repeat (first | (with_reducible first | exact HB.out | apply below_alloc | apply pw_below_drewN | apply below_drew1 | refine below_set ?_ (IsS26.ge HI345.out)) | exact HB.out)⟩
                    · rw [if_neg c78] at H
                      have c78b0 : (t409 == 0) = false := beq_eq_false_iff_ne.mpr c78
                      have c78b1 : (t409 != 0) = true := bne_iff_ne.mpr c78
                      obtain rfl := Option.some.inj H
                      go_wp2_with (first | ((with_reducible refine gate_callee (f := 15) rfl ?_); refine goesL_ (some 77) rfl rfl Try.func15 (by kernel_rfl) rfl #[.pointer (some ⟨gb345, 0, none⟩)] rfl (by (try simp only [List.map_toArray, List.map_cons, List.map_nil]); first | done | rfl | (simp only [List.length_drop, List.length_take]; rfl)) ?_; (with_reducible refine (lock_Lock_State.calls gb345 x346000_54 x346001_54 x346002_54 t405 t406 t407 t408 w _ ?side1 ?side2 A75.out).mono ?_); (case side1 => repeat (first | (with_reducible first | exact HI345.out | apply IsS26.alloc | apply IsS26.drewN | apply IsS26.drew | apply IsS26.set_0 | apply IsS26.set_1 | apply IsS26.set_2) | exact HI345.out)); (case side2 => repeat (first | (with_reducible first | exact HB.out | apply below_alloc | apply pw_below_drewN | apply below_drew1 | refine below_set ?_ (IsS26.ge HI345.out)) | exact HB.out)); rintro e w89 ⟨rfl, hi, hb, hk⟩; refine ⟨_, rfl, ?_⟩; have n0_ := Aside0.mk (hb); have n1_ := Aside0.mk (hi); clear HB; clear HI345; have HB := n0_; have HI345 := n1_; clear n0_ n1_; (try clear hb); (try clear hb2); (try clear hk); (try clear hi)) | (go_at_call 10; (with_reducible refine (lock_Lock_Send.calls gb345 t406 t407 t408 t409 t410 t411 t412 w _ ?side1 ?side2 A77.out).mono ?_); (case side1 => repeat (first | (with_reducible first | exact HI345.out | apply IsS26.alloc | apply IsS26.drewN | apply IsS26.drew | apply IsS26.set_0 | apply IsS26.set_1 | apply IsS26.set_2) | exact HI345.out)); (case side2 => repeat (first | (with_reducible first | exact HB.out | apply below_alloc | apply pw_below_drewN | apply below_drew1 | refine below_set ?_ (IsS26.ge HI345.out)) | exact HB.out)); rintro e w90 ⟨rfl, hi, hb, hk⟩; have n0_ := Aside0.mk (hb); have n1_ := Aside0.mk (hi); clear HB; clear HI345; have HB := n0_; have HI345 := n1_; clear n0_ n1_; (try clear hb); (try clear hb2); (try clear hk); (try clear hi)))
                      go_ret
                      exact ⟨by first | rfl | (simp [errW_none, errW_some] <;> rfl) | (simp [*, errW_none, errW_some] <;> rfl), by repeat (first | (with_reducible first | exact HB.out | apply below_alloc | apply pw_below_drewN | apply below_drew1 | refine below_set ?_ (IsS26.ge HI345.out)) | exact HB.out)⟩
                  · rw [if_neg c76] at H
                    have c76b0 : (t405 == 1) = false := beq_eq_false_iff_ne.mpr c76
                    have c76b1 : (t405 != 1) = true := bne_iff_ne.mpr c76
                    obtain rfl := Option.some.inj H
                    go_wp2_with (first | ((with_reducible refine gate_callee (f := 15) rfl ?_); refine goesL_ (some 77) rfl rfl Try.func15 (by kernel_rfl) rfl #[.pointer (some ⟨gb345, 0, none⟩)] rfl (by (try simp only [List.map_toArray, List.map_cons, List.map_nil]); first | done | rfl | (simp only [List.length_drop, List.length_take]; rfl)) ?_; (with_reducible refine (lock_Lock_State.calls gb345 x346000_54 x346001_54 x346002_54 t405 t406 t407 t408 w _ ?side1 ?side2 A75.out).mono ?_); (case side1 => repeat (first | (with_reducible first | exact HI345.out | apply IsS26.alloc | apply IsS26.drewN | apply IsS26.drew | apply IsS26.set_0 | apply IsS26.set_1 | apply IsS26.set_2) | exact HI345.out)); (case side2 => repeat (first | (with_reducible first | exact HB.out | apply below_alloc | apply pw_below_drewN | apply below_drew1 | refine below_set ?_ (IsS26.ge HI345.out)) | exact HB.out)); rintro e w91 ⟨rfl, hi, hb, hk⟩; refine ⟨_, rfl, ?_⟩; have n0_ := Aside0.mk (hb); have n1_ := Aside0.mk (hi); clear HB; clear HI345; have HB := n0_; have HI345 := n1_; clear n0_ n1_; (try clear hb); (try clear hb2); (try clear hk); (try clear hi)))
                    go_ret
                    exact ⟨by first | rfl | (simp [errW_none, errW_some] <;> rfl) | (simp [*, errW_none, errW_some] <;> rfl), by repeat (first | (with_reducible first | exact HB.out | apply below_alloc | apply pw_below_drewN | apply below_drew1 | refine below_set ?_ (IsS26.ge HI345.out)) | exact HB.out)⟩
  · replace c4 := Bool.eq_false_iff.mpr c4
    subst c4
    have H1 : (some false) = some r := by rw [if_neg (show ¬ (false = true) by decide)] at H; exact H
    clear H
    have H := H1
    clear H1
    obtain rfl := Option.some.inj H
    go_enter Try.func5, Try.ntmps5
    go_wp2_with (first | ((with_reducible refine gate_callee (f := 6) rfl ?_); refine goesL_ (some 8) rfl rfl Try.func6 (by kernel_rfl) rfl #[] rfl (by (try simp only [List.map_toArray, List.map_cons, List.map_nil]); first | done | rfl | (simp only [List.length_drop, List.length_take]; rfl)) ?_; (with_reducible refine (greenscreenlaw21_alive.calls  false _ A3.out).mono ?_); rintro e w92 ⟨rfl, hb⟩; refine ⟨_, rfl, ?_⟩; have n0_ := Aside0.mk (below_step (by repeat (first | (with_reducible first | exact HB.out | apply below_alloc | apply pw_below_drewN | apply below_drew1) | exact HB.out)) hb); clear HB; have HB := n0_; clear n0_; (try clear hb); (try clear hb2); (try clear hk); (try clear hi)))
    go_ret
    exact ⟨by first | rfl | (simp [errW_none, errW_some] <;> rfl) | (simp [*, errW_none, errW_some] <;> rfl), by repeat (first | (with_reducible first | exact HB.out | apply below_alloc | apply pw_below_drewN | apply below_drew1) | exact HB.out)⟩

end Go.Proofs.Ytbgpmdoeghajcaa.P
