-- Laid by program out of the translation, some functions' texts by hand (a session's own run, not print.sh's). Lean checks it.
import Derived.Test.YtddccpgbjlejhaaPx0
import Derived.Test.YtddccpgbjlejhaaPx1
import Derived.Test.YtddccpgbjlejhaaPx2
import Derived.Test.YtddccpgbjlejhaaPx3
import Derived.Test.YtddccpgbjlejhaaPx4
namespace Go.Proofs.Ytddccpgbjlejhaa.P
open Go.RowKit Go.Proofs.YtddccpgbjlejhaaW.PrintWords Go.Proofs.YtddccpgbjlejhaaW.PrintLast Go.Proofs.YtddccpgbjlejhaaW.PrintMore
attribute [local go_sem] max2_int min2_int max_two min_two max_three min_three max_four min_four   -- for this text's walks alone
set_option linter.unusedVariables false
set_option linter.unusedSimpArgs false

/-! ### greenscreenlaw02_AddrPlaces: function 4 -/
mutual
def greenscreenlaw02_AddrPlaces.j0 : Nat → Int → Int → Int → Int → Int → Int → Int → Bool → Bool → Int → Int → Option (Bool)
  | 0, _, _, _, _, _, _, _, _, _, _, _ => none
  | k + 1, x1, x2, x3, x4, x5, x13, x14, x15, x16, x184000, x184001 => (addr_Cells.f x184000 x184001).bind fun t188 => (if t188 = x13 then (if (x15 != x16) = true then (greenscreenlaw02_AddrPlaces.j1 k x3 x4 x5 x13 true x184000 x184001) else (if x15 = true then (if x14 = (wrap64 ((wrap64 (x1 * x184001)) + x2)) then (greenscreenlaw02_AddrPlaces.j1 k x3 x4 x5 x13 false x184000 x184001) else (greenscreenlaw02_AddrPlaces.j1 k x3 x4 x5 x13 true x184000 x184001)) else (greenscreenlaw02_AddrPlaces.j1 k x3 x4 x5 x13 (x14 != 0) x184000 x184001))) else (greenscreenlaw02_AddrPlaces.j1 k x3 x4 x5 x13 true x184000 x184001))
def greenscreenlaw02_AddrPlaces.j1 : Nat → Int → Int → Int → Int → Bool → Int → Int → Option (Bool)
  | 0, _, _, _, _, _, _, _ => none
  | k + 1, x3, x4, x5, x13, x84, x184000, x184001 => if x84 = true then (some false) else ((addr_Split.f x184000 x184001 x3).bind fun bt189 => (if x3 ≥ 0 then (if (bt189.2.2 != (decide (x3 < x13))) = true then (greenscreenlaw02_AddrPlaces.j2 k x3 x4 x5 true x184000 x184001) else (if bt189.2.2 = true then (if (wrap64 ((wrap64 (bt189.1 * x184001)) + bt189.2.1)) = x3 then (if bt189.2.1 < 0 then (greenscreenlaw02_AddrPlaces.j2 k x3 x4 x5 true x184000 x184001) else (greenscreenlaw02_AddrPlaces.j2 k x3 x4 x5 (decide (bt189.2.1 ≥ x184001)) x184000 x184001)) else (greenscreenlaw02_AddrPlaces.j2 k x3 x4 x5 true x184000 x184001)) else (if bt189.1 = 0 then (if bt189.2.1 = 0 then (greenscreenlaw02_AddrPlaces.j2 k x3 x4 x5 false x184000 x184001) else (greenscreenlaw02_AddrPlaces.j2 k x3 x4 x5 true x184000 x184001)) else (greenscreenlaw02_AddrPlaces.j2 k x3 x4 x5 true x184000 x184001)))) else (if (bt189.2.2 != false) = true then (greenscreenlaw02_AddrPlaces.j2 k x3 x4 x5 true x184000 x184001) else (if bt189.2.2 = true then (if (wrap64 ((wrap64 (bt189.1 * x184001)) + bt189.2.1)) = x3 then (if bt189.2.1 < 0 then (greenscreenlaw02_AddrPlaces.j2 k x3 x4 x5 true x184000 x184001) else (greenscreenlaw02_AddrPlaces.j2 k x3 x4 x5 (decide (bt189.2.1 ≥ x184001)) x184000 x184001)) else (greenscreenlaw02_AddrPlaces.j2 k x3 x4 x5 true x184000 x184001)) else (if bt189.1 = 0 then (if bt189.2.1 = 0 then (greenscreenlaw02_AddrPlaces.j2 k x3 x4 x5 false x184000 x184001) else (greenscreenlaw02_AddrPlaces.j2 k x3 x4 x5 true x184000 x184001)) else (greenscreenlaw02_AddrPlaces.j2 k x3 x4 x5 true x184000 x184001))))))
def greenscreenlaw02_AddrPlaces.j2 : Nat → Int → Int → Int → Bool → Int → Int → Option (Bool)
  | 0, _, _, _, _, _, _ => none
  | k + 1, x3, x4, x5, x138, x184000, x184001 => if x138 = true then (some false) else ((greenscreenref02_Between.f k x184000 x184001 x3 x4).bind fun t192 => ((greenscreenlaw02_list.f x184000 x184001 x3 x4 (wrap64 (1 + (Go.bits .and .i64 x5 4095)))).bind fun t195 => ((addr_Move.f x184000 x184001 x3 x4).bind fun t198 => ((greenscreenref02_Move.f k x184000 x184001 x3 x4).bind fun t199 => (if t198 = t199 then (if 0 ≤ (mn (wrap64 (1 + (Go.bits .and .i64 x5 4095))) (t192.length : Int)) then (if (mn (wrap64 (1 + (Go.bits .and .i64 x5 4095))) (t192.length : Int)) ≤ (t192.length : Int) then ((greenscreenref01_SameInts.f k t195 (t192.take ((mn (wrap64 (1 + (Go.bits .and .i64 x5 4095))) (t192.length : Int)) : Int).toNat)).bind fun t204 => (some t204)) else (none)) else (none)) else (some false))))))
end
def greenscreenlaw02_AddrPlaces.f (k : Nat) (a0_0 : Int) (a0_1 : Int) (a1 : Int) (a2 : Int) (a3 : Int) (a4 : Int) (a5 : Int) : Option (Bool) := (greenscreenlaw02_alive.f k).bind fun t184 => (if t184 = true then ((greenscreenref02_Cells.f a0_0 a0_1).bind fun t185 => ((addr_At.f a0_0 a0_1 a1 a2).bind fun bt186 => (if t185 > 0 then (if a1 ≥ 0 then (if a1 < a0_0 then (if a2 ≥ 0 then (greenscreenlaw02_AddrPlaces.j0 k a1 a2 a3 a4 a5 t185 bt186.1 bt186.2 (decide (a2 < a0_1)) a0_0 a0_1) else (greenscreenlaw02_AddrPlaces.j0 k a1 a2 a3 a4 a5 t185 bt186.1 bt186.2 false a0_0 a0_1)) else (greenscreenlaw02_AddrPlaces.j0 k a1 a2 a3 a4 a5 t185 bt186.1 bt186.2 false a0_0 a0_1)) else (greenscreenlaw02_AddrPlaces.j0 k a1 a2 a3 a4 a5 t185 bt186.1 bt186.2 false a0_0 a0_1)) else (greenscreenlaw02_AddrPlaces.j0 k a1 a2 a3 a4 a5 t185 bt186.1 bt186.2 false a0_0 a0_1)))) else (some false))
theorem greenscreenlaw02_AddrPlaces.mono_l : ∀ k, (∀ y0 y1 y2 y3 y4 y5 y6 y7 y8 y9 y10, LeO (greenscreenlaw02_AddrPlaces.j0 k y0 y1 y2 y3 y4 y5 y6 y7 y8 y9 y10) (greenscreenlaw02_AddrPlaces.j0 (k + 1) y0 y1 y2 y3 y4 y5 y6 y7 y8 y9 y10)) ∧ (∀ y0 y1 y2 y3 y4 y5 y6, LeO (greenscreenlaw02_AddrPlaces.j1 k y0 y1 y2 y3 y4 y5 y6) (greenscreenlaw02_AddrPlaces.j1 (k + 1) y0 y1 y2 y3 y4 y5 y6)) ∧ (∀ y0 y1 y2 y3 y4 y5, LeO (greenscreenlaw02_AddrPlaces.j2 k y0 y1 y2 y3 y4 y5) (greenscreenlaw02_AddrPlaces.j2 (k + 1) y0 y1 y2 y3 y4 y5))
  | 0 => ⟨fun _ _ _ _ _ _ _ _ _ _ _ r h => by simp [greenscreenlaw02_AddrPlaces.j0] at h, fun _ _ _ _ _ _ _ r h => by simp [greenscreenlaw02_AddrPlaces.j1] at h, fun _ _ _ _ _ _ r h => by simp [greenscreenlaw02_AddrPlaces.j2] at h⟩
  | k + 1 => by
    obtain ⟨ih0, ih1, ih2⟩ := greenscreenlaw02_AddrPlaces.mono_l k
    refine ⟨?_, ?_, ?_⟩
    · intro y0 y1 y2 y3 y4 y5 y6 y7 y8 y9 y10
      unfold greenscreenlaw02_AddrPlaces.j0
      repeat' first
      | (with_reducible exact ih0 _ _ _ _ _ _ _ _ _ _ _)
      | (with_reducible exact ih1 _ _ _ _ _ _ _)
      | (with_reducible exact ih2 _ _ _ _ _ _)
      | (with_reducible exact greenscreenlaw02_alive.mono _)
      | (with_reducible exact greenscreenref01_SameInts.mono _ _ _)
      | (with_reducible exact greenscreenref02_Between.mono _ _ _ _ _)
      | (with_reducible exact greenscreenref02_Move.mono _ _ _ _ _)
      | (with_reducible exact LeO.refl _)
      | (with_reducible exact LeO.none _)
      | (with_reducible refine LeO.ite ?_ ?_)
      | (with_reducible refine LeO.bind ?_ (fun _ => ?_))
      | exact ih0 _ _ _ _ _ _ _ _ _ _ _
      | exact ih1 _ _ _ _ _ _ _
      | exact ih2 _ _ _ _ _ _
      | exact greenscreenlaw02_alive.mono _
      | exact greenscreenref01_SameInts.mono _ _ _
      | exact greenscreenref02_Between.mono _ _ _ _ _
      | exact greenscreenref02_Move.mono _ _ _ _ _
      | exact LeO.none _
      | refine LeO.ite ?_ ?_
      | refine LeO.bind ?_ (fun _ => ?_)
    · intro y0 y1 y2 y3 y4 y5 y6
      unfold greenscreenlaw02_AddrPlaces.j1
      repeat' first
      | (with_reducible exact ih0 _ _ _ _ _ _ _ _ _ _ _)
      | (with_reducible exact ih1 _ _ _ _ _ _ _)
      | (with_reducible exact ih2 _ _ _ _ _ _)
      | (with_reducible exact greenscreenlaw02_alive.mono _)
      | (with_reducible exact greenscreenref01_SameInts.mono _ _ _)
      | (with_reducible exact greenscreenref02_Between.mono _ _ _ _ _)
      | (with_reducible exact greenscreenref02_Move.mono _ _ _ _ _)
      | (with_reducible exact LeO.refl _)
      | (with_reducible exact LeO.none _)
      | (with_reducible refine LeO.ite ?_ ?_)
      | (with_reducible refine LeO.bind ?_ (fun _ => ?_))
      | exact ih0 _ _ _ _ _ _ _ _ _ _ _
      | exact ih1 _ _ _ _ _ _ _
      | exact ih2 _ _ _ _ _ _
      | exact greenscreenlaw02_alive.mono _
      | exact greenscreenref01_SameInts.mono _ _ _
      | exact greenscreenref02_Between.mono _ _ _ _ _
      | exact greenscreenref02_Move.mono _ _ _ _ _
      | exact LeO.none _
      | refine LeO.ite ?_ ?_
      | refine LeO.bind ?_ (fun _ => ?_)
    · intro y0 y1 y2 y3 y4 y5
      unfold greenscreenlaw02_AddrPlaces.j2
      repeat' first
      | (with_reducible exact ih0 _ _ _ _ _ _ _ _ _ _ _)
      | (with_reducible exact ih1 _ _ _ _ _ _ _)
      | (with_reducible exact ih2 _ _ _ _ _ _)
      | (with_reducible exact greenscreenlaw02_alive.mono _)
      | (with_reducible exact greenscreenref01_SameInts.mono _ _ _)
      | (with_reducible exact greenscreenref02_Between.mono _ _ _ _ _)
      | (with_reducible exact greenscreenref02_Move.mono _ _ _ _ _)
      | (with_reducible exact LeO.refl _)
      | (with_reducible exact LeO.none _)
      | (with_reducible refine LeO.ite ?_ ?_)
      | (with_reducible refine LeO.bind ?_ (fun _ => ?_))
      | exact ih0 _ _ _ _ _ _ _ _ _ _ _
      | exact ih1 _ _ _ _ _ _ _
      | exact ih2 _ _ _ _ _ _
      | exact greenscreenlaw02_alive.mono _
      | exact greenscreenref01_SameInts.mono _ _ _
      | exact greenscreenref02_Between.mono _ _ _ _ _
      | exact greenscreenref02_Move.mono _ _ _ _ _
      | exact LeO.none _
      | refine LeO.ite ?_ ?_
      | refine LeO.bind ?_ (fun _ => ?_)
theorem greenscreenlaw02_AddrPlaces.mono : ∀ a0 a1 a2 a3 a4 a5 a6 k, LeO (greenscreenlaw02_AddrPlaces.f k a0 a1 a2 a3 a4 a5 a6) (greenscreenlaw02_AddrPlaces.f (k + 1) a0 a1 a2 a3 a4 a5 a6) := by
  intro a0 a1 a2 a3 a4 a5 a6 k
  obtain ⟨ih0, ih1, ih2⟩ := greenscreenlaw02_AddrPlaces.mono_l k
  unfold greenscreenlaw02_AddrPlaces.f
  repeat' first
      | (with_reducible exact ih0 _ _ _ _ _ _ _ _ _ _ _)
      | (with_reducible exact ih1 _ _ _ _ _ _ _)
      | (with_reducible exact ih2 _ _ _ _ _ _)
      | (with_reducible exact greenscreenlaw02_alive.mono _)
      | (with_reducible exact greenscreenref01_SameInts.mono _ _ _)
      | (with_reducible exact greenscreenref02_Between.mono _ _ _ _ _)
      | (with_reducible exact greenscreenref02_Move.mono _ _ _ _ _)
      | (with_reducible exact LeO.refl _)
      | (with_reducible exact LeO.none _)
      | (with_reducible refine LeO.ite ?_ ?_)
      | (with_reducible refine LeO.bind ?_ (fun _ => ?_))
      | exact ih0 _ _ _ _ _ _ _ _ _ _ _
      | exact ih1 _ _ _ _ _ _ _
      | exact ih2 _ _ _ _ _ _
      | exact greenscreenlaw02_alive.mono _
      | exact greenscreenref01_SameInts.mono _ _ _
      | exact greenscreenref02_Between.mono _ _ _ _ _
      | exact greenscreenref02_Move.mono _ _ _ _ _
      | exact LeO.none _
      | refine LeO.ite ?_ ?_
      | refine LeO.bind ?_ (fun _ => ?_)
def greenscreenlaw02_AddrPlaces.T14 : Bool × List (List Nat × List Nat) := (true, [([], []), ([], []), ([], []), ([0, 1, 2], [0, 1, 2]), ([], []), ([], []), ([], []), ([4, 5, 6, 3], [4, 5, 6]), ([3, 7], [3, 7]), ([8, 7], [8]), ([9], [9]), ([9], [9]), ([9], [9]), ([9], [9]), ([13, 9], [9, 13]), ([12, 14, 9], [9, 12, 14]), ([11, 15, 9], [9, 11, 15]), ([10, 16, 9, 9], [9, 10, 16]), ([9, 17], [9, 17]), ([18, 17, 0, 1, 2, 3, 4, 5, 6, 7, 8, 9, 10, 11, 12, 13, 14, 15, 16, 17, 18], [18])])
def greenscreenlaw02_AddrPlaces.B14 : List Nat := [0, 0, 0, 7, 0, 0, 0, 127, 255, 511, 1023, 1023, 1023, 1023, 9215, 29695, 64511, 131071, 262143, 524287]
theorem greenscreenlaw02_AddrPlaces.tab14 : rtab .any (opsOf Try.f4 14) = greenscreenlaw02_AddrPlaces.T14 := by kernel_rfl
theorem greenscreenlaw02_AddrPlaces.bits14 : waitsOk greenscreenlaw02_AddrPlaces.T14.2 greenscreenlaw02_AddrPlaces.B14 = true := by kernel_rfl
set_option maxHeartbeats 8000000 in
set_option maxRecDepth 100000 in
theorem greenscreenlaw02_AddrPlaces.calls (k : Nat) (a0_0 : Int) (a0_1 : Int) (a1 : Int) (a2 : Int) (a3 : Int) (a4 : Int) (a5 : Int) (r : Bool) (hr_ : r = true) (w : World) (h : greenscreenlaw02_AddrPlaces.f k a0_0 a0_1 a1 a2 a3 a4 a5 = some r) :
    Calls Try.prog 4 #[.agg #[.int .i64 a0_0, .int .i64 a0_1], .int .i64 a1, .int .i64 a2, .int .i64 a3, .int .i64 a4, .int .i64 a5] w fun e w' => e = .returned (.bool r) ∧ Below w.heap.size w w' := by
  have hu35 := Try.underlying35
  have HB := Aside0.mk (Below.refl w.heap.size w)
  have H : ((greenscreenlaw02_alive.f k).bind fun t184 => (if t184 = true then ((greenscreenref02_Cells.f a0_0 a0_1).bind fun t185 => ((addr_At.f a0_0 a0_1 a1 a2).bind fun bt186 => (if t185 > 0 then (if a1 ≥ 0 then (if a1 < a0_0 then (if a2 ≥ 0 then (greenscreenlaw02_AddrPlaces.j0 k a1 a2 a3 a4 a5 t185 bt186.1 bt186.2 (decide (a2 < a0_1)) a0_0 a0_1) else (greenscreenlaw02_AddrPlaces.j0 k a1 a2 a3 a4 a5 t185 bt186.1 bt186.2 false a0_0 a0_1)) else (greenscreenlaw02_AddrPlaces.j0 k a1 a2 a3 a4 a5 t185 bt186.1 bt186.2 false a0_0 a0_1)) else (greenscreenlaw02_AddrPlaces.j0 k a1 a2 a3 a4 a5 t185 bt186.1 bt186.2 false a0_0 a0_1)) else (greenscreenlaw02_AddrPlaces.j0 k a1 a2 a3 a4 a5 t185 bt186.1 bt186.2 false a0_0 a0_1)))) else (some false))) = some r := h
  clear h
  replace H := Option.bind_eq_some_iff.mp H
  obtain ⟨t184, A70, H⟩ := H
  replace H : (if t184 = true then ((greenscreenref02_Cells.f a0_0 a0_1).bind fun t185 => ((addr_At.f a0_0 a0_1 a1 a2).bind fun bt186 => (if t185 > 0 then (if a1 ≥ 0 then (if a1 < a0_0 then (if a2 ≥ 0 then (greenscreenlaw02_AddrPlaces.j0 k a1 a2 a3 a4 a5 t185 bt186.1 bt186.2 (decide (a2 < a0_1)) a0_0 a0_1) else (greenscreenlaw02_AddrPlaces.j0 k a1 a2 a3 a4 a5 t185 bt186.1 bt186.2 false a0_0 a0_1)) else (greenscreenlaw02_AddrPlaces.j0 k a1 a2 a3 a4 a5 t185 bt186.1 bt186.2 false a0_0 a0_1)) else (greenscreenlaw02_AddrPlaces.j0 k a1 a2 a3 a4 a5 t185 bt186.1 bt186.2 false a0_0 a0_1)) else (greenscreenlaw02_AddrPlaces.j0 k a1 a2 a3 a4 a5 t185 bt186.1 bt186.2 false a0_0 a0_1)))) else (some false)) = some r := H
  have A7 := Aside0.mk A70
  clear A70
  by_cases c8 : t184 = true
  · subst c8
    have H1 : ((greenscreenref02_Cells.f a0_0 a0_1).bind fun t185 => ((addr_At.f a0_0 a0_1 a1 a2).bind fun bt186 => (if t185 > 0 then (if a1 ≥ 0 then (if a1 < a0_0 then (if a2 ≥ 0 then (greenscreenlaw02_AddrPlaces.j0 k a1 a2 a3 a4 a5 t185 bt186.1 bt186.2 (decide (a2 < a0_1)) a0_0 a0_1) else (greenscreenlaw02_AddrPlaces.j0 k a1 a2 a3 a4 a5 t185 bt186.1 bt186.2 false a0_0 a0_1)) else (greenscreenlaw02_AddrPlaces.j0 k a1 a2 a3 a4 a5 t185 bt186.1 bt186.2 false a0_0 a0_1)) else (greenscreenlaw02_AddrPlaces.j0 k a1 a2 a3 a4 a5 t185 bt186.1 bt186.2 false a0_0 a0_1)) else (greenscreenlaw02_AddrPlaces.j0 k a1 a2 a3 a4 a5 t185 bt186.1 bt186.2 false a0_0 a0_1)))) = some r := by rw [if_pos rfl] at H; exact H
    clear H
    have H := H1
    clear H1
    replace H := Option.bind_eq_some_iff.mp H
    obtain ⟨t185, A90, H⟩ := H
    replace H : ((addr_At.f a0_0 a0_1 a1 a2).bind fun bt186 => (if t185 > 0 then (if a1 ≥ 0 then (if a1 < a0_0 then (if a2 ≥ 0 then (greenscreenlaw02_AddrPlaces.j0 k a1 a2 a3 a4 a5 t185 bt186.1 bt186.2 (decide (a2 < a0_1)) a0_0 a0_1) else (greenscreenlaw02_AddrPlaces.j0 k a1 a2 a3 a4 a5 t185 bt186.1 bt186.2 false a0_0 a0_1)) else (greenscreenlaw02_AddrPlaces.j0 k a1 a2 a3 a4 a5 t185 bt186.1 bt186.2 false a0_0 a0_1)) else (greenscreenlaw02_AddrPlaces.j0 k a1 a2 a3 a4 a5 t185 bt186.1 bt186.2 false a0_0 a0_1)) else (greenscreenlaw02_AddrPlaces.j0 k a1 a2 a3 a4 a5 t185 bt186.1 bt186.2 false a0_0 a0_1))) = some r := H
    have A9 := Aside0.mk A90
    clear A90
    replace H := Option.bind_eq_some_iff.mp H
    obtain ⟨⟨t186, t187⟩, A100, H⟩ := H
    replace H : (if t185 > 0 then (if a1 ≥ 0 then (if a1 < a0_0 then (if a2 ≥ 0 then (greenscreenlaw02_AddrPlaces.j0 k a1 a2 a3 a4 a5 t185 t186 t187 (decide (a2 < a0_1)) a0_0 a0_1) else (greenscreenlaw02_AddrPlaces.j0 k a1 a2 a3 a4 a5 t185 t186 t187 false a0_0 a0_1)) else (greenscreenlaw02_AddrPlaces.j0 k a1 a2 a3 a4 a5 t185 t186 t187 false a0_0 a0_1)) else (greenscreenlaw02_AddrPlaces.j0 k a1 a2 a3 a4 a5 t185 t186 t187 false a0_0 a0_1)) else (greenscreenlaw02_AddrPlaces.j0 k a1 a2 a3 a4 a5 t185 t186 t187 false a0_0 a0_1)) = some r := H
    have A10 := Aside0.mk A100
    clear A100
    have HC11 := Aside0.mk H
    clear H
    go_enter Try.func4, Try.ntmps4
    go_upto_region 5 with (first | ((with_reducible refine gate_dst (N := 6) rfl ?_); (try (refine gate_guard (by rfl) ?_; dsimp only)); refine box_event ?hg (N := 6) ?hd (cs := #[.int .i64 a0_0, .int .i64 a0_1]) (t := 35) ?hr ?_; (case hd => rfl); (case hg => rfl); (case hr => first | (go_simp; done) | (go_simp; rfl)); intro gb183 hg w12 hbox hb; have n0_ := Aside0.mk (below_step (by repeat (first | (with_reducible first | exact HB.out | apply below_alloc | apply pw_below_drewN | apply below_drew1) | exact HB.out)) hb); have n1_ := Aside0.mk (hbox); have n2_ := Aside0.mk ((by rw [hg]; exact (below_size (by repeat (first | (with_reducible first | exact HB.out | apply below_alloc | apply pw_below_drewN | apply below_drew1) | exact HB.out))) : w.heap.size ≤ gb183)); have n3_ := Aside0.mk ((by rw [hg]; exact (below_size (by repeat (first | (with_reducible first | exact HB.out | apply below_alloc | apply pw_below_drewN | apply below_drew1) | exact HB.out))) : w.heap.size ≤ gb183)); clear HB; have HB := n0_; have BK183 := n1_; have GW183 := n2_; have GE183 := n3_; clear n0_ n1_ n2_ n3_; clear hb hbox hg) | ((with_reducible refine gate_callee (f := 8) rfl ?_); refine goesL_ (some 22) rfl rfl Try.func8 (by kernel_rfl) rfl #[] rfl (by (try simp only [List.map_toArray, List.map_cons, List.map_nil]); first | done | rfl | (simp only [List.length_drop, List.length_take]; rfl)) ?_; (with_reducible refine (greenscreenlaw02_alive.calls k  true rfl _ A7.out).mono ?_); rintro e w13 ⟨rfl, hb⟩; refine ⟨_, rfl, ?_⟩; have n0_ := Aside0.mk (blk_below (g := gb183) (o := .cells #[.int .i64 a0_0, .int .i64 a0_1] 35 (0, 0)) (by (with_reducible repeat (first | refine blk_drewN ?_ _ | refine blk_drew ?_ | refine blk_alloc ?_ _)); exact BK183.out) hb); have n1_ := Aside0.mk (below_step (by repeat (first | (with_reducible first | exact HB.out | apply below_alloc | apply pw_below_drewN | apply below_drew1 | refine below_set ?_ GE183.out) | exact HB.out)) hb); clear BK183; clear HB; have BK183 := n0_; have HB := n1_; clear n0_ n1_; (try clear hb); (try clear hb2); (try clear hk); (try clear hi); have hcz14_0 : w13.cell? ⟨gb183, 0, none⟩ = some (.int .i64 a0_0) := (blk_cell BK183.out 0).trans rfl; have hcz14_1 : w13.cell? ⟨gb183, 1, none⟩ = some (.int .i64 a0_1) := (blk_cell BK183.out 1).trans rfl; have hfz14_0 := blk_frozen BK183.out 0; have hfz14_1 := blk_frozen BK183.out 1) | ((with_reducible refine gate_callee (f := 17) rfl ?_); refine goesL_ (some 25) rfl rfl Try.func17 (by kernel_rfl) rfl #[.agg #[.int .i64 a0_0, .int .i64 a0_1]] rfl (by (try simp only [List.map_toArray, List.map_cons, List.map_nil]); first | done | rfl | (simp only [List.length_drop, List.length_take]; rfl)) ?_; (with_reducible refine (greenscreenref02_Cells.calls a0_0 a0_1 t185 _ A9.out).mono ?_); rintro e w15 ⟨rfl, hb⟩; refine ⟨_, rfl, ?_⟩; have n0_ := Aside0.mk (blk_below (g := gb183) (o := .cells #[.int .i64 a0_0, .int .i64 a0_1] 35 (0, 0)) (by (with_reducible repeat (first | refine blk_drewN ?_ _ | refine blk_drew ?_ | refine blk_alloc ?_ _)); exact BK183.out) hb); have n1_ := Aside0.mk (below_step (by repeat (first | (with_reducible first | exact HB.out | apply below_alloc | apply pw_below_drewN | apply below_drew1 | refine below_set ?_ GE183.out) | exact HB.out)) hb); clear BK183; clear HB; have BK183 := n0_; have HB := n1_; clear n0_ n1_; (try clear hb); (try clear hb2); (try clear hk); (try clear hi); have hcz16_0 : w15.cell? ⟨gb183, 0, none⟩ = some (.int .i64 a0_0) := (blk_cell BK183.out 0).trans rfl; have hcz16_1 : w15.cell? ⟨gb183, 1, none⟩ = some (.int .i64 a0_1) := (blk_cell BK183.out 1).trans rfl; have hfz16_0 := blk_frozen BK183.out 0; have hfz16_1 := blk_frozen BK183.out 1) | ((with_reducible refine gate_callee (f := 18) rfl ?_); refine goesL_ (some 30) rfl rfl Try.func18 (by kernel_rfl) rfl #[.agg #[.int .i64 a0_0, .int .i64 a0_1], .int .i64 a1, .int .i64 a2] rfl (by (try simp only [List.map_toArray, List.map_cons, List.map_nil]); first | done | rfl | (simp only [List.length_drop, List.length_take]; rfl)) ?_; (with_reducible refine (addr_At.calls a0_0 a0_1 a1 a2 t186 t187 _ A10.out).mono ?_); rintro e w17 ⟨rfl, hb⟩; refine ⟨_, rfl, ?_⟩; have n0_ := Aside0.mk (blk_below (g := gb183) (o := .cells #[.int .i64 a0_0, .int .i64 a0_1] 35 (0, 0)) (by (with_reducible repeat (first | refine blk_drewN ?_ _ | refine blk_drew ?_ | refine blk_alloc ?_ _)); exact BK183.out) hb); have n1_ := Aside0.mk (below_step (by repeat (first | (with_reducible first | exact HB.out | apply below_alloc | apply pw_below_drewN | apply below_drew1 | refine below_set ?_ GE183.out) | exact HB.out)) hb); clear BK183; clear HB; have BK183 := n0_; have HB := n1_; clear n0_ n1_; (try clear hb); (try clear hb2); (try clear hk); (try clear hi)))
    (try simp only [Act.put, List.setIfInBounds_toArray, List.set_cons_zero, List.set_cons_succ])
    go_cut [16] (fun v16 wc => ∃ (kq : Nat) (x16_10 : Bool), v16 = .bool x16_10 ∧ Aside0 (greenscreenlaw02_AddrPlaces.j0 kq a1 a2 a3 a4 a5 t185 t186 t187 x16_10 a0_0 a0_1 = some r) ∧ Aside0 (kq ≤ k) ∧ Aside0 (wc.heap[gb183]? = some (.cells #[.int .i64 a0_0, .int .i64 a0_1] 35 (0, 0))) ∧ Aside0 (Below w.heap.size w wc))
    case first =>
      have H := HC11.out
      clear HC11
      by_cases c18 : t185 > 0
      · rw [if_pos c18] at H
        have c18b0 : decide (0 < t185) = true := decide_eq_true c18
        clear c18
        (first | rw [c18b0] | (simp only [i64_w, i32_w]; rw [c18b0]) | skip)
        by_cases c19 : a1 ≥ 0
        · rw [if_pos c19] at H
          have c19b0 : decide (0 ≤ a1) = true := decide_eq_true c19
          clear c19
          by_cases c20 : a1 < a0_0
          · rw [if_pos c20] at H
            have c20b0 : decide (a1 < a0_0) = true := decide_eq_true c20
            clear c20
            by_cases c21 : a2 ≥ 0
            · rw [if_pos c21] at H
              have c21b0 : decide (0 ≤ a2) = true := decide_eq_true c21
              clear c21
              have H' := Aside0.mk H
              clear H
              have hcz22_0 : w17.cell? ⟨gb183, 0, none⟩ = some (.int .i64 a0_0) := (blk_cell BK183.out 0).trans rfl
              have hcz22_1 : w17.cell? ⟨gb183, 1, none⟩ = some (.int .i64 a0_1) := (blk_cell BK183.out 1).trans rfl
              have hfz22_0 := blk_frozen BK183.out 0
              have hfz22_1 := blk_frozen BK183.out 1
              as_aux_lemma =>
                go_wp2
                go_meet
                case rel => exact ⟨_, (decide (a2 < a0_1)), (by first | rfl | (simp; done) | (simp [*]; done)), H', ⟨by first | omega | exact Nat.le_refl _⟩, ⟨by (with_reducible repeat (first | refine blk_drewN ?_ _ | refine blk_drew ?_ | refine blk_alloc ?_ _)); exact BK183.out⟩, ⟨by repeat (first | (with_reducible first | exact HB.out | apply below_alloc | apply pw_below_drewN | apply below_drew1 | refine below_set ?_ GE183.out) | exact HB.out)⟩⟩
            · rw [if_neg c21] at H
              have c21b0 : decide (0 ≤ a2) = false := decide_eq_false c21
              clear c21
              have H' := Aside0.mk H
              clear H
              have hcz23_0 : w17.cell? ⟨gb183, 0, none⟩ = some (.int .i64 a0_0) := (blk_cell BK183.out 0).trans rfl
              have hcz23_1 : w17.cell? ⟨gb183, 1, none⟩ = some (.int .i64 a0_1) := (blk_cell BK183.out 1).trans rfl
              have hfz23_0 := blk_frozen BK183.out 0
              have hfz23_1 := blk_frozen BK183.out 1
              as_aux_lemma =>
                go_wp2
                go_meet
                case rel => exact ⟨_, (false), (by first | rfl | (simp; done) | (simp [*]; done)), H', ⟨by first | omega | exact Nat.le_refl _⟩, ⟨by (with_reducible repeat (first | refine blk_drewN ?_ _ | refine blk_drew ?_ | refine blk_alloc ?_ _)); exact BK183.out⟩, ⟨by repeat (first | (with_reducible first | exact HB.out | apply below_alloc | apply pw_below_drewN | apply below_drew1 | refine below_set ?_ GE183.out) | exact HB.out)⟩⟩
          · rw [if_neg c20] at H
            have c20b0 : decide (a1 < a0_0) = false := decide_eq_false c20
            clear c20
            have H' := Aside0.mk H
            clear H
            have hcz24_0 : w17.cell? ⟨gb183, 0, none⟩ = some (.int .i64 a0_0) := (blk_cell BK183.out 0).trans rfl
            have hcz24_1 : w17.cell? ⟨gb183, 1, none⟩ = some (.int .i64 a0_1) := (blk_cell BK183.out 1).trans rfl
            have hfz24_0 := blk_frozen BK183.out 0
            have hfz24_1 := blk_frozen BK183.out 1
            as_aux_lemma =>
              go_wp2
              go_meet
              case rel => exact ⟨_, (false), (by first | rfl | (simp; done) | (simp [*]; done)), H', ⟨by first | omega | exact Nat.le_refl _⟩, ⟨by (with_reducible repeat (first | refine blk_drewN ?_ _ | refine blk_drew ?_ | refine blk_alloc ?_ _)); exact BK183.out⟩, ⟨by repeat (first | (with_reducible first | exact HB.out | apply below_alloc | apply pw_below_drewN | apply below_drew1 | refine below_set ?_ GE183.out) | exact HB.out)⟩⟩
        · rw [if_neg c19] at H
          have c19b0 : decide (0 ≤ a1) = false := decide_eq_false c19
          clear c19
          have H' := Aside0.mk H
          clear H
          as_aux_lemma =>
            go_wp2
            go_meet
            case rel => exact ⟨_, (false), (by first | rfl | (simp; done) | (simp [*]; done)), H', ⟨by first | omega | exact Nat.le_refl _⟩, ⟨by (with_reducible repeat (first | refine blk_drewN ?_ _ | refine blk_drew ?_ | refine blk_alloc ?_ _)); exact BK183.out⟩, ⟨by repeat (first | (with_reducible first | exact HB.out | apply below_alloc | apply pw_below_drewN | apply below_drew1 | refine below_set ?_ GE183.out) | exact HB.out)⟩⟩
      · rw [if_neg c18] at H
        have c18b0 : decide (0 < t185) = false := decide_eq_false c18
        clear c18
        (first | rw [c18b0] | (simp only [i64_w, i32_w]; rw [c18b0]) | skip)
        have H' := Aside0.mk H
        clear H
        as_aux_lemma =>
          go_wp2
          go_meet
          case rel => exact ⟨_, (false), (by first | rfl | (simp; done) | (simp [*]; done)), H', ⟨by first | omega | exact Nat.le_refl _⟩, ⟨by (with_reducible repeat (first | refine blk_drewN ?_ _ | refine blk_drew ?_ | refine blk_alloc ?_ _)); exact BK183.out⟩, ⟨by repeat (first | (with_reducible first | exact HB.out | apply below_alloc | apply pw_below_drewN | apply below_drew1 | refine below_set ?_ GE183.out) | exact HB.out)⟩⟩
    case rest =>
      clear HC11
      try clear c1
      try clear c2
      try clear p2
      try clear c4
      try clear c8
      try clear c17
      try clear c18
      try clear c18b0
      try clear c19
      try clear c19b0
      try clear c20
      try clear c20b0
      try clear c21
      try clear c21b0
      try clear hcz14_0
      try clear hcz14_1
      try clear hcz16_0
      try clear hcz16_1
      try clear hcz22_0
      try clear hcz22_1
      try clear hcz23_0
      try clear hcz23_1
      try clear hcz24_0
      try clear hcz24_1
      try clear hfz14_0
      try clear hfz14_1
      try clear hfz16_0
      try clear hfz16_1
      try clear hfz22_0
      try clear hfz22_1
      try clear hfz23_0
      try clear hfz23_1
      try clear hfz24_0
      try clear hfz24_1
      obtain ⟨kq, x16_10, rfl, HA, HJ10, BK183, HB⟩ := hcut
      cases kq with
      | zero => exact absurd HA.out (by simp [greenscreenlaw02_AddrPlaces.j0])
      | succ kj10 =>
        have H := HA.out
        clear HA
        simp only [greenscreenlaw02_AddrPlaces.j0] at H
        have HC25 := Aside0.mk H
        clear H
        go_upto_region 6 with (fail)
        go_cut [84] (fun v84 wc => ∃ (kq : Nat) (x84_24 : Bool), v84 = .bool x84_24 ∧ Aside0 (greenscreenlaw02_AddrPlaces.j1 kq a3 a4 a5 t185 x84_24 a0_0 a0_1 = some r) ∧ Aside0 (kq ≤ kj10) ∧ Aside0 (wc.heap[gb183]? = some (.cells #[.int .i64 a0_0, .int .i64 a0_1] 35 (0, 0))) ∧ Aside0 (Below w.heap.size w wc))
        case first =>
          have H := HC25.out
          clear HC25
          replace H := Option.bind_eq_some_iff.mp H
          obtain ⟨t188, A260, H⟩ := H
          replace H : (if t188 = t185 then (if (t187 != x16_10) = true then (greenscreenlaw02_AddrPlaces.j1 kj10 a3 a4 a5 t185 true a0_0 a0_1) else (if t187 = true then (if t186 = (wrap64 ((wrap64 (a1 * a0_1)) + a2)) then (greenscreenlaw02_AddrPlaces.j1 kj10 a3 a4 a5 t185 false a0_0 a0_1) else (greenscreenlaw02_AddrPlaces.j1 kj10 a3 a4 a5 t185 true a0_0 a0_1)) else (greenscreenlaw02_AddrPlaces.j1 kj10 a3 a4 a5 t185 (t186 != 0) a0_0 a0_1))) else (greenscreenlaw02_AddrPlaces.j1 kj10 a3 a4 a5 t185 true a0_0 a0_1)) = some r := H
          have A26 := Aside0.mk A260
          clear A260
          by_cases c27 : t188 = t185
          · rw [if_pos c27] at H
            have c27b0 : (t188 == t185) = true := beq_iff_eq.mpr c27
            have c27b1 : (t188 != t185) = false := bne_eq_false_iff_eq.mpr c27
            clear c27
            (first | rw [c27b0] | (simp only [i64_w, i32_w]; rw [c27b0]) | skip)
            by_cases c28 : (t187 != x16_10) = true
            · rw [if_pos c28] at H
              have c28b0 : (t187 != x16_10) = true := c28
              (try (have c28b1 : decide (t187 = x16_10) = false := by simpa using c28))
              (try (have c28b2 : (t187 == x16_10) = false := by simpa using c28))
              (try (have c28b3 : ¬ (t187 = x16_10) := by simpa using c28))
              clear c28
              have H' := Aside0.mk H
              clear H
              have hcz29_0 : wc.cell? ⟨gb183, 0, none⟩ = some (.int .i64 a0_0) := (blk_cell BK183.out 0).trans rfl
              have hcz29_1 : wc.cell? ⟨gb183, 1, none⟩ = some (.int .i64 a0_1) := (blk_cell BK183.out 1).trans rfl
              have hfz29_0 := blk_frozen BK183.out 0
              have hfz29_1 := blk_frozen BK183.out 1
              as_aux_lemma =>
                go_wp2_with (first | ((with_reducible refine gate_callee (f := 19) rfl ?_); refine goesL_ (some 56) rfl rfl Try.func19 (by kernel_rfl) rfl #[.agg #[.int .i64 a0_0, .int .i64 a0_1]] rfl (by (try simp only [List.map_toArray, List.map_cons, List.map_nil]); first | done | rfl | (simp only [List.length_drop, List.length_take]; rfl)) ?_; (with_reducible refine (addr_Cells.calls a0_0 a0_1 t188 _ A26.out).mono ?_); rintro e w30 ⟨rfl, hb⟩; refine ⟨_, rfl, ?_⟩; have n0_ := Aside0.mk (blk_below (g := gb183) (o := .cells #[.int .i64 a0_0, .int .i64 a0_1] 35 (0, 0)) (by (with_reducible repeat (first | refine blk_drewN ?_ _ | refine blk_drew ?_ | refine blk_alloc ?_ _)); exact BK183.out) hb); have n1_ := Aside0.mk (below_step (by repeat (first | (with_reducible first | exact HB.out | apply below_alloc | apply pw_below_drewN | apply below_drew1 | refine below_set ?_ GE183.out) | exact HB.out)) hb); clear BK183; clear HB; have BK183 := n0_; have HB := n1_; clear n0_ n1_; (try clear hb); (try clear hb2); (try clear hk); (try clear hi)))
                go_meet
                case rel => exact ⟨_, (true), (by first | rfl | (simp; done) | (simp [*]; done)), H', ⟨by have := HJ10.out; first | omega | exact Nat.le_refl _⟩, ⟨by (with_reducible repeat (first | refine blk_drewN ?_ _ | refine blk_drew ?_ | refine blk_alloc ?_ _)); exact BK183.out⟩, ⟨by repeat (first | (with_reducible first | exact HB.out | apply below_alloc | apply pw_below_drewN | apply below_drew1 | refine below_set ?_ GE183.out) | exact HB.out)⟩⟩
            · rw [if_neg c28] at H
              have c28b0 : (t187 != x16_10) = false := by simpa using c28
              (try (have c28b1 : decide (t187 = x16_10) = true := by simpa using c28))
              (try (have c28b2 : (t187 == x16_10) = true := by simpa using c28))
              clear c28
              by_cases c31 : t187 = true
              · subst c31
                have H1 : (if t186 = (wrap64 ((wrap64 (a1 * a0_1)) + a2)) then (greenscreenlaw02_AddrPlaces.j1 kj10 a3 a4 a5 t185 false a0_0 a0_1) else (greenscreenlaw02_AddrPlaces.j1 kj10 a3 a4 a5 t185 true a0_0 a0_1)) = some r := by rw [if_pos rfl] at H; exact H
                clear H
                have H := H1
                clear H1
                by_cases c32 : t186 = (wrap64 ((wrap64 (a1 * a0_1)) + a2))
                · rw [if_pos c32] at H
                  have c32b0 : (t186 == (wrap64 ((wrap64 (a1 * a0_1)) + a2))) = true := beq_iff_eq.mpr c32
                  have c32b1 : (t186 != (wrap64 ((wrap64 (a1 * a0_1)) + a2))) = false := bne_eq_false_iff_eq.mpr c32
                  clear c32
                  have H' := Aside0.mk H
                  clear H
                  have hcz33_0 : wc.cell? ⟨gb183, 0, none⟩ = some (.int .i64 a0_0) := (blk_cell BK183.out 0).trans rfl
                  have hcz33_1 : wc.cell? ⟨gb183, 1, none⟩ = some (.int .i64 a0_1) := (blk_cell BK183.out 1).trans rfl
                  have hfz33_0 := blk_frozen BK183.out 0
                  have hfz33_1 := blk_frozen BK183.out 1
                  as_aux_lemma =>
                    go_wp2_with (first | ((with_reducible refine gate_callee (f := 19) rfl ?_); refine goesL_ (some 56) rfl rfl Try.func19 (by kernel_rfl) rfl #[.agg #[.int .i64 a0_0, .int .i64 a0_1]] rfl (by (try simp only [List.map_toArray, List.map_cons, List.map_nil]); first | done | rfl | (simp only [List.length_drop, List.length_take]; rfl)) ?_; (with_reducible refine (addr_Cells.calls a0_0 a0_1 t188 _ A26.out).mono ?_); rintro e w34 ⟨rfl, hb⟩; refine ⟨_, rfl, ?_⟩; have n0_ := Aside0.mk (blk_below (g := gb183) (o := .cells #[.int .i64 a0_0, .int .i64 a0_1] 35 (0, 0)) (by (with_reducible repeat (first | refine blk_drewN ?_ _ | refine blk_drew ?_ | refine blk_alloc ?_ _)); exact BK183.out) hb); have n1_ := Aside0.mk (below_step (by repeat (first | (with_reducible first | exact HB.out | apply below_alloc | apply pw_below_drewN | apply below_drew1 | refine below_set ?_ GE183.out) | exact HB.out)) hb); clear BK183; clear HB; have BK183 := n0_; have HB := n1_; clear n0_ n1_; (try clear hb); (try clear hb2); (try clear hk); (try clear hi); have hcz35_0 : w34.cell? ⟨gb183, 0, none⟩ = some (.int .i64 a0_0) := (blk_cell BK183.out 0).trans rfl; have hcz35_1 : w34.cell? ⟨gb183, 1, none⟩ = some (.int .i64 a0_1) := (blk_cell BK183.out 1).trans rfl; have hfz35_0 := blk_frozen BK183.out 0; have hfz35_1 := blk_frozen BK183.out 1))
                    go_meet
                    case rel => exact ⟨_, (false), (by first | rfl | (simp; done) | (simp [*]; done)), H', ⟨by have := HJ10.out; first | omega | exact Nat.le_refl _⟩, ⟨by (with_reducible repeat (first | refine blk_drewN ?_ _ | refine blk_drew ?_ | refine blk_alloc ?_ _)); exact BK183.out⟩, ⟨by repeat (first | (with_reducible first | exact HB.out | apply below_alloc | apply pw_below_drewN | apply below_drew1 | refine below_set ?_ GE183.out) | exact HB.out)⟩⟩
                · rw [if_neg c32] at H
                  have c32b0 : (t186 == (wrap64 ((wrap64 (a1 * a0_1)) + a2))) = false := beq_eq_false_iff_ne.mpr c32
                  have c32b1 : (t186 != (wrap64 ((wrap64 (a1 * a0_1)) + a2))) = true := bne_iff_ne.mpr c32
                  have H' := Aside0.mk H
                  clear H
                  have hcz36_0 : wc.cell? ⟨gb183, 0, none⟩ = some (.int .i64 a0_0) := (blk_cell BK183.out 0).trans rfl
                  have hcz36_1 : wc.cell? ⟨gb183, 1, none⟩ = some (.int .i64 a0_1) := (blk_cell BK183.out 1).trans rfl
                  have hfz36_0 := blk_frozen BK183.out 0
                  have hfz36_1 := blk_frozen BK183.out 1
                  as_aux_lemma =>
                    go_wp2_with (first | ((with_reducible refine gate_callee (f := 19) rfl ?_); refine goesL_ (some 56) rfl rfl Try.func19 (by kernel_rfl) rfl #[.agg #[.int .i64 a0_0, .int .i64 a0_1]] rfl (by (try simp only [List.map_toArray, List.map_cons, List.map_nil]); first | done | rfl | (simp only [List.length_drop, List.length_take]; rfl)) ?_; (with_reducible refine (addr_Cells.calls a0_0 a0_1 t188 _ A26.out).mono ?_); rintro e w37 ⟨rfl, hb⟩; refine ⟨_, rfl, ?_⟩; have n0_ := Aside0.mk (blk_below (g := gb183) (o := .cells #[.int .i64 a0_0, .int .i64 a0_1] 35 (0, 0)) (by (with_reducible repeat (first | refine blk_drewN ?_ _ | refine blk_drew ?_ | refine blk_alloc ?_ _)); exact BK183.out) hb); have n1_ := Aside0.mk (below_step (by repeat (first | (with_reducible first | exact HB.out | apply below_alloc | apply pw_below_drewN | apply below_drew1 | refine below_set ?_ GE183.out) | exact HB.out)) hb); clear BK183; clear HB; have BK183 := n0_; have HB := n1_; clear n0_ n1_; (try clear hb); (try clear hb2); (try clear hk); (try clear hi); have hcz38_0 : w37.cell? ⟨gb183, 0, none⟩ = some (.int .i64 a0_0) := (blk_cell BK183.out 0).trans rfl; have hcz38_1 : w37.cell? ⟨gb183, 1, none⟩ = some (.int .i64 a0_1) := (blk_cell BK183.out 1).trans rfl; have hfz38_0 := blk_frozen BK183.out 0; have hfz38_1 := blk_frozen BK183.out 1))
                    go_meet
                    case rel => exact ⟨_, (true), (by first | rfl | (simp; done) | (simp [*]; done)), H', ⟨by have := HJ10.out; first | omega | exact Nat.le_refl _⟩, ⟨by (with_reducible repeat (first | refine blk_drewN ?_ _ | refine blk_drew ?_ | refine blk_alloc ?_ _)); exact BK183.out⟩, ⟨by repeat (first | (with_reducible first | exact HB.out | apply below_alloc | apply pw_below_drewN | apply below_drew1 | refine below_set ?_ GE183.out) | exact HB.out)⟩⟩
              · replace c31 := Bool.eq_false_iff.mpr c31
                subst c31
                have H1 : (greenscreenlaw02_AddrPlaces.j1 kj10 a3 a4 a5 t185 (t186 != 0) a0_0 a0_1) = some r := by rw [if_neg (show ¬ (false = true) by decide)] at H; exact H
                clear H
                have H := H1
                clear H1
                have H' := Aside0.mk H
                clear H
                have hcz39_0 : wc.cell? ⟨gb183, 0, none⟩ = some (.int .i64 a0_0) := (blk_cell BK183.out 0).trans rfl
                have hcz39_1 : wc.cell? ⟨gb183, 1, none⟩ = some (.int .i64 a0_1) := (blk_cell BK183.out 1).trans rfl
                have hfz39_0 := blk_frozen BK183.out 0
                have hfz39_1 := blk_frozen BK183.out 1
                as_aux_lemma =>
                  go_wp2_with (first | ((with_reducible refine gate_callee (f := 19) rfl ?_); refine goesL_ (some 56) rfl rfl Try.func19 (by kernel_rfl) rfl #[.agg #[.int .i64 a0_0, .int .i64 a0_1]] rfl (by (try simp only [List.map_toArray, List.map_cons, List.map_nil]); first | done | rfl | (simp only [List.length_drop, List.length_take]; rfl)) ?_; (with_reducible refine (addr_Cells.calls a0_0 a0_1 t188 _ A26.out).mono ?_); rintro e w40 ⟨rfl, hb⟩; refine ⟨_, rfl, ?_⟩; have n0_ := Aside0.mk (blk_below (g := gb183) (o := .cells #[.int .i64 a0_0, .int .i64 a0_1] 35 (0, 0)) (by (with_reducible repeat (first | refine blk_drewN ?_ _ | refine blk_drew ?_ | refine blk_alloc ?_ _)); exact BK183.out) hb); have n1_ := Aside0.mk (below_step (by repeat (first | (with_reducible first | exact HB.out | apply below_alloc | apply pw_below_drewN | apply below_drew1 | refine below_set ?_ GE183.out) | exact HB.out)) hb); clear BK183; clear HB; have BK183 := n0_; have HB := n1_; clear n0_ n1_; (try clear hb); (try clear hb2); (try clear hk); (try clear hi)))
                  go_meet
                  case rel => exact ⟨_, ((t186 != 0)), (by first | rfl | (simp; done) | (simp [*]; done)), H', ⟨by have := HJ10.out; first | omega | exact Nat.le_refl _⟩, ⟨by (with_reducible repeat (first | refine blk_drewN ?_ _ | refine blk_drew ?_ | refine blk_alloc ?_ _)); exact BK183.out⟩, ⟨by repeat (first | (with_reducible first | exact HB.out | apply below_alloc | apply pw_below_drewN | apply below_drew1 | refine below_set ?_ GE183.out) | exact HB.out)⟩⟩
          · rw [if_neg c27] at H
            have c27b0 : (t188 == t185) = false := beq_eq_false_iff_ne.mpr c27
            have c27b1 : (t188 != t185) = true := bne_iff_ne.mpr c27
            (first | rw [c27b0] | (simp only [i64_w, i32_w]; rw [c27b0]) | skip)
            have H' := Aside0.mk H
            clear H
            have hcz41_0 : wc.cell? ⟨gb183, 0, none⟩ = some (.int .i64 a0_0) := (blk_cell BK183.out 0).trans rfl
            have hcz41_1 : wc.cell? ⟨gb183, 1, none⟩ = some (.int .i64 a0_1) := (blk_cell BK183.out 1).trans rfl
            have hfz41_0 := blk_frozen BK183.out 0
            have hfz41_1 := blk_frozen BK183.out 1
            as_aux_lemma =>
              go_wp2_with (first | ((with_reducible refine gate_callee (f := 19) rfl ?_); refine goesL_ (some 56) rfl rfl Try.func19 (by kernel_rfl) rfl #[.agg #[.int .i64 a0_0, .int .i64 a0_1]] rfl (by (try simp only [List.map_toArray, List.map_cons, List.map_nil]); first | done | rfl | (simp only [List.length_drop, List.length_take]; rfl)) ?_; (with_reducible refine (addr_Cells.calls a0_0 a0_1 t188 _ A26.out).mono ?_); rintro e w42 ⟨rfl, hb⟩; refine ⟨_, rfl, ?_⟩; have n0_ := Aside0.mk (blk_below (g := gb183) (o := .cells #[.int .i64 a0_0, .int .i64 a0_1] 35 (0, 0)) (by (with_reducible repeat (first | refine blk_drewN ?_ _ | refine blk_drew ?_ | refine blk_alloc ?_ _)); exact BK183.out) hb); have n1_ := Aside0.mk (below_step (by repeat (first | (with_reducible first | exact HB.out | apply below_alloc | apply pw_below_drewN | apply below_drew1 | refine below_set ?_ GE183.out) | exact HB.out)) hb); clear BK183; clear HB; have BK183 := n0_; have HB := n1_; clear n0_ n1_; (try clear hb); (try clear hb2); (try clear hk); (try clear hi)))
              go_meet
              case rel => exact ⟨_, (true), (by first | rfl | (simp; done) | (simp [*]; done)), H', ⟨by have := HJ10.out; first | omega | exact Nat.le_refl _⟩, ⟨by (with_reducible repeat (first | refine blk_drewN ?_ _ | refine blk_drew ?_ | refine blk_alloc ?_ _)); exact BK183.out⟩, ⟨by repeat (first | (with_reducible first | exact HB.out | apply below_alloc | apply pw_below_drewN | apply below_drew1 | refine below_set ?_ GE183.out) | exact HB.out)⟩⟩
        case rest =>
          clear HC25
          try clear c1
          try clear c2
          try clear p2
          try clear c3
          try clear c4
          try clear p6
          try clear c8
          try clear c17
          try clear c18
          try clear c18b0
          try clear c19
          try clear c19b0
          try clear c20
          try clear c20b0
          try clear c21
          try clear c21b0
          try clear c27
          try clear c27b0
          try clear c27b1
          try clear c28
          try clear c28b0
          try clear c28b1
          try clear c28b2
          try clear c31
          try clear c32
          try clear c32b0
          try clear c32b1
          try clear hcz14_0
          try clear hcz14_1
          try clear hcz16_0
          try clear hcz16_1
          try clear hcz22_0
          try clear hcz22_1
          try clear hcz23_0
          try clear hcz23_1
          try clear hcz24_0
          try clear hcz24_1
          try clear hcz29_0
          try clear hcz29_1
          try clear hcz33_0
          try clear hcz33_1
          try clear hcz35_0
          try clear hcz35_1
          try clear hcz36_0
          try clear hcz36_1
          try clear hcz38_0
          try clear hcz38_1
          try clear hcz39_0
          try clear hcz39_1
          try clear hcz41_0
          try clear hcz41_1
          try clear hfz14_0
          try clear hfz14_1
          try clear hfz16_0
          try clear hfz16_1
          try clear hfz22_0
          try clear hfz22_1
          try clear hfz23_0
          try clear hfz23_1
          try clear hfz24_0
          try clear hfz24_1
          try clear hfz29_0
          try clear hfz29_1
          try clear hfz33_0
          try clear hfz33_1
          try clear hfz35_0
          try clear hfz35_1
          try clear hfz36_0
          try clear hfz36_1
          try clear hfz38_0
          try clear hfz38_1
          try clear hfz39_0
          try clear hfz39_1
          try clear hfz41_0
          try clear hfz41_1
          try clear p2
          obtain ⟨kq, x84_24, rfl, HA, HJ24, BK183, HB⟩ := hcut
          cases kq with
          | zero => exact absurd HA.out (by simp [greenscreenlaw02_AddrPlaces.j1])
          | succ kj24 =>
            have H := HA.out
            clear HA
            simp only [greenscreenlaw02_AddrPlaces.j1] at H
            by_cases c43 : x84_24 = true
            · subst c43
              have H1 : (some false) = some r := by rw [if_pos rfl] at H; exact H
              clear H
              have H := H1
              clear H1
              obtain rfl := Option.some.inj H
              exact absurd hr_ (by decide)
            · replace c43 := Bool.eq_false_iff.mpr c43
              subst c43
              have H1 : ((addr_Split.f a0_0 a0_1 a3).bind fun bt189 => (if a3 ≥ 0 then (if (bt189.2.2 != (decide (a3 < t185))) = true then (greenscreenlaw02_AddrPlaces.j2 kj24 a3 a4 a5 true a0_0 a0_1) else (if bt189.2.2 = true then (if (wrap64 ((wrap64 (bt189.1 * a0_1)) + bt189.2.1)) = a3 then (if bt189.2.1 < 0 then (greenscreenlaw02_AddrPlaces.j2 kj24 a3 a4 a5 true a0_0 a0_1) else (greenscreenlaw02_AddrPlaces.j2 kj24 a3 a4 a5 (decide (bt189.2.1 ≥ a0_1)) a0_0 a0_1)) else (greenscreenlaw02_AddrPlaces.j2 kj24 a3 a4 a5 true a0_0 a0_1)) else (if bt189.1 = 0 then (if bt189.2.1 = 0 then (greenscreenlaw02_AddrPlaces.j2 kj24 a3 a4 a5 false a0_0 a0_1) else (greenscreenlaw02_AddrPlaces.j2 kj24 a3 a4 a5 true a0_0 a0_1)) else (greenscreenlaw02_AddrPlaces.j2 kj24 a3 a4 a5 true a0_0 a0_1)))) else (if (bt189.2.2 != false) = true then (greenscreenlaw02_AddrPlaces.j2 kj24 a3 a4 a5 true a0_0 a0_1) else (if bt189.2.2 = true then (if (wrap64 ((wrap64 (bt189.1 * a0_1)) + bt189.2.1)) = a3 then (if bt189.2.1 < 0 then (greenscreenlaw02_AddrPlaces.j2 kj24 a3 a4 a5 true a0_0 a0_1) else (greenscreenlaw02_AddrPlaces.j2 kj24 a3 a4 a5 (decide (bt189.2.1 ≥ a0_1)) a0_0 a0_1)) else (greenscreenlaw02_AddrPlaces.j2 kj24 a3 a4 a5 true a0_0 a0_1)) else (if bt189.1 = 0 then (if bt189.2.1 = 0 then (greenscreenlaw02_AddrPlaces.j2 kj24 a3 a4 a5 false a0_0 a0_1) else (greenscreenlaw02_AddrPlaces.j2 kj24 a3 a4 a5 true a0_0 a0_1)) else (greenscreenlaw02_AddrPlaces.j2 kj24 a3 a4 a5 true a0_0 a0_1)))))) = some r := by rw [if_neg (show ¬ (false = true) by decide)] at H; exact H
              clear H
              have H := H1
              clear H1
              replace H := Option.bind_eq_some_iff.mp H
              obtain ⟨⟨t189, t190, t191⟩, A440, H⟩ := H
              replace H : (if a3 ≥ 0 then (if (t191 != (decide (a3 < t185))) = true then (greenscreenlaw02_AddrPlaces.j2 kj24 a3 a4 a5 true a0_0 a0_1) else (if t191 = true then (if (wrap64 ((wrap64 (t189 * a0_1)) + t190)) = a3 then (if t190 < 0 then (greenscreenlaw02_AddrPlaces.j2 kj24 a3 a4 a5 true a0_0 a0_1) else (greenscreenlaw02_AddrPlaces.j2 kj24 a3 a4 a5 (decide (t190 ≥ a0_1)) a0_0 a0_1)) else (greenscreenlaw02_AddrPlaces.j2 kj24 a3 a4 a5 true a0_0 a0_1)) else (if t189 = 0 then (if t190 = 0 then (greenscreenlaw02_AddrPlaces.j2 kj24 a3 a4 a5 false a0_0 a0_1) else (greenscreenlaw02_AddrPlaces.j2 kj24 a3 a4 a5 true a0_0 a0_1)) else (greenscreenlaw02_AddrPlaces.j2 kj24 a3 a4 a5 true a0_0 a0_1)))) else (if (t191 != false) = true then (greenscreenlaw02_AddrPlaces.j2 kj24 a3 a4 a5 true a0_0 a0_1) else (if t191 = true then (if (wrap64 ((wrap64 (t189 * a0_1)) + t190)) = a3 then (if t190 < 0 then (greenscreenlaw02_AddrPlaces.j2 kj24 a3 a4 a5 true a0_0 a0_1) else (greenscreenlaw02_AddrPlaces.j2 kj24 a3 a4 a5 (decide (t190 ≥ a0_1)) a0_0 a0_1)) else (greenscreenlaw02_AddrPlaces.j2 kj24 a3 a4 a5 true a0_0 a0_1)) else (if t189 = 0 then (if t190 = 0 then (greenscreenlaw02_AddrPlaces.j2 kj24 a3 a4 a5 false a0_0 a0_1) else (greenscreenlaw02_AddrPlaces.j2 kj24 a3 a4 a5 true a0_0 a0_1)) else (greenscreenlaw02_AddrPlaces.j2 kj24 a3 a4 a5 true a0_0 a0_1))))) = some r := H
              have A44 := Aside0.mk A440
              clear A440
              have HC45 := Aside0.mk H
              clear H
              have hcz46_0 : wc.cell? ⟨gb183, 0, none⟩ = some (.int .i64 a0_0) := (blk_cell BK183.out 0).trans rfl
              have hcz46_1 : wc.cell? ⟨gb183, 1, none⟩ = some (.int .i64 a0_1) := (blk_cell BK183.out 1).trans rfl
              have hfz46_0 := blk_frozen BK183.out 0
              have hfz46_1 := blk_frozen BK183.out 1
              go_upto_region 9 with (first | ((with_reducible refine gate_callee (f := 20) rfl ?_); refine goesL_ (some 88) rfl rfl Try.func20 (by kernel_rfl) rfl #[.agg #[.int .i64 a0_0, .int .i64 a0_1], .int .i64 a3] rfl (by (try simp only [List.map_toArray, List.map_cons, List.map_nil]); first | done | rfl | (simp only [List.length_drop, List.length_take]; rfl)) ?_; (with_reducible refine (addr_Split.calls a0_0 a0_1 a3 t189 t190 t191 _ A44.out).mono ?_); rintro e w47 ⟨rfl, hb⟩; refine ⟨_, rfl, ?_⟩; have n0_ := Aside0.mk (blk_below (g := gb183) (o := .cells #[.int .i64 a0_0, .int .i64 a0_1] 35 (0, 0)) (by (with_reducible repeat (first | refine blk_drewN ?_ _ | refine blk_drew ?_ | refine blk_alloc ?_ _)); exact BK183.out) hb); have n1_ := Aside0.mk (below_step (by repeat (first | (with_reducible first | exact HB.out | apply below_alloc | apply pw_below_drewN | apply below_drew1 | refine below_set ?_ GE183.out) | exact HB.out)) hb); clear BK183; clear HB; have BK183 := n0_; have HB := n1_; clear n0_ n1_; (try clear hb); (try clear hb2); (try clear hk); (try clear hi)))
              (try simp only [Act.put, List.setIfInBounds_toArray, List.set_cons_zero, List.set_cons_succ])
              go_cut [138] (fun v138 wc => ∃ (kq : Nat) (x138_44 : Bool), v138 = .bool x138_44 ∧ Aside0 (greenscreenlaw02_AddrPlaces.j2 kq a3 a4 a5 x138_44 a0_0 a0_1 = some r) ∧ Aside0 (kq ≤ kj24) ∧ Aside0 (wc.heap[gb183]? = some (.cells #[.int .i64 a0_0, .int .i64 a0_1] 35 (0, 0))) ∧ Aside0 (Below w.heap.size w wc))
              case first =>
                have H := HC45.out
                clear HC45
                by_cases c48 : a3 ≥ 0
                · rw [if_pos c48] at H
                  have c48b0 : decide (0 ≤ a3) = true := decide_eq_true c48
                  clear c48
                  (first | rw [c48b0] | (simp only [i64_w, i32_w]; rw [c48b0]) | skip)
                  by_cases c49 : (t191 != (decide (a3 < t185))) = true
                  · rw [if_pos c49] at H
                    have c49b0 : (t191 != (decide (a3 < t185))) = true := c49
                    (try (have c49e0 : (t191 = (decide (a3 < t185))) = False := by (have he_ := c49b0; revert he_; cases (t191) <;> cases ((decide (a3 < t185))) <;> simp)))
                    (try (have c49e1 : (t191 == (decide (a3 < t185))) = false := by (have he_ := c49b0; revert he_; cases (t191) <;> cases ((decide (a3 < t185))) <;> simp)))
                    (try (have c49b1 : decide (t191 = (decide (a3 < t185))) = false := by simpa using c49))
                    (try (have c49b2 : (t191 == (decide (a3 < t185))) = false := by simpa using c49))
                    (try (have c49b3 : ¬ (t191 = (decide (a3 < t185))) := by simpa using c49))
                    clear c49
                    have H' := Aside0.mk H
                    clear H
                    as_aux_lemma =>
                      go_wp2
                      go_meet
                      case rel => exact ⟨_, (true), (by first | rfl | (simp; done) | (simp [*]; done)), H', ⟨by have := HJ10.out; have := HJ24.out; first | omega | exact Nat.le_refl _⟩, ⟨by (with_reducible repeat (first | refine blk_drewN ?_ _ | refine blk_drew ?_ | refine blk_alloc ?_ _)); exact BK183.out⟩, ⟨by repeat (first | (with_reducible first | exact HB.out | apply below_alloc | apply pw_below_drewN | apply below_drew1 | refine below_set ?_ GE183.out) | exact HB.out)⟩⟩
                  · rw [if_neg c49] at H
                    have c49b0 : (t191 != (decide (a3 < t185))) = false := by simpa using c49
                    (try (have c49e0 : (t191 = (decide (a3 < t185))) = True := by (have he_ := c49b0; revert he_; cases (t191) <;> cases ((decide (a3 < t185))) <;> simp)))
                    (try (have c49e1 : (t191 == (decide (a3 < t185))) = true := by (have he_ := c49b0; revert he_; cases (t191) <;> cases ((decide (a3 < t185))) <;> simp)))
                    (try (have c49b1 : decide (t191 = (decide (a3 < t185))) = true := by simpa using c49))
                    (try (have c49b2 : (t191 == (decide (a3 < t185))) = true := by simpa using c49))
                    clear c49
                    by_cases c50 : t191 = true
                    · subst c50
                      have H1 : (if (wrap64 ((wrap64 (t189 * a0_1)) + t190)) = a3 then (if t190 < 0 then (greenscreenlaw02_AddrPlaces.j2 kj24 a3 a4 a5 true a0_0 a0_1) else (greenscreenlaw02_AddrPlaces.j2 kj24 a3 a4 a5 (decide (t190 ≥ a0_1)) a0_0 a0_1)) else (greenscreenlaw02_AddrPlaces.j2 kj24 a3 a4 a5 true a0_0 a0_1)) = some r := by rw [if_pos rfl] at H; exact H
                      clear H
                      have H := H1
                      clear H1
                      by_cases c51 : (wrap64 ((wrap64 (t189 * a0_1)) + t190)) = a3
                      · rw [if_pos c51] at H
                        have c51b0 : ((wrap64 ((wrap64 (t189 * a0_1)) + t190)) == a3) = true := beq_iff_eq.mpr c51
                        have c51b1 : ((wrap64 ((wrap64 (t189 * a0_1)) + t190)) != a3) = false := bne_eq_false_iff_eq.mpr c51
                        clear c51
                        by_cases c52 : t190 < 0
                        · rw [if_pos c52] at H
                          have c52b0 : decide (t190 < 0) = true := decide_eq_true c52
                          clear c52
                          have H' := Aside0.mk H
                          clear H
                          have hcz53_0 : w47.cell? ⟨gb183, 0, none⟩ = some (.int .i64 a0_0) := (blk_cell BK183.out 0).trans rfl
                          have hcz53_1 : w47.cell? ⟨gb183, 1, none⟩ = some (.int .i64 a0_1) := (blk_cell BK183.out 1).trans rfl
                          have hfz53_0 := blk_frozen BK183.out 0
                          have hfz53_1 := blk_frozen BK183.out 1
                          as_aux_lemma =>
                            go_wp2
                            go_meet
                            case rel => exact ⟨_, (true), (by first | rfl | (simp; done) | (simp [*]; done)), H', ⟨by have := HJ10.out; have := HJ24.out; first | omega | exact Nat.le_refl _⟩, ⟨by (with_reducible repeat (first | refine blk_drewN ?_ _ | refine blk_drew ?_ | refine blk_alloc ?_ _)); exact BK183.out⟩, ⟨by repeat (first | (with_reducible first | exact HB.out | apply below_alloc | apply pw_below_drewN | apply below_drew1 | refine below_set ?_ GE183.out) | exact HB.out)⟩⟩
                        · rw [if_neg c52] at H
                          have c52b0 : decide (t190 < 0) = false := decide_eq_false c52
                          clear c52
                          have H' := Aside0.mk H
                          clear H
                          have hcz54_0 : w47.cell? ⟨gb183, 0, none⟩ = some (.int .i64 a0_0) := (blk_cell BK183.out 0).trans rfl
                          have hcz54_1 : w47.cell? ⟨gb183, 1, none⟩ = some (.int .i64 a0_1) := (blk_cell BK183.out 1).trans rfl
                          have hfz54_0 := blk_frozen BK183.out 0
                          have hfz54_1 := blk_frozen BK183.out 1
                          as_aux_lemma =>
                            go_wp2
                            go_meet
                            case rel => exact ⟨_, (decide (t190 ≥ a0_1)), (by first | rfl | (simp; done) | (simp [*]; done)), H', ⟨by have := HJ10.out; have := HJ24.out; first | omega | exact Nat.le_refl _⟩, ⟨by (with_reducible repeat (first | refine blk_drewN ?_ _ | refine blk_drew ?_ | refine blk_alloc ?_ _)); exact BK183.out⟩, ⟨by repeat (first | (with_reducible first | exact HB.out | apply below_alloc | apply pw_below_drewN | apply below_drew1 | refine below_set ?_ GE183.out) | exact HB.out)⟩⟩
                      · rw [if_neg c51] at H
                        have c51b0 : ((wrap64 ((wrap64 (t189 * a0_1)) + t190)) == a3) = false := beq_eq_false_iff_ne.mpr c51
                        have c51b1 : ((wrap64 ((wrap64 (t189 * a0_1)) + t190)) != a3) = true := bne_iff_ne.mpr c51
                        have H' := Aside0.mk H
                        clear H
                        have hcz55_0 : w47.cell? ⟨gb183, 0, none⟩ = some (.int .i64 a0_0) := (blk_cell BK183.out 0).trans rfl
                        have hcz55_1 : w47.cell? ⟨gb183, 1, none⟩ = some (.int .i64 a0_1) := (blk_cell BK183.out 1).trans rfl
                        have hfz55_0 := blk_frozen BK183.out 0
                        have hfz55_1 := blk_frozen BK183.out 1
                        as_aux_lemma =>
                          go_wp2
                          go_meet
                          case rel => exact ⟨_, (true), (by first | rfl | (simp; done) | (simp [*]; done)), H', ⟨by have := HJ10.out; have := HJ24.out; first | omega | exact Nat.le_refl _⟩, ⟨by (with_reducible repeat (first | refine blk_drewN ?_ _ | refine blk_drew ?_ | refine blk_alloc ?_ _)); exact BK183.out⟩, ⟨by repeat (first | (with_reducible first | exact HB.out | apply below_alloc | apply pw_below_drewN | apply below_drew1 | refine below_set ?_ GE183.out) | exact HB.out)⟩⟩
                    · replace c50 := Bool.eq_false_iff.mpr c50
                      subst c50
                      have H1 : (if t189 = 0 then (if t190 = 0 then (greenscreenlaw02_AddrPlaces.j2 kj24 a3 a4 a5 false a0_0 a0_1) else (greenscreenlaw02_AddrPlaces.j2 kj24 a3 a4 a5 true a0_0 a0_1)) else (greenscreenlaw02_AddrPlaces.j2 kj24 a3 a4 a5 true a0_0 a0_1)) = some r := by rw [if_neg (show ¬ (false = true) by decide)] at H; exact H
                      clear H
                      have H := H1
                      clear H1
                      by_cases c56 : t189 = 0
                      · rw [if_pos c56] at H
                        have c56b0 : (t189 == 0) = true := beq_iff_eq.mpr c56
                        have c56b1 : (t189 != 0) = false := bne_eq_false_iff_eq.mpr c56
                        clear c56
                        by_cases c57 : t190 = 0
                        · rw [if_pos c57] at H
                          have c57b0 : (t190 == 0) = true := beq_iff_eq.mpr c57
                          have c57b1 : (t190 != 0) = false := bne_eq_false_iff_eq.mpr c57
                          clear c57
                          have H' := Aside0.mk H
                          clear H
                          as_aux_lemma =>
                            go_wp2
                            go_meet
                            case rel => exact ⟨_, (false), (by first | rfl | (simp; done) | (simp [*]; done)), H', ⟨by have := HJ10.out; have := HJ24.out; first | omega | exact Nat.le_refl _⟩, ⟨by (with_reducible repeat (first | refine blk_drewN ?_ _ | refine blk_drew ?_ | refine blk_alloc ?_ _)); exact BK183.out⟩, ⟨by repeat (first | (with_reducible first | exact HB.out | apply below_alloc | apply pw_below_drewN | apply below_drew1 | refine below_set ?_ GE183.out) | exact HB.out)⟩⟩
                        · rw [if_neg c57] at H
                          have c57b0 : (t190 == 0) = false := beq_eq_false_iff_ne.mpr c57
                          have c57b1 : (t190 != 0) = true := bne_iff_ne.mpr c57
                          have H' := Aside0.mk H
                          clear H
                          as_aux_lemma =>
                            go_wp2
                            go_meet
                            case rel => exact ⟨_, (true), (by first | rfl | (simp; done) | (simp [*]; done)), H', ⟨by have := HJ10.out; have := HJ24.out; first | omega | exact Nat.le_refl _⟩, ⟨by (with_reducible repeat (first | refine blk_drewN ?_ _ | refine blk_drew ?_ | refine blk_alloc ?_ _)); exact BK183.out⟩, ⟨by repeat (first | (with_reducible first | exact HB.out | apply below_alloc | apply pw_below_drewN | apply below_drew1 | refine below_set ?_ GE183.out) | exact HB.out)⟩⟩
                      · rw [if_neg c56] at H
                        have c56b0 : (t189 == 0) = false := beq_eq_false_iff_ne.mpr c56
                        have c56b1 : (t189 != 0) = true := bne_iff_ne.mpr c56
                        have H' := Aside0.mk H
                        clear H
                        as_aux_lemma =>
                          go_wp2
                          go_meet
                          case rel => exact ⟨_, (true), (by first | rfl | (simp; done) | (simp [*]; done)), H', ⟨by have := HJ10.out; have := HJ24.out; first | omega | exact Nat.le_refl _⟩, ⟨by (with_reducible repeat (first | refine blk_drewN ?_ _ | refine blk_drew ?_ | refine blk_alloc ?_ _)); exact BK183.out⟩, ⟨by repeat (first | (with_reducible first | exact HB.out | apply below_alloc | apply pw_below_drewN | apply below_drew1 | refine below_set ?_ GE183.out) | exact HB.out)⟩⟩
                · rw [if_neg c48] at H
                  have c48b0 : decide (0 ≤ a3) = false := decide_eq_false c48
                  clear c48
                  (first | rw [c48b0] | (simp only [i64_w, i32_w]; rw [c48b0]) | skip)
                  by_cases c58 : (t191 != false) = true
                  · rw [if_pos c58] at H
                    have c58b0 : (t191 != false) = true := c58
                    (try (have c58b1 : decide (t191 = false) = false := by simpa using c58))
                    (try (have c58b2 : (t191 == false) = false := by simpa using c58))
                    (try (have c58b3 : ¬ (t191 = false) := by simpa using c58))
                    clear c58
                    have H' := Aside0.mk H
                    clear H
                    as_aux_lemma =>
                      go_wp2
                      go_meet
                      case rel => exact ⟨_, (true), (by first | rfl | (simp; done) | (simp [*]; done)), H', ⟨by have := HJ10.out; have := HJ24.out; first | omega | exact Nat.le_refl _⟩, ⟨by (with_reducible repeat (first | refine blk_drewN ?_ _ | refine blk_drew ?_ | refine blk_alloc ?_ _)); exact BK183.out⟩, ⟨by repeat (first | (with_reducible first | exact HB.out | apply below_alloc | apply pw_below_drewN | apply below_drew1 | refine below_set ?_ GE183.out) | exact HB.out)⟩⟩
                  · rw [if_neg c58] at H
                    have c58b0 : (t191 != false) = false := by simpa using c58
                    (try (have c58b1 : decide (t191 = false) = true := by simpa using c58))
                    (try (have c58b2 : (t191 == false) = true := by simpa using c58))
                    clear c58
                    by_cases c59 : t191 = true
                    · subst c59
                      have H1 : (if (wrap64 ((wrap64 (t189 * a0_1)) + t190)) = a3 then (if t190 < 0 then (greenscreenlaw02_AddrPlaces.j2 kj24 a3 a4 a5 true a0_0 a0_1) else (greenscreenlaw02_AddrPlaces.j2 kj24 a3 a4 a5 (decide (t190 ≥ a0_1)) a0_0 a0_1)) else (greenscreenlaw02_AddrPlaces.j2 kj24 a3 a4 a5 true a0_0 a0_1)) = some r := by rw [if_pos rfl] at H; exact H
                      clear H
                      have H := H1
                      clear H1
                      by_cases c60 : (wrap64 ((wrap64 (t189 * a0_1)) + t190)) = a3
                      · rw [if_pos c60] at H
                        have c60b0 : ((wrap64 ((wrap64 (t189 * a0_1)) + t190)) == a3) = true := beq_iff_eq.mpr c60
                        have c60b1 : ((wrap64 ((wrap64 (t189 * a0_1)) + t190)) != a3) = false := bne_eq_false_iff_eq.mpr c60
                        clear c60
                        by_cases c61 : t190 < 0
                        · rw [if_pos c61] at H
                          have c61b0 : decide (t190 < 0) = true := decide_eq_true c61
                          clear c61
                          have H' := Aside0.mk H
                          clear H
                          have hcz62_0 : w47.cell? ⟨gb183, 0, none⟩ = some (.int .i64 a0_0) := (blk_cell BK183.out 0).trans rfl
                          have hcz62_1 : w47.cell? ⟨gb183, 1, none⟩ = some (.int .i64 a0_1) := (blk_cell BK183.out 1).trans rfl
                          have hfz62_0 := blk_frozen BK183.out 0
                          have hfz62_1 := blk_frozen BK183.out 1
                          as_aux_lemma =>
                            go_wp2
                            go_meet
                            case rel => exact ⟨_, (true), (by first | rfl | (simp; done) | (simp [*]; done)), H', ⟨by have := HJ10.out; have := HJ24.out; first | omega | exact Nat.le_refl _⟩, ⟨by (with_reducible repeat (first | refine blk_drewN ?_ _ | refine blk_drew ?_ | refine blk_alloc ?_ _)); exact BK183.out⟩, ⟨by repeat (first | (with_reducible first | exact HB.out | apply below_alloc | apply pw_below_drewN | apply below_drew1 | refine below_set ?_ GE183.out) | exact HB.out)⟩⟩
                        · rw [if_neg c61] at H
                          have c61b0 : decide (t190 < 0) = false := decide_eq_false c61
                          clear c61
                          have H' := Aside0.mk H
                          clear H
                          have hcz63_0 : w47.cell? ⟨gb183, 0, none⟩ = some (.int .i64 a0_0) := (blk_cell BK183.out 0).trans rfl
                          have hcz63_1 : w47.cell? ⟨gb183, 1, none⟩ = some (.int .i64 a0_1) := (blk_cell BK183.out 1).trans rfl
                          have hfz63_0 := blk_frozen BK183.out 0
                          have hfz63_1 := blk_frozen BK183.out 1
                          as_aux_lemma =>
                            go_wp2
                            go_meet
                            case rel => exact ⟨_, (decide (t190 ≥ a0_1)), (by first | rfl | (simp; done) | (simp [*]; done)), H', ⟨by have := HJ10.out; have := HJ24.out; first | omega | exact Nat.le_refl _⟩, ⟨by (with_reducible repeat (first | refine blk_drewN ?_ _ | refine blk_drew ?_ | refine blk_alloc ?_ _)); exact BK183.out⟩, ⟨by repeat (first | (with_reducible first | exact HB.out | apply below_alloc | apply pw_below_drewN | apply below_drew1 | refine below_set ?_ GE183.out) | exact HB.out)⟩⟩
                      · rw [if_neg c60] at H
                        have c60b0 : ((wrap64 ((wrap64 (t189 * a0_1)) + t190)) == a3) = false := beq_eq_false_iff_ne.mpr c60
                        have c60b1 : ((wrap64 ((wrap64 (t189 * a0_1)) + t190)) != a3) = true := bne_iff_ne.mpr c60
                        have H' := Aside0.mk H
                        clear H
                        have hcz64_0 : w47.cell? ⟨gb183, 0, none⟩ = some (.int .i64 a0_0) := (blk_cell BK183.out 0).trans rfl
                        have hcz64_1 : w47.cell? ⟨gb183, 1, none⟩ = some (.int .i64 a0_1) := (blk_cell BK183.out 1).trans rfl
                        have hfz64_0 := blk_frozen BK183.out 0
                        have hfz64_1 := blk_frozen BK183.out 1
                        as_aux_lemma =>
                          go_wp2
                          go_meet
                          case rel => exact ⟨_, (true), (by first | rfl | (simp; done) | (simp [*]; done)), H', ⟨by have := HJ10.out; have := HJ24.out; first | omega | exact Nat.le_refl _⟩, ⟨by (with_reducible repeat (first | refine blk_drewN ?_ _ | refine blk_drew ?_ | refine blk_alloc ?_ _)); exact BK183.out⟩, ⟨by repeat (first | (with_reducible first | exact HB.out | apply below_alloc | apply pw_below_drewN | apply below_drew1 | refine below_set ?_ GE183.out) | exact HB.out)⟩⟩
                    · replace c59 := Bool.eq_false_iff.mpr c59
                      subst c59
                      have H1 : (if t189 = 0 then (if t190 = 0 then (greenscreenlaw02_AddrPlaces.j2 kj24 a3 a4 a5 false a0_0 a0_1) else (greenscreenlaw02_AddrPlaces.j2 kj24 a3 a4 a5 true a0_0 a0_1)) else (greenscreenlaw02_AddrPlaces.j2 kj24 a3 a4 a5 true a0_0 a0_1)) = some r := by rw [if_neg (show ¬ (false = true) by decide)] at H; exact H
                      clear H
                      have H := H1
                      clear H1
                      by_cases c65 : t189 = 0
                      · rw [if_pos c65] at H
                        have c65b0 : (t189 == 0) = true := beq_iff_eq.mpr c65
                        have c65b1 : (t189 != 0) = false := bne_eq_false_iff_eq.mpr c65
                        clear c65
                        by_cases c66 : t190 = 0
                        · rw [if_pos c66] at H
                          have c66b0 : (t190 == 0) = true := beq_iff_eq.mpr c66
                          have c66b1 : (t190 != 0) = false := bne_eq_false_iff_eq.mpr c66
                          clear c66
                          have H' := Aside0.mk H
                          clear H
                          as_aux_lemma =>
                            go_wp2
                            go_meet
                            case rel => exact ⟨_, (false), (by first | rfl | (simp; done) | (simp [*]; done)), H', ⟨by have := HJ10.out; have := HJ24.out; first | omega | exact Nat.le_refl _⟩, ⟨by (with_reducible repeat (first | refine blk_drewN ?_ _ | refine blk_drew ?_ | refine blk_alloc ?_ _)); exact BK183.out⟩, ⟨by repeat (first | (with_reducible first | exact HB.out | apply below_alloc | apply pw_below_drewN | apply below_drew1 | refine below_set ?_ GE183.out) | exact HB.out)⟩⟩
                        · rw [if_neg c66] at H
                          have c66b0 : (t190 == 0) = false := beq_eq_false_iff_ne.mpr c66
                          have c66b1 : (t190 != 0) = true := bne_iff_ne.mpr c66
                          have H' := Aside0.mk H
                          clear H
                          as_aux_lemma =>
                            go_wp2
                            go_meet
                            case rel => exact ⟨_, (true), (by first | rfl | (simp; done) | (simp [*]; done)), H', ⟨by have := HJ10.out; have := HJ24.out; first | omega | exact Nat.le_refl _⟩, ⟨by (with_reducible repeat (first | refine blk_drewN ?_ _ | refine blk_drew ?_ | refine blk_alloc ?_ _)); exact BK183.out⟩, ⟨by repeat (first | (with_reducible first | exact HB.out | apply below_alloc | apply pw_below_drewN | apply below_drew1 | refine below_set ?_ GE183.out) | exact HB.out)⟩⟩
                      · rw [if_neg c65] at H
                        have c65b0 : (t189 == 0) = false := beq_eq_false_iff_ne.mpr c65
                        have c65b1 : (t189 != 0) = true := bne_iff_ne.mpr c65
                        have H' := Aside0.mk H
                        clear H
                        as_aux_lemma =>
                          go_wp2
                          go_meet
                          case rel => exact ⟨_, (true), (by first | rfl | (simp; done) | (simp [*]; done)), H', ⟨by have := HJ10.out; have := HJ24.out; first | omega | exact Nat.le_refl _⟩, ⟨by (with_reducible repeat (first | refine blk_drewN ?_ _ | refine blk_drew ?_ | refine blk_alloc ?_ _)); exact BK183.out⟩, ⟨by repeat (first | (with_reducible first | exact HB.out | apply below_alloc | apply pw_below_drewN | apply below_drew1 | refine below_set ?_ GE183.out) | exact HB.out)⟩⟩
              case rest =>
                clear HC45
                try clear c1
                try clear c2
                try clear p2
                try clear c3
                try clear c4
                try clear c5
                try clear c6
                try clear p6
                try clear c8
                try clear c17
                try clear c18
                try clear c18b0
                try clear c19
                try clear c19b0
                try clear c20
                try clear c20b0
                try clear c21
                try clear c21b0
                try clear c27
                try clear c27b0
                try clear c27b1
                try clear c28
                try clear c28b0
                try clear c28b1
                try clear c28b2
                try clear c31
                try clear c32
                try clear c32b0
                try clear c32b1
                try clear c43
                try clear c48
                try clear c48b0
                try clear c49
                try clear c49b0
                try clear c49b1
                try clear c49b2
                try clear c50
                try clear c51
                try clear c51b0
                try clear c51b1
                try clear c52
                try clear c52b0
                try clear c56
                try clear c56b0
                try clear c56b1
                try clear c57
                try clear c57b0
                try clear c57b1
                try clear c58
                try clear c58b0
                try clear c58b1
                try clear c58b2
                try clear c59
                try clear c60
                try clear c60b0
                try clear c60b1
                try clear c61
                try clear c61b0
                try clear p64
                try clear c65
                try clear c65b0
                try clear c65b1
                try clear c66
                try clear c66b0
                try clear c66b1
                try clear hcz14_0
                try clear hcz14_1
                try clear hcz16_0
                try clear hcz16_1
                try clear hcz22_0
                try clear hcz22_1
                try clear hcz23_0
                try clear hcz23_1
                try clear hcz24_0
                try clear hcz24_1
                try clear hcz29_0
                try clear hcz29_1
                try clear hcz33_0
                try clear hcz33_1
                try clear hcz35_0
                try clear hcz35_1
                try clear hcz36_0
                try clear hcz36_1
                try clear hcz38_0
                try clear hcz38_1
                try clear hcz39_0
                try clear hcz39_1
                try clear hcz41_0
                try clear hcz41_1
                try clear hcz46_0
                try clear hcz46_1
                try clear hcz53_0
                try clear hcz53_1
                try clear hcz54_0
                try clear hcz54_1
                try clear hcz55_0
                try clear hcz55_1
                try clear hcz62_0
                try clear hcz62_1
                try clear hcz63_0
                try clear hcz63_1
                try clear hcz64_0
                try clear hcz64_1
                try clear hfz14_0
                try clear hfz14_1
                try clear hfz16_0
                try clear hfz16_1
                try clear hfz22_0
                try clear hfz22_1
                try clear hfz23_0
                try clear hfz23_1
                try clear hfz24_0
                try clear hfz24_1
                try clear hfz29_0
                try clear hfz29_1
                try clear hfz33_0
                try clear hfz33_1
                try clear hfz35_0
                try clear hfz35_1
                try clear hfz36_0
                try clear hfz36_1
                try clear hfz38_0
                try clear hfz38_1
                try clear hfz39_0
                try clear hfz39_1
                try clear hfz41_0
                try clear hfz41_1
                try clear hfz46_0
                try clear hfz46_1
                try clear hfz53_0
                try clear hfz53_1
                try clear hfz54_0
                try clear hfz54_1
                try clear hfz55_0
                try clear hfz55_1
                try clear hfz62_0
                try clear hfz62_1
                try clear hfz63_0
                try clear hfz63_1
                try clear hfz64_0
                try clear hfz64_1
                try clear p2
                try clear p6
                obtain ⟨kq, x138_44, rfl, HA, HJ44, BK183, HB⟩ := hcut
                cases kq with
                | zero => exact absurd HA.out (by simp [greenscreenlaw02_AddrPlaces.j2])
                | succ kj44 =>
                  have H := HA.out
                  clear HA
                  simp only [greenscreenlaw02_AddrPlaces.j2] at H
                  by_cases c67 : x138_44 = true
                  · subst c67
                    have H1 : (some false) = some r := by rw [if_pos rfl] at H; exact H
                    clear H
                    have H := H1
                    clear H1
                    obtain rfl := Option.some.inj H
                    exact absurd hr_ (by decide)
                  · replace c67 := Bool.eq_false_iff.mpr c67
                    subst c67
                    have H1 : ((greenscreenref02_Between.f kj44 a0_0 a0_1 a3 a4).bind fun t192 => ((greenscreenlaw02_list.f a0_0 a0_1 a3 a4 (wrap64 (1 + (Go.bits .and .i64 a5 4095)))).bind fun t195 => ((addr_Move.f a0_0 a0_1 a3 a4).bind fun t198 => ((greenscreenref02_Move.f kj44 a0_0 a0_1 a3 a4).bind fun t199 => (if t198 = t199 then (if 0 ≤ (mn (wrap64 (1 + (Go.bits .and .i64 a5 4095))) (t192.length : Int)) then (if (mn (wrap64 (1 + (Go.bits .and .i64 a5 4095))) (t192.length : Int)) ≤ (t192.length : Int) then ((greenscreenref01_SameInts.f kj44 t195 (t192.take ((mn (wrap64 (1 + (Go.bits .and .i64 a5 4095))) (t192.length : Int)) : Int).toNat)).bind fun t204 => (some t204)) else (none)) else (none)) else (some false)))))) = some r := by rw [if_neg (show ¬ (false = true) by decide)] at H; exact H
                    clear H
                    have H := H1
                    clear H1
                    replace H := Option.bind_eq_some_iff.mp H
                    obtain ⟨t192, A680, H⟩ := H
                    replace H : ((greenscreenlaw02_list.f a0_0 a0_1 a3 a4 (wrap64 (1 + (Go.bits .and .i64 a5 4095)))).bind fun t195 => ((addr_Move.f a0_0 a0_1 a3 a4).bind fun t198 => ((greenscreenref02_Move.f kj44 a0_0 a0_1 a3 a4).bind fun t199 => (if t198 = t199 then (if 0 ≤ (mn (wrap64 (1 + (Go.bits .and .i64 a5 4095))) (t192.length : Int)) then (if (mn (wrap64 (1 + (Go.bits .and .i64 a5 4095))) (t192.length : Int)) ≤ (t192.length : Int) then ((greenscreenref01_SameInts.f kj44 t195 (t192.take ((mn (wrap64 (1 + (Go.bits .and .i64 a5 4095))) (t192.length : Int)) : Int).toNat)).bind fun t204 => (some t204)) else (none)) else (none)) else (some false))))) = some r := H
                    have A68 := Aside0.mk A680
                    clear A680
                    replace H := Option.bind_eq_some_iff.mp H
                    obtain ⟨t195, A690, H⟩ := H
                    replace H : ((addr_Move.f a0_0 a0_1 a3 a4).bind fun t198 => ((greenscreenref02_Move.f kj44 a0_0 a0_1 a3 a4).bind fun t199 => (if t198 = t199 then (if 0 ≤ (mn (wrap64 (1 + (Go.bits .and .i64 a5 4095))) (t192.length : Int)) then (if (mn (wrap64 (1 + (Go.bits .and .i64 a5 4095))) (t192.length : Int)) ≤ (t192.length : Int) then ((greenscreenref01_SameInts.f kj44 t195 (t192.take ((mn (wrap64 (1 + (Go.bits .and .i64 a5 4095))) (t192.length : Int)) : Int).toNat)).bind fun t204 => (some t204)) else (none)) else (none)) else (some false)))) = some r := H
                    have A69 := Aside0.mk A690
                    clear A690
                    replace H := Option.bind_eq_some_iff.mp H
                    obtain ⟨t198, A700, H⟩ := H
                    replace H : ((greenscreenref02_Move.f kj44 a0_0 a0_1 a3 a4).bind fun t199 => (if t198 = t199 then (if 0 ≤ (mn (wrap64 (1 + (Go.bits .and .i64 a5 4095))) (t192.length : Int)) then (if (mn (wrap64 (1 + (Go.bits .and .i64 a5 4095))) (t192.length : Int)) ≤ (t192.length : Int) then ((greenscreenref01_SameInts.f kj44 t195 (t192.take ((mn (wrap64 (1 + (Go.bits .and .i64 a5 4095))) (t192.length : Int)) : Int).toNat)).bind fun t204 => (some t204)) else (none)) else (none)) else (some false))) = some r := H
                    have A70 := Aside0.mk A700
                    clear A700
                    replace H := Option.bind_eq_some_iff.mp H
                    obtain ⟨t199, A710, H⟩ := H
                    replace H : (if t198 = t199 then (if 0 ≤ (mn (wrap64 (1 + (Go.bits .and .i64 a5 4095))) (t192.length : Int)) then (if (mn (wrap64 (1 + (Go.bits .and .i64 a5 4095))) (t192.length : Int)) ≤ (t192.length : Int) then ((greenscreenref01_SameInts.f kj44 t195 (t192.take ((mn (wrap64 (1 + (Go.bits .and .i64 a5 4095))) (t192.length : Int)) : Int).toNat)).bind fun t204 => (some t204)) else (none)) else (none)) else (some false)) = some r := H
                    have A71 := Aside0.mk A710
                    clear A710
                    by_cases c72 : t198 = t199
                    · rw [if_pos c72] at H
                      have c72b0 : (t198 == t199) = true := beq_iff_eq.mpr c72
                      have c72b1 : (t198 != t199) = false := bne_eq_false_iff_eq.mpr c72
                      clear c72
                      obtain ⟨ji73, hji73⟩ : ∃ j_ : Int, (mn (wrap64 (1 + (Go.bits .and .i64 a5 4095))) (t192.length : Int)) = j_ := ⟨_, rfl⟩
                      replace H : (if 0 ≤ (ji73) then (if (ji73) ≤ (t192.length : Int) then ((greenscreenref01_SameInts.f kj44 t195 (t192.take ((ji73) : Int).toNat)).bind fun t204 => (some t204)) else (none)) else (none)) = some r := by first | (rw [hji73] at H; exact H) | (simp only [hji73] at H ⊢; exact H)
                      (try rw [hji73] at A68)
                      (try rw [hji73] at A69)
                      (try rw [hji73] at A70)
                      (try rw [hji73] at A71)
                      have hji73_ : (if (t192.length : Int) < (wrap64 (1 + (Go.bits .and .i64 a5 4095))) then (t192.length : Int) else (wrap64 (1 + (Go.bits .and .i64 a5 4095)))) = ji73 := hji73
                      by_cases c74 : 0 ≤ (ji73)
                      · rw [if_pos c74] at H
                        have c74b0 := eq_true c74
                        have c74b1 : decide (0 ≤ (ji73)) = true := decide_eq_true c74
                        clear c74
                        by_cases c75 : (ji73) ≤ (t192.length : Int)
                        · rw [if_pos c75] at H
                          have c75b0 := eq_true c75
                          have c75b1 : decide ((ji73) ≤ (t192.length : Int)) = true := decide_eq_true c75
                          clear c75
                          obtain ⟨y200, hy200⟩ : ∃ y_ : List Int, y_ = (t192.take ((ji73) : Int).toNat) := ⟨_, rfl⟩
                          replace H : ((greenscreenref01_SameInts.f kj44 t195 y200).bind fun t204 => (some t204)) = some r := by first | (rw [hy200]; with_reducible exact H) | (have H2_ := (Option.bind_some _ _).symm.trans H; rw [hy200]; with_reducible exact H2_) | (have H2_ := (Option.bind_some _ _).symm.trans H; with_reducible exact H2_) | with_reducible exact H | (rw [hy200]; exact H) | exact H
                          have Ny200 := Aside0.mk hy200
                          clear hy200
                          replace H := Option.bind_eq_some_iff.mp H
                          obtain ⟨t204, A760, H⟩ := H
                          replace H : (some t204) = some r := H
                          have A76 := Aside0.mk A760
                          clear A760
                          obtain rfl := Option.some.inj H
                          have hcz77_0 : wc.cell? ⟨gb183, 0, none⟩ = some (.int .i64 a0_0) := (blk_cell BK183.out 0).trans rfl
                          have hcz77_1 : wc.cell? ⟨gb183, 1, none⟩ = some (.int .i64 a0_1) := (blk_cell BK183.out 1).trans rfl
                          have hfz77_0 := blk_frozen BK183.out 0
                          have hfz77_1 := blk_frozen BK183.out 1
                          try go_wp2_with (first | ((with_reducible refine gate_callee (f := 21) rfl ?_); refine goesL_ (some 145) rfl rfl Try.func21 (by kernel_rfl) rfl #[.agg #[.int .i64 a0_0, .int .i64 a0_1], .int .i64 a3, .int .i64 a4] rfl (by (try simp only [List.map_toArray, List.map_cons, List.map_nil]); first | done | rfl | (simp only [List.length_drop, List.length_take]; rfl)) ?_; (with_reducible refine (greenscreenref02_Between.calls kj44 a0_0 a0_1 a3 a4 t192 _ A68.out).mono ?_); rintro e w78 ⟨v193, rfl, ho0, hb⟩; refine ⟨_, rfl, ?_⟩; have n0_ := Aside0.mk (Kd.R_lower ho0 (below_size (by repeat (first | (with_reducible first | exact HB.out | apply below_alloc | apply pw_below_drewN | apply below_drew1 | refine below_set ?_ GE183.out) | exact HB.out)))); have n1_ := Aside0.mk (blk_below (g := gb183) (o := .cells #[.int .i64 a0_0, .int .i64 a0_1] 35 (0, 0)) (by (with_reducible repeat (first | refine blk_drewN ?_ _ | refine blk_drew ?_ | refine blk_alloc ?_ _)); exact BK183.out) hb); have n2_ := Aside0.mk (below_step (by repeat (first | (with_reducible first | exact HB.out | apply below_alloc | apply pw_below_drewN | apply below_drew1 | refine below_set ?_ GE183.out) | exact HB.out)) hb); clear BK183; clear HB; have HO194 := n0_; have BK183 := n1_; have HB := n2_; clear n0_ n1_ n2_; (try clear hb); (try clear hb2); (try clear hk); (try clear hi); (try clear ho0); have hcz79_0 : w78.cell? ⟨gb183, 0, none⟩ = some (.int .i64 a0_0) := (blk_cell BK183.out 0).trans rfl; have hcz79_1 : w78.cell? ⟨gb183, 1, none⟩ = some (.int .i64 a0_1) := (blk_cell BK183.out 1).trans rfl; have hfz79_0 := blk_frozen BK183.out 0; have hfz79_1 := blk_frozen BK183.out 1) | ((with_reducible refine gate_callee (f := 22) rfl ?_); refine goesL_ (some 150) rfl rfl Try.func22 (by kernel_rfl) rfl #[.agg #[.int .i64 a0_0, .int .i64 a0_1], .int .i64 a3, .int .i64 a4, .int .i64 (wrap64 (1 + (Go.bits .and .i64 a5 4095)))] rfl (by (try simp only [List.map_toArray, List.map_cons, List.map_nil]); first | done | rfl | (simp only [List.length_drop, List.length_take]; rfl)) ?_; (with_reducible refine (greenscreenlaw02_list.calls a0_0 a0_1 a3 a4 (wrap64 (1 + (Go.bits .and .i64 a5 4095))) t195 _ A69.out).mono ?_); rintro e w80 ⟨v196, rfl, ho0, hb⟩; refine ⟨_, rfl, ?_⟩; have n0_ := Aside0.mk (Kd.R_elder' (by (with_reducible repeat (first | apply Kd.R_alloc | apply Kd.R_drewN | apply Kd.R_drew)); exact HO194.out) (Kd.R_base ho0) hb); have n1_ := Aside0.mk (Kd.R_lower (Kd.R_new' ho0 (Kd.R_lt (by (with_reducible repeat (first | apply Kd.R_alloc | apply Kd.R_drewN | apply Kd.R_drew)); exact HO194.out))) (below_size (by repeat (first | (with_reducible first | exact HB.out | apply below_alloc | apply pw_below_drewN | apply below_drew1 | refine below_set ?_ GE183.out) | exact HB.out)))); have n2_ := Aside0.mk (blk_below (g := gb183) (o := .cells #[.int .i64 a0_0, .int .i64 a0_1] 35 (0, 0)) (by (with_reducible repeat (first | refine blk_drewN ?_ _ | refine blk_drew ?_ | refine blk_alloc ?_ _)); exact BK183.out) hb); have n3_ := Aside0.mk (below_step (by repeat (first | (with_reducible first | exact HB.out | apply below_alloc | apply pw_below_drewN | apply below_drew1 | refine below_set ?_ GE183.out) | exact HB.out)) hb); clear HO194; clear BK183; clear HB; have HO194 := n0_; have HO197 := n1_; have BK183 := n2_; have HB := n3_; clear n0_ n1_ n2_ n3_; (try clear hb); (try clear hb2); (try clear hk); (try clear hi); (try clear ho0)))
                          have n0_ := Aside0.mk (Kd.R_drew HO194.out)
                          have n1_ := Aside0.mk (Kd.R_drew HO197.out)
                          have n2_ := Aside0.mk (blk_drew BK183.out)
                          have n3_ := Aside0.mk (below_drew1 HB.out)
                          clear HO194
                          clear HO197
                          clear BK183
                          clear HB
                          have HO194 := n0_
                          have HO197 := n1_
                          have BK183 := n2_
                          have HB := n3_
                          clear n0_ n1_ n2_ n3_
                          refine start_ (n := 20) (S := fun w' => w'.cell? ⟨gb183, 0, none⟩ = some (.int .i64 a0_0) ∧ w'.cell? ⟨gb183, 1, none⟩ = some (.int .i64 a0_1)) (ds := []) #[false, false, false, false, false, false, false, false, false, false, false, false, false, false, false, false, false, false, false, false] (by kernel_rfl) rfl rfl ⟨(blk_cell BK183.out 0).trans rfl, (blk_cell BK183.out 1).trans rfl⟩ (fun hHeld => ?_); refine with_tabW greenscreenlaw02_AddrPlaces.tab14 greenscreenlaw02_AddrPlaces.bits14 (fun HT_ HW_ => ?_)
                          generalize w80.drew = w81 at HO194 HO197 BK183 HB hHeld ⊢
                          refine pure_ (i := 1) (N := some 152) (v := ?_) (a' := ?_) #[false, true, false, false, false, false, false, false, false, false, false, false, false, false, false, false, false, false, false, false] rfl rfl (any_of HT_.out (by kernel_rfl)) (fun _ _ _ h => h) (Or.inl ⟨by rfl, ?_⟩) ?_ ?_
                          rotate_left
                          · intro w'
                            go_simp
                            with_reducible rfl
                          rotate_left
                          · simp only [Act.put, List.setIfInBounds_toArray, List.set_cons_zero, List.set_cons_succ, i64_w, i32_w]
                            rfl
                          refine pure_ (i := 2) (N := some 153) (v := ?_) (a' := ?_) #[false, true, true, false, false, false, false, false, false, false, false, false, false, false, false, false, false, false, false, false] rfl rfl (any_of HT_.out (by kernel_rfl)) (fun _ _ _ h => h) (Or.inl ⟨by rfl, ?_⟩) ?_ ?_
                          rotate_left
                          · intro w'
                            go_simp
                            with_reducible rfl
                          rotate_left
                          · simp only [Act.put, List.setIfInBounds_toArray, List.set_cons_zero, List.set_cons_succ, i64_w, i32_w]
                            rfl
                          refine pure_ (i := 5) (N := some 156) (v := ?_) (a' := ?_) #[false, true, true, false, false, true, false, false, false, false, false, false, false, false, false, false, false, false, false, false] rfl rfl (any_of HT_.out (by kernel_rfl)) (fun _ _ _ h => h) (Or.inl ⟨by rfl, ?_⟩) ?_ ?_
                          rotate_left
                          · intro w'
                            go_simp
                            with_reducible rfl
                          rotate_left
                          · simp only [Act.put, List.setIfInBounds_toArray, List.set_cons_zero, List.set_cons_succ, i64_w, i32_w]
                            rfl
                          refine pure_ (i := 6) (N := some 157) (v := ?_) (a' := ?_) #[false, true, true, false, false, true, true, false, false, false, false, false, false, false, false, false, false, false, false, false] rfl rfl (any_of HT_.out (by kernel_rfl)) (fun _ _ _ h => h) (Or.inl ⟨by rfl, ?_⟩) ?_ ?_
                          rotate_left
                          · intro w'
                            go_simp
                            with_reducible rfl
                          rotate_left
                          · simp only [Act.put, List.setIfInBounds_toArray, List.set_cons_zero, List.set_cons_succ, i64_w, i32_w]
                            rfl
                          refine take_ (i := 0) (N := some 151) (v := ?_) (a' := ?_) #[true, true, true, false, false, true, true, false, false, false, false, false, false, false, false, false, false, false, false, false] rfl rfl (take_ofW HT_.out HW_.out (by kernel_rfl)) (fun _ _ _ h => h) (Or.inl ⟨by rfl, ?_⟩) hHeld ?_ ?_
                          rotate_left
                          · rintro w' ⟨s0, s1⟩
                            go_simp
                            with_reducible rfl
                          rotate_left
                          · simp only [Act.put, List.setIfInBounds_toArray, List.set_cons_zero, List.set_cons_succ, i64_w, i32_w]
                            rfl
                          refine take_ (i := 4) (N := some 155) (v := ?_) (a' := ?_) #[true, true, true, false, true, true, true, false, false, false, false, false, false, false, false, false, false, false, false, false] rfl rfl (take_ofW HT_.out HW_.out (by kernel_rfl)) (fun _ _ _ h => h) (Or.inl ⟨by rfl, ?_⟩) hHeld ?_ ?_
                          rotate_left
                          · rintro w' ⟨s0, s1⟩
                            go_simp
                            with_reducible rfl
                          rotate_left
                          · simp only [Act.put, List.setIfInBounds_toArray, List.set_cons_zero, List.set_cons_succ, i64_w, i32_w]
                            rfl
                          refine one_ (i := 3) (N := some 154) #[true, true, true, true, true, true, true, false, false, false, false, false, false, false, false, false, false, false, false, false] rfl rfl (one_of HT_.out (by kernel_rfl)) (by decide) (fun K hK => ?_)
                          refine goes_ Try.func23 (by kernel_rfl) rfl #[.agg #[.int .i64 a0_0, .int .i64 a0_1], .int .i64 a3, .int .i64 a4] (by rfl) rfl rfl (by (try simp only [List.map_toArray, List.map_cons, List.map_nil]); first | done | rfl | (simp only [List.length_drop, List.length_take]; rfl)) ?_
                          with_reducible refine (addr_Move.calls a0_0 a0_1 a3 a4 t198 _ A70.out).mono ?_
                          rintro e w82 ⟨rfl, hb⟩
                          refine ⟨_, rfl, ?_⟩
                          have n0_ := Aside0.mk (Kd.R_below (by (with_reducible repeat (first | apply Kd.R_alloc | apply Kd.R_drewN | apply Kd.R_drew)); exact HO194.out) hb)
                          have n1_ := Aside0.mk (Kd.R_below (by (with_reducible repeat (first | apply Kd.R_alloc | apply Kd.R_drewN | apply Kd.R_drew)); exact HO197.out) hb)
                          have n2_ := Aside0.mk (blk_below (g := gb183) (o := .cells #[.int .i64 a0_0, .int .i64 a0_1] 35 (0, 0)) (by (with_reducible repeat (first | refine blk_drewN ?_ _ | refine blk_drew ?_ | refine blk_alloc ?_ _)); exact BK183.out) hb)
                          have n3_ := Aside0.mk (below_step (by repeat (first | (with_reducible first | exact HB.out | apply below_alloc | apply pw_below_drewN | apply below_drew1 | refine below_set ?_ GE183.out) | exact HB.out)) hb)
                          clear HO194
                          clear HO197
                          clear BK183
                          clear HB
                          have HO194 := n0_
                          have HO197 := n1_
                          have BK183 := n2_
                          have HB := n3_
                          clear n0_ n1_ n2_ n3_
                          (try clear hb)
                          (try clear hb2)
                          (try clear hk)
                          (try clear hi)
                          refine hK.out _ _ ⟨(blk_cell BK183.out 0).trans rfl, (blk_cell BK183.out 1).trans rfl⟩ (fun hHeld => ?_)
                          clear hK K
                          refine norm_ (a' := ?_) ?_ ?_
                          rotate_left
                          · show Act.put _ (some 154) _ = _
                            simp only [Act.put, List.setIfInBounds_toArray, List.set_cons_zero, List.set_cons_succ, i64_w, i32_w]
                            rfl
                          refine one_ (i := 7) (N := some 158) #[true, true, true, true, true, true, true, true, false, false, false, false, false, false, false, false, false, false, false, false] rfl rfl (one_of HT_.out (by kernel_rfl)) (by decide) (fun K hK => ?_)
                          refine goes_ Try.func24 (by kernel_rfl) rfl #[.agg #[.int .i64 a0_0, .int .i64 a0_1], .int .i64 a3, .int .i64 a4] (by rfl) rfl rfl (by (try simp only [List.map_toArray, List.map_cons, List.map_nil]); first | done | rfl | (simp only [List.length_drop, List.length_take]; rfl)) ?_
                          with_reducible refine (greenscreenref02_Move.calls kj44 a0_0 a0_1 a3 a4 t199 _ A71.out).mono ?_
                          rintro e w83 ⟨rfl, hb⟩
                          refine ⟨_, rfl, ?_⟩
                          have n0_ := Aside0.mk (Kd.R_below (by (with_reducible repeat (first | apply Kd.R_alloc | apply Kd.R_drewN | apply Kd.R_drew)); exact HO194.out) hb)
                          have n1_ := Aside0.mk (Kd.R_below (by (with_reducible repeat (first | apply Kd.R_alloc | apply Kd.R_drewN | apply Kd.R_drew)); exact HO197.out) hb)
                          have n2_ := Aside0.mk (blk_below (g := gb183) (o := .cells #[.int .i64 a0_0, .int .i64 a0_1] 35 (0, 0)) (by (with_reducible repeat (first | refine blk_drewN ?_ _ | refine blk_drew ?_ | refine blk_alloc ?_ _)); exact BK183.out) hb)
                          have n3_ := Aside0.mk (below_step (by repeat (first | (with_reducible first | exact HB.out | apply below_alloc | apply pw_below_drewN | apply below_drew1 | refine below_set ?_ GE183.out) | exact HB.out)) hb)
                          clear HO194
                          clear HO197
                          clear BK183
                          clear HB
                          have HO194 := n0_
                          have HO197 := n1_
                          have BK183 := n2_
                          have HB := n3_
                          clear n0_ n1_ n2_ n3_
                          (try clear hb)
                          (try clear hb2)
                          (try clear hk)
                          (try clear hi)
                          obtain ⟨Ao84, co84, eo84⟩ := Kd.R_slice HO194.out
                          (first | subst eo84 | (injection eo84 with f1_ f2_ f3_; have f4_ := f1_.symm; have f5_ := f3_.symm; clear f1_ f2_ f3_; subst f4_; subst f5_))
                          have q85 : ((ji73) : Int) ≤ ((t192.length : Int) : Int) := of_decide_eq_true (by first | (with_reducible assumption) | assumption)
                          obtain ⟨i085, hi085, _, hsz85, _⟩ := info_parts info3
                          have hroom85 : t192.length ≤ co84 := (Kd.R_reads' HO194.out).2.1
                          have hC85 : Kd.C (Kd.int .i64) _ Ao84 t192.length t192 := (Kd.R_reads' HO194.out).2.2
                          have hcut85 := cut_to (P := Try.prog) 41 3 .i64 Try.underlying41 hi085 Ao84 t192.length co84 (ji73) (of_decide_eq_true (by first | (with_reducible assumption) | assumption)) q85 hroom85
                          have hr85 := Kd.C_take (m := ((ji73) : Int).toNat) hC85 (by omega)
                          have hy85 : y200.length = ((ji73) : Int).toNat := (by rw [Ny200.out, List.length_take]; omega)
                          rw [← Ny200.out] at hr85
                          rw [← hy85] at hcut85
                          have HR203 := Aside0.mk hr85
                          have HC203 := Aside0.mk (show y200.length ≤ co84 from by omega)
                          clear hr85 hC85 hroom85 hi085 hsz85
                          have KY85 := Aside0.mk hy85
                          clear hy85
                          have KL85 := Aside0.mk (show ((ji73) : Int).toNat ≤ t192.length from by omega)
                          replace q85 := eq_true q85
                          obtain ⟨Ao86, co86, eo86⟩ := Kd.R_slice HO197.out
                          (first | subst eo86 | (injection eo86 with f1_ f2_ f3_; have f4_ := f1_.symm; have f5_ := f3_.symm; clear f1_ f2_ f3_; subst f4_; subst f5_))
                          refine hK.out _ _ ⟨(blk_cell BK183.out 0).trans rfl, (blk_cell BK183.out 1).trans rfl⟩ (fun hHeld => ?_)
                          clear hK K
                          refine norm_ (a' := ?_) ?_ ?_
                          rotate_left
                          · show Act.put _ (some 158) _ = _
                            simp only [Act.put, List.setIfInBounds_toArray, List.set_cons_zero, List.set_cons_succ, i64_w, i32_w]
                            rfl
                          refine pure_ (i := 8) (N := some 159) (v := ?_) (a' := ?_) #[true, true, true, true, true, true, true, true, true, false, false, false, false, false, false, false, false, false, false, false] rfl rfl (any_of HT_.out (by kernel_rfl)) (fun _ _ _ h => h) (Or.inl ⟨by rfl, ?_⟩) ?_ ?_
                          rotate_left
                          · intro w'
                            go_simp
                            with_reducible rfl
                          rotate_left
                          · simp only [Act.put, List.setIfInBounds_toArray, List.set_cons_zero, List.set_cons_succ, i64_w, i32_w]
                            rfl
                          refine pure_ (i := 9) (N := some 160) (v := ?_) (a' := ?_) #[true, true, true, true, true, true, true, true, true, true, false, false, false, false, false, false, false, false, false, false] rfl rfl (any_of HT_.out (by kernel_rfl)) (fun _ _ _ h => h) (Or.inl ⟨by rfl, ?_⟩) ?_ ?_
                          rotate_left
                          · intro w'
                            go_simp
                            with_reducible rfl
                          rotate_left
                          · simp only [Act.put, List.setIfInBounds_toArray, List.set_cons_zero, List.set_cons_succ, i64_w, i32_w]
                            rfl
                          refine pure_ (i := 10) (N := some 161) (v := ?_) (a' := ?_) #[true, true, true, true, true, true, true, true, true, true, true, false, false, false, false, false, false, false, false, false] rfl rfl (any_of HT_.out (by kernel_rfl)) (fun _ _ _ h => h) (Or.inl ⟨by rfl, ?_⟩) ?_ ?_
                          rotate_left
                          · intro w'
                            go_simp
                            with_reducible rfl
                          rotate_left
                          · simp only [Act.put, List.setIfInBounds_toArray, List.set_cons_zero, List.set_cons_succ, i64_w, i32_w]
                            rfl
                          refine pure_ (i := 11) (N := some 162) (v := ?_) (a' := ?_) #[true, true, true, true, true, true, true, true, true, true, true, true, false, false, false, false, false, false, false, false] rfl rfl (any_of HT_.out (by kernel_rfl)) (fun _ _ _ h => h) (Or.inl ⟨by rfl, ?_⟩) ?_ ?_
                          rotate_left
                          · intro w'
                            go_simp
                            with_reducible rfl
                          rotate_left
                          · simp only [Act.put, List.setIfInBounds_toArray, List.set_cons_zero, List.set_cons_succ, i64_w, i32_w]
                            rfl
                          refine pure_ (i := 12) (N := some 163) (v := ?_) (a' := ?_) #[true, true, true, true, true, true, true, true, true, true, true, true, true, false, false, false, false, false, false, false] rfl rfl (any_of HT_.out (by kernel_rfl)) (fun _ _ _ h => h) (Or.inl ⟨by rfl, ?_⟩) ?_ ?_
                          rotate_left
                          · intro w'
                            go_simp
                            with_reducible rfl
                          rotate_left
                          · simp only [Act.put, List.setIfInBounds_toArray, List.set_cons_zero, List.set_cons_succ, i64_w, i32_w]
                            rfl
                          refine pure_ (i := 13) (N := some 164) (v := ?_) (a' := ?_) #[true, true, true, true, true, true, true, true, true, true, true, true, true, true, false, false, false, false, false, false] rfl rfl (any_of HT_.out (by kernel_rfl)) (fun _ _ _ h => h) (Or.inl ⟨by rfl, ?_⟩) ?_ ?_
                          rotate_left
                          · intro w'
                            go_simp
                            with_reducible rfl
                          rotate_left
                          · simp only [Act.put, List.setIfInBounds_toArray, List.set_cons_zero, List.set_cons_succ, i64_w, i32_w]
                            rfl
                          refine pure_ (i := 14) (N := some 165) (v := ?_) (a' := ?_) #[true, true, true, true, true, true, true, true, true, true, true, true, true, true, true, false, false, false, false, false] rfl rfl (any_of HT_.out (by kernel_rfl)) (fun _ _ _ h => h) (Or.inl ⟨by rfl, ?_⟩) ?_ ?_
                          rotate_left
                          · intro w'
                            go_simp
                            with_reducible rfl
                          rotate_left
                          · simp only [Act.put, List.setIfInBounds_toArray, List.set_cons_zero, List.set_cons_succ, i64_w, i32_w]
                            rfl
                          refine pure_ (i := 15) (N := some 166) (v := ?_) (a' := ?_) #[true, true, true, true, true, true, true, true, true, true, true, true, true, true, true, true, false, false, false, false] rfl rfl (any_of HT_.out (by kernel_rfl)) (fun _ _ _ h => h) (Or.inl ⟨by rfl, ?_⟩) ?_ ?_
                          rotate_left
                          · intro w'
                            go_simp
                            with_reducible rfl
                          rotate_left
                          · simp only [Act.put, List.setIfInBounds_toArray, List.set_cons_zero, List.set_cons_succ, i64_w, i32_w]
                            rfl
                          refine pure_ (i := 16) (N := some 167) (v := ?_) (a' := ?_) #[true, true, true, true, true, true, true, true, true, true, true, true, true, true, true, true, true, false, false, false] rfl rfl (any_of HT_.out (by kernel_rfl)) (fun _ _ _ h => h) (Or.inl ⟨by rfl, ?_⟩) ?_ ?_
                          rotate_left
                          · intro w'
                            go_simp
                            with_reducible rfl
                          rotate_left
                          · simp only [Act.put, List.setIfInBounds_toArray, List.set_cons_zero, List.set_cons_succ, i64_w, i32_w]
                            rfl
                          refine one_ (i := 17) (N := some 168) #[true, true, true, true, true, true, true, true, true, true, true, true, true, true, true, true, true, true, false, false] rfl rfl (one_of HT_.out (by kernel_rfl)) (by decide) (fun K hK => ?_)
                          refine goes_ Try.func25 (by kernel_rfl) rfl #[.slice Ao86 t195.length co86, .slice Ao84 y200.length co84] (by rfl) rfl rfl (by (try simp only [List.map_toArray, List.map_cons, List.map_nil]); first | done | rfl | (simp only [List.length_drop, List.length_take]; rfl)) ?_
                          with_reducible refine (greenscreenref01_SameInts.calls kj44 _ _ t195 _ _ y200 t204 _ ?side1 ?side2 ?side3 ?side4 A76.out).mono ?_
                          (case side1 => repeat (first | exact (Kd.R_reads' HO197.out).2.2 | (with_reducible refine Kd.C_alloc ?_ _) | (with_reducible refine Kd.C_drewN ?_ _) | (with_reducible refine Kd.C_drew ?_)))
                          (case side2 => exact (Kd.R_reads' HO197.out).2.1)
                          (case side3 => repeat (first | exact (by repeat (first | (with_reducible exact HR203.out) | (with_reducible refine Kd.C_alloc ?_ _) | (with_reducible refine Kd.C_drewN ?_ _) | (with_reducible refine Kd.C_drew ?_) | exact HR203.out)) | (with_reducible refine Kd.C_alloc ?_ _) | (with_reducible refine Kd.C_drewN ?_ _) | (with_reducible refine Kd.C_drew ?_)))
                          (case side4 => exact HC203.out)
                          rintro e w' ⟨rfl, ⟨nd, rfl⟩⟩
                          refine ⟨_, rfl, ?_⟩
                          refine hK.out _ _ ⟨(blk_cell BK183.out 0).trans rfl, (blk_cell BK183.out 1).trans rfl⟩ (fun hHeld => ?_)
                          clear hK K
                          refine norm_ (a' := ?_) ?_ ?_
                          rotate_left
                          · show Act.put _ (some 168) _ = _
                            simp only [Act.put, List.setIfInBounds_toArray, List.set_cons_zero, List.set_cons_succ, i64_w, i32_w]
                            rfl
                          refine pure_ (i := 18) (N := some 169) (v := ?_) (a' := ?_) #[true, true, true, true, true, true, true, true, true, true, true, true, true, true, true, true, true, true, true, false] rfl rfl (any_of HT_.out (by kernel_rfl)) (fun _ _ _ h => h) (Or.inl ⟨by rfl, ?_⟩) ?_ ?_
                          rotate_left
                          · intro w'
                            go_simp
                            with_reducible rfl
                          rotate_left
                          · simp only [Act.put, List.setIfInBounds_toArray, List.set_cons_zero, List.set_cons_succ, i64_w, i32_w]
                            rfl
                          refine pure_ (i := 19) (N := some 12) (v := ?_) (a' := ?_) #[true, true, true, true, true, true, true, true, true, true, true, true, true, true, true, true, true, true, true, true] rfl rfl (any_of HT_.out (by kernel_rfl)) (fun _ _ _ h => h) (Or.inl ⟨by rfl, ?_⟩) ?_ ?_
                          rotate_left
                          · intro w'
                            go_simp
                            with_reducible rfl
                          rotate_left
                          · simp only [Act.put, List.setIfInBounds_toArray, List.set_cons_zero, List.set_cons_succ, i64_w, i32_w]
                            rfl
                          refine done_ (done_of HT_.out (by kernel_rfl)) ?_
                          try go_wp2
                          go_ret
                          exact ⟨by first | rfl | (simp [errW_none, errW_some] <;> rfl) | (simp only [← hji73]; first | rfl | (simp [errW_none, errW_some] <;> rfl)) | (simp [*, errW_none, errW_some] <;> rfl), by repeat (first | (with_reducible first | exact HB.out | apply below_alloc | apply pw_below_drewN | apply below_drew1 | refine below_set ?_ GE183.out) | exact HB.out)⟩
                        · rw [if_neg c75] at H
                          exact absurd H (by simp)
                      · rw [if_neg c74] at H
                        exact absurd H (by simp)
                    · rw [if_neg c72] at H
                      have c72b0 : (t198 == t199) = false := beq_eq_false_iff_ne.mpr c72
                      have c72b1 : (t198 != t199) = true := bne_iff_ne.mpr c72
                      obtain rfl := Option.some.inj H
                      exact absurd hr_ (by decide)
  · replace c8 := Bool.eq_false_iff.mpr c8
    subst c8
    have H1 : (some false) = some r := by rw [if_neg (show ¬ (false = true) by decide)] at H; exact H
    clear H
    have H := H1
    clear H1
    obtain rfl := Option.some.inj H
    exact absurd hr_ (by decide)

end Go.Proofs.Ytddccpgbjlejhaa.P
