-- Laid by program out of the translation, some functions' texts by hand (a session's own run, not print.sh's). Lean checks it.
import Derived.Test.YtbgpmdoeghajcaaPx0
import Derived.Test.YtbgpmdoeghajcaaPx1
import Derived.Test.YtbgpmdoeghajcaaPx2
import Derived.Test.YtbgpmdoeghajcaaPx3
namespace Go.Proofs.Ytbgpmdoeghajcaa.P
open Go.RowKit Go.Proofs.YtbgpmdoeghajcaaW.PrintWords Go.Proofs.YtbgpmdoeghajcaaW.PrintLast Go.Proofs.YtbgpmdoeghajcaaW.PrintMore
attribute [local go_sem] max2_int min2_int max_two min_two max_three min_three max_four min_four   -- for this text's walks alone
set_option linter.unusedVariables false
set_option linter.unusedSimpArgs false
theorem zA_ (l : List Value) (i : Nat) (a : Value) : l.toArray.setIfInBounds i a = (l.set i a).toArray := List.setIfInBounds_toArray ..
theorem zB_ (x a : Value) (xs : List Value) : (x :: xs).set 0 a = a :: xs := rfl
theorem zC_ (x a : Value) (xs : List Value) (n : Nat) : (x :: xs).set (n + 1) a = x :: xs.set n a := rfl
abbrev T_ : Bool := true
abbrev F_ : Bool := false

/-! ### greenscreenlaw21_LockPlays: function 3 -/
mutual
def greenscreenlaw21_LockPlays.l0 : Nat → List (S30) → Int → Int → Int → Int → Int → Int → Int → Int → Option (Bool)
 | 0, _, _, _, _, _, _, _, _, _ => none
 | k + 1, x18, x19, x20, x204000, x204001, x204002, x205000, x205001, x205002 => if x20 < x19 then (if 0 ≤ x20 then (if x20 < (x18.length : Int) then (if ((rd_T30 x18 x20).f0) = 0 then ((lock_Lock_Open.f x204000 x204001 x204002).bind fun bt207 => ((greenscreenref21_Turn.f x205000 x205001 x205002 1 0).bind fun bt210 => (greenscreenlaw21_LockPlays.j3 k x18 x19 x20 bt207.1 bt207.2.1 bt207.2.2 bt210.1 bt210.2.1 bt210.2.2))) else (if ((rd_T30 x18 x20).f0) = 1 then ((lock_Lock_Shut.f x204000 x204001 x204002).bind fun bt213 => ((greenscreenref21_Turn.f x205000 x205001 x205002 0 0).bind fun bt216 => (greenscreenlaw21_LockPlays.j3 k x18 x19 x20 bt213.1 bt213.2.1 bt213.2.2 bt216.1 bt216.2.1 bt216.2.2))) else (if ((rd_T30 x18 x20).f0) = 2 then (greenscreenlaw21_LockPlays.j1 k x205000 x18 x19 x20 ((rd_T30 x18 x20).f0) (((rd_T30 x18 x20).f0) == 2) x204000 x204001 x204002 x205000 x205001 x205002 ((rd_T30 x18 x20).f0) ((rd_T30 x18 x20).f1)) else (greenscreenlaw21_LockPlays.j1 k x205000 x18 x19 x20 ((rd_T30 x18 x20).f0) (((rd_T30 x18 x20).f0) == 3) x204000 x204001 x204002 x205000 x205001 x205002 ((rd_T30 x18 x20).f0) ((rd_T30 x18 x20).f1))))) else (none)) else (none)) else (some true)
def greenscreenlaw21_LockPlays.j3 : Nat → List (S30) → Int → Int → Int → Int → Int → Int → Int → Int → Option (Bool)
 | 0, _, _, _, _, _, _, _, _, _ => none
 | k + 1, x18, x19, x20, x204000, x204001, x204002, x205000, x205001, x205002 => (lock_Lock_State.f x204000 x204001 x204002).bind fun bt249 => (if bt249.1 = x205000 then ((lock_Lock_Why.f bt249.2.1 bt249.2.2.1 bt249.2.2.2).bind fun bt253 => (if bt253.1 = x205001 then ((lock_Lock_Turns.f bt253.2.1 bt253.2.2.1 bt253.2.2.2).bind fun bt257 => (if bt257.1 = x205002 then ((lock_Lock_Text.f bt257.2.1 bt257.2.2.1 bt257.2.2.2).bind fun bt261 => ((greenscreenref21_Text.f x205000 x205001 x205002).bind fun t265 => (if bt261.1.toList = t265.toList then ((lock_Lock_May.f bt261.2.1 bt261.2.2.1 bt261.2.2.2).bind fun bt266 => (if ((bt266.1 == 0) != (x205000 == 1)) = true then (some false) else (greenscreenlaw21_LockPlays.l0 k x18 x19 (wrap64 (x20 + 1)) bt266.2.1 bt266.2.2.1 bt266.2.2.2 x205000 x205001 x205002))) else (some false)))) else (some false))) else (some false))) else (some false))
def greenscreenlaw21_LockPlays.j1 : Nat → Int → List (S30) → Int → Int → Int → Bool → Int → Int → Int → Int → Int → Int → Int → Int → Option (Bool)
 | 0, _, _, _, _, _, _, _, _, _, _, _, _, _, _ => none
 | k + 1, x7, x18, x19, x20, x27, x38, x204000, x204001, x204002, x205000, x205001, x205002, x207000, x207001 => if x38 = true then ((lock_Lock_Send.f x204000 x204001 x204002).bind fun bt219 => (if ((bt219.1 == 0) != (x7 == 1)) = true then (greenscreenlaw21_LockPlays.j2 k x7 x18 x19 x20 true bt219.2.1 bt219.2.2.1 bt219.2.2.2 x205000 x205001 x205002) else (if bt219.1 = 0 then (greenscreenlaw21_LockPlays.j2 k x7 x18 x19 x20 false bt219.2.1 bt219.2.2.1 bt219.2.2.2 x205000 x205001 x205002) else (greenscreenlaw21_LockPlays.j2 k x7 x18 x19 x20 (bt219.1 != 40) bt219.2.1 bt219.2.2.1 bt219.2.2.2 x205000 x205001 x205002)))) else (if x27 = 4 then ((lock_Lock_Fail.f x204000 x204001 x204002 x207001).bind fun bt226 => ((greenscreenref21_Fail.f x205000 x205001 x205002 x207001).bind fun bt230 => (if bt226.1 = bt230.2.2.2 then (greenscreenlaw21_LockPlays.j3 k x18 x19 x20 bt226.2.1 bt226.2.2.1 bt226.2.2.2 bt230.1 bt230.2.1 bt230.2.2.1) else (some false)))) else (if x27 = 5 then ((lock_Lock_Reset.f x204000 x204001 x204002).bind fun bt235 => (if (bt235.1 != (x7 == 3)) = true then (some false) else (if x7 = 3 then ((greenscreenref21_Turn.f x205000 x205001 x205002 1 0).bind fun bt239 => (greenscreenlaw21_LockPlays.j3 k x18 x19 x20 bt235.2.1 bt235.2.2.1 bt235.2.2.2 bt239.1 bt239.2.1 bt239.2.2)) else (greenscreenlaw21_LockPlays.j3 k x18 x19 x20 bt235.2.1 bt235.2.2.1 bt235.2.2.2 x205000 x205001 x205002)))) else (if x27 = 6 then ((lock_Lock_Restore.f x204000 x204001 x204002).bind fun bt242 => (if (bt242.1 != (decide (x7 ≥ 2))) = true then (some false) else (if x7 ≥ 2 then ((greenscreenref21_Turn.f x205000 x205001 x205002 1 0).bind fun bt246 => (greenscreenlaw21_LockPlays.j3 k x18 x19 x20 bt242.2.1 bt242.2.2.1 bt242.2.2.2 bt246.1 bt246.2.1 bt246.2.2)) else (greenscreenlaw21_LockPlays.j3 k x18 x19 x20 bt242.2.1 bt242.2.2.1 bt242.2.2.2 x205000 x205001 x205002)))) else (greenscreenlaw21_LockPlays.j3 k x18 x19 x20 x204000 x204001 x204002 x205000 x205001 x205002))))
def greenscreenlaw21_LockPlays.j2 : Nat → Int → List (S30) → Int → Int → Bool → Int → Int → Int → Int → Int → Int → Option (Bool)
 | 0, _, _, _, _, _, _, _, _, _, _, _ => none
 | k + 1, x7, x18, x19, x20, x54, x204000, x204001, x204002, x205000, x205001, x205002 => if x54 = true then (some false) else (if x7 = 1 then ((greenscreenref21_Turn.f x205000 x205001 x205002 2 0).bind fun bt223 => (greenscreenlaw21_LockPlays.j3 k x18 x19 x20 x204000 x204001 x204002 bt223.1 bt223.2.1 bt223.2.2)) else (greenscreenlaw21_LockPlays.j3 k x18 x19 x20 x204000 x204001 x204002 x205000 x205001 x205002))
end
def greenscreenlaw21_LockPlays.f (k : Nat) (l0 : List (S30)) : Option (Bool) := (greenscreenlaw21_alive.f).bind fun t202 => (if t202 = true then (if (l0.length : Int) > 100 then (some true) else (greenscreenlaw21_LockPlays.l0 k l0 (l0.length : Int) 0 0 0 0 0 0 0)) else (some false))
theorem greenscreenlaw21_LockPlays.mono_l : ∀ k, (∀ y0 y1 y2 y3 y4 y5 y6 y7 y8, LeO (greenscreenlaw21_LockPlays.l0 k y0 y1 y2 y3 y4 y5 y6 y7 y8) (greenscreenlaw21_LockPlays.l0 (k + 1) y0 y1 y2 y3 y4 y5 y6 y7 y8)) ∧ (∀ y0 y1 y2 y3 y4 y5 y6 y7 y8, LeO (greenscreenlaw21_LockPlays.j3 k y0 y1 y2 y3 y4 y5 y6 y7 y8) (greenscreenlaw21_LockPlays.j3 (k + 1) y0 y1 y2 y3 y4 y5 y6 y7 y8)) ∧ (∀ y0 y1 y2 y3 y4 y5 y6 y7 y8 y9 y10 y11 y12 y13, LeO (greenscreenlaw21_LockPlays.j1 k y0 y1 y2 y3 y4 y5 y6 y7 y8 y9 y10 y11 y12 y13) (greenscreenlaw21_LockPlays.j1 (k + 1) y0 y1 y2 y3 y4 y5 y6 y7 y8 y9 y10 y11 y12 y13)) ∧ (∀ y0 y1 y2 y3 y4 y5 y6 y7 y8 y9 y10, LeO (greenscreenlaw21_LockPlays.j2 k y0 y1 y2 y3 y4 y5 y6 y7 y8 y9 y10) (greenscreenlaw21_LockPlays.j2 (k + 1) y0 y1 y2 y3 y4 y5 y6 y7 y8 y9 y10))
 | 0 => ⟨fun _ _ _ _ _ _ _ _ _ r h => by simp [greenscreenlaw21_LockPlays.l0] at h, fun _ _ _ _ _ _ _ _ _ r h => by simp [greenscreenlaw21_LockPlays.j3] at h, fun _ _ _ _ _ _ _ _ _ _ _ _ _ _ r h => by simp [greenscreenlaw21_LockPlays.j1] at h, fun _ _ _ _ _ _ _ _ _ _ _ r h => by simp [greenscreenlaw21_LockPlays.j2] at h⟩
 | k + 1 => by
  obtain ⟨ih0, ih1, ih2, ih3⟩ := greenscreenlaw21_LockPlays.mono_l k
  refine ⟨?_, ?_, ?_, ?_⟩
  ·intro y0 y1 y2 y3 y4 y5 y6 y7 y8
   unfold greenscreenlaw21_LockPlays.l0
   repeat' first
   | (with_reducible exact ih0 _ _ _ _ _ _ _ _ _)
   | (with_reducible exact ih1 _ _ _ _ _ _ _ _ _)
   | (with_reducible exact ih2 _ _ _ _ _ _ _ _ _ _ _ _ _ _)
   | (with_reducible exact ih3 _ _ _ _ _ _ _ _ _ _ _)
   | (with_reducible exact LeO.refl _)
   | (with_reducible exact LeO.none _)
   | (with_reducible refine LeO.ite ?_ ?_)
   | (with_reducible refine LeO.bind ?_ (fun _ => ?_))
   | exact ih0 _ _ _ _ _ _ _ _ _
   | exact ih1 _ _ _ _ _ _ _ _ _
   | exact ih2 _ _ _ _ _ _ _ _ _ _ _ _ _ _
   | exact ih3 _ _ _ _ _ _ _ _ _ _ _
   | exact LeO.none _
   | refine LeO.ite ?_ ?_
   | refine LeO.bind ?_ (fun _ => ?_)
  ·intro y0 y1 y2 y3 y4 y5 y6 y7 y8
   unfold greenscreenlaw21_LockPlays.j3
   repeat' first
   | (with_reducible exact ih0 _ _ _ _ _ _ _ _ _)
   | (with_reducible exact ih1 _ _ _ _ _ _ _ _ _)
   | (with_reducible exact ih2 _ _ _ _ _ _ _ _ _ _ _ _ _ _)
   | (with_reducible exact ih3 _ _ _ _ _ _ _ _ _ _ _)
   | (with_reducible exact LeO.refl _)
   | (with_reducible exact LeO.none _)
   | (with_reducible refine LeO.ite ?_ ?_)
   | (with_reducible refine LeO.bind ?_ (fun _ => ?_))
   | exact ih0 _ _ _ _ _ _ _ _ _
   | exact ih1 _ _ _ _ _ _ _ _ _
   | exact ih2 _ _ _ _ _ _ _ _ _ _ _ _ _ _
   | exact ih3 _ _ _ _ _ _ _ _ _ _ _
   | exact LeO.none _
   | refine LeO.ite ?_ ?_
   | refine LeO.bind ?_ (fun _ => ?_)
  ·intro y0 y1 y2 y3 y4 y5 y6 y7 y8 y9 y10 y11 y12 y13
   unfold greenscreenlaw21_LockPlays.j1
   repeat' first
   | (with_reducible exact ih0 _ _ _ _ _ _ _ _ _)
   | (with_reducible exact ih1 _ _ _ _ _ _ _ _ _)
   | (with_reducible exact ih2 _ _ _ _ _ _ _ _ _ _ _ _ _ _)
   | (with_reducible exact ih3 _ _ _ _ _ _ _ _ _ _ _)
   | (with_reducible exact LeO.refl _)
   | (with_reducible exact LeO.none _)
   | (with_reducible refine LeO.ite ?_ ?_)
   | (with_reducible refine LeO.bind ?_ (fun _ => ?_))
   | exact ih0 _ _ _ _ _ _ _ _ _
   | exact ih1 _ _ _ _ _ _ _ _ _
   | exact ih2 _ _ _ _ _ _ _ _ _ _ _ _ _ _
   | exact ih3 _ _ _ _ _ _ _ _ _ _ _
   | exact LeO.none _
   | refine LeO.ite ?_ ?_
   | refine LeO.bind ?_ (fun _ => ?_)
  ·intro y0 y1 y2 y3 y4 y5 y6 y7 y8 y9 y10
   unfold greenscreenlaw21_LockPlays.j2
   repeat' first
   | (with_reducible exact ih0 _ _ _ _ _ _ _ _ _)
   | (with_reducible exact ih1 _ _ _ _ _ _ _ _ _)
   | (with_reducible exact ih2 _ _ _ _ _ _ _ _ _ _ _ _ _ _)
   | (with_reducible exact ih3 _ _ _ _ _ _ _ _ _ _ _)
   | (with_reducible exact LeO.refl _)
   | (with_reducible exact LeO.none _)
   | (with_reducible refine LeO.ite ?_ ?_)
   | (with_reducible refine LeO.bind ?_ (fun _ => ?_))
   | exact ih0 _ _ _ _ _ _ _ _ _
   | exact ih1 _ _ _ _ _ _ _ _ _
   | exact ih2 _ _ _ _ _ _ _ _ _ _ _ _ _ _
   | exact ih3 _ _ _ _ _ _ _ _ _ _ _
   | exact LeO.none _
   | refine LeO.ite ?_ ?_
   | refine LeO.bind ?_ (fun _ => ?_)
theorem greenscreenlaw21_LockPlays.mono : ∀ a0 k, LeO (greenscreenlaw21_LockPlays.f k a0) (greenscreenlaw21_LockPlays.f (k + 1) a0) := by
 intro a0 k
 obtain ⟨ih0, ih1, ih2, ih3⟩ := greenscreenlaw21_LockPlays.mono_l k
 unfold greenscreenlaw21_LockPlays.f
 repeat' first
   | (with_reducible exact ih0 _ _ _ _ _ _ _ _ _)
   | (with_reducible exact ih1 _ _ _ _ _ _ _ _ _)
   | (with_reducible exact ih2 _ _ _ _ _ _ _ _ _ _ _ _ _ _)
   | (with_reducible exact ih3 _ _ _ _ _ _ _ _ _ _ _)
   | (with_reducible exact LeO.refl _)
   | (with_reducible exact LeO.none _)
   | (with_reducible refine LeO.ite ?_ ?_)
   | (with_reducible refine LeO.bind ?_ (fun _ => ?_))
   | exact ih0 _ _ _ _ _ _ _ _ _
   | exact ih1 _ _ _ _ _ _ _ _ _
   | exact ih2 _ _ _ _ _ _ _ _ _ _ _ _ _ _
   | exact ih3 _ _ _ _ _ _ _ _ _ _ _
   | exact LeO.none _
   | refine LeO.ite ?_ ?_
   | refine LeO.bind ?_ (fun _ => ?_)
def greenscreenlaw21_LockPlays.T41 : Bool × List (List Nat × List Nat) := (true, [([], []), ([], []), ([1], [1]), ([0, 2], [0, 2]), ([3, 0], [3]), ([4, 4], [4]), ([4], [4]), ([6, 4], [4, 6]), ([5, 7, 4], [4, 5, 7]), ([4, 8], [4, 8]), ([9, 5], [9]), ([10, 10], [10]), ([10], [10]), ([12, 10], [10, 12]), ([11, 13, 10], [10, 11, 13]), ([10, 14], [10, 14]), ([15, 11], [15]), ([16, 16], [16]), ([16], [16]), ([18, 17, 16], [16, 18]), ([17, 19, 16], [16, 17, 19]), ([16, 20], [16, 20]), ([21, 19], [21]), ([22, 22], [22]), ([23, 22], [22, 23]), ([22], [22]), ([25, 22], [22, 25]), ([26, 22], [22, 26]), ([24, 27, 22], [22, 24, 27]), ([22, 28], [22, 28])])
def greenscreenlaw21_LockPlays.B41 : List Nat := [0, 0, 2, 7, 15, 31, 31, 95, 255, 511, 1023, 2047, 2047, 6143, 16383, 32767, 65535, 131071, 131071, 524287, 1048575, 2097151, 4194303, 8388607, 16777215, 8388607, 41943039, 109051903, 268435455, 536870911]
theorem greenscreenlaw21_LockPlays.tab41 : rtab .any (opsOf Try.f3 41) = greenscreenlaw21_LockPlays.T41 := by kernel_rfl
theorem greenscreenlaw21_LockPlays.bits41 : waitsOk greenscreenlaw21_LockPlays.T41.2 greenscreenlaw21_LockPlays.B41 = true := by kernel_rfl
set_option maxHeartbeats 8000000 in
set_option maxRecDepth 100000 in
theorem greenscreenlaw21_LockPlays.calls (k : Nat) (A0 : Option Addr) (c0 : Nat) (l0 : List (S30)) (r : Bool) (w : World) (hr0 : Kd.C k30 w A0 l0.length l0) (hc0 : l0.length ≤ c0) (h : greenscreenlaw21_LockPlays.f k l0 = some r) :
  Calls Try.prog 3 #[.slice A0 l0.length c0] w fun e w' => e = .returned (.bool r) ∧ Below w.heap.size w w' := by
 have hu26 := Try.underlying26
 have hu28 := Try.underlying28
 have hu30 := Try.underlying30
 have HR0 := Aside0.mk hr0
 have HC0 := Aside0.mk hc0
 clear hr0 hc0
 have HB := Aside0.mk (Below.refl w.heap.size w)
 have H : ((greenscreenlaw21_alive.f).bind fun t202 => (if t202 = true then (if (l0.length : Int) > 100 then (some true) else (greenscreenlaw21_LockPlays.l0 k l0 (l0.length : Int) 0 0 0 0 0 0 0)) else (some false))) = some r := h
 clear h
 replace H := Option.bind_eq_some_iff.mp H
 obtain ⟨t202, A20, H⟩ := H
 replace H : (if t202 = true then (if (l0.length : Int) > 100 then (some true) else (greenscreenlaw21_LockPlays.l0 k l0 (l0.length : Int) 0 0 0 0 0 0 0)) else (some false)) = some r := H
 have A2 := Aside0.mk A20
 clear A20
 by_cases c3 : t202 = true
 ·subst c3
  have H1 : (if (l0.length : Int) > 100 then (some true) else (greenscreenlaw21_LockPlays.l0 k l0 (l0.length : Int) 0 0 0 0 0 0 0)) = some r := by rw [if_pos rfl] at H; exact H
  clear H
  have H := H1
  clear H1
  by_cases c4 : (l0.length : Int) > 100
  ·rw [if_pos c4] at H
   have c4b0 : decide (100 < (l0.length : Int)) = true := decide_eq_true c4
   have c4b1 : decide (100 < l0.length) = true := decide_eq_true (by omega)
   clear c4
   obtain rfl := Option.some.inj H
   go_enter Try.func3, Try.ntmps3
   go_wp2_with (first | ((with_reducible refine gate_callee (f := 6) rfl ?_); refine goesL_ (some 12) rfl rfl Try.func6 (by kernel_rfl) rfl #[] rfl (by (try simp only [List.map_toArray, List.map_cons, List.map_nil]); first | done | rfl | (simp only [List.length_drop, List.length_take]; rfl)) ?_; (with_reducible refine (greenscreenlaw21_alive.calls  true _ A2.out).mono ?_); rintro e w5 ⟨rfl, hb⟩; refine ⟨_, rfl, ?_⟩; have n0_ := Aside0.mk (below_step (by repeat (first | (with_reducible first | exact HB.out | apply below_alloc | apply pw_below_drewN | apply below_drew1) | exact HB.out)) hb); clear HB; have HB := n0_; clear n0_; (try clear hb); (try clear hb2); (try clear hk); (try clear hi)))
   go_ret
   exact ⟨by first | rfl | (simp [errW_none, errW_some] <;> rfl) | (simp [*, errW_none, errW_some] <;> rfl), by repeat (first | (with_reducible first | exact HB.out | apply below_alloc | apply pw_below_drewN | apply below_drew1) | exact HB.out)⟩
  ·rw [if_neg c4] at H
   have c4b0 : decide (100 < (l0.length : Int)) = false := decide_eq_false c4
   have c4b1 : decide (100 < l0.length) = false := decide_eq_false (by omega)
   clear c4
   have H' := Aside0.mk H
   clear H
   go_enter Try.func3, Try.ntmps3
   go_wp2_with (first | ((with_reducible refine gate_callee (f := 6) rfl ?_); refine goesL_ (some 12) rfl rfl Try.func6 (by kernel_rfl) rfl #[] rfl (by (try simp only [List.map_toArray, List.map_cons, List.map_nil]); first | done | rfl | (simp only [List.length_drop, List.length_take]; rfl)) ?_; (with_reducible refine (greenscreenlaw21_alive.calls  true _ A2.out).mono ?_); rintro e w6 ⟨rfl, hb⟩; refine ⟨_, rfl, ?_⟩; have n0_ := Aside0.mk (below_step (by repeat (first | (with_reducible first | exact HB.out | apply below_alloc | apply pw_below_drewN | apply below_drew1) | exact HB.out)) hb); clear HB; have HB := n0_; clear n0_; (try clear hb); (try clear hb2); (try clear hk); (try clear hi)) | ((with_reducible refine gate_dst (N := 3) rfl ?_); refine box_event ?hg (N := 3) ?hd (cs := #[.int .i64 0, .int .i64 0, .int .i64 0]) (t := 26) ?hr ?_; (case hd => rfl); (case hg => rfl); (case hr => first | (go_simp; done) | (go_simp; rfl)); intro gb203 hg w7 hbox hb; have n0_ := Aside0.mk (below_step (by repeat (first | (with_reducible first | exact HB.out | apply below_alloc | apply pw_below_drewN | apply below_drew1) | exact HB.out)) hb); have n1_ := Aside0.mk ((⟨hbox, (by rw [hg]; exact (below_size (by repeat (first | (with_reducible first | exact HB.out | apply below_alloc | apply pw_below_drewN | apply below_drew1) | exact HB.out))) : w.heap.size ≤ gb203)⟩ : IsS26 w _ gb203 0 0 0)); clear HB; have HB := n0_; have HI203 := n1_; clear n0_ n1_; clear hb hbox hg) | ((with_reducible refine gate_dst (N := 4) rfl ?_); refine box_event ?hg (N := 4) ?hd (cs := #[.int .i64 0, .int .i64 0, .int .i64 0]) (t := 28) ?hr ?_; (case hd => rfl); (case hg => rfl); (case hr => first | (go_simp; done) | (go_simp; rfl)); intro gb204 hg w8 hbox hb; have n0_ := Aside0.mk (IsS26.below (by repeat (first | (with_reducible first | exact HI203.out | apply IsS26.alloc | apply IsS26.drewN | apply IsS26.drew | apply IsS26.set_0 | apply IsS26.set_1 | apply IsS26.set_2) | exact HI203.out)) hb); have n1_ := Aside0.mk (below_step (by repeat (first | (with_reducible first | exact HB.out | apply below_alloc | apply pw_below_drewN | apply below_drew1 | refine below_set ?_ (IsS26.ge HI203.out)) | exact HB.out)) hb); have n2_ := Aside0.mk (hbox); have n3_ := Aside0.mk ((by rw [hg]; exact (below_size (by repeat (first | (with_reducible first | exact HB.out | apply below_alloc | apply pw_below_drewN | apply below_drew1 | refine below_set ?_ (IsS26.ge HI203.out)) | exact HB.out))) : w.heap.size ≤ gb204)); have n4_ := Aside0.mk ((by rw [hg]; exact (below_size (by repeat (first | (with_reducible first | exact HB.out | apply below_alloc | apply pw_below_drewN | apply below_drew1 | refine below_set ?_ (IsS26.ge HI203.out)) | exact HB.out))) : w.heap.size ≤ gb204)); have n5_ := Aside0.mk ((by rw [hg]; exact Nat.ne_of_lt (IsS26.lt (show IsS26 w _ gb203 0 0 0 from by repeat (first | (with_reducible first | exact HI203.out | apply IsS26.alloc | apply IsS26.drewN | apply IsS26.drew | apply IsS26.set_0 | apply IsS26.set_1 | apply IsS26.set_2) | exact HI203.out))) : gb203 ≠ gb204)); have n6_ := Aside0.mk ((by rw [hg]; exact Nat.ne_of_gt (IsS26.lt (show IsS26 w _ gb203 0 0 0 from by repeat (first | (with_reducible first | exact HI203.out | apply IsS26.alloc | apply IsS26.drewN | apply IsS26.drew | apply IsS26.set_0 | apply IsS26.set_1 | apply IsS26.set_2) | exact HI203.out))) : gb204 ≠ gb203)); clear HI203; clear HB; have HI203 := n0_; have HB := n1_; have BK204 := n2_; have GW204 := n3_; have GE204 := n4_; have NB203_204 := n5_; have NB204_203 := n6_; clear n0_ n1_ n2_ n3_ n4_ n5_ n6_; clear hb hbox hg; have hnb9 := NB204_203.out; have hnc9 := NB203_204.out; have hcz10_0 : w8.cell? ⟨gb204, 0, none⟩ = some (.int .i64 0) := (blk_cell BK204.out 0).trans rfl; have hcz10_1 : w8.cell? ⟨gb204, 1, none⟩ = some (.int .i64 0) := (blk_cell BK204.out 1).trans rfl; have hcz10_2 : w8.cell? ⟨gb204, 2, none⟩ = some (.int .i64 0) := (blk_cell BK204.out 2).trans rfl; have hfz10_0 := blk_frozen BK204.out 0; have hfz10_1 := blk_frozen BK204.out 1; have hfz10_2 := blk_frozen BK204.out 2))
   go_loopg [20] k (fun kq v20 w' => ∃ (x20_1 : Int) (x204000_1 : Int) (x204001_1 : Int) (x204002_1 : Int) (x205000_1 : Int) (x205001_1 : Int) (x205002_1 : Int), v20 = .int .i64 x20_1 ∧ Aside0 (greenscreenlaw21_LockPlays.l0 kq l0 (l0.length : Int) x20_1 x204000_1 x204001_1 x204002_1 x205000_1 x205001_1 x205002_1 = some r) ∧ Aside0 (kq ≤ k) ∧ Aside0 (w'.heap[gb204]? = some (.cells #[.int .i64 x205000_1, .int .i64 x205001_1, .int .i64 x205002_1] 28 (0, 0))) ∧ Aside0 (IsS26 w w' gb203 x204000_1 x204001_1 x204002_1) ∧ Aside0 (Below w.heap.size w w'))
   case atStart => exact ⟨(0), (0), (0), (0), (0), (0), (0), (by first | rfl | (simp; done) | (simp [*]; done)), H', ⟨Nat.le_refl _⟩, ⟨by (with_reducible repeat (first | refine blk_drewN ?_ _ | refine blk_drew ?_ | refine blk_alloc ?_ _)); refine blk_put (cs := #[.int .i64 0, .int .i64 0, .int .i64 0]) ?_ 2 _ rfl; (with_reducible repeat (first | refine blk_drewN ?_ _ | refine blk_drew ?_ | refine blk_alloc ?_ _)); refine blk_put (cs := #[.int .i64 0, .int .i64 0, .int .i64 0]) ?_ 1 _ rfl; (with_reducible repeat (first | refine blk_drewN ?_ _ | refine blk_drew ?_ | refine blk_alloc ?_ _)); refine blk_put (cs := #[.int .i64 0, .int .i64 0, .int .i64 0]) ?_ 0 _ rfl; (with_reducible repeat (first | refine blk_drewN ?_ _ | refine blk_drew ?_ | refine blk_alloc ?_ _)); exact BK204.out⟩, ⟨by repeat (first | (with_reducible first | exact HI203.out | apply IsS26.alloc | apply IsS26.drewN | apply IsS26.drew | apply IsS26.set_0 | apply IsS26.set_1 | apply IsS26.set_2 | refine IsS26.far ?_ NB203_204.out _) | exact HI203.out)⟩, ⟨by repeat (first | (with_reducible first | exact HB.out | apply below_alloc | apply pw_below_drewN | apply below_drew1 | refine below_set ?_ (IsS26.ge HI203.out) | refine below_set ?_ GE204.out) | exact HB.out)⟩⟩
   case round =>
    clear H'
    try clear p2
    try clear c3
    try clear c4
    try clear c4b0
    try clear c4b1
    try clear c6
    try clear c9
    try clear hcz10_0
    try clear hcz10_1
    try clear hcz10_2
    try clear hfz10_0
    try clear hfz10_1
    try clear hfz10_2
    obtain ⟨x20_1, x204000_1, x204001_1, x204002_1, x205000_1, x205001_1, x205002_1, rfl, HA, HK1, BK204, HI203, HB⟩ := hrel
    cases gk with
    | zero => exact absurd HA.out (by simp [greenscreenlaw21_LockPlays.l0])
    | succ k1 =>
     have H := HA.out
     clear HA
     simp only [greenscreenlaw21_LockPlays.l0] at H
     by_cases c11 : x20_1 < (l0.length : Int)
     ·rw [if_pos c11] at H
      have c11b0 : decide (x20_1 < (l0.length : Int)) = true := decide_eq_true c11
      clear c11
      by_cases c12 : 0 ≤ x20_1
      ·rw [if_pos c12] at H
       have c12b0 : decide (0 ≤ x20_1) = true := decide_eq_true c12
       clear c12
       by_cases c13 : x20_1 < (l0.length : Int)
       ·rw [if_pos c13] at H
        have c13b0 : decide (x20_1 < (l0.length : Int)) = true := decide_eq_true c13
        clear c13
        have HC14 := Aside0.mk H
        clear H
        have p205 : 0 ≤ (x20_1 : Int) := of_decide_eq_true (by first | (with_reducible assumption) | assumption)
        have q205 : x20_1 < (l0.length : Int) := of_decide_eq_true (by first | (with_reducible assumption) | assumption)
        obtain ⟨ad205, e205, hx205_0, hx205_1⟩ := at_T30 HR0.out x20_1 p205 q205
        cases e205
        replace hx205_0 := (HB.out.cell (World.block_lt_of_cell? w _ hx205_0)).trans hx205_0
        replace hx205_1 := (HB.out.cell (World.block_lt_of_cell? w _ hx205_1)).trans hx205_1
        replace p205 := eq_true p205
        replace q205 := eq_true q205
        go_upto_block 2 with (first | ((with_reducible refine gate_dst (N := 6) rfl ?_); refine box_event ?hg (N := 6) ?hd (cs := #[.int .i64 0, .int .i64 0]) (t := 30) ?hr ?_; (case hd => rfl); (case hg => rfl); (case hr => first | (go_simp; done) | (go_simp; rfl)); intro gb206 hg w15 hbox hb; have n0_ := Aside0.mk (blk_below (g := gb204) (o := .cells #[.int .i64 x205000_1, .int .i64 x205001_1, .int .i64 x205002_1] 28 (0, 0)) (by (with_reducible repeat (first | refine blk_drewN ?_ _ | refine blk_drew ?_ | refine blk_alloc ?_ _)); exact BK204.out) hb); have n1_ := Aside0.mk (IsS26.below (by repeat (first | (with_reducible first | exact HI203.out | apply IsS26.alloc | apply IsS26.drewN | apply IsS26.drew | apply IsS26.set_0 | apply IsS26.set_1 | apply IsS26.set_2 | refine IsS26.far ?_ NB203_204.out _) | exact HI203.out)) hb); have n2_ := Aside0.mk (below_step (by repeat (first | (with_reducible first | exact HB.out | apply below_alloc | apply pw_below_drewN | apply below_drew1 | refine below_set ?_ (IsS26.ge HI203.out) | refine below_set ?_ GE204.out) | exact HB.out)) hb); have n3_ := Aside0.mk (hbox); have n4_ := Aside0.mk ((by rw [hg]; exact (below_size (by repeat (first | (with_reducible first | exact HB.out | apply below_alloc | apply pw_below_drewN | apply below_drew1 | refine below_set ?_ (IsS26.ge HI203.out) | refine below_set ?_ GE204.out) | exact HB.out))) : w.heap.size ≤ gb206)); have n5_ := Aside0.mk ((by rw [hg]; exact (below_size (by repeat (first | (with_reducible first | exact HB.out | apply below_alloc | apply pw_below_drewN | apply below_drew1 | refine below_set ?_ (IsS26.ge HI203.out) | refine below_set ?_ GE204.out) | exact HB.out))) : w.heap.size ≤ gb206)); have n6_ := Aside0.mk ((by rw [hg]; exact Nat.ne_of_lt (blk_lt (g := gb204) (o := .cells #[.int .i64 x205000_1, .int .i64 x205001_1, .int .i64 x205002_1] 28 (0, 0)) (by (with_reducible repeat (first | refine blk_drewN ?_ _ | refine blk_drew ?_ | refine blk_alloc ?_ _)); exact BK204.out)) : gb204 ≠ gb206)); have n7_ := Aside0.mk ((by rw [hg]; exact Nat.ne_of_gt (blk_lt (g := gb204) (o := .cells #[.int .i64 x205000_1, .int .i64 x205001_1, .int .i64 x205002_1] 28 (0, 0)) (by (with_reducible repeat (first | refine blk_drewN ?_ _ | refine blk_drew ?_ | refine blk_alloc ?_ _)); exact BK204.out)) : gb206 ≠ gb204)); have n8_ := Aside0.mk ((by rw [hg]; exact Nat.ne_of_lt (IsS26.lt (show IsS26 w _ gb203 x204000_1 x204001_1 x204002_1 from by repeat (first | (with_reducible first | exact HI203.out | apply IsS26.alloc | apply IsS26.drewN | apply IsS26.drew | apply IsS26.set_0 | apply IsS26.set_1 | apply IsS26.set_2 | refine IsS26.far ?_ NB203_204.out _) | exact HI203.out))) : gb203 ≠ gb206)); have n9_ := Aside0.mk ((by rw [hg]; exact Nat.ne_of_gt (IsS26.lt (show IsS26 w _ gb203 x204000_1 x204001_1 x204002_1 from by repeat (first | (with_reducible first | exact HI203.out | apply IsS26.alloc | apply IsS26.drewN | apply IsS26.drew | apply IsS26.set_0 | apply IsS26.set_1 | apply IsS26.set_2 | refine IsS26.far ?_ NB203_204.out _) | exact HI203.out))) : gb206 ≠ gb203)); clear BK204; clear HI203; clear HB; have BK204 := n0_; have HI203 := n1_; have HB := n2_; have BK206 := n3_; have GW206 := n4_; have GE206 := n5_; have NB204_206 := n6_; have NB206_204 := n7_; have NB203_206 := n8_; have NB206_203 := n9_; clear n0_ n1_ n2_ n3_ n4_ n5_ n6_ n7_ n8_ n9_; clear hb hbox hg; have hnb16 := NB206_204.out; have hnc16 := NB204_206.out; have hnb17 := NB206_203.out; have hnc17 := NB203_206.out; have hcz18_0 : w15.cell? ⟨gb206, 0, none⟩ = some (.int .i64 0) := (blk_cell BK206.out 0).trans rfl; have hcz18_1 : w15.cell? ⟨gb206, 1, none⟩ = some (.int .i64 0) := (blk_cell BK206.out 1).trans rfl; have hfz18_0 := blk_frozen BK206.out 0; have hfz18_1 := blk_frozen BK206.out 1; have hnb19 := NB204_203.out; have hnc19 := NB203_204.out; have hcz20_0 : w15.cell? ⟨gb204, 0, none⟩ = some (.int .i64 x205000_1) := (blk_cell BK204.out 0).trans rfl; have hcz20_1 : w15.cell? ⟨gb204, 1, none⟩ = some (.int .i64 x205001_1) := (blk_cell BK204.out 1).trans rfl; have hcz20_2 : w15.cell? ⟨gb204, 2, none⟩ = some (.int .i64 x205002_1) := (blk_cell BK204.out 2).trans rfl; have hfz20_0 := blk_frozen BK204.out 0; have hfz20_1 := blk_frozen BK204.out 1; have hfz20_2 := blk_frozen BK204.out 2))
        (try simp only [Act.put, zA_, zB_, zC_])
        go_cut [] (fun wc => ∃ (kq : Nat) (x204000_13 : Int) (x204001_13 : Int) (x204002_13 : Int) (x205000_13 : Int) (x205001_13 : Int) (x205002_13 : Int), Aside0 (greenscreenlaw21_LockPlays.j3 kq l0 (l0.length : Int) x20_1 x204000_13 x204001_13 x204002_13 x205000_13 x205001_13 x205002_13 = some r) ∧ Aside0 (kq ≤ k1) ∧ Aside0 (wc.heap[gb204]? = some (.cells #[.int .i64 x205000_13, .int .i64 x205001_13, .int .i64 x205002_13] 28 (0, 0))) ∧ Aside0 (wc.heap[gb206]? = some (.cells #[.int .i64 ((rd_T30 l0 x20_1).f0), .int .i64 ((rd_T30 l0 x20_1).f1)] 30 (0, 0))) ∧ Aside0 (IsS26 w wc gb203 x204000_13 x204001_13 x204002_13) ∧ Aside0 (Below w.heap.size w wc))
        case first =>
         have H := HC14.out
         clear HC14
         by_cases c21 : ((rd_T30 l0 x20_1).f0) = 0
         ·rw [if_pos c21] at H
          have c21b0 : (((rd_T30 l0 x20_1).f0) == 0) = true := beq_iff_eq.mpr c21
          have c21b1 : (((rd_T30 l0 x20_1).f0) != 0) = false := bne_eq_false_iff_eq.mpr c21
          clear c21
          (first | rw [c21b0] | (simp only [i64_w, i32_w]; rw [c21b0]) | skip)
          replace H := Option.bind_eq_some_iff.mp H
          obtain ⟨⟨t207, t208, t209⟩, A220, H⟩ := H
          replace H : ((greenscreenref21_Turn.f x205000_1 x205001_1 x205002_1 1 0).bind fun bt210 => (greenscreenlaw21_LockPlays.j3 k1 l0 (l0.length : Int) x20_1 t207 t208 t209 bt210.1 bt210.2.1 bt210.2.2)) = some r := H
          have A22 := Aside0.mk A220
          clear A220
          replace H := Option.bind_eq_some_iff.mp H
          obtain ⟨⟨t210, t211, t212⟩, A230, H⟩ := H
          replace H : (greenscreenlaw21_LockPlays.j3 k1 l0 (l0.length : Int) x20_1 t207 t208 t209 t210 t211 t212) = some r := H
          have A23 := Aside0.mk A230
          clear A230
          have H' := Aside0.mk H
          clear H
          go_wp2_with (first | ((with_reducible refine gate_callee (f := 7) rfl ?_); refine goesL_ (some 30) rfl rfl Try.func7 (by kernel_rfl) rfl #[.pointer (some ⟨gb203, 0, none⟩)] rfl (by (try simp only [List.map_toArray, List.map_cons, List.map_nil]); first | done | rfl | (simp only [List.length_drop, List.length_take]; rfl)) ?_; (with_reducible refine (lock_Lock_Open.calls gb203 x204000_1 x204001_1 x204002_1 t207 t208 t209 w _ ?side1 ?side2 A22.out).mono ?_); (case side1 => repeat (first | (with_reducible first | exact HI203.out | apply IsS26.alloc | apply IsS26.drewN | apply IsS26.drew | apply IsS26.set_0 | apply IsS26.set_1 | apply IsS26.set_2 | refine IsS26.far ?_ NB203_204.out _ | refine IsS26.far ?_ NB203_206.out _) | exact HI203.out)); (case side2 => repeat (first | (with_reducible first | exact HB.out | apply below_alloc | apply pw_below_drewN | apply below_drew1 | refine below_set ?_ (IsS26.ge HI203.out) | refine below_set ?_ GE204.out | refine below_set ?_ GE206.out) | exact HB.out)); rintro e w24 ⟨rfl, hi, hb, hk⟩; refine ⟨_, rfl, ?_⟩; have n0_ := Aside0.mk (KeepBut.blk hk (g' := gb204) (o := .cells #[.int .i64 x205000_1, .int .i64 x205001_1, .int .i64 x205002_1] 28 (0, 0)) (by (with_reducible repeat (first | refine blk_drewN ?_ _ | refine blk_drew ?_ | refine blk_alloc ?_ _)); refine blk_far ?_ NB204_206.out _; (with_reducible repeat (first | refine blk_drewN ?_ _ | refine blk_drew ?_ | refine blk_alloc ?_ _)); refine blk_far ?_ NB204_206.out _; (with_reducible repeat (first | refine blk_drewN ?_ _ | refine blk_drew ?_ | refine blk_alloc ?_ _)); exact BK204.out) NB204_203.out (by simp)); have n1_ := Aside0.mk (KeepBut.blk hk (g' := gb206) (o := .cells #[.int .i64 ((rd_T30 l0 x20_1).f0), .int .i64 ((rd_T30 l0 x20_1).f1)] 30 (0, 0)) (by (with_reducible repeat (first | refine blk_drewN ?_ _ | refine blk_drew ?_ | refine blk_alloc ?_ _)); refine blk_put (cs := #[.int .i64 ((rd_T30 l0 x20_1).f0), .int .i64 0]) ?_ 1 _ rfl; (with_reducible repeat (first | refine blk_drewN ?_ _ | refine blk_drew ?_ | refine blk_alloc ?_ _)); refine blk_put (cs := #[.int .i64 0, .int .i64 0]) ?_ 0 _ rfl; (with_reducible repeat (first | refine blk_drewN ?_ _ | refine blk_drew ?_ | refine blk_alloc ?_ _)); exact BK206.out) NB206_203.out (by simp)); have n2_ := Aside0.mk (hb); have n3_ := Aside0.mk (hi); clear BK204; clear BK206; clear HB; clear HI203; have BK204 := n0_; have BK206 := n1_; have HB := n2_; have HI203 := n3_; clear n0_ n1_ n2_ n3_; (try clear hb); (try clear hb2); (try clear hk); (try clear hi); have hnb25 := NB204_206.out; have hnc25 := NB206_204.out; have hnb26 := NB204_203.out; have hnc26 := NB203_204.out; have hcz27_0 : w24.cell? ⟨gb204, 0, none⟩ = some (.int .i64 x205000_1) := (blk_cell BK204.out 0).trans rfl; have hcz27_1 : w24.cell? ⟨gb204, 1, none⟩ = some (.int .i64 x205001_1) := (blk_cell BK204.out 1).trans rfl; have hcz27_2 : w24.cell? ⟨gb204, 2, none⟩ = some (.int .i64 x205002_1) := (blk_cell BK204.out 2).trans rfl; have hfz27_0 := blk_frozen BK204.out 0; have hfz27_1 := blk_frozen BK204.out 1; have hfz27_2 := blk_frozen BK204.out 2) | ((with_reducible refine gate_callee (f := 8) rfl ?_); refine goesL_ (some 32) rfl rfl Try.func8 (by kernel_rfl) rfl #[.agg #[.int .i64 x205000_1, .int .i64 x205001_1, .int .i64 x205002_1], .int .i64 1, .int .i64 0] rfl (by (try simp only [List.map_toArray, List.map_cons, List.map_nil]); first | done | rfl | (simp only [List.length_drop, List.length_take]; rfl)) ?_; (with_reducible refine (greenscreenref21_Turn.calls x205000_1 x205001_1 x205002_1 1 0 t210 t211 t212 _ A23.out).mono ?_); rintro e w28 ⟨rfl, hb⟩; refine ⟨_, rfl, ?_⟩; have n0_ := Aside0.mk (blk_below (g := gb204) (o := .cells #[.int .i64 x205000_1, .int .i64 x205001_1, .int .i64 x205002_1] 28 (0, 0)) (by (with_reducible repeat (first | refine blk_drewN ?_ _ | refine blk_drew ?_ | refine blk_alloc ?_ _)); exact BK204.out) hb); have n1_ := Aside0.mk (IsS26.below (by repeat (first | (with_reducible first | exact HI203.out | apply IsS26.alloc | apply IsS26.drewN | apply IsS26.drew | apply IsS26.set_0 | apply IsS26.set_1 | apply IsS26.set_2 | refine IsS26.far ?_ NB203_204.out _ | refine IsS26.far ?_ NB203_206.out _) | exact HI203.out)) hb); have n2_ := Aside0.mk (blk_below (g := gb206) (o := .cells #[.int .i64 ((rd_T30 l0 x20_1).f0), .int .i64 ((rd_T30 l0 x20_1).f1)] 30 (0, 0)) (by (with_reducible repeat (first | refine blk_drewN ?_ _ | refine blk_drew ?_ | refine blk_alloc ?_ _)); exact BK206.out) hb); have n3_ := Aside0.mk (below_step (by repeat (first | (with_reducible first | exact HB.out | apply below_alloc | apply pw_below_drewN | apply below_drew1 | refine below_set ?_ (IsS26.ge HI203.out) | refine below_set ?_ GE204.out | refine below_set ?_ GE206.out) | exact HB.out)) hb); clear BK204; clear HI203; clear BK206; clear HB; have BK204 := n0_; have HI203 := n1_; have BK206 := n2_; have HB := n3_; clear n0_ n1_ n2_ n3_; (try clear hb); (try clear hb2); (try clear hk); (try clear hi); have hcz29_0 : w28.cell? ⟨gb204, 0, none⟩ = some (.int .i64 x205000_1) := (blk_cell BK204.out 0).trans rfl; have hcz29_1 : w28.cell? ⟨gb204, 1, none⟩ = some (.int .i64 x205001_1) := (blk_cell BK204.out 1).trans rfl; have hcz29_2 : w28.cell? ⟨gb204, 2, none⟩ = some (.int .i64 x205002_1) := (blk_cell BK204.out 2).trans rfl; have hfz29_0 := blk_frozen BK204.out 0; have hfz29_1 := blk_frozen BK204.out 1; have hfz29_2 := blk_frozen BK204.out 2))
          go_meet
          case rel => exact ⟨_, (t207), (t208), (t209), (t210), (t211), (t212), H', ⟨by have := HK1.out; first | omega | exact Nat.le_refl _⟩, ⟨by (with_reducible repeat (first | refine blk_drewN ?_ _ | refine blk_drew ?_ | refine blk_alloc ?_ _)); refine blk_put (cs := #[.int .i64 t210, .int .i64 t211, .int .i64 x205002_1]) ?_ 2 _ rfl; (with_reducible repeat (first | refine blk_drewN ?_ _ | refine blk_drew ?_ | refine blk_alloc ?_ _)); refine blk_put (cs := #[.int .i64 t210, .int .i64 x205001_1, .int .i64 x205002_1]) ?_ 1 _ rfl; (with_reducible repeat (first | refine blk_drewN ?_ _ | refine blk_drew ?_ | refine blk_alloc ?_ _)); refine blk_put (cs := #[.int .i64 x205000_1, .int .i64 x205001_1, .int .i64 x205002_1]) ?_ 0 _ rfl; (with_reducible repeat (first | refine blk_drewN ?_ _ | refine blk_drew ?_ | refine blk_alloc ?_ _)); exact BK204.out⟩, ⟨by (with_reducible repeat (first | refine blk_drewN ?_ _ | refine blk_drew ?_ | refine blk_alloc ?_ _)); refine blk_far ?_ NB206_204.out _; (with_reducible repeat (first | refine blk_drewN ?_ _ | refine blk_drew ?_ | refine blk_alloc ?_ _)); refine blk_far ?_ NB206_204.out _; (with_reducible repeat (first | refine blk_drewN ?_ _ | refine blk_drew ?_ | refine blk_alloc ?_ _)); refine blk_far ?_ NB206_204.out _; (with_reducible repeat (first | refine blk_drewN ?_ _ | refine blk_drew ?_ | refine blk_alloc ?_ _)); exact BK206.out⟩, ⟨by repeat (first | (with_reducible first | exact HI203.out | apply IsS26.alloc | apply IsS26.drewN | apply IsS26.drew | apply IsS26.set_0 | apply IsS26.set_1 | apply IsS26.set_2 | refine IsS26.far ?_ NB203_204.out _ | refine IsS26.far ?_ NB203_206.out _) | exact HI203.out)⟩, ⟨by repeat (first | (with_reducible first | exact HB.out | apply below_alloc | apply pw_below_drewN | apply below_drew1 | refine below_set ?_ (IsS26.ge HI203.out) | refine below_set ?_ GE204.out | refine below_set ?_ GE206.out) | exact HB.out)⟩⟩
         ·rw [if_neg c21] at H
          have c21b0 : (((rd_T30 l0 x20_1).f0) == 0) = false := beq_eq_false_iff_ne.mpr c21
          have c21b1 : (((rd_T30 l0 x20_1).f0) != 0) = true := bne_iff_ne.mpr c21
          (first | rw [c21b0] | (simp only [i64_w, i32_w]; rw [c21b0]) | skip)
          by_cases c30 : ((rd_T30 l0 x20_1).f0) = 1
          ·rw [if_pos c30] at H
           have c30b0 : (((rd_T30 l0 x20_1).f0) == 1) = true := beq_iff_eq.mpr c30
           have c30b1 : (((rd_T30 l0 x20_1).f0) != 1) = false := bne_eq_false_iff_eq.mpr c30
           clear c30
           replace H := Option.bind_eq_some_iff.mp H
           obtain ⟨⟨t213, t214, t215⟩, A310, H⟩ := H
           replace H : ((greenscreenref21_Turn.f x205000_1 x205001_1 x205002_1 0 0).bind fun bt216 => (greenscreenlaw21_LockPlays.j3 k1 l0 (l0.length : Int) x20_1 t213 t214 t215 bt216.1 bt216.2.1 bt216.2.2)) = some r := H
           have A31 := Aside0.mk A310
           clear A310
           replace H := Option.bind_eq_some_iff.mp H
           obtain ⟨⟨t216, t217, t218⟩, A320, H⟩ := H
           replace H : (greenscreenlaw21_LockPlays.j3 k1 l0 (l0.length : Int) x20_1 t213 t214 t215 t216 t217 t218) = some r := H
           have A32 := Aside0.mk A320
           clear A320
           have H' := Aside0.mk H
           clear H
           go_wp2_with (first | ((with_reducible refine gate_callee (f := 9) rfl ?_); refine goesL_ (some 35) rfl rfl Try.func9 (by kernel_rfl) rfl #[.pointer (some ⟨gb203, 0, none⟩)] rfl (by (try simp only [List.map_toArray, List.map_cons, List.map_nil]); first | done | rfl | (simp only [List.length_drop, List.length_take]; rfl)) ?_; (with_reducible refine (lock_Lock_Shut.calls gb203 x204000_1 x204001_1 x204002_1 t213 t214 t215 w _ ?side1 ?side2 A31.out).mono ?_); (case side1 => repeat (first | (with_reducible first | exact HI203.out | apply IsS26.alloc | apply IsS26.drewN | apply IsS26.drew | apply IsS26.set_0 | apply IsS26.set_1 | apply IsS26.set_2 | refine IsS26.far ?_ NB203_204.out _ | refine IsS26.far ?_ NB203_206.out _) | exact HI203.out)); (case side2 => repeat (first | (with_reducible first | exact HB.out | apply below_alloc | apply pw_below_drewN | apply below_drew1 | refine below_set ?_ (IsS26.ge HI203.out) | refine below_set ?_ GE204.out | refine below_set ?_ GE206.out) | exact HB.out)); rintro e w33 ⟨rfl, hi, hb, hk⟩; refine ⟨_, rfl, ?_⟩; have n0_ := Aside0.mk (KeepBut.blk hk (g' := gb204) (o := .cells #[.int .i64 x205000_1, .int .i64 x205001_1, .int .i64 x205002_1] 28 (0, 0)) (by (with_reducible repeat (first | refine blk_drewN ?_ _ | refine blk_drew ?_ | refine blk_alloc ?_ _)); refine blk_far ?_ NB204_206.out _; (with_reducible repeat (first | refine blk_drewN ?_ _ | refine blk_drew ?_ | refine blk_alloc ?_ _)); refine blk_far ?_ NB204_206.out _; (with_reducible repeat (first | refine blk_drewN ?_ _ | refine blk_drew ?_ | refine blk_alloc ?_ _)); exact BK204.out) NB204_203.out (by simp)); have n1_ := Aside0.mk (KeepBut.blk hk (g' := gb206) (o := .cells #[.int .i64 ((rd_T30 l0 x20_1).f0), .int .i64 ((rd_T30 l0 x20_1).f1)] 30 (0, 0)) (by (with_reducible repeat (first | refine blk_drewN ?_ _ | refine blk_drew ?_ | refine blk_alloc ?_ _)); refine blk_put (cs := #[.int .i64 ((rd_T30 l0 x20_1).f0), .int .i64 0]) ?_ 1 _ rfl; (with_reducible repeat (first | refine blk_drewN ?_ _ | refine blk_drew ?_ | refine blk_alloc ?_ _)); refine blk_put (cs := #[.int .i64 0, .int .i64 0]) ?_ 0 _ rfl; (with_reducible repeat (first | refine blk_drewN ?_ _ | refine blk_drew ?_ | refine blk_alloc ?_ _)); exact BK206.out) NB206_203.out (by simp)); have n2_ := Aside0.mk (hb); have n3_ := Aside0.mk (hi); clear BK204; clear BK206; clear HB; clear HI203; have BK204 := n0_; have BK206 := n1_; have HB := n2_; have HI203 := n3_; clear n0_ n1_ n2_ n3_; (try clear hb); (try clear hb2); (try clear hk); (try clear hi); have hnb34 := NB204_206.out; have hnc34 := NB206_204.out; have hnb35 := NB204_203.out; have hnc35 := NB203_204.out; have hcz36_0 : w33.cell? ⟨gb204, 0, none⟩ = some (.int .i64 x205000_1) := (blk_cell BK204.out 0).trans rfl; have hcz36_1 : w33.cell? ⟨gb204, 1, none⟩ = some (.int .i64 x205001_1) := (blk_cell BK204.out 1).trans rfl; have hcz36_2 : w33.cell? ⟨gb204, 2, none⟩ = some (.int .i64 x205002_1) := (blk_cell BK204.out 2).trans rfl; have hfz36_0 := blk_frozen BK204.out 0; have hfz36_1 := blk_frozen BK204.out 1; have hfz36_2 := blk_frozen BK204.out 2) | ((with_reducible refine gate_callee (f := 8) rfl ?_); refine goesL_ (some 37) rfl rfl Try.func8 (by kernel_rfl) rfl #[.agg #[.int .i64 x205000_1, .int .i64 x205001_1, .int .i64 x205002_1], .int .i64 0, .int .i64 0] rfl (by (try simp only [List.map_toArray, List.map_cons, List.map_nil]); first | done | rfl | (simp only [List.length_drop, List.length_take]; rfl)) ?_; (with_reducible refine (greenscreenref21_Turn.calls x205000_1 x205001_1 x205002_1 0 0 t216 t217 t218 _ A32.out).mono ?_); rintro e w37 ⟨rfl, hb⟩; refine ⟨_, rfl, ?_⟩; have n0_ := Aside0.mk (blk_below (g := gb204) (o := .cells #[.int .i64 x205000_1, .int .i64 x205001_1, .int .i64 x205002_1] 28 (0, 0)) (by (with_reducible repeat (first | refine blk_drewN ?_ _ | refine blk_drew ?_ | refine blk_alloc ?_ _)); exact BK204.out) hb); have n1_ := Aside0.mk (IsS26.below (by repeat (first | (with_reducible first | exact HI203.out | apply IsS26.alloc | apply IsS26.drewN | apply IsS26.drew | apply IsS26.set_0 | apply IsS26.set_1 | apply IsS26.set_2 | refine IsS26.far ?_ NB203_204.out _ | refine IsS26.far ?_ NB203_206.out _) | exact HI203.out)) hb); have n2_ := Aside0.mk (blk_below (g := gb206) (o := .cells #[.int .i64 ((rd_T30 l0 x20_1).f0), .int .i64 ((rd_T30 l0 x20_1).f1)] 30 (0, 0)) (by (with_reducible repeat (first | refine blk_drewN ?_ _ | refine blk_drew ?_ | refine blk_alloc ?_ _)); exact BK206.out) hb); have n3_ := Aside0.mk (below_step (by repeat (first | (with_reducible first | exact HB.out | apply below_alloc | apply pw_below_drewN | apply below_drew1 | refine below_set ?_ (IsS26.ge HI203.out) | refine below_set ?_ GE204.out | refine below_set ?_ GE206.out) | exact HB.out)) hb); clear BK204; clear HI203; clear BK206; clear HB; have BK204 := n0_; have HI203 := n1_; have BK206 := n2_; have HB := n3_; clear n0_ n1_ n2_ n3_; (try clear hb); (try clear hb2); (try clear hk); (try clear hi); have hcz38_0 : w37.cell? ⟨gb204, 0, none⟩ = some (.int .i64 x205000_1) := (blk_cell BK204.out 0).trans rfl; have hcz38_1 : w37.cell? ⟨gb204, 1, none⟩ = some (.int .i64 x205001_1) := (blk_cell BK204.out 1).trans rfl; have hcz38_2 : w37.cell? ⟨gb204, 2, none⟩ = some (.int .i64 x205002_1) := (blk_cell BK204.out 2).trans rfl; have hfz38_0 := blk_frozen BK204.out 0; have hfz38_1 := blk_frozen BK204.out 1; have hfz38_2 := blk_frozen BK204.out 2))
           go_meet
           case rel => exact ⟨_, (t213), (t214), (t215), (t216), (t217), (t218), H', ⟨by have := HK1.out; first | omega | exact Nat.le_refl _⟩, ⟨by (with_reducible repeat (first | refine blk_drewN ?_ _ | refine blk_drew ?_ | refine blk_alloc ?_ _)); refine blk_put (cs := #[.int .i64 t216, .int .i64 t217, .int .i64 x205002_1]) ?_ 2 _ rfl; (with_reducible repeat (first | refine blk_drewN ?_ _ | refine blk_drew ?_ | refine blk_alloc ?_ _)); refine blk_put (cs := #[.int .i64 t216, .int .i64 x205001_1, .int .i64 x205002_1]) ?_ 1 _ rfl; (with_reducible repeat (first | refine blk_drewN ?_ _ | refine blk_drew ?_ | refine blk_alloc ?_ _)); refine blk_put (cs := #[.int .i64 x205000_1, .int .i64 x205001_1, .int .i64 x205002_1]) ?_ 0 _ rfl; (with_reducible repeat (first | refine blk_drewN ?_ _ | refine blk_drew ?_ | refine blk_alloc ?_ _)); exact BK204.out⟩, ⟨by (with_reducible repeat (first | refine blk_drewN ?_ _ | refine blk_drew ?_ | refine blk_alloc ?_ _)); refine blk_far ?_ NB206_204.out _; (with_reducible repeat (first | refine blk_drewN ?_ _ | refine blk_drew ?_ | refine blk_alloc ?_ _)); refine blk_far ?_ NB206_204.out _; (with_reducible repeat (first | refine blk_drewN ?_ _ | refine blk_drew ?_ | refine blk_alloc ?_ _)); refine blk_far ?_ NB206_204.out _; (with_reducible repeat (first | refine blk_drewN ?_ _ | refine blk_drew ?_ | refine blk_alloc ?_ _)); exact BK206.out⟩, ⟨by repeat (first | (with_reducible first | exact HI203.out | apply IsS26.alloc | apply IsS26.drewN | apply IsS26.drew | apply IsS26.set_0 | apply IsS26.set_1 | apply IsS26.set_2 | refine IsS26.far ?_ NB203_204.out _ | refine IsS26.far ?_ NB203_206.out _) | exact HI203.out)⟩, ⟨by repeat (first | (with_reducible first | exact HB.out | apply below_alloc | apply pw_below_drewN | apply below_drew1 | refine below_set ?_ (IsS26.ge HI203.out) | refine below_set ?_ GE204.out | refine below_set ?_ GE206.out) | exact HB.out)⟩⟩
          ·rw [if_neg c30] at H
           have c30b0 : (((rd_T30 l0 x20_1).f0) == 1) = false := beq_eq_false_iff_ne.mpr c30
           have c30b1 : (((rd_T30 l0 x20_1).f0) != 1) = true := bne_iff_ne.mpr c30
           have HC39 := Aside0.mk H
           clear H
           go_upto_if 38 with (fail)
           go_cut [38] (fun v38 wc => ∃ (kq : Nat) (x38_38 : Bool), v38 = .bool x38_38 ∧ Aside0 (greenscreenlaw21_LockPlays.j1 kq x205000_1 l0 (l0.length : Int) x20_1 ((rd_T30 l0 x20_1).f0) x38_38 x204000_1 x204001_1 x204002_1 x205000_1 x205001_1 x205002_1 ((rd_T30 l0 x20_1).f0) ((rd_T30 l0 x20_1).f1) = some r) ∧ Aside0 (kq ≤ k1) ∧ Aside0 (wc.heap[gb204]? = some (.cells #[.int .i64 x205000_1, .int .i64 x205001_1, .int .i64 x205002_1] 28 (0, 0))) ∧ Aside0 (wc.heap[gb206]? = some (.cells #[.int .i64 ((rd_T30 l0 x20_1).f0), .int .i64 ((rd_T30 l0 x20_1).f1)] 30 (0, 0))) ∧ Aside0 (IsS26 w wc gb203 x204000_1 x204001_1 x204002_1) ∧ Aside0 (Below w.heap.size w wc))
           case first =>
            have H := HC39.out
            clear HC39
            by_cases c40 : ((rd_T30 l0 x20_1).f0) = 2
            ·rw [if_pos c40] at H
             have c40b0 : (((rd_T30 l0 x20_1).f0) == 2) = true := beq_iff_eq.mpr c40
             have c40b1 : (((rd_T30 l0 x20_1).f0) != 2) = false := bne_eq_false_iff_eq.mpr c40
             clear c40
             (first | rw [c40b0] | (simp only [i64_w, i32_w]; rw [c40b0]) | skip)
             have H' := Aside0.mk H
             clear H
             go_wp2
             go_meet
             case rel => exact ⟨_, ((((rd_T30 l0 x20_1).f0) == 2)), (by first | rfl | (simp; done) | (simp [*]; done)), H', ⟨by have := HK1.out; first | omega | exact Nat.le_refl _⟩, ⟨by (with_reducible repeat (first | refine blk_drewN ?_ _ | refine blk_drew ?_ | refine blk_alloc ?_ _)); refine blk_far ?_ NB204_206.out _; (with_reducible repeat (first | refine blk_drewN ?_ _ | refine blk_drew ?_ | refine blk_alloc ?_ _)); refine blk_far ?_ NB204_206.out _; (with_reducible repeat (first | refine blk_drewN ?_ _ | refine blk_drew ?_ | refine blk_alloc ?_ _)); exact BK204.out⟩, ⟨by (with_reducible repeat (first | refine blk_drewN ?_ _ | refine blk_drew ?_ | refine blk_alloc ?_ _)); refine blk_put (cs := #[.int .i64 ((rd_T30 l0 x20_1).f0), .int .i64 0]) ?_ 1 _ rfl; (with_reducible repeat (first | refine blk_drewN ?_ _ | refine blk_drew ?_ | refine blk_alloc ?_ _)); refine blk_put (cs := #[.int .i64 0, .int .i64 0]) ?_ 0 _ rfl; (with_reducible repeat (first | refine blk_drewN ?_ _ | refine blk_drew ?_ | refine blk_alloc ?_ _)); exact BK206.out⟩, ⟨by repeat (first | (with_reducible first | exact HI203.out | apply IsS26.alloc | apply IsS26.drewN | apply IsS26.drew | apply IsS26.set_0 | apply IsS26.set_1 | apply IsS26.set_2 | refine IsS26.far ?_ NB203_204.out _ | refine IsS26.far ?_ NB203_206.out _) | exact HI203.out)⟩, ⟨by repeat (first | (with_reducible first | exact HB.out | apply below_alloc | apply pw_below_drewN | apply below_drew1 | refine below_set ?_ (IsS26.ge HI203.out) | refine below_set ?_ GE204.out | refine below_set ?_ GE206.out) | exact HB.out)⟩⟩
            ·rw [if_neg c40] at H
             have c40b0 : (((rd_T30 l0 x20_1).f0) == 2) = false := beq_eq_false_iff_ne.mpr c40
             have c40b1 : (((rd_T30 l0 x20_1).f0) != 2) = true := bne_iff_ne.mpr c40
             (first | rw [c40b0] | (simp only [i64_w, i32_w]; rw [c40b0]) | skip)
             have H' := Aside0.mk H
             clear H
             go_wp2
             go_meet
             case rel => exact ⟨_, ((((rd_T30 l0 x20_1).f0) == 3)), (by first | rfl | (simp; done) | (simp [*]; done)), H', ⟨by have := HK1.out; first | omega | exact Nat.le_refl _⟩, ⟨by (with_reducible repeat (first | refine blk_drewN ?_ _ | refine blk_drew ?_ | refine blk_alloc ?_ _)); refine blk_far ?_ NB204_206.out _; (with_reducible repeat (first | refine blk_drewN ?_ _ | refine blk_drew ?_ | refine blk_alloc ?_ _)); refine blk_far ?_ NB204_206.out _; (with_reducible repeat (first | refine blk_drewN ?_ _ | refine blk_drew ?_ | refine blk_alloc ?_ _)); exact BK204.out⟩, ⟨by (with_reducible repeat (first | refine blk_drewN ?_ _ | refine blk_drew ?_ | refine blk_alloc ?_ _)); refine blk_put (cs := #[.int .i64 ((rd_T30 l0 x20_1).f0), .int .i64 0]) ?_ 1 _ rfl; (with_reducible repeat (first | refine blk_drewN ?_ _ | refine blk_drew ?_ | refine blk_alloc ?_ _)); refine blk_put (cs := #[.int .i64 0, .int .i64 0]) ?_ 0 _ rfl; (with_reducible repeat (first | refine blk_drewN ?_ _ | refine blk_drew ?_ | refine blk_alloc ?_ _)); exact BK206.out⟩, ⟨by repeat (first | (with_reducible first | exact HI203.out | apply IsS26.alloc | apply IsS26.drewN | apply IsS26.drew | apply IsS26.set_0 | apply IsS26.set_1 | apply IsS26.set_2 | refine IsS26.far ?_ NB203_204.out _ | refine IsS26.far ?_ NB203_206.out _) | exact HI203.out)⟩, ⟨by repeat (first | (with_reducible first | exact HB.out | apply below_alloc | apply pw_below_drewN | apply below_drew1 | refine below_set ?_ (IsS26.ge HI203.out) | refine below_set ?_ GE204.out | refine below_set ?_ GE206.out) | exact HB.out)⟩⟩
           case rest =>
            clear HC39
            try clear c1
            try clear c2
            try clear p2
            try clear q2
            try clear hx2
            try clear c3
            try clear c4
            try clear c4b0
            try clear c4b1
            try clear c6
            try clear c7
            try clear c8
            try clear c9
            try clear c11
            try clear c11b0
            try clear c12
            try clear c12b0
            try clear c13
            try clear c13b0
            try clear c16
            try clear c17
            try clear c19
            try clear p20
            try clear q20
            try clear hx20
            try clear c21
            try clear c21b0
            try clear c21b1
            try clear c25
            try clear c26
            try clear c30
            try clear c30b0
            try clear c30b1
            try clear c34
            try clear c35
            try clear c40
            try clear c40b0
            try clear c40b1
            try clear hcz10_0
            try clear hcz10_1
            try clear hcz10_2
            try clear hcz18_0
            try clear hcz18_1
            try clear hcz20_0
            try clear hcz20_1
            try clear hcz20_2
            try clear hcz27_0
            try clear hcz27_1
            try clear hcz27_2
            try clear hcz29_0
            try clear hcz29_1
            try clear hcz29_2
            try clear hcz36_0
            try clear hcz36_1
            try clear hcz36_2
            try clear hcz38_0
            try clear hcz38_1
            try clear hcz38_2
            try clear hfz10_0
            try clear hfz10_1
            try clear hfz10_2
            try clear hfz18_0
            try clear hfz18_1
            try clear hfz20_0
            try clear hfz20_1
            try clear hfz20_2
            try clear hfz27_0
            try clear hfz27_1
            try clear hfz27_2
            try clear hfz29_0
            try clear hfz29_1
            try clear hfz29_2
            try clear hfz36_0
            try clear hfz36_1
            try clear hfz36_2
            try clear hfz38_0
            try clear hfz38_1
            try clear hfz38_2
            try clear hx205_0
            try clear hx205_1
            try clear p2
            try clear p205
            try clear q205
            obtain ⟨kq, x38_38, rfl, HA, HJ38, BK204, BK206, HI203, HB⟩ := hcut
            cases kq with
            | zero => exact absurd HA.out (by simp [greenscreenlaw21_LockPlays.j1])
            | succ kj38 =>
             have H := HA.out
             clear HA
             simp only [greenscreenlaw21_LockPlays.j1] at H
             by_cases c41 : x38_38 = true
             ·subst c41
              have H1 : ((lock_Lock_Send.f x204000_1 x204001_1 x204002_1).bind fun bt219 => (if ((bt219.1 == 0) != (x205000_1 == 1)) = true then (greenscreenlaw21_LockPlays.j2 kj38 x205000_1 l0 (l0.length : Int) x20_1 true bt219.2.1 bt219.2.2.1 bt219.2.2.2 x205000_1 x205001_1 x205002_1) else (if bt219.1 = 0 then (greenscreenlaw21_LockPlays.j2 kj38 x205000_1 l0 (l0.length : Int) x20_1 false bt219.2.1 bt219.2.2.1 bt219.2.2.2 x205000_1 x205001_1 x205002_1) else (greenscreenlaw21_LockPlays.j2 kj38 x205000_1 l0 (l0.length : Int) x20_1 (bt219.1 != 40) bt219.2.1 bt219.2.2.1 bt219.2.2.2 x205000_1 x205001_1 x205002_1)))) = some r := by rw [if_pos rfl] at H; exact H
              clear H
              have H := H1
              clear H1
              replace H := Option.bind_eq_some_iff.mp H
              obtain ⟨⟨t219, t220, t221, t222⟩, A420, H⟩ := H
              replace H : (if ((t219 == 0) != (x205000_1 == 1)) = true then (greenscreenlaw21_LockPlays.j2 kj38 x205000_1 l0 (l0.length : Int) x20_1 true t220 t221 t222 x205000_1 x205001_1 x205002_1) else (if t219 = 0 then (greenscreenlaw21_LockPlays.j2 kj38 x205000_1 l0 (l0.length : Int) x20_1 false t220 t221 t222 x205000_1 x205001_1 x205002_1) else (greenscreenlaw21_LockPlays.j2 kj38 x205000_1 l0 (l0.length : Int) x20_1 (t219 != 40) t220 t221 t222 x205000_1 x205001_1 x205002_1))) = some r := H
              have A42 := Aside0.mk A420
              clear A420
              have HC43 := Aside0.mk H
              clear H
              go_upto_region 21 with (first | ((with_reducible refine gate_callee (f := 10) rfl ?_); refine goesL_ (some 41) rfl rfl Try.func10 (by kernel_rfl) rfl #[.pointer (some ⟨gb203, 0, none⟩)] rfl (by (try simp only [List.map_toArray, List.map_cons, List.map_nil]); first | done | rfl | (simp only [List.length_drop, List.length_take]; rfl)) ?_; (with_reducible refine (lock_Lock_Send.calls gb203 x204000_1 x204001_1 x204002_1 t219 t220 t221 t222 w _ ?side1 ?side2 A42.out).mono ?_); (case side1 => repeat (first | (with_reducible first | exact HI203.out | apply IsS26.alloc | apply IsS26.drewN | apply IsS26.drew | apply IsS26.set_0 | apply IsS26.set_1 | apply IsS26.set_2 | refine IsS26.far ?_ NB203_204.out _ | refine IsS26.far ?_ NB203_206.out _) | exact HI203.out)); (case side2 => repeat (first | (with_reducible first | exact HB.out | apply below_alloc | apply pw_below_drewN | apply below_drew1 | refine below_set ?_ (IsS26.ge HI203.out) | refine below_set ?_ GE204.out | refine below_set ?_ GE206.out) | exact HB.out)); rintro e w44 ⟨rfl, hi, hb, hk⟩; refine ⟨_, rfl, ?_⟩; have n0_ := Aside0.mk (KeepBut.blk hk (g' := gb204) (o := .cells #[.int .i64 x205000_1, .int .i64 x205001_1, .int .i64 x205002_1] 28 (0, 0)) (by (with_reducible repeat (first | refine blk_drewN ?_ _ | refine blk_drew ?_ | refine blk_alloc ?_ _)); exact BK204.out) NB204_203.out (by simp)); have n1_ := Aside0.mk (KeepBut.blk hk (g' := gb206) (o := .cells #[.int .i64 ((rd_T30 l0 x20_1).f0), .int .i64 ((rd_T30 l0 x20_1).f1)] 30 (0, 0)) (by (with_reducible repeat (first | refine blk_drewN ?_ _ | refine blk_drew ?_ | refine blk_alloc ?_ _)); exact BK206.out) NB206_203.out (by simp)); have n2_ := Aside0.mk (hb); have n3_ := Aside0.mk (hi); clear BK204; clear BK206; clear HB; clear HI203; have BK204 := n0_; have BK206 := n1_; have HB := n2_; have HI203 := n3_; clear n0_ n1_ n2_ n3_; (try clear hb); (try clear hb2); (try clear hk); (try clear hi)))
              (try simp only [Act.put, zA_, zB_, zC_])
              go_cut [54] (fun v54 wc => ∃ (kq : Nat) (x54_42 : Bool), v54 = .bool x54_42 ∧ Aside0 (greenscreenlaw21_LockPlays.j2 kq x205000_1 l0 (l0.length : Int) x20_1 x54_42 t220 t221 t222 x205000_1 x205001_1 x205002_1 = some r) ∧ Aside0 (kq ≤ kj38) ∧ Aside0 (wc.heap[gb204]? = some (.cells #[.int .i64 x205000_1, .int .i64 x205001_1, .int .i64 x205002_1] 28 (0, 0))) ∧ Aside0 (wc.heap[gb206]? = some (.cells #[.int .i64 ((rd_T30 l0 x20_1).f0), .int .i64 ((rd_T30 l0 x20_1).f1)] 30 (0, 0))) ∧ Aside0 (IsS26 w wc gb203 t220 t221 t222) ∧ Aside0 (Below w.heap.size w wc))
              case first =>
               have H := HC43.out
               clear HC43
               by_cases c45 : ((t219 == 0) != (x205000_1 == 1)) = true
               ·rw [if_pos c45] at H
                have c45b0 : ((t219 == 0) != (x205000_1 == 1)) = true := c45
                (try (have c45e0 : ((t219 == 0) = (x205000_1 == 1)) = False := by (have he_ := c45b0; revert he_; cases ((t219 == 0)) <;> cases ((x205000_1 == 1)) <;> simp)))
                (try (have c45e1 : ((t219 == 0) == (x205000_1 == 1)) = false := by (have he_ := c45b0; revert he_; cases ((t219 == 0)) <;> cases ((x205000_1 == 1)) <;> simp)))
                (try (have c45b1 : decide ((t219 == 0) = (x205000_1 == 1)) = false := by simpa using c45))
                (try (have c45b2 : ((t219 == 0) == (x205000_1 == 1)) = false := by simpa using c45))
                (try (have c45b3 : ¬ ((t219 == 0) = (x205000_1 == 1)) := by simpa using c45))
                clear c45
                (first | rw [c45b0] | (simp only [i64_w, i32_w]; rw [c45b0]) | skip)
                have H' := Aside0.mk H
                clear H
                go_wp2
                go_meet
                case rel => exact ⟨_, (true), (by first | rfl | (simp; done) | (simp [*]; done)), H', ⟨by have := HK1.out; have := HJ38.out; first | omega | exact Nat.le_refl _⟩, ⟨by (with_reducible repeat (first | refine blk_drewN ?_ _ | refine blk_drew ?_ | refine blk_alloc ?_ _)); exact BK204.out⟩, ⟨by (with_reducible repeat (first | refine blk_drewN ?_ _ | refine blk_drew ?_ | refine blk_alloc ?_ _)); exact BK206.out⟩, ⟨by repeat (first | (with_reducible first | exact HI203.out | apply IsS26.alloc | apply IsS26.drewN | apply IsS26.drew | apply IsS26.set_0 | apply IsS26.set_1 | apply IsS26.set_2 | refine IsS26.far ?_ NB203_204.out _ | refine IsS26.far ?_ NB203_206.out _) | exact HI203.out)⟩, ⟨by repeat (first | (with_reducible first | exact HB.out | apply below_alloc | apply pw_below_drewN | apply below_drew1 | refine below_set ?_ (IsS26.ge HI203.out) | refine below_set ?_ GE204.out | refine below_set ?_ GE206.out) | exact HB.out)⟩⟩
               ·rw [if_neg c45] at H
                have c45b0 : ((t219 == 0) != (x205000_1 == 1)) = false := by simpa using c45
                (try (have c45e0 : ((t219 == 0) = (x205000_1 == 1)) = True := by (have he_ := c45b0; revert he_; cases ((t219 == 0)) <;> cases ((x205000_1 == 1)) <;> simp)))
                (try (have c45e1 : ((t219 == 0) == (x205000_1 == 1)) = true := by (have he_ := c45b0; revert he_; cases ((t219 == 0)) <;> cases ((x205000_1 == 1)) <;> simp)))
                (try (have c45b1 : decide ((t219 == 0) = (x205000_1 == 1)) = true := by simpa using c45))
                (try (have c45b2 : ((t219 == 0) == (x205000_1 == 1)) = true := by simpa using c45))
                clear c45
                (first | rw [c45b0] | (simp only [i64_w, i32_w]; rw [c45b0]) | skip)
                by_cases c46 : t219 = 0
                ·rw [if_pos c46] at H
                 have c46b0 : (t219 == 0) = true := beq_iff_eq.mpr c46
                 (try (have c46xc45 : (x205000_1 == 1) = true := by (have he_ := c45b0; simp only [ge_iff_le, gt_iff_lt, c46b0] at he_; revert he_; cases (x205000_1 == 1) <;> simp)))
                 have c46b1 : (t219 != 0) = false := bne_eq_false_iff_eq.mpr c46
                 clear c46
                 have H' := Aside0.mk H
                 clear H
                 go_wp2
                 go_meet
                 case rel => exact ⟨_, (false), (by first | rfl | (simp; done) | (simp [*]; done)), H', ⟨by have := HK1.out; have := HJ38.out; first | omega | exact Nat.le_refl _⟩, ⟨by (with_reducible repeat (first | refine blk_drewN ?_ _ | refine blk_drew ?_ | refine blk_alloc ?_ _)); exact BK204.out⟩, ⟨by (with_reducible repeat (first | refine blk_drewN ?_ _ | refine blk_drew ?_ | refine blk_alloc ?_ _)); exact BK206.out⟩, ⟨by repeat (first | (with_reducible first | exact HI203.out | apply IsS26.alloc | apply IsS26.drewN | apply IsS26.drew | apply IsS26.set_0 | apply IsS26.set_1 | apply IsS26.set_2 | refine IsS26.far ?_ NB203_204.out _ | refine IsS26.far ?_ NB203_206.out _) | exact HI203.out)⟩, ⟨by repeat (first | (with_reducible first | exact HB.out | apply below_alloc | apply pw_below_drewN | apply below_drew1 | refine below_set ?_ (IsS26.ge HI203.out) | refine below_set ?_ GE204.out | refine below_set ?_ GE206.out) | exact HB.out)⟩⟩
                ·rw [if_neg c46] at H
                 have c46b0 : (t219 == 0) = false := beq_eq_false_iff_ne.mpr c46
                 (try (have c46xc45 : (x205000_1 == 1) = false := by (have he_ := c45b0; simp only [ge_iff_le, gt_iff_lt, c46b0] at he_; revert he_; cases (x205000_1 == 1) <;> simp)))
                 have c46b1 : (t219 != 0) = true := bne_iff_ne.mpr c46
                 have H' := Aside0.mk H
                 clear H
                 go_wp2
                 go_meet
                 case rel => exact ⟨_, ((t219 != 40)), (by first | rfl | (simp; done) | (simp [*]; done)), H', ⟨by have := HK1.out; have := HJ38.out; first | omega | exact Nat.le_refl _⟩, ⟨by (with_reducible repeat (first | refine blk_drewN ?_ _ | refine blk_drew ?_ | refine blk_alloc ?_ _)); exact BK204.out⟩, ⟨by (with_reducible repeat (first | refine blk_drewN ?_ _ | refine blk_drew ?_ | refine blk_alloc ?_ _)); exact BK206.out⟩, ⟨by repeat (first | (with_reducible first | exact HI203.out | apply IsS26.alloc | apply IsS26.drewN | apply IsS26.drew | apply IsS26.set_0 | apply IsS26.set_1 | apply IsS26.set_2 | refine IsS26.far ?_ NB203_204.out _ | refine IsS26.far ?_ NB203_206.out _) | exact HI203.out)⟩, ⟨by repeat (first | (with_reducible first | exact HB.out | apply below_alloc | apply pw_below_drewN | apply below_drew1 | refine below_set ?_ (IsS26.ge HI203.out) | refine below_set ?_ GE204.out | refine below_set ?_ GE206.out) | exact HB.out)⟩⟩
              case rest =>
               clear HC43
               try clear c1
               try clear c2
               try clear p2
               try clear q2
               try clear hx2
               try clear c3
               try clear c4
               try clear c4b0
               try clear c4b1
               try clear c6
               try clear c7
               try clear c8
               try clear c9
               try clear c10
               try clear c11
               try clear c11b0
               try clear c12
               try clear c12b0
               try clear c13
               try clear c13b0
               try clear c16
               try clear c17
               try clear c19
               try clear p20
               try clear q20
               try clear hx20
               try clear c21
               try clear c21b0
               try clear c21b1
               try clear c25
               try clear c26
               try clear c30
               try clear c30b0
               try clear c30b1
               try clear c34
               try clear c35
               try clear c40
               try clear c40b0
               try clear c40b1
               try clear c41
               try clear c45
               try clear c45b0
               try clear c45b1
               try clear c45b2
               try clear c46
               try clear c46b0
               try clear c46b1
               try clear hcz10_0
               try clear hcz10_1
               try clear hcz10_2
               try clear hcz18_0
               try clear hcz18_1
               try clear hcz20_0
               try clear hcz20_1
               try clear hcz20_2
               try clear hcz27_0
               try clear hcz27_1
               try clear hcz27_2
               try clear hcz29_0
               try clear hcz29_1
               try clear hcz29_2
               try clear hcz36_0
               try clear hcz36_1
               try clear hcz36_2
               try clear hcz38_0
               try clear hcz38_1
               try clear hcz38_2
               try clear hfz10_0
               try clear hfz10_1
               try clear hfz10_2
               try clear hfz18_0
               try clear hfz18_1
               try clear hfz20_0
               try clear hfz20_1
               try clear hfz20_2
               try clear hfz27_0
               try clear hfz27_1
               try clear hfz27_2
               try clear hfz29_0
               try clear hfz29_1
               try clear hfz29_2
               try clear hfz36_0
               try clear hfz36_1
               try clear hfz36_2
               try clear hfz38_0
               try clear hfz38_1
               try clear hfz38_2
               try clear hx205_0
               try clear hx205_1
               try clear p2
               try clear p20
               try clear p205
               try clear q2
               try clear q20
               try clear q205
               obtain ⟨kq, x54_42, rfl, HA, HJ42, BK204, BK206, HI203, HB⟩ := hcut
               cases kq with
               | zero => exact absurd HA.out (by simp [greenscreenlaw21_LockPlays.j2])
               | succ kj42 =>
                have H := HA.out
                clear HA
                simp only [greenscreenlaw21_LockPlays.j2] at H
                by_cases c47 : x54_42 = true
                ·subst c47
                 have H1 : (some false) = some r := by rw [if_pos rfl] at H; exact H
                 clear H
                 have H := H1
                 clear H1
                 obtain rfl := Option.some.inj H
                 go_wp2
                 go_ret
                 exact ⟨by first | rfl | (simp [errW_none, errW_some] <;> rfl) | (simp [*, errW_none, errW_some] <;> rfl), by repeat (first | (with_reducible first | exact HB.out | apply below_alloc | apply pw_below_drewN | apply below_drew1 | refine below_set ?_ (IsS26.ge HI203.out) | refine below_set ?_ GE204.out | refine below_set ?_ GE206.out) | exact HB.out)⟩
                ·replace c47 := Bool.eq_false_iff.mpr c47
                 subst c47
                 have H1 : (if x205000_1 = 1 then ((greenscreenref21_Turn.f x205000_1 x205001_1 x205002_1 2 0).bind fun bt223 => (greenscreenlaw21_LockPlays.j3 kj42 l0 (l0.length : Int) x20_1 t220 t221 t222 bt223.1 bt223.2.1 bt223.2.2)) else (greenscreenlaw21_LockPlays.j3 kj42 l0 (l0.length : Int) x20_1 t220 t221 t222 x205000_1 x205001_1 x205002_1)) = some r := by rw [if_neg (show ¬ (false = true) by decide)] at H; exact H
                 clear H
                 have H := H1
                 clear H1
                 by_cases c48 : x205000_1 = 1
                 ·rw [if_pos c48] at H
                  have c48b0 : (x205000_1 == 1) = true := beq_iff_eq.mpr c48
                  have c48b1 : (x205000_1 != 1) = false := bne_eq_false_iff_eq.mpr c48
                  clear c48
                  replace H := Option.bind_eq_some_iff.mp H
                  obtain ⟨⟨t223, t224, t225⟩, A490, H⟩ := H
                  replace H : (greenscreenlaw21_LockPlays.j3 kj42 l0 (l0.length : Int) x20_1 t220 t221 t222 t223 t224 t225) = some r := H
                  have A49 := Aside0.mk A490
                  clear A490
                  have H' := Aside0.mk H
                  clear H
                  have hnb50 := NB204_206.out
                  have hnc50 := NB206_204.out
                  have hnb51 := NB204_203.out
                  have hnc51 := NB203_204.out
                  have hcz52_0 : wc.cell? ⟨gb204, 0, none⟩ = some (.int .i64 x205000_1) := (blk_cell BK204.out 0).trans rfl
                  have hcz52_1 : wc.cell? ⟨gb204, 1, none⟩ = some (.int .i64 x205001_1) := (blk_cell BK204.out 1).trans rfl
                  have hcz52_2 : wc.cell? ⟨gb204, 2, none⟩ = some (.int .i64 x205002_1) := (blk_cell BK204.out 2).trans rfl
                  have hfz52_0 := blk_frozen BK204.out 0
                  have hfz52_1 := blk_frozen BK204.out 1
                  have hfz52_2 := blk_frozen BK204.out 2
                  go_wp2_with (first | ((with_reducible refine gate_callee (f := 8) rfl ?_); refine goesL_ (some 58) rfl rfl Try.func8 (by kernel_rfl) rfl #[.agg #[.int .i64 x205000_1, .int .i64 x205001_1, .int .i64 x205002_1], .int .i64 2, .int .i64 0] rfl (by (try simp only [List.map_toArray, List.map_cons, List.map_nil]); first | done | rfl | (simp only [List.length_drop, List.length_take]; rfl)) ?_; (with_reducible refine (greenscreenref21_Turn.calls x205000_1 x205001_1 x205002_1 2 0 t223 t224 t225 _ A49.out).mono ?_); rintro e w53 ⟨rfl, hb⟩; refine ⟨_, rfl, ?_⟩; have n0_ := Aside0.mk (blk_below (g := gb204) (o := .cells #[.int .i64 x205000_1, .int .i64 x205001_1, .int .i64 x205002_1] 28 (0, 0)) (by (with_reducible repeat (first | refine blk_drewN ?_ _ | refine blk_drew ?_ | refine blk_alloc ?_ _)); exact BK204.out) hb); have n1_ := Aside0.mk (blk_below (g := gb206) (o := .cells #[.int .i64 ((rd_T30 l0 x20_1).f0), .int .i64 ((rd_T30 l0 x20_1).f1)] 30 (0, 0)) (by (with_reducible repeat (first | refine blk_drewN ?_ _ | refine blk_drew ?_ | refine blk_alloc ?_ _)); exact BK206.out) hb); have n2_ := Aside0.mk (IsS26.below (by repeat (first | (with_reducible first | exact HI203.out | apply IsS26.alloc | apply IsS26.drewN | apply IsS26.drew | apply IsS26.set_0 | apply IsS26.set_1 | apply IsS26.set_2 | refine IsS26.far ?_ NB203_204.out _ | refine IsS26.far ?_ NB203_206.out _) | exact HI203.out)) hb); have n3_ := Aside0.mk (below_step (by repeat (first | (with_reducible first | exact HB.out | apply below_alloc | apply pw_below_drewN | apply below_drew1 | refine below_set ?_ (IsS26.ge HI203.out) | refine below_set ?_ GE204.out | refine below_set ?_ GE206.out) | exact HB.out)) hb); clear BK204; clear BK206; clear HI203; clear HB; have BK204 := n0_; have BK206 := n1_; have HI203 := n2_; have HB := n3_; clear n0_ n1_ n2_ n3_; (try clear hb); (try clear hb2); (try clear hk); (try clear hi); have hcz54_0 : w53.cell? ⟨gb204, 0, none⟩ = some (.int .i64 x205000_1) := (blk_cell BK204.out 0).trans rfl; have hcz54_1 : w53.cell? ⟨gb204, 1, none⟩ = some (.int .i64 x205001_1) := (blk_cell BK204.out 1).trans rfl; have hcz54_2 : w53.cell? ⟨gb204, 2, none⟩ = some (.int .i64 x205002_1) := (blk_cell BK204.out 2).trans rfl; have hfz54_0 := blk_frozen BK204.out 0; have hfz54_1 := blk_frozen BK204.out 1; have hfz54_2 := blk_frozen BK204.out 2))
                  go_meet
                  case rel => exact ⟨_, (t220), (t221), (t222), (t223), (t224), (t225), H', ⟨by have := HK1.out; have := HJ38.out; have := HJ42.out; first | omega | exact Nat.le_refl _⟩, ⟨by (with_reducible repeat (first | refine blk_drewN ?_ _ | refine blk_drew ?_ | refine blk_alloc ?_ _)); refine blk_put (cs := #[.int .i64 t223, .int .i64 t224, .int .i64 x205002_1]) ?_ 2 _ rfl; (with_reducible repeat (first | refine blk_drewN ?_ _ | refine blk_drew ?_ | refine blk_alloc ?_ _)); refine blk_put (cs := #[.int .i64 t223, .int .i64 x205001_1, .int .i64 x205002_1]) ?_ 1 _ rfl; (with_reducible repeat (first | refine blk_drewN ?_ _ | refine blk_drew ?_ | refine blk_alloc ?_ _)); refine blk_put (cs := #[.int .i64 x205000_1, .int .i64 x205001_1, .int .i64 x205002_1]) ?_ 0 _ rfl; (with_reducible repeat (first | refine blk_drewN ?_ _ | refine blk_drew ?_ | refine blk_alloc ?_ _)); exact BK204.out⟩, ⟨by (with_reducible repeat (first | refine blk_drewN ?_ _ | refine blk_drew ?_ | refine blk_alloc ?_ _)); refine blk_far ?_ NB206_204.out _; (with_reducible repeat (first | refine blk_drewN ?_ _ | refine blk_drew ?_ | refine blk_alloc ?_ _)); refine blk_far ?_ NB206_204.out _; (with_reducible repeat (first | refine blk_drewN ?_ _ | refine blk_drew ?_ | refine blk_alloc ?_ _)); refine blk_far ?_ NB206_204.out _; (with_reducible repeat (first | refine blk_drewN ?_ _ | refine blk_drew ?_ | refine blk_alloc ?_ _)); exact BK206.out⟩, ⟨by repeat (first | (with_reducible first | exact HI203.out | apply IsS26.alloc | apply IsS26.drewN | apply IsS26.drew | apply IsS26.set_0 | apply IsS26.set_1 | apply IsS26.set_2 | refine IsS26.far ?_ NB203_204.out _ | refine IsS26.far ?_ NB203_206.out _) | exact HI203.out)⟩, ⟨by repeat (first | (with_reducible first | exact HB.out | apply below_alloc | apply pw_below_drewN | apply below_drew1 | refine below_set ?_ (IsS26.ge HI203.out) | refine below_set ?_ GE204.out | refine below_set ?_ GE206.out) | exact HB.out)⟩⟩
                 ·rw [if_neg c48] at H
                  have c48b0 : (x205000_1 == 1) = false := beq_eq_false_iff_ne.mpr c48
                  have c48b1 : (x205000_1 != 1) = true := bne_iff_ne.mpr c48
                  have H' := Aside0.mk H
                  clear H
                  go_wp2
                  go_meet
                  case rel => exact ⟨_, (t220), (t221), (t222), (x205000_1), (x205001_1), (x205002_1), H', ⟨by have := HK1.out; have := HJ38.out; have := HJ42.out; first | omega | exact Nat.le_refl _⟩, ⟨by (with_reducible repeat (first | refine blk_drewN ?_ _ | refine blk_drew ?_ | refine blk_alloc ?_ _)); exact BK204.out⟩, ⟨by (with_reducible repeat (first | refine blk_drewN ?_ _ | refine blk_drew ?_ | refine blk_alloc ?_ _)); exact BK206.out⟩, ⟨by repeat (first | (with_reducible first | exact HI203.out | apply IsS26.alloc | apply IsS26.drewN | apply IsS26.drew | apply IsS26.set_0 | apply IsS26.set_1 | apply IsS26.set_2 | refine IsS26.far ?_ NB203_204.out _ | refine IsS26.far ?_ NB203_206.out _) | exact HI203.out)⟩, ⟨by repeat (first | (with_reducible first | exact HB.out | apply below_alloc | apply pw_below_drewN | apply below_drew1 | refine below_set ?_ (IsS26.ge HI203.out) | refine below_set ?_ GE204.out | refine below_set ?_ GE206.out) | exact HB.out)⟩⟩
             ·replace c41 := Bool.eq_false_iff.mpr c41
              subst c41
              have H1 : (if ((rd_T30 l0 x20_1).f0) = 4 then ((lock_Lock_Fail.f x204000_1 x204001_1 x204002_1 ((rd_T30 l0 x20_1).f1)).bind fun bt226 => ((greenscreenref21_Fail.f x205000_1 x205001_1 x205002_1 ((rd_T30 l0 x20_1).f1)).bind fun bt230 => (if bt226.1 = bt230.2.2.2 then (greenscreenlaw21_LockPlays.j3 kj38 l0 (l0.length : Int) x20_1 bt226.2.1 bt226.2.2.1 bt226.2.2.2 bt230.1 bt230.2.1 bt230.2.2.1) else (some false)))) else (if ((rd_T30 l0 x20_1).f0) = 5 then ((lock_Lock_Reset.f x204000_1 x204001_1 x204002_1).bind fun bt235 => (if (bt235.1 != (x205000_1 == 3)) = true then (some false) else (if x205000_1 = 3 then ((greenscreenref21_Turn.f x205000_1 x205001_1 x205002_1 1 0).bind fun bt239 => (greenscreenlaw21_LockPlays.j3 kj38 l0 (l0.length : Int) x20_1 bt235.2.1 bt235.2.2.1 bt235.2.2.2 bt239.1 bt239.2.1 bt239.2.2)) else (greenscreenlaw21_LockPlays.j3 kj38 l0 (l0.length : Int) x20_1 bt235.2.1 bt235.2.2.1 bt235.2.2.2 x205000_1 x205001_1 x205002_1)))) else (if ((rd_T30 l0 x20_1).f0) = 6 then ((lock_Lock_Restore.f x204000_1 x204001_1 x204002_1).bind fun bt242 => (if (bt242.1 != (decide (x205000_1 ≥ 2))) = true then (some false) else (if x205000_1 ≥ 2 then ((greenscreenref21_Turn.f x205000_1 x205001_1 x205002_1 1 0).bind fun bt246 => (greenscreenlaw21_LockPlays.j3 kj38 l0 (l0.length : Int) x20_1 bt242.2.1 bt242.2.2.1 bt242.2.2.2 bt246.1 bt246.2.1 bt246.2.2)) else (greenscreenlaw21_LockPlays.j3 kj38 l0 (l0.length : Int) x20_1 bt242.2.1 bt242.2.2.1 bt242.2.2.2 x205000_1 x205001_1 x205002_1)))) else (greenscreenlaw21_LockPlays.j3 kj38 l0 (l0.length : Int) x20_1 x204000_1 x204001_1 x204002_1 x205000_1 x205001_1 x205002_1)))) = some r := by rw [if_neg (show ¬ (false = true) by decide)] at H; exact H
              clear H
              have H := H1
              clear H1
              by_cases c55 : ((rd_T30 l0 x20_1).f0) = 4
              ·rw [if_pos c55] at H
               have c55b0 : (((rd_T30 l0 x20_1).f0) == 4) = true := beq_iff_eq.mpr c55
               have c55b1 : (((rd_T30 l0 x20_1).f0) != 4) = false := bne_eq_false_iff_eq.mpr c55
               clear c55
               replace H := Option.bind_eq_some_iff.mp H
               obtain ⟨⟨t226, t227, t228, t229⟩, A560, H⟩ := H
               replace H : ((greenscreenref21_Fail.f x205000_1 x205001_1 x205002_1 ((rd_T30 l0 x20_1).f1)).bind fun bt230 => (if t226 = bt230.2.2.2 then (greenscreenlaw21_LockPlays.j3 kj38 l0 (l0.length : Int) x20_1 t227 t228 t229 bt230.1 bt230.2.1 bt230.2.2.1) else (some false))) = some r := H
               have A56 := Aside0.mk A560
               clear A560
               replace H := Option.bind_eq_some_iff.mp H
               obtain ⟨⟨t230, t231, t232, t233⟩, A570, H⟩ := H
               replace H : (if t226 = t233 then (greenscreenlaw21_LockPlays.j3 kj38 l0 (l0.length : Int) x20_1 t227 t228 t229 t230 t231 t232) else (some false)) = some r := H
               have A57 := Aside0.mk A570
               clear A570
               by_cases c58 : t226 = t233
               ·rw [if_pos c58] at H
                have c58b0 : (t226 == t233) = true := beq_iff_eq.mpr c58
                have c58b1 : (t226 != t233) = false := bne_eq_false_iff_eq.mpr c58
                clear c58
                have H' := Aside0.mk H
                clear H
                have hnb59 := NB206_204.out
                have hnc59 := NB204_206.out
                have hnb60 := NB206_203.out
                have hnc60 := NB203_206.out
                have hcz61_0 : wc.cell? ⟨gb206, 0, none⟩ = some (.int .i64 ((rd_T30 l0 x20_1).f0)) := (blk_cell BK206.out 0).trans rfl
                have hcz61_1 : wc.cell? ⟨gb206, 1, none⟩ = some (.int .i64 ((rd_T30 l0 x20_1).f1)) := (blk_cell BK206.out 1).trans rfl
                have hfz61_0 := blk_frozen BK206.out 0
                have hfz61_1 := blk_frozen BK206.out 1
                go_wp2_with (first | ((with_reducible refine gate_callee (f := 11) rfl ?_); refine goesL_ (some 63) rfl rfl Try.func11 (by kernel_rfl) rfl #[.pointer (some ⟨gb203, 0, none⟩), .int .i64 ((rd_T30 l0 x20_1).f1)] rfl (by (try simp only [List.map_toArray, List.map_cons, List.map_nil]); first | done | rfl | (simp only [List.length_drop, List.length_take]; rfl)) ?_; (with_reducible refine (lock_Lock_Fail.calls gb203 x204000_1 x204001_1 x204002_1 ((rd_T30 l0 x20_1).f1) t226 t227 t228 t229 w _ ?side1 ?side2 A56.out).mono ?_); (case side1 => repeat (first | (with_reducible first | exact HI203.out | apply IsS26.alloc | apply IsS26.drewN | apply IsS26.drew | apply IsS26.set_0 | apply IsS26.set_1 | apply IsS26.set_2 | refine IsS26.far ?_ NB203_204.out _ | refine IsS26.far ?_ NB203_206.out _) | exact HI203.out)); (case side2 => repeat (first | (with_reducible first | exact HB.out | apply below_alloc | apply pw_below_drewN | apply below_drew1 | refine below_set ?_ (IsS26.ge HI203.out) | refine below_set ?_ GE204.out | refine below_set ?_ GE206.out) | exact HB.out)); rintro e w62 ⟨rfl, hi, hb, hk⟩; refine ⟨_, rfl, ?_⟩; have n0_ := Aside0.mk (KeepBut.blk hk (g' := gb204) (o := .cells #[.int .i64 x205000_1, .int .i64 x205001_1, .int .i64 x205002_1] 28 (0, 0)) (by (with_reducible repeat (first | refine blk_drewN ?_ _ | refine blk_drew ?_ | refine blk_alloc ?_ _)); exact BK204.out) NB204_203.out (by simp)); have n1_ := Aside0.mk (KeepBut.blk hk (g' := gb206) (o := .cells #[.int .i64 ((rd_T30 l0 x20_1).f0), .int .i64 ((rd_T30 l0 x20_1).f1)] 30 (0, 0)) (by (with_reducible repeat (first | refine blk_drewN ?_ _ | refine blk_drew ?_ | refine blk_alloc ?_ _)); exact BK206.out) NB206_203.out (by simp)); have n2_ := Aside0.mk (hb); have n3_ := Aside0.mk (hi); clear BK204; clear BK206; clear HB; clear HI203; have BK204 := n0_; have BK206 := n1_; have HB := n2_; have HI203 := n3_; clear n0_ n1_ n2_ n3_; (try clear hb); (try clear hb2); (try clear hk); (try clear hi); have hnb63 := NB204_203.out; have hnc63 := NB203_204.out; have hcz64_0 : w62.cell? ⟨gb204, 0, none⟩ = some (.int .i64 x205000_1) := (blk_cell BK204.out 0).trans rfl; have hcz64_1 : w62.cell? ⟨gb204, 1, none⟩ = some (.int .i64 x205001_1) := (blk_cell BK204.out 1).trans rfl; have hcz64_2 : w62.cell? ⟨gb204, 2, none⟩ = some (.int .i64 x205002_1) := (blk_cell BK204.out 2).trans rfl; have hfz64_0 := blk_frozen BK204.out 0; have hfz64_1 := blk_frozen BK204.out 1; have hfz64_2 := blk_frozen BK204.out 2; have hcz65_0 : w62.cell? ⟨gb206, 0, none⟩ = some (.int .i64 ((rd_T30 l0 x20_1).f0)) := (blk_cell BK206.out 0).trans rfl; have hcz65_1 : w62.cell? ⟨gb206, 1, none⟩ = some (.int .i64 ((rd_T30 l0 x20_1).f1)) := (blk_cell BK206.out 1).trans rfl; have hfz65_0 := blk_frozen BK206.out 0; have hfz65_1 := blk_frozen BK206.out 1) | ((with_reducible refine gate_callee (f := 12) rfl ?_); refine goesL_ (some 68) rfl rfl Try.func12 (by kernel_rfl) rfl #[.agg #[.int .i64 x205000_1, .int .i64 x205001_1, .int .i64 x205002_1], .int .i64 ((rd_T30 l0 x20_1).f1)] rfl (by (try simp only [List.map_toArray, List.map_cons, List.map_nil]); first | done | rfl | (simp only [List.length_drop, List.length_take]; rfl)) ?_; (with_reducible refine (greenscreenref21_Fail.calls x205000_1 x205001_1 x205002_1 ((rd_T30 l0 x20_1).f1) t230 t231 t232 t233 _ A57.out).mono ?_); rintro e w66 ⟨rfl, hb⟩; refine ⟨_, rfl, ?_⟩; have n0_ := Aside0.mk (blk_below (g := gb204) (o := .cells #[.int .i64 x205000_1, .int .i64 x205001_1, .int .i64 x205002_1] 28 (0, 0)) (by (with_reducible repeat (first | refine blk_drewN ?_ _ | refine blk_drew ?_ | refine blk_alloc ?_ _)); exact BK204.out) hb); have n1_ := Aside0.mk (blk_below (g := gb206) (o := .cells #[.int .i64 ((rd_T30 l0 x20_1).f0), .int .i64 ((rd_T30 l0 x20_1).f1)] 30 (0, 0)) (by (with_reducible repeat (first | refine blk_drewN ?_ _ | refine blk_drew ?_ | refine blk_alloc ?_ _)); exact BK206.out) hb); have n2_ := Aside0.mk (IsS26.below (by repeat (first | (with_reducible first | exact HI203.out | apply IsS26.alloc | apply IsS26.drewN | apply IsS26.drew | apply IsS26.set_0 | apply IsS26.set_1 | apply IsS26.set_2 | refine IsS26.far ?_ NB203_204.out _ | refine IsS26.far ?_ NB203_206.out _) | exact HI203.out)) hb); have n3_ := Aside0.mk (below_step (by repeat (first | (with_reducible first | exact HB.out | apply below_alloc | apply pw_below_drewN | apply below_drew1 | refine below_set ?_ (IsS26.ge HI203.out) | refine below_set ?_ GE204.out | refine below_set ?_ GE206.out) | exact HB.out)) hb); clear BK204; clear BK206; clear HI203; clear HB; have BK204 := n0_; have BK206 := n1_; have HI203 := n2_; have HB := n3_; clear n0_ n1_ n2_ n3_; (try clear hb); (try clear hb2); (try clear hk); (try clear hi)) | ((with_reducible refine gate_dst (N := 10) rfl ?_); refine box_event ?hg (N := 10) ?hd (cs := #[.int .i64 0, .int .i64 0, .int .i64 0]) (t := 28) ?hr ?_; (case hd => rfl); (case hg => rfl); (case hr => first | (go_simp; done) | (go_simp; rfl)); intro gb234 hg w67 hbox hb; have n0_ := Aside0.mk (blk_below (g := gb204) (o := .cells #[.int .i64 x205000_1, .int .i64 x205001_1, .int .i64 x205002_1] 28 (0, 0)) (by (with_reducible repeat (first | refine blk_drewN ?_ _ | refine blk_drew ?_ | refine blk_alloc ?_ _)); exact BK204.out) hb); have n1_ := Aside0.mk (blk_below (g := gb206) (o := .cells #[.int .i64 ((rd_T30 l0 x20_1).f0), .int .i64 ((rd_T30 l0 x20_1).f1)] 30 (0, 0)) (by (with_reducible repeat (first | refine blk_drewN ?_ _ | refine blk_drew ?_ | refine blk_alloc ?_ _)); exact BK206.out) hb); have n2_ := Aside0.mk (IsS26.below (by repeat (first | (with_reducible first | exact HI203.out | apply IsS26.alloc | apply IsS26.drewN | apply IsS26.drew | apply IsS26.set_0 | apply IsS26.set_1 | apply IsS26.set_2 | refine IsS26.far ?_ NB203_204.out _ | refine IsS26.far ?_ NB203_206.out _) | exact HI203.out)) hb); have n3_ := Aside0.mk (below_step (by repeat (first | (with_reducible first | exact HB.out | apply below_alloc | apply pw_below_drewN | apply below_drew1 | refine below_set ?_ (IsS26.ge HI203.out) | refine below_set ?_ GE204.out | refine below_set ?_ GE206.out) | exact HB.out)) hb); have n4_ := Aside0.mk (hbox); have n5_ := Aside0.mk ((by rw [hg]; exact (below_size (by repeat (first | (with_reducible first | exact HB.out | apply below_alloc | apply pw_below_drewN | apply below_drew1 | refine below_set ?_ (IsS26.ge HI203.out) | refine below_set ?_ GE204.out | refine below_set ?_ GE206.out) | exact HB.out))) : w.heap.size ≤ gb234)); have n6_ := Aside0.mk ((by rw [hg]; exact (below_size (by repeat (first | (with_reducible first | exact HB.out | apply below_alloc | apply pw_below_drewN | apply below_drew1 | refine below_set ?_ (IsS26.ge HI203.out) | refine below_set ?_ GE204.out | refine below_set ?_ GE206.out) | exact HB.out))) : w.heap.size ≤ gb234)); have n7_ := Aside0.mk ((by rw [hg]; exact Nat.ne_of_lt (blk_lt (g := gb204) (o := .cells #[.int .i64 x205000_1, .int .i64 x205001_1, .int .i64 x205002_1] 28 (0, 0)) (by (with_reducible repeat (first | refine blk_drewN ?_ _ | refine blk_drew ?_ | refine blk_alloc ?_ _)); exact BK204.out)) : gb204 ≠ gb234)); have n8_ := Aside0.mk ((by rw [hg]; exact Nat.ne_of_gt (blk_lt (g := gb204) (o := .cells #[.int .i64 x205000_1, .int .i64 x205001_1, .int .i64 x205002_1] 28 (0, 0)) (by (with_reducible repeat (first | refine blk_drewN ?_ _ | refine blk_drew ?_ | refine blk_alloc ?_ _)); exact BK204.out)) : gb234 ≠ gb204)); have n9_ := Aside0.mk ((by rw [hg]; exact Nat.ne_of_lt (blk_lt (g := gb206) (o := .cells #[.int .i64 ((rd_T30 l0 x20_1).f0), .int .i64 ((rd_T30 l0 x20_1).f1)] 30 (0, 0)) (by (with_reducible repeat (first | refine blk_drewN ?_ _ | refine blk_drew ?_ | refine blk_alloc ?_ _)); exact BK206.out)) : gb206 ≠ gb234)); have n10_ := Aside0.mk ((by rw [hg]; exact Nat.ne_of_gt (blk_lt (g := gb206) (o := .cells #[.int .i64 ((rd_T30 l0 x20_1).f0), .int .i64 ((rd_T30 l0 x20_1).f1)] 30 (0, 0)) (by (with_reducible repeat (first | refine blk_drewN ?_ _ | refine blk_drew ?_ | refine blk_alloc ?_ _)); exact BK206.out)) : gb234 ≠ gb206)); have n11_ := Aside0.mk ((by rw [hg]; exact Nat.ne_of_lt (IsS26.lt (show IsS26 w _ gb203 t227 t228 t229 from by repeat (first | (with_reducible first | exact HI203.out | apply IsS26.alloc | apply IsS26.drewN | apply IsS26.drew | apply IsS26.set_0 | apply IsS26.set_1 | apply IsS26.set_2 | refine IsS26.far ?_ NB203_204.out _ | refine IsS26.far ?_ NB203_206.out _) | exact HI203.out))) : gb203 ≠ gb234)); have n12_ := Aside0.mk ((by rw [hg]; exact Nat.ne_of_gt (IsS26.lt (show IsS26 w _ gb203 t227 t228 t229 from by repeat (first | (with_reducible first | exact HI203.out | apply IsS26.alloc | apply IsS26.drewN | apply IsS26.drew | apply IsS26.set_0 | apply IsS26.set_1 | apply IsS26.set_2 | refine IsS26.far ?_ NB203_204.out _ | refine IsS26.far ?_ NB203_206.out _) | exact HI203.out))) : gb234 ≠ gb203)); clear BK204; clear BK206; clear HI203; clear HB; have BK204 := n0_; have BK206 := n1_; have HI203 := n2_; have HB := n3_; have BK234 := n4_; have GW234 := n5_; have GE234 := n6_; have NB204_234 := n7_; have NB234_204 := n8_; have NB206_234 := n9_; have NB234_206 := n10_; have NB203_234 := n11_; have NB234_203 := n12_; clear n0_ n1_ n2_ n3_ n4_ n5_ n6_ n7_ n8_ n9_ n10_ n11_ n12_; clear hb hbox hg; have hnb68 := NB234_204.out; have hnc68 := NB204_234.out; have hnb69 := NB234_206.out; have hnc69 := NB206_234.out; have hnb70 := NB234_203.out; have hnc70 := NB203_234.out; have hcz71_0 : w67.cell? ⟨gb234, 0, none⟩ = some (.int .i64 0) := (blk_cell BK234.out 0).trans rfl; have hcz71_1 : w67.cell? ⟨gb234, 1, none⟩ = some (.int .i64 0) := (blk_cell BK234.out 1).trans rfl; have hcz71_2 : w67.cell? ⟨gb234, 2, none⟩ = some (.int .i64 0) := (blk_cell BK234.out 2).trans rfl; have hfz71_0 := blk_frozen BK234.out 0; have hfz71_1 := blk_frozen BK234.out 1; have hfz71_2 := blk_frozen BK234.out 2; have hcz72_0 : w67.cell? ⟨gb204, 0, none⟩ = some (.int .i64 x205000_1) := (blk_cell BK204.out 0).trans rfl; have hcz72_1 : w67.cell? ⟨gb204, 1, none⟩ = some (.int .i64 x205001_1) := (blk_cell BK204.out 1).trans rfl; have hcz72_2 : w67.cell? ⟨gb204, 2, none⟩ = some (.int .i64 x205002_1) := (blk_cell BK204.out 2).trans rfl; have hfz72_0 := blk_frozen BK204.out 0; have hfz72_1 := blk_frozen BK204.out 1; have hfz72_2 := blk_frozen BK204.out 2))
                go_meet
                case rel => exact ⟨_, (t227), (t228), (t229), (t230), (t231), (t232), H', ⟨by have := HK1.out; have := HJ38.out; first | omega | exact Nat.le_refl _⟩, ⟨by (with_reducible repeat (first | refine blk_drewN ?_ _ | refine blk_drew ?_ | refine blk_alloc ?_ _)); refine blk_put (cs := #[.int .i64 t230, .int .i64 t231, .int .i64 x205002_1]) ?_ 2 _ rfl; (with_reducible repeat (first | refine blk_drewN ?_ _ | refine blk_drew ?_ | refine blk_alloc ?_ _)); refine blk_put (cs := #[.int .i64 t230, .int .i64 x205001_1, .int .i64 x205002_1]) ?_ 1 _ rfl; (with_reducible repeat (first | refine blk_drewN ?_ _ | refine blk_drew ?_ | refine blk_alloc ?_ _)); refine blk_put (cs := #[.int .i64 x205000_1, .int .i64 x205001_1, .int .i64 x205002_1]) ?_ 0 _ rfl; (with_reducible repeat (first | refine blk_drewN ?_ _ | refine blk_drew ?_ | refine blk_alloc ?_ _)); refine blk_far ?_ NB204_234.out _; (with_reducible repeat (first | refine blk_drewN ?_ _ | refine blk_drew ?_ | refine blk_alloc ?_ _)); refine blk_far ?_ NB204_234.out _; (with_reducible repeat (first | refine blk_drewN ?_ _ | refine blk_drew ?_ | refine blk_alloc ?_ _)); refine blk_far ?_ NB204_234.out _; (with_reducible repeat (first | refine blk_drewN ?_ _ | refine blk_drew ?_ | refine blk_alloc ?_ _)); exact BK204.out⟩, ⟨by (with_reducible repeat (first | refine blk_drewN ?_ _ | refine blk_drew ?_ | refine blk_alloc ?_ _)); refine blk_far ?_ NB206_204.out _; (with_reducible repeat (first | refine blk_drewN ?_ _ | refine blk_drew ?_ | refine blk_alloc ?_ _)); refine blk_far ?_ NB206_204.out _; (with_reducible repeat (first | refine blk_drewN ?_ _ | refine blk_drew ?_ | refine blk_alloc ?_ _)); refine blk_far ?_ NB206_204.out _; (with_reducible repeat (first | refine blk_drewN ?_ _ | refine blk_drew ?_ | refine blk_alloc ?_ _)); refine blk_far ?_ NB206_234.out _; (with_reducible repeat (first | refine blk_drewN ?_ _ | refine blk_drew ?_ | refine blk_alloc ?_ _)); refine blk_far ?_ NB206_234.out _; (with_reducible repeat (first | refine blk_drewN ?_ _ | refine blk_drew ?_ | refine blk_alloc ?_ _)); refine blk_far ?_ NB206_234.out _; (with_reducible repeat (first | refine blk_drewN ?_ _ | refine blk_drew ?_ | refine blk_alloc ?_ _)); exact BK206.out⟩, ⟨by repeat (first | (with_reducible first | exact HI203.out | apply IsS26.alloc | apply IsS26.drewN | apply IsS26.drew | apply IsS26.set_0 | apply IsS26.set_1 | apply IsS26.set_2 | refine IsS26.far ?_ NB203_204.out _ | refine IsS26.far ?_ NB203_206.out _ | refine IsS26.far ?_ NB203_234.out _) | exact HI203.out)⟩, ⟨by repeat (first | (with_reducible first | exact HB.out | apply below_alloc | apply pw_below_drewN | apply below_drew1 | refine below_set ?_ (IsS26.ge HI203.out) | refine below_set ?_ GE204.out | refine below_set ?_ GE206.out | refine below_set ?_ GE234.out) | exact HB.out)⟩⟩
               ·rw [if_neg c58] at H
                have c58b0 : (t226 == t233) = false := beq_eq_false_iff_ne.mpr c58
                have c58b1 : (t226 != t233) = true := bne_iff_ne.mpr c58
                obtain rfl := Option.some.inj H
                have hnb73 := NB206_204.out
                have hnc73 := NB204_206.out
                have hnb74 := NB206_203.out
                have hnc74 := NB203_206.out
                have hcz75_0 : wc.cell? ⟨gb206, 0, none⟩ = some (.int .i64 ((rd_T30 l0 x20_1).f0)) := (blk_cell BK206.out 0).trans rfl
                have hcz75_1 : wc.cell? ⟨gb206, 1, none⟩ = some (.int .i64 ((rd_T30 l0 x20_1).f1)) := (blk_cell BK206.out 1).trans rfl
                have hfz75_0 := blk_frozen BK206.out 0
                have hfz75_1 := blk_frozen BK206.out 1
                go_wp2_with (first | ((with_reducible refine gate_callee (f := 11) rfl ?_); refine goesL_ (some 63) rfl rfl Try.func11 (by kernel_rfl) rfl #[.pointer (some ⟨gb203, 0, none⟩), .int .i64 ((rd_T30 l0 x20_1).f1)] rfl (by (try simp only [List.map_toArray, List.map_cons, List.map_nil]); first | done | rfl | (simp only [List.length_drop, List.length_take]; rfl)) ?_; (with_reducible refine (lock_Lock_Fail.calls gb203 x204000_1 x204001_1 x204002_1 ((rd_T30 l0 x20_1).f1) t226 t227 t228 t229 w _ ?side1 ?side2 A56.out).mono ?_); (case side1 => repeat (first | (with_reducible first | exact HI203.out | apply IsS26.alloc | apply IsS26.drewN | apply IsS26.drew | apply IsS26.set_0 | apply IsS26.set_1 | apply IsS26.set_2 | refine IsS26.far ?_ NB203_204.out _ | refine IsS26.far ?_ NB203_206.out _) | exact HI203.out)); (case side2 => repeat (first | (with_reducible first | exact HB.out | apply below_alloc | apply pw_below_drewN | apply below_drew1 | refine below_set ?_ (IsS26.ge HI203.out) | refine below_set ?_ GE204.out | refine below_set ?_ GE206.out) | exact HB.out)); rintro e w76 ⟨rfl, hi, hb, hk⟩; refine ⟨_, rfl, ?_⟩; have n0_ := Aside0.mk (KeepBut.blk hk (g' := gb204) (o := .cells #[.int .i64 x205000_1, .int .i64 x205001_1, .int .i64 x205002_1] 28 (0, 0)) (by (with_reducible repeat (first | refine blk_drewN ?_ _ | refine blk_drew ?_ | refine blk_alloc ?_ _)); exact BK204.out) NB204_203.out (by simp)); have n1_ := Aside0.mk (KeepBut.blk hk (g' := gb206) (o := .cells #[.int .i64 ((rd_T30 l0 x20_1).f0), .int .i64 ((rd_T30 l0 x20_1).f1)] 30 (0, 0)) (by (with_reducible repeat (first | refine blk_drewN ?_ _ | refine blk_drew ?_ | refine blk_alloc ?_ _)); exact BK206.out) NB206_203.out (by simp)); have n2_ := Aside0.mk (hb); have n3_ := Aside0.mk (hi); clear BK204; clear BK206; clear HB; clear HI203; have BK204 := n0_; have BK206 := n1_; have HB := n2_; have HI203 := n3_; clear n0_ n1_ n2_ n3_; (try clear hb); (try clear hb2); (try clear hk); (try clear hi); have hnb77 := NB204_203.out; have hnc77 := NB203_204.out; have hcz78_0 : w76.cell? ⟨gb204, 0, none⟩ = some (.int .i64 x205000_1) := (blk_cell BK204.out 0).trans rfl; have hcz78_1 : w76.cell? ⟨gb204, 1, none⟩ = some (.int .i64 x205001_1) := (blk_cell BK204.out 1).trans rfl; have hcz78_2 : w76.cell? ⟨gb204, 2, none⟩ = some (.int .i64 x205002_1) := (blk_cell BK204.out 2).trans rfl; have hfz78_0 := blk_frozen BK204.out 0; have hfz78_1 := blk_frozen BK204.out 1; have hfz78_2 := blk_frozen BK204.out 2; have hcz79_0 : w76.cell? ⟨gb206, 0, none⟩ = some (.int .i64 ((rd_T30 l0 x20_1).f0)) := (blk_cell BK206.out 0).trans rfl; have hcz79_1 : w76.cell? ⟨gb206, 1, none⟩ = some (.int .i64 ((rd_T30 l0 x20_1).f1)) := (blk_cell BK206.out 1).trans rfl; have hfz79_0 := blk_frozen BK206.out 0; have hfz79_1 := blk_frozen BK206.out 1) | ((with_reducible refine gate_callee (f := 12) rfl ?_); refine goesL_ (some 68) rfl rfl Try.func12 (by kernel_rfl) rfl #[.agg #[.int .i64 x205000_1, .int .i64 x205001_1, .int .i64 x205002_1], .int .i64 ((rd_T30 l0 x20_1).f1)] rfl (by (try simp only [List.map_toArray, List.map_cons, List.map_nil]); first | done | rfl | (simp only [List.length_drop, List.length_take]; rfl)) ?_; (with_reducible refine (greenscreenref21_Fail.calls x205000_1 x205001_1 x205002_1 ((rd_T30 l0 x20_1).f1) t230 t231 t232 t233 _ A57.out).mono ?_); rintro e w80 ⟨rfl, hb⟩; refine ⟨_, rfl, ?_⟩; have n0_ := Aside0.mk (blk_below (g := gb204) (o := .cells #[.int .i64 x205000_1, .int .i64 x205001_1, .int .i64 x205002_1] 28 (0, 0)) (by (with_reducible repeat (first | refine blk_drewN ?_ _ | refine blk_drew ?_ | refine blk_alloc ?_ _)); exact BK204.out) hb); have n1_ := Aside0.mk (blk_below (g := gb206) (o := .cells #[.int .i64 ((rd_T30 l0 x20_1).f0), .int .i64 ((rd_T30 l0 x20_1).f1)] 30 (0, 0)) (by (with_reducible repeat (first | refine blk_drewN ?_ _ | refine blk_drew ?_ | refine blk_alloc ?_ _)); exact BK206.out) hb); have n2_ := Aside0.mk (IsS26.below (by repeat (first | (with_reducible first | exact HI203.out | apply IsS26.alloc | apply IsS26.drewN | apply IsS26.drew | apply IsS26.set_0 | apply IsS26.set_1 | apply IsS26.set_2 | refine IsS26.far ?_ NB203_204.out _ | refine IsS26.far ?_ NB203_206.out _) | exact HI203.out)) hb); have n3_ := Aside0.mk (below_step (by repeat (first | (with_reducible first | exact HB.out | apply below_alloc | apply pw_below_drewN | apply below_drew1 | refine below_set ?_ (IsS26.ge HI203.out) | refine below_set ?_ GE204.out | refine below_set ?_ GE206.out) | exact HB.out)) hb); clear BK204; clear BK206; clear HI203; clear HB; have BK204 := n0_; have BK206 := n1_; have HI203 := n2_; have HB := n3_; clear n0_ n1_ n2_ n3_; (try clear hb); (try clear hb2); (try clear hk); (try clear hi)) | ((with_reducible refine gate_dst (N := 10) rfl ?_); refine box_event ?hg (N := 10) ?hd (cs := #[.int .i64 0, .int .i64 0, .int .i64 0]) (t := 28) ?hr ?_; (case hd => rfl); (case hg => rfl); (case hr => first | (go_simp; done) | (go_simp; rfl)); intro gb234 hg w81 hbox hb; have n0_ := Aside0.mk (blk_below (g := gb204) (o := .cells #[.int .i64 x205000_1, .int .i64 x205001_1, .int .i64 x205002_1] 28 (0, 0)) (by (with_reducible repeat (first | refine blk_drewN ?_ _ | refine blk_drew ?_ | refine blk_alloc ?_ _)); exact BK204.out) hb); have n1_ := Aside0.mk (blk_below (g := gb206) (o := .cells #[.int .i64 ((rd_T30 l0 x20_1).f0), .int .i64 ((rd_T30 l0 x20_1).f1)] 30 (0, 0)) (by (with_reducible repeat (first | refine blk_drewN ?_ _ | refine blk_drew ?_ | refine blk_alloc ?_ _)); exact BK206.out) hb); have n2_ := Aside0.mk (IsS26.below (by repeat (first | (with_reducible first | exact HI203.out | apply IsS26.alloc | apply IsS26.drewN | apply IsS26.drew | apply IsS26.set_0 | apply IsS26.set_1 | apply IsS26.set_2 | refine IsS26.far ?_ NB203_204.out _ | refine IsS26.far ?_ NB203_206.out _) | exact HI203.out)) hb); have n3_ := Aside0.mk (below_step (by repeat (first | (with_reducible first | exact HB.out | apply below_alloc | apply pw_below_drewN | apply below_drew1 | refine below_set ?_ (IsS26.ge HI203.out) | refine below_set ?_ GE204.out | refine below_set ?_ GE206.out) | exact HB.out)) hb); have n4_ := Aside0.mk (hbox); have n5_ := Aside0.mk ((by rw [hg]; exact (below_size (by repeat (first | (with_reducible first | exact HB.out | apply below_alloc | apply pw_below_drewN | apply below_drew1 | refine below_set ?_ (IsS26.ge HI203.out) | refine below_set ?_ GE204.out | refine below_set ?_ GE206.out) | exact HB.out))) : w.heap.size ≤ gb234)); have n6_ := Aside0.mk ((by rw [hg]; exact (below_size (by repeat (first | (with_reducible first | exact HB.out | apply below_alloc | apply pw_below_drewN | apply below_drew1 | refine below_set ?_ (IsS26.ge HI203.out) | refine below_set ?_ GE204.out | refine below_set ?_ GE206.out) | exact HB.out))) : w.heap.size ≤ gb234)); have n7_ := Aside0.mk ((by rw [hg]; exact Nat.ne_of_lt (blk_lt (g := gb204) (o := .cells #[.int .i64 x205000_1, .int .i64 x205001_1, .int .i64 x205002_1] 28 (0, 0)) (by (with_reducible repeat (first | refine blk_drewN ?_ _ | refine blk_drew ?_ | refine blk_alloc ?_ _)); exact BK204.out)) : gb204 ≠ gb234)); have n8_ := Aside0.mk ((by rw [hg]; exact Nat.ne_of_gt (blk_lt (g := gb204) (o := .cells #[.int .i64 x205000_1, .int .i64 x205001_1, .int .i64 x205002_1] 28 (0, 0)) (by (with_reducible repeat (first | refine blk_drewN ?_ _ | refine blk_drew ?_ | refine blk_alloc ?_ _)); exact BK204.out)) : gb234 ≠ gb204)); have n9_ := Aside0.mk ((by rw [hg]; exact Nat.ne_of_lt (blk_lt (g := gb206) (o := .cells #[.int .i64 ((rd_T30 l0 x20_1).f0), .int .i64 ((rd_T30 l0 x20_1).f1)] 30 (0, 0)) (by (with_reducible repeat (first | refine blk_drewN ?_ _ | refine blk_drew ?_ | refine blk_alloc ?_ _)); exact BK206.out)) : gb206 ≠ gb234)); have n10_ := Aside0.mk ((by rw [hg]; exact Nat.ne_of_gt (blk_lt (g := gb206) (o := .cells #[.int .i64 ((rd_T30 l0 x20_1).f0), .int .i64 ((rd_T30 l0 x20_1).f1)] 30 (0, 0)) (by (with_reducible repeat (first | refine blk_drewN ?_ _ | refine blk_drew ?_ | refine blk_alloc ?_ _)); exact BK206.out)) : gb234 ≠ gb206)); have n11_ := Aside0.mk ((by rw [hg]; exact Nat.ne_of_lt (IsS26.lt (show IsS26 w _ gb203 t227 t228 t229 from by repeat (first | (with_reducible first | exact HI203.out | apply IsS26.alloc | apply IsS26.drewN | apply IsS26.drew | apply IsS26.set_0 | apply IsS26.set_1 | apply IsS26.set_2 | refine IsS26.far ?_ NB203_204.out _ | refine IsS26.far ?_ NB203_206.out _) | exact HI203.out))) : gb203 ≠ gb234)); have n12_ := Aside0.mk ((by rw [hg]; exact Nat.ne_of_gt (IsS26.lt (show IsS26 w _ gb203 t227 t228 t229 from by repeat (first | (with_reducible first | exact HI203.out | apply IsS26.alloc | apply IsS26.drewN | apply IsS26.drew | apply IsS26.set_0 | apply IsS26.set_1 | apply IsS26.set_2 | refine IsS26.far ?_ NB203_204.out _ | refine IsS26.far ?_ NB203_206.out _) | exact HI203.out))) : gb234 ≠ gb203)); clear BK204; clear BK206; clear HI203; clear HB; have BK204 := n0_; have BK206 := n1_; have HI203 := n2_; have HB := n3_; have BK234 := n4_; have GW234 := n5_; have GE234 := n6_; have NB204_234 := n7_; have NB234_204 := n8_; have NB206_234 := n9_; have NB234_206 := n10_; have NB203_234 := n11_; have NB234_203 := n12_; clear n0_ n1_ n2_ n3_ n4_ n5_ n6_ n7_ n8_ n9_ n10_ n11_ n12_; clear hb hbox hg; have hnb82 := NB234_204.out; have hnc82 := NB204_234.out; have hnb83 := NB234_206.out; have hnc83 := NB206_234.out; have hnb84 := NB234_203.out; have hnc84 := NB203_234.out; have hcz85_0 : w81.cell? ⟨gb234, 0, none⟩ = some (.int .i64 0) := (blk_cell BK234.out 0).trans rfl; have hcz85_1 : w81.cell? ⟨gb234, 1, none⟩ = some (.int .i64 0) := (blk_cell BK234.out 1).trans rfl; have hcz85_2 : w81.cell? ⟨gb234, 2, none⟩ = some (.int .i64 0) := (blk_cell BK234.out 2).trans rfl; have hfz85_0 := blk_frozen BK234.out 0; have hfz85_1 := blk_frozen BK234.out 1; have hfz85_2 := blk_frozen BK234.out 2; have hcz86_0 : w81.cell? ⟨gb204, 0, none⟩ = some (.int .i64 x205000_1) := (blk_cell BK204.out 0).trans rfl; have hcz86_1 : w81.cell? ⟨gb204, 1, none⟩ = some (.int .i64 x205001_1) := (blk_cell BK204.out 1).trans rfl; have hcz86_2 : w81.cell? ⟨gb204, 2, none⟩ = some (.int .i64 x205002_1) := (blk_cell BK204.out 2).trans rfl; have hfz86_0 := blk_frozen BK204.out 0; have hfz86_1 := blk_frozen BK204.out 1; have hfz86_2 := blk_frozen BK204.out 2))
                go_ret
                exact ⟨by first | rfl | (simp [errW_none, errW_some] <;> rfl) | (simp [*, errW_none, errW_some] <;> rfl), by repeat (first | (with_reducible first | exact HB.out | apply below_alloc | apply pw_below_drewN | apply below_drew1 | refine below_set ?_ (IsS26.ge HI203.out) | refine below_set ?_ GE204.out | refine below_set ?_ GE206.out | refine below_set ?_ GE234.out) | exact HB.out)⟩
              ·rw [if_neg c55] at H
               have c55b0 : (((rd_T30 l0 x20_1).f0) == 4) = false := beq_eq_false_iff_ne.mpr c55
               have c55b1 : (((rd_T30 l0 x20_1).f0) != 4) = true := bne_iff_ne.mpr c55
               by_cases c87 : ((rd_T30 l0 x20_1).f0) = 5
               ·rw [if_pos c87] at H
                have c87b0 : (((rd_T30 l0 x20_1).f0) == 5) = true := beq_iff_eq.mpr c87
                have c87b1 : (((rd_T30 l0 x20_1).f0) != 5) = false := bne_eq_false_iff_eq.mpr c87
                clear c87
                replace H := Option.bind_eq_some_iff.mp H
                obtain ⟨⟨t235, t236, t237, t238⟩, A880, H⟩ := H
                replace H : (if (t235 != (x205000_1 == 3)) = true then (some false) else (if x205000_1 = 3 then ((greenscreenref21_Turn.f x205000_1 x205001_1 x205002_1 1 0).bind fun bt239 => (greenscreenlaw21_LockPlays.j3 kj38 l0 (l0.length : Int) x20_1 t236 t237 t238 bt239.1 bt239.2.1 bt239.2.2)) else (greenscreenlaw21_LockPlays.j3 kj38 l0 (l0.length : Int) x20_1 t236 t237 t238 x205000_1 x205001_1 x205002_1))) = some r := H
                have A88 := Aside0.mk A880
                clear A880
                by_cases c89 : (t235 != (x205000_1 == 3)) = true
                ·rw [if_pos c89] at H
                 have c89b0 : (t235 != (x205000_1 == 3)) = true := c89
                 (try (have c89e0 : (t235 = (x205000_1 == 3)) = False := by (have he_ := c89b0; revert he_; cases (t235) <;> cases ((x205000_1 == 3)) <;> simp)))
                 (try (have c89e1 : (t235 == (x205000_1 == 3)) = false := by (have he_ := c89b0; revert he_; cases (t235) <;> cases ((x205000_1 == 3)) <;> simp)))
                 (try (have c89b1 : decide (t235 = (x205000_1 == 3)) = false := by simpa using c89))
                 (try (have c89b2 : (t235 == (x205000_1 == 3)) = false := by simpa using c89))
                 (try (have c89b3 : ¬ (t235 = (x205000_1 == 3)) := by simpa using c89))
                 clear c89
                 obtain rfl := Option.some.inj H
                 go_wp2_with (first | ((with_reducible refine gate_callee (f := 13) rfl ?_); refine goesL_ (some 77) rfl rfl Try.func13 (by kernel_rfl) rfl #[.pointer (some ⟨gb203, 0, none⟩)] rfl (by (try simp only [List.map_toArray, List.map_cons, List.map_nil]); first | done | rfl | (simp only [List.length_drop, List.length_take]; rfl)) ?_; (with_reducible refine (lock_Lock_Reset.calls gb203 x204000_1 x204001_1 x204002_1 t235 t236 t237 t238 w _ ?side1 ?side2 A88.out).mono ?_); (case side1 => repeat (first | (with_reducible first | exact HI203.out | apply IsS26.alloc | apply IsS26.drewN | apply IsS26.drew | apply IsS26.set_0 | apply IsS26.set_1 | apply IsS26.set_2 | refine IsS26.far ?_ NB203_204.out _ | refine IsS26.far ?_ NB203_206.out _) | exact HI203.out)); (case side2 => repeat (first | (with_reducible first | exact HB.out | apply below_alloc | apply pw_below_drewN | apply below_drew1 | refine below_set ?_ (IsS26.ge HI203.out) | refine below_set ?_ GE204.out | refine below_set ?_ GE206.out) | exact HB.out)); rintro e w90 ⟨rfl, hi, hb, hk⟩; refine ⟨_, rfl, ?_⟩; have n0_ := Aside0.mk (KeepBut.blk hk (g' := gb204) (o := .cells #[.int .i64 x205000_1, .int .i64 x205001_1, .int .i64 x205002_1] 28 (0, 0)) (by (with_reducible repeat (first | refine blk_drewN ?_ _ | refine blk_drew ?_ | refine blk_alloc ?_ _)); exact BK204.out) NB204_203.out (by simp)); have n1_ := Aside0.mk (KeepBut.blk hk (g' := gb206) (o := .cells #[.int .i64 ((rd_T30 l0 x20_1).f0), .int .i64 ((rd_T30 l0 x20_1).f1)] 30 (0, 0)) (by (with_reducible repeat (first | refine blk_drewN ?_ _ | refine blk_drew ?_ | refine blk_alloc ?_ _)); exact BK206.out) NB206_203.out (by simp)); have n2_ := Aside0.mk (hb); have n3_ := Aside0.mk (hi); clear BK204; clear BK206; clear HB; clear HI203; have BK204 := n0_; have BK206 := n1_; have HB := n2_; have HI203 := n3_; clear n0_ n1_ n2_ n3_; (try clear hb); (try clear hb2); (try clear hk); (try clear hi)))
                 go_ret
                 exact ⟨by first | rfl | (simp [errW_none, errW_some] <;> rfl) | (simp [*, errW_none, errW_some] <;> rfl), by repeat (first | (with_reducible first | exact HB.out | apply below_alloc | apply pw_below_drewN | apply below_drew1 | refine below_set ?_ (IsS26.ge HI203.out) | refine below_set ?_ GE204.out | refine below_set ?_ GE206.out) | exact HB.out)⟩
                ·rw [if_neg c89] at H
                 have c89b0 : (t235 != (x205000_1 == 3)) = false := by simpa using c89
                 (try (have c89e0 : (t235 = (x205000_1 == 3)) = True := by (have he_ := c89b0; revert he_; cases (t235) <;> cases ((x205000_1 == 3)) <;> simp)))
                 (try (have c89e1 : (t235 == (x205000_1 == 3)) = true := by (have he_ := c89b0; revert he_; cases (t235) <;> cases ((x205000_1 == 3)) <;> simp)))
                 (try (have c89b1 : decide (t235 = (x205000_1 == 3)) = true := by simpa using c89))
                 (try (have c89b2 : (t235 == (x205000_1 == 3)) = true := by simpa using c89))
                 clear c89
                 by_cases c91 : x205000_1 = 3
                 ·rw [if_pos c91] at H
                  have c91b0 : (x205000_1 == 3) = true := beq_iff_eq.mpr c91
                  (try (have c91xc89 : t235 = true := by (have he_ := c89b0; simp only [ge_iff_le, gt_iff_lt, c91b0] at he_; revert he_; cases t235 <;> simp)))
                  have c91b1 : (x205000_1 != 3) = false := bne_eq_false_iff_eq.mpr c91
                  clear c91
                  replace H := Option.bind_eq_some_iff.mp H
                  obtain ⟨⟨t239, t240, t241⟩, A920, H⟩ := H
                  replace H : (greenscreenlaw21_LockPlays.j3 kj38 l0 (l0.length : Int) x20_1 t236 t237 t238 t239 t240 t241) = some r := H
                  have A92 := Aside0.mk A920
                  clear A920
                  have H' := Aside0.mk H
                  clear H
                  go_wp2_with (first | ((with_reducible refine gate_callee (f := 13) rfl ?_); refine goesL_ (some 77) rfl rfl Try.func13 (by kernel_rfl) rfl #[.pointer (some ⟨gb203, 0, none⟩)] rfl (by (try simp only [List.map_toArray, List.map_cons, List.map_nil]); first | done | rfl | (simp only [List.length_drop, List.length_take]; rfl)) ?_; (with_reducible refine (lock_Lock_Reset.calls gb203 x204000_1 x204001_1 x204002_1 t235 t236 t237 t238 w _ ?side1 ?side2 A88.out).mono ?_); (case side1 => repeat (first | (with_reducible first | exact HI203.out | apply IsS26.alloc | apply IsS26.drewN | apply IsS26.drew | apply IsS26.set_0 | apply IsS26.set_1 | apply IsS26.set_2 | refine IsS26.far ?_ NB203_204.out _ | refine IsS26.far ?_ NB203_206.out _) | exact HI203.out)); (case side2 => repeat (first | (with_reducible first | exact HB.out | apply below_alloc | apply pw_below_drewN | apply below_drew1 | refine below_set ?_ (IsS26.ge HI203.out) | refine below_set ?_ GE204.out | refine below_set ?_ GE206.out) | exact HB.out)); rintro e w93 ⟨rfl, hi, hb, hk⟩; refine ⟨_, rfl, ?_⟩; have n0_ := Aside0.mk (KeepBut.blk hk (g' := gb204) (o := .cells #[.int .i64 x205000_1, .int .i64 x205001_1, .int .i64 x205002_1] 28 (0, 0)) (by (with_reducible repeat (first | refine blk_drewN ?_ _ | refine blk_drew ?_ | refine blk_alloc ?_ _)); exact BK204.out) NB204_203.out (by simp)); have n1_ := Aside0.mk (KeepBut.blk hk (g' := gb206) (o := .cells #[.int .i64 ((rd_T30 l0 x20_1).f0), .int .i64 ((rd_T30 l0 x20_1).f1)] 30 (0, 0)) (by (with_reducible repeat (first | refine blk_drewN ?_ _ | refine blk_drew ?_ | refine blk_alloc ?_ _)); exact BK206.out) NB206_203.out (by simp)); have n2_ := Aside0.mk (hb); have n3_ := Aside0.mk (hi); clear BK204; clear BK206; clear HB; clear HI203; have BK204 := n0_; have BK206 := n1_; have HB := n2_; have HI203 := n3_; clear n0_ n1_ n2_ n3_; (try clear hb); (try clear hb2); (try clear hk); (try clear hi); have hnb94 := NB204_206.out; have hnc94 := NB206_204.out; have hnb95 := NB204_203.out; have hnc95 := NB203_204.out; have hcz96_0 : w93.cell? ⟨gb204, 0, none⟩ = some (.int .i64 x205000_1) := (blk_cell BK204.out 0).trans rfl; have hcz96_1 : w93.cell? ⟨gb204, 1, none⟩ = some (.int .i64 x205001_1) := (blk_cell BK204.out 1).trans rfl; have hcz96_2 : w93.cell? ⟨gb204, 2, none⟩ = some (.int .i64 x205002_1) := (blk_cell BK204.out 2).trans rfl; have hfz96_0 := blk_frozen BK204.out 0; have hfz96_1 := blk_frozen BK204.out 1; have hfz96_2 := blk_frozen BK204.out 2) | ((with_reducible refine gate_callee (f := 8) rfl ?_); refine goesL_ (some 84) rfl rfl Try.func8 (by kernel_rfl) rfl #[.agg #[.int .i64 x205000_1, .int .i64 x205001_1, .int .i64 x205002_1], .int .i64 1, .int .i64 0] rfl (by (try simp only [List.map_toArray, List.map_cons, List.map_nil]); first | done | rfl | (simp only [List.length_drop, List.length_take]; rfl)) ?_; (with_reducible refine (greenscreenref21_Turn.calls x205000_1 x205001_1 x205002_1 1 0 t239 t240 t241 _ A92.out).mono ?_); rintro e w97 ⟨rfl, hb⟩; refine ⟨_, rfl, ?_⟩; have n0_ := Aside0.mk (blk_below (g := gb204) (o := .cells #[.int .i64 x205000_1, .int .i64 x205001_1, .int .i64 x205002_1] 28 (0, 0)) (by (with_reducible repeat (first | refine blk_drewN ?_ _ | refine blk_drew ?_ | refine blk_alloc ?_ _)); exact BK204.out) hb); have n1_ := Aside0.mk (blk_below (g := gb206) (o := .cells #[.int .i64 ((rd_T30 l0 x20_1).f0), .int .i64 ((rd_T30 l0 x20_1).f1)] 30 (0, 0)) (by (with_reducible repeat (first | refine blk_drewN ?_ _ | refine blk_drew ?_ | refine blk_alloc ?_ _)); exact BK206.out) hb); have n2_ := Aside0.mk (IsS26.below (by repeat (first | (with_reducible first | exact HI203.out | apply IsS26.alloc | apply IsS26.drewN | apply IsS26.drew | apply IsS26.set_0 | apply IsS26.set_1 | apply IsS26.set_2 | refine IsS26.far ?_ NB203_204.out _ | refine IsS26.far ?_ NB203_206.out _) | exact HI203.out)) hb); have n3_ := Aside0.mk (below_step (by repeat (first | (with_reducible first | exact HB.out | apply below_alloc | apply pw_below_drewN | apply below_drew1 | refine below_set ?_ (IsS26.ge HI203.out) | refine below_set ?_ GE204.out | refine below_set ?_ GE206.out) | exact HB.out)) hb); clear BK204; clear BK206; clear HI203; clear HB; have BK204 := n0_; have BK206 := n1_; have HI203 := n2_; have HB := n3_; clear n0_ n1_ n2_ n3_; (try clear hb); (try clear hb2); (try clear hk); (try clear hi); have hcz98_0 : w97.cell? ⟨gb204, 0, none⟩ = some (.int .i64 x205000_1) := (blk_cell BK204.out 0).trans rfl; have hcz98_1 : w97.cell? ⟨gb204, 1, none⟩ = some (.int .i64 x205001_1) := (blk_cell BK204.out 1).trans rfl; have hcz98_2 : w97.cell? ⟨gb204, 2, none⟩ = some (.int .i64 x205002_1) := (blk_cell BK204.out 2).trans rfl; have hfz98_0 := blk_frozen BK204.out 0; have hfz98_1 := blk_frozen BK204.out 1; have hfz98_2 := blk_frozen BK204.out 2))
                  go_meet
                  case rel => exact ⟨_, (t236), (t237), (t238), (t239), (t240), (t241), H', ⟨by have := HK1.out; have := HJ38.out; first | omega | exact Nat.le_refl _⟩, ⟨by (with_reducible repeat (first | refine blk_drewN ?_ _ | refine blk_drew ?_ | refine blk_alloc ?_ _)); refine blk_put (cs := #[.int .i64 t239, .int .i64 t240, .int .i64 x205002_1]) ?_ 2 _ rfl; (with_reducible repeat (first | refine blk_drewN ?_ _ | refine blk_drew ?_ | refine blk_alloc ?_ _)); refine blk_put (cs := #[.int .i64 t239, .int .i64 x205001_1, .int .i64 x205002_1]) ?_ 1 _ rfl; (with_reducible repeat (first | refine blk_drewN ?_ _ | refine blk_drew ?_ | refine blk_alloc ?_ _)); refine blk_put (cs := #[.int .i64 x205000_1, .int .i64 x205001_1, .int .i64 x205002_1]) ?_ 0 _ rfl; (with_reducible repeat (first | refine blk_drewN ?_ _ | refine blk_drew ?_ | refine blk_alloc ?_ _)); exact BK204.out⟩, ⟨by (with_reducible repeat (first | refine blk_drewN ?_ _ | refine blk_drew ?_ | refine blk_alloc ?_ _)); refine blk_far ?_ NB206_204.out _; (with_reducible repeat (first | refine blk_drewN ?_ _ | refine blk_drew ?_ | refine blk_alloc ?_ _)); refine blk_far ?_ NB206_204.out _; (with_reducible repeat (first | refine blk_drewN ?_ _ | refine blk_drew ?_ | refine blk_alloc ?_ _)); refine blk_far ?_ NB206_204.out _; (with_reducible repeat (first | refine blk_drewN ?_ _ | refine blk_drew ?_ | refine blk_alloc ?_ _)); exact BK206.out⟩, ⟨by repeat (first | (with_reducible first | exact HI203.out | apply IsS26.alloc | apply IsS26.drewN | apply IsS26.drew | apply IsS26.set_0 | apply IsS26.set_1 | apply IsS26.set_2 | refine IsS26.far ?_ NB203_204.out _ | refine IsS26.far ?_ NB203_206.out _) | exact HI203.out)⟩, ⟨by repeat (first | (with_reducible first | exact HB.out | apply below_alloc | apply pw_below_drewN | apply below_drew1 | refine below_set ?_ (IsS26.ge HI203.out) | refine below_set ?_ GE204.out | refine below_set ?_ GE206.out) | exact HB.out)⟩⟩
                 ·rw [if_neg c91] at H
                  have c91b0 : (x205000_1 == 3) = false := beq_eq_false_iff_ne.mpr c91
                  (try (have c91xc89 : t235 = false := by (have he_ := c89b0; simp only [ge_iff_le, gt_iff_lt, c91b0] at he_; revert he_; cases t235 <;> simp)))
                  have c91b1 : (x205000_1 != 3) = true := bne_iff_ne.mpr c91
                  have H' := Aside0.mk H
                  clear H
                  go_wp2_with (first | ((with_reducible refine gate_callee (f := 13) rfl ?_); refine goesL_ (some 77) rfl rfl Try.func13 (by kernel_rfl) rfl #[.pointer (some ⟨gb203, 0, none⟩)] rfl (by (try simp only [List.map_toArray, List.map_cons, List.map_nil]); first | done | rfl | (simp only [List.length_drop, List.length_take]; rfl)) ?_; (with_reducible refine (lock_Lock_Reset.calls gb203 x204000_1 x204001_1 x204002_1 t235 t236 t237 t238 w _ ?side1 ?side2 A88.out).mono ?_); (case side1 => repeat (first | (with_reducible first | exact HI203.out | apply IsS26.alloc | apply IsS26.drewN | apply IsS26.drew | apply IsS26.set_0 | apply IsS26.set_1 | apply IsS26.set_2 | refine IsS26.far ?_ NB203_204.out _ | refine IsS26.far ?_ NB203_206.out _) | exact HI203.out)); (case side2 => repeat (first | (with_reducible first | exact HB.out | apply below_alloc | apply pw_below_drewN | apply below_drew1 | refine below_set ?_ (IsS26.ge HI203.out) | refine below_set ?_ GE204.out | refine below_set ?_ GE206.out) | exact HB.out)); rintro e w99 ⟨rfl, hi, hb, hk⟩; refine ⟨_, rfl, ?_⟩; have n0_ := Aside0.mk (KeepBut.blk hk (g' := gb204) (o := .cells #[.int .i64 x205000_1, .int .i64 x205001_1, .int .i64 x205002_1] 28 (0, 0)) (by (with_reducible repeat (first | refine blk_drewN ?_ _ | refine blk_drew ?_ | refine blk_alloc ?_ _)); exact BK204.out) NB204_203.out (by simp)); have n1_ := Aside0.mk (KeepBut.blk hk (g' := gb206) (o := .cells #[.int .i64 ((rd_T30 l0 x20_1).f0), .int .i64 ((rd_T30 l0 x20_1).f1)] 30 (0, 0)) (by (with_reducible repeat (first | refine blk_drewN ?_ _ | refine blk_drew ?_ | refine blk_alloc ?_ _)); exact BK206.out) NB206_203.out (by simp)); have n2_ := Aside0.mk (hb); have n3_ := Aside0.mk (hi); clear BK204; clear BK206; clear HB; clear HI203; have BK204 := n0_; have BK206 := n1_; have HB := n2_; have HI203 := n3_; clear n0_ n1_ n2_ n3_; (try clear hb); (try clear hb2); (try clear hk); (try clear hi)))
                  go_meet
                  case rel => exact ⟨_, (t236), (t237), (t238), (x205000_1), (x205001_1), (x205002_1), H', ⟨by have := HK1.out; have := HJ38.out; first | omega | exact Nat.le_refl _⟩, ⟨by (with_reducible repeat (first | refine blk_drewN ?_ _ | refine blk_drew ?_ | refine blk_alloc ?_ _)); exact BK204.out⟩, ⟨by (with_reducible repeat (first | refine blk_drewN ?_ _ | refine blk_drew ?_ | refine blk_alloc ?_ _)); exact BK206.out⟩, ⟨by repeat (first | (with_reducible first | exact HI203.out | apply IsS26.alloc | apply IsS26.drewN | apply IsS26.drew | apply IsS26.set_0 | apply IsS26.set_1 | apply IsS26.set_2 | refine IsS26.far ?_ NB203_204.out _ | refine IsS26.far ?_ NB203_206.out _) | exact HI203.out)⟩, ⟨by repeat (first | (with_reducible first | exact HB.out | apply below_alloc | apply pw_below_drewN | apply below_drew1 | refine below_set ?_ (IsS26.ge HI203.out) | refine below_set ?_ GE204.out | refine below_set ?_ GE206.out) | exact HB.out)⟩⟩
               ·rw [if_neg c87] at H
                have c87b0 : (((rd_T30 l0 x20_1).f0) == 5) = false := beq_eq_false_iff_ne.mpr c87
                have c87b1 : (((rd_T30 l0 x20_1).f0) != 5) = true := bne_iff_ne.mpr c87
                by_cases c100 : ((rd_T30 l0 x20_1).f0) = 6
                ·rw [if_pos c100] at H
                 have c100b0 : (((rd_T30 l0 x20_1).f0) == 6) = true := beq_iff_eq.mpr c100
                 have c100b1 : (((rd_T30 l0 x20_1).f0) != 6) = false := bne_eq_false_iff_eq.mpr c100
                 clear c100
                 replace H := Option.bind_eq_some_iff.mp H
                 obtain ⟨⟨t242, t243, t244, t245⟩, A1010, H⟩ := H
                 replace H : (if (t242 != (decide (x205000_1 ≥ 2))) = true then (some false) else (if x205000_1 ≥ 2 then ((greenscreenref21_Turn.f x205000_1 x205001_1 x205002_1 1 0).bind fun bt246 => (greenscreenlaw21_LockPlays.j3 kj38 l0 (l0.length : Int) x20_1 t243 t244 t245 bt246.1 bt246.2.1 bt246.2.2)) else (greenscreenlaw21_LockPlays.j3 kj38 l0 (l0.length : Int) x20_1 t243 t244 t245 x205000_1 x205001_1 x205002_1))) = some r := H
                 have A101 := Aside0.mk A1010
                 clear A1010
                 by_cases c102 : (t242 != (decide (x205000_1 ≥ 2))) = true
                 ·rw [if_pos c102] at H
                  have c102b0 : (t242 != (decide (x205000_1 ≥ 2))) = true := c102
                  (try (have c102e0 : (t242 = (decide (x205000_1 ≥ 2))) = False := by (have he_ := c102b0; revert he_; cases (t242) <;> cases ((decide (x205000_1 ≥ 2))) <;> simp)))
                  (try (have c102e1 : (t242 == (decide (x205000_1 ≥ 2))) = false := by (have he_ := c102b0; revert he_; cases (t242) <;> cases ((decide (x205000_1 ≥ 2))) <;> simp)))
                  (try (have c102b1 : decide (t242 = (decide (x205000_1 ≥ 2))) = false := by simpa using c102))
                  (try (have c102b2 : (t242 == (decide (x205000_1 ≥ 2))) = false := by simpa using c102))
                  (try (have c102b3 : ¬ (t242 = (decide (x205000_1 ≥ 2))) := by simpa using c102))
                  clear c102
                  obtain rfl := Option.some.inj H
                  go_wp2_with (first | ((with_reducible refine gate_callee (f := 14) rfl ?_); refine goesL_ (some 87) rfl rfl Try.func14 (by kernel_rfl) rfl #[.pointer (some ⟨gb203, 0, none⟩)] rfl (by (try simp only [List.map_toArray, List.map_cons, List.map_nil]); first | done | rfl | (simp only [List.length_drop, List.length_take]; rfl)) ?_; (with_reducible refine (lock_Lock_Restore.calls gb203 x204000_1 x204001_1 x204002_1 t242 t243 t244 t245 w _ ?side1 ?side2 A101.out).mono ?_); (case side1 => repeat (first | (with_reducible first | exact HI203.out | apply IsS26.alloc | apply IsS26.drewN | apply IsS26.drew | apply IsS26.set_0 | apply IsS26.set_1 | apply IsS26.set_2 | refine IsS26.far ?_ NB203_204.out _ | refine IsS26.far ?_ NB203_206.out _) | exact HI203.out)); (case side2 => repeat (first | (with_reducible first | exact HB.out | apply below_alloc | apply pw_below_drewN | apply below_drew1 | refine below_set ?_ (IsS26.ge HI203.out) | refine below_set ?_ GE204.out | refine below_set ?_ GE206.out) | exact HB.out)); rintro e w103 ⟨rfl, hi, hb, hk⟩; refine ⟨_, rfl, ?_⟩; have n0_ := Aside0.mk (KeepBut.blk hk (g' := gb204) (o := .cells #[.int .i64 x205000_1, .int .i64 x205001_1, .int .i64 x205002_1] 28 (0, 0)) (by (with_reducible repeat (first | refine blk_drewN ?_ _ | refine blk_drew ?_ | refine blk_alloc ?_ _)); exact BK204.out) NB204_203.out (by simp)); have n1_ := Aside0.mk (KeepBut.blk hk (g' := gb206) (o := .cells #[.int .i64 ((rd_T30 l0 x20_1).f0), .int .i64 ((rd_T30 l0 x20_1).f1)] 30 (0, 0)) (by (with_reducible repeat (first | refine blk_drewN ?_ _ | refine blk_drew ?_ | refine blk_alloc ?_ _)); exact BK206.out) NB206_203.out (by simp)); have n2_ := Aside0.mk (hb); have n3_ := Aside0.mk (hi); clear BK204; clear BK206; clear HB; clear HI203; have BK204 := n0_; have BK206 := n1_; have HB := n2_; have HI203 := n3_; clear n0_ n1_ n2_ n3_; (try clear hb); (try clear hb2); (try clear hk); (try clear hi)))
                  go_ret
                  exact ⟨by first | rfl | (simp [errW_none, errW_some] <;> rfl) | (simp [*, errW_none, errW_some] <;> rfl), by repeat (first | (with_reducible first | exact HB.out | apply below_alloc | apply pw_below_drewN | apply below_drew1 | refine below_set ?_ (IsS26.ge HI203.out) | refine below_set ?_ GE204.out | refine below_set ?_ GE206.out) | exact HB.out)⟩
                 ·rw [if_neg c102] at H
                  have c102b0 : (t242 != (decide (x205000_1 ≥ 2))) = false := by simpa using c102
                  (try (have c102e0 : (t242 = (decide (x205000_1 ≥ 2))) = True := by (have he_ := c102b0; revert he_; cases (t242) <;> cases ((decide (x205000_1 ≥ 2))) <;> simp)))
                  (try (have c102e1 : (t242 == (decide (x205000_1 ≥ 2))) = true := by (have he_ := c102b0; revert he_; cases (t242) <;> cases ((decide (x205000_1 ≥ 2))) <;> simp)))
                  (try (have c102b1 : decide (t242 = (decide (x205000_1 ≥ 2))) = true := by simpa using c102))
                  (try (have c102b2 : (t242 == (decide (x205000_1 ≥ 2))) = true := by simpa using c102))
                  clear c102
                  by_cases c104 : x205000_1 ≥ 2
                  ·rw [if_pos c104] at H
                   have c104b0 : decide (2 ≤ x205000_1) = true := decide_eq_true c104
                   (try (have c104xc102 : t242 = true := by (have he_ := c102b0; simp only [ge_iff_le, gt_iff_lt, c104b0] at he_; revert he_; cases t242 <;> simp)))
                   clear c104
                   replace H := Option.bind_eq_some_iff.mp H
                   obtain ⟨⟨t246, t247, t248⟩, A1050, H⟩ := H
                   replace H : (greenscreenlaw21_LockPlays.j3 kj38 l0 (l0.length : Int) x20_1 t243 t244 t245 t246 t247 t248) = some r := H
                   have A105 := Aside0.mk A1050
                   clear A1050
                   have H' := Aside0.mk H
                   clear H
                   go_wp2_with (first | ((with_reducible refine gate_callee (f := 14) rfl ?_); refine goesL_ (some 87) rfl rfl Try.func14 (by kernel_rfl) rfl #[.pointer (some ⟨gb203, 0, none⟩)] rfl (by (try simp only [List.map_toArray, List.map_cons, List.map_nil]); first | done | rfl | (simp only [List.length_drop, List.length_take]; rfl)) ?_; (with_reducible refine (lock_Lock_Restore.calls gb203 x204000_1 x204001_1 x204002_1 t242 t243 t244 t245 w _ ?side1 ?side2 A101.out).mono ?_); (case side1 => repeat (first | (with_reducible first | exact HI203.out | apply IsS26.alloc | apply IsS26.drewN | apply IsS26.drew | apply IsS26.set_0 | apply IsS26.set_1 | apply IsS26.set_2 | refine IsS26.far ?_ NB203_204.out _ | refine IsS26.far ?_ NB203_206.out _) | exact HI203.out)); (case side2 => repeat (first | (with_reducible first | exact HB.out | apply below_alloc | apply pw_below_drewN | apply below_drew1 | refine below_set ?_ (IsS26.ge HI203.out) | refine below_set ?_ GE204.out | refine below_set ?_ GE206.out) | exact HB.out)); rintro e w106 ⟨rfl, hi, hb, hk⟩; refine ⟨_, rfl, ?_⟩; have n0_ := Aside0.mk (KeepBut.blk hk (g' := gb204) (o := .cells #[.int .i64 x205000_1, .int .i64 x205001_1, .int .i64 x205002_1] 28 (0, 0)) (by (with_reducible repeat (first | refine blk_drewN ?_ _ | refine blk_drew ?_ | refine blk_alloc ?_ _)); exact BK204.out) NB204_203.out (by simp)); have n1_ := Aside0.mk (KeepBut.blk hk (g' := gb206) (o := .cells #[.int .i64 ((rd_T30 l0 x20_1).f0), .int .i64 ((rd_T30 l0 x20_1).f1)] 30 (0, 0)) (by (with_reducible repeat (first | refine blk_drewN ?_ _ | refine blk_drew ?_ | refine blk_alloc ?_ _)); exact BK206.out) NB206_203.out (by simp)); have n2_ := Aside0.mk (hb); have n3_ := Aside0.mk (hi); clear BK204; clear BK206; clear HB; clear HI203; have BK204 := n0_; have BK206 := n1_; have HB := n2_; have HI203 := n3_; clear n0_ n1_ n2_ n3_; (try clear hb); (try clear hb2); (try clear hk); (try clear hi); have hnb107 := NB204_206.out; have hnc107 := NB206_204.out; have hnb108 := NB204_203.out; have hnc108 := NB203_204.out; have hcz109_0 : w106.cell? ⟨gb204, 0, none⟩ = some (.int .i64 x205000_1) := (blk_cell BK204.out 0).trans rfl; have hcz109_1 : w106.cell? ⟨gb204, 1, none⟩ = some (.int .i64 x205001_1) := (blk_cell BK204.out 1).trans rfl; have hcz109_2 : w106.cell? ⟨gb204, 2, none⟩ = some (.int .i64 x205002_1) := (blk_cell BK204.out 2).trans rfl; have hfz109_0 := blk_frozen BK204.out 0; have hfz109_1 := blk_frozen BK204.out 1; have hfz109_2 := blk_frozen BK204.out 2) | ((with_reducible refine gate_callee (f := 8) rfl ?_); refine goesL_ (some 94) rfl rfl Try.func8 (by kernel_rfl) rfl #[.agg #[.int .i64 x205000_1, .int .i64 x205001_1, .int .i64 x205002_1], .int .i64 1, .int .i64 0] rfl (by (try simp only [List.map_toArray, List.map_cons, List.map_nil]); first | done | rfl | (simp only [List.length_drop, List.length_take]; rfl)) ?_; (with_reducible refine (greenscreenref21_Turn.calls x205000_1 x205001_1 x205002_1 1 0 t246 t247 t248 _ A105.out).mono ?_); rintro e w110 ⟨rfl, hb⟩; refine ⟨_, rfl, ?_⟩; have n0_ := Aside0.mk (blk_below (g := gb204) (o := .cells #[.int .i64 x205000_1, .int .i64 x205001_1, .int .i64 x205002_1] 28 (0, 0)) (by (with_reducible repeat (first | refine blk_drewN ?_ _ | refine blk_drew ?_ | refine blk_alloc ?_ _)); exact BK204.out) hb); have n1_ := Aside0.mk (blk_below (g := gb206) (o := .cells #[.int .i64 ((rd_T30 l0 x20_1).f0), .int .i64 ((rd_T30 l0 x20_1).f1)] 30 (0, 0)) (by (with_reducible repeat (first | refine blk_drewN ?_ _ | refine blk_drew ?_ | refine blk_alloc ?_ _)); exact BK206.out) hb); have n2_ := Aside0.mk (IsS26.below (by repeat (first | (with_reducible first | exact HI203.out | apply IsS26.alloc | apply IsS26.drewN | apply IsS26.drew | apply IsS26.set_0 | apply IsS26.set_1 | apply IsS26.set_2 | refine IsS26.far ?_ NB203_204.out _ | refine IsS26.far ?_ NB203_206.out _) | exact HI203.out)) hb); have n3_ := Aside0.mk (below_step (by repeat (first | (with_reducible first | exact HB.out | apply below_alloc | apply pw_below_drewN | apply below_drew1 | refine below_set ?_ (IsS26.ge HI203.out) | refine below_set ?_ GE204.out | refine below_set ?_ GE206.out) | exact HB.out)) hb); clear BK204; clear BK206; clear HI203; clear HB; have BK204 := n0_; have BK206 := n1_; have HI203 := n2_; have HB := n3_; clear n0_ n1_ n2_ n3_; (try clear hb); (try clear hb2); (try clear hk); (try clear hi); have hcz111_0 : w110.cell? ⟨gb204, 0, none⟩ = some (.int .i64 x205000_1) := (blk_cell BK204.out 0).trans rfl; have hcz111_1 : w110.cell? ⟨gb204, 1, none⟩ = some (.int .i64 x205001_1) := (blk_cell BK204.out 1).trans rfl; have hcz111_2 : w110.cell? ⟨gb204, 2, none⟩ = some (.int .i64 x205002_1) := (blk_cell BK204.out 2).trans rfl; have hfz111_0 := blk_frozen BK204.out 0; have hfz111_1 := blk_frozen BK204.out 1; have hfz111_2 := blk_frozen BK204.out 2))
                   go_meet
                   case rel => exact ⟨_, (t243), (t244), (t245), (t246), (t247), (t248), H', ⟨by have := HK1.out; have := HJ38.out; first | omega | exact Nat.le_refl _⟩, ⟨by (with_reducible repeat (first | refine blk_drewN ?_ _ | refine blk_drew ?_ | refine blk_alloc ?_ _)); refine blk_put (cs := #[.int .i64 t246, .int .i64 t247, .int .i64 x205002_1]) ?_ 2 _ rfl; (with_reducible repeat (first | refine blk_drewN ?_ _ | refine blk_drew ?_ | refine blk_alloc ?_ _)); refine blk_put (cs := #[.int .i64 t246, .int .i64 x205001_1, .int .i64 x205002_1]) ?_ 1 _ rfl; (with_reducible repeat (first | refine blk_drewN ?_ _ | refine blk_drew ?_ | refine blk_alloc ?_ _)); refine blk_put (cs := #[.int .i64 x205000_1, .int .i64 x205001_1, .int .i64 x205002_1]) ?_ 0 _ rfl; (with_reducible repeat (first | refine blk_drewN ?_ _ | refine blk_drew ?_ | refine blk_alloc ?_ _)); exact BK204.out⟩, ⟨by (with_reducible repeat (first | refine blk_drewN ?_ _ | refine blk_drew ?_ | refine blk_alloc ?_ _)); refine blk_far ?_ NB206_204.out _; (with_reducible repeat (first | refine blk_drewN ?_ _ | refine blk_drew ?_ | refine blk_alloc ?_ _)); refine blk_far ?_ NB206_204.out _; (with_reducible repeat (first | refine blk_drewN ?_ _ | refine blk_drew ?_ | refine blk_alloc ?_ _)); refine blk_far ?_ NB206_204.out _; (with_reducible repeat (first | refine blk_drewN ?_ _ | refine blk_drew ?_ | refine blk_alloc ?_ _)); exact BK206.out⟩, ⟨by repeat (first | (with_reducible first | exact HI203.out | apply IsS26.alloc | apply IsS26.drewN | apply IsS26.drew | apply IsS26.set_0 | apply IsS26.set_1 | apply IsS26.set_2 | refine IsS26.far ?_ NB203_204.out _ | refine IsS26.far ?_ NB203_206.out _) | exact HI203.out)⟩, ⟨by repeat (first | (with_reducible first | exact HB.out | apply below_alloc | apply pw_below_drewN | apply below_drew1 | refine below_set ?_ (IsS26.ge HI203.out) | refine below_set ?_ GE204.out | refine below_set ?_ GE206.out) | exact HB.out)⟩⟩
                  ·rw [if_neg c104] at H
                   have c104b0 : decide (2 ≤ x205000_1) = false := decide_eq_false c104
                   (try (have c104xc102 : t242 = false := by (have he_ := c102b0; simp only [ge_iff_le, gt_iff_lt, c104b0] at he_; revert he_; cases t242 <;> simp)))
                   clear c104
                   have H' := Aside0.mk H
                   clear H
                   go_wp2_with (first | ((with_reducible refine gate_callee (f := 14) rfl ?_); refine goesL_ (some 87) rfl rfl Try.func14 (by kernel_rfl) rfl #[.pointer (some ⟨gb203, 0, none⟩)] rfl (by (try simp only [List.map_toArray, List.map_cons, List.map_nil]); first | done | rfl | (simp only [List.length_drop, List.length_take]; rfl)) ?_; (with_reducible refine (lock_Lock_Restore.calls gb203 x204000_1 x204001_1 x204002_1 t242 t243 t244 t245 w _ ?side1 ?side2 A101.out).mono ?_); (case side1 => repeat (first | (with_reducible first | exact HI203.out | apply IsS26.alloc | apply IsS26.drewN | apply IsS26.drew | apply IsS26.set_0 | apply IsS26.set_1 | apply IsS26.set_2 | refine IsS26.far ?_ NB203_204.out _ | refine IsS26.far ?_ NB203_206.out _) | exact HI203.out)); (case side2 => repeat (first | (with_reducible first | exact HB.out | apply below_alloc | apply pw_below_drewN | apply below_drew1 | refine below_set ?_ (IsS26.ge HI203.out) | refine below_set ?_ GE204.out | refine below_set ?_ GE206.out) | exact HB.out)); rintro e w112 ⟨rfl, hi, hb, hk⟩; refine ⟨_, rfl, ?_⟩; have n0_ := Aside0.mk (KeepBut.blk hk (g' := gb204) (o := .cells #[.int .i64 x205000_1, .int .i64 x205001_1, .int .i64 x205002_1] 28 (0, 0)) (by (with_reducible repeat (first | refine blk_drewN ?_ _ | refine blk_drew ?_ | refine blk_alloc ?_ _)); exact BK204.out) NB204_203.out (by simp)); have n1_ := Aside0.mk (KeepBut.blk hk (g' := gb206) (o := .cells #[.int .i64 ((rd_T30 l0 x20_1).f0), .int .i64 ((rd_T30 l0 x20_1).f1)] 30 (0, 0)) (by (with_reducible repeat (first | refine blk_drewN ?_ _ | refine blk_drew ?_ | refine blk_alloc ?_ _)); exact BK206.out) NB206_203.out (by simp)); have n2_ := Aside0.mk (hb); have n3_ := Aside0.mk (hi); clear BK204; clear BK206; clear HB; clear HI203; have BK204 := n0_; have BK206 := n1_; have HB := n2_; have HI203 := n3_; clear n0_ n1_ n2_ n3_; (try clear hb); (try clear hb2); (try clear hk); (try clear hi)))
                   go_meet
                   case rel => exact ⟨_, (t243), (t244), (t245), (x205000_1), (x205001_1), (x205002_1), H', ⟨by have := HK1.out; have := HJ38.out; first | omega | exact Nat.le_refl _⟩, ⟨by (with_reducible repeat (first | refine blk_drewN ?_ _ | refine blk_drew ?_ | refine blk_alloc ?_ _)); exact BK204.out⟩, ⟨by (with_reducible repeat (first | refine blk_drewN ?_ _ | refine blk_drew ?_ | refine blk_alloc ?_ _)); exact BK206.out⟩, ⟨by repeat (first | (with_reducible first | exact HI203.out | apply IsS26.alloc | apply IsS26.drewN | apply IsS26.drew | apply IsS26.set_0 | apply IsS26.set_1 | apply IsS26.set_2 | refine IsS26.far ?_ NB203_204.out _ | refine IsS26.far ?_ NB203_206.out _) | exact HI203.out)⟩, ⟨by repeat (first | (with_reducible first | exact HB.out | apply below_alloc | apply pw_below_drewN | apply below_drew1 | refine below_set ?_ (IsS26.ge HI203.out) | refine below_set ?_ GE204.out | refine below_set ?_ GE206.out) | exact HB.out)⟩⟩
                ·rw [if_neg c100] at H
                 have c100b0 : (((rd_T30 l0 x20_1).f0) == 6) = false := beq_eq_false_iff_ne.mpr c100
                 have c100b1 : (((rd_T30 l0 x20_1).f0) != 6) = true := bne_iff_ne.mpr c100
                 have H' := Aside0.mk H
                 clear H
                 go_wp2
                 go_meet
                 case rel => exact ⟨_, (x204000_1), (x204001_1), (x204002_1), (x205000_1), (x205001_1), (x205002_1), H', ⟨by have := HK1.out; have := HJ38.out; first | omega | exact Nat.le_refl _⟩, ⟨by (with_reducible repeat (first | refine blk_drewN ?_ _ | refine blk_drew ?_ | refine blk_alloc ?_ _)); exact BK204.out⟩, ⟨by (with_reducible repeat (first | refine blk_drewN ?_ _ | refine blk_drew ?_ | refine blk_alloc ?_ _)); exact BK206.out⟩, ⟨by repeat (first | (with_reducible first | exact HI203.out | apply IsS26.alloc | apply IsS26.drewN | apply IsS26.drew | apply IsS26.set_0 | apply IsS26.set_1 | apply IsS26.set_2 | refine IsS26.far ?_ NB203_204.out _ | refine IsS26.far ?_ NB203_206.out _) | exact HI203.out)⟩, ⟨by repeat (first | (with_reducible first | exact HB.out | apply below_alloc | apply pw_below_drewN | apply below_drew1 | refine below_set ?_ (IsS26.ge HI203.out) | refine below_set ?_ GE204.out | refine below_set ?_ GE206.out) | exact HB.out)⟩⟩
        case rest =>
         clear HC14
         try clear c1
         try clear c2
         try clear p2
         try clear q2
         try clear hx2
         try clear c3
         try clear c4
         try clear c4b0
         try clear c4b1
         try clear c5
         try clear c6
         try clear c7
         try clear c8
         try clear c9
         try clear c10
         try clear c11
         try clear c11b0
         try clear c12
         try clear c12b0
         try clear c13
         try clear c13b0
         try clear c14
         try clear c16
         try clear c17
         try clear c19
         try clear p20
         try clear q20
         try clear hx20
         try clear c21
         try clear c21b0
         try clear c21b1
         try clear c25
         try clear c26
         try clear c30
         try clear c30b0
         try clear c30b1
         try clear c34
         try clear c35
         try clear c40
         try clear c40b0
         try clear c40b1
         try clear c41
         try clear c45
         try clear c45b0
         try clear c45b1
         try clear c45b2
         try clear c46
         try clear c46b0
         try clear c46b1
         try clear c47
         try clear c48
         try clear c48b0
         try clear c48b1
         try clear c50
         try clear c51
         try clear c55
         try clear c55b0
         try clear c55b1
         try clear c58
         try clear c58b0
         try clear c58b1
         try clear c59
         try clear c60
         try clear c63
         try clear c68
         try clear c69
         try clear c70
         try clear c73
         try clear c74
         try clear c77
         try clear c82
         try clear c83
         try clear c84
         try clear c87
         try clear c87b0
         try clear c87b1
         try clear c89
         try clear c89b0
         try clear c89b1
         try clear c89b2
         try clear c91
         try clear c91b0
         try clear c91b1
         try clear c94
         try clear c95
         try clear c100
         try clear c100b0
         try clear c100b1
         try clear c102
         try clear c102b0
         try clear c102b1
         try clear c102b2
         try clear c104
         try clear c104b0
         try clear c107
         try clear c108
         try clear hcz109_0
         try clear hcz109_1
         try clear hcz109_2
         try clear hcz10_0
         try clear hcz10_1
         try clear hcz10_2
         try clear hcz111_0
         try clear hcz111_1
         try clear hcz111_2
         try clear hcz18_0
         try clear hcz18_1
         try clear hcz20_0
         try clear hcz20_1
         try clear hcz20_2
         try clear hcz27_0
         try clear hcz27_1
         try clear hcz27_2
         try clear hcz29_0
         try clear hcz29_1
         try clear hcz29_2
         try clear hcz36_0
         try clear hcz36_1
         try clear hcz36_2
         try clear hcz38_0
         try clear hcz38_1
         try clear hcz38_2
         try clear hcz52_0
         try clear hcz52_1
         try clear hcz52_2
         try clear hcz54_0
         try clear hcz54_1
         try clear hcz54_2
         try clear hcz61_0
         try clear hcz61_1
         try clear hcz64_0
         try clear hcz64_1
         try clear hcz64_2
         try clear hcz65_0
         try clear hcz65_1
         try clear hcz71_0
         try clear hcz71_1
         try clear hcz71_2
         try clear hcz72_0
         try clear hcz72_1
         try clear hcz72_2
         try clear hcz75_0
         try clear hcz75_1
         try clear hcz78_0
         try clear hcz78_1
         try clear hcz78_2
         try clear hcz79_0
         try clear hcz79_1
         try clear hcz85_0
         try clear hcz85_1
         try clear hcz85_2
         try clear hcz86_0
         try clear hcz86_1
         try clear hcz86_2
         try clear hcz96_0
         try clear hcz96_1
         try clear hcz96_2
         try clear hcz98_0
         try clear hcz98_1
         try clear hcz98_2
         try clear hfz109_0
         try clear hfz109_1
         try clear hfz109_2
         try clear hfz10_0
         try clear hfz10_1
         try clear hfz10_2
         try clear hfz111_0
         try clear hfz111_1
         try clear hfz111_2
         try clear hfz18_0
         try clear hfz18_1
         try clear hfz20_0
         try clear hfz20_1
         try clear hfz20_2
         try clear hfz27_0
         try clear hfz27_1
         try clear hfz27_2
         try clear hfz29_0
         try clear hfz29_1
         try clear hfz29_2
         try clear hfz36_0
         try clear hfz36_1
         try clear hfz36_2
         try clear hfz38_0
         try clear hfz38_1
         try clear hfz38_2
         try clear hfz52_0
         try clear hfz52_1
         try clear hfz52_2
         try clear hfz54_0
         try clear hfz54_1
         try clear hfz54_2
         try clear hfz61_0
         try clear hfz61_1
         try clear hfz64_0
         try clear hfz64_1
         try clear hfz64_2
         try clear hfz65_0
         try clear hfz65_1
         try clear hfz71_0
         try clear hfz71_1
         try clear hfz71_2
         try clear hfz72_0
         try clear hfz72_1
         try clear hfz72_2
         try clear hfz75_0
         try clear hfz75_1
         try clear hfz78_0
         try clear hfz78_1
         try clear hfz78_2
         try clear hfz79_0
         try clear hfz79_1
         try clear hfz85_0
         try clear hfz85_1
         try clear hfz85_2
         try clear hfz86_0
         try clear hfz86_1
         try clear hfz86_2
         try clear hfz96_0
         try clear hfz96_1
         try clear hfz96_2
         try clear hfz98_0
         try clear hfz98_1
         try clear hfz98_2
         try clear hx205_0
         try clear hx205_1
         try clear p2
         try clear p20
         try clear p205
         try clear q2
         try clear q20
         try clear q205
         obtain ⟨kq, x204000_13, x204001_13, x204002_13, x205000_13, x205001_13, x205002_13, HA, HJ13, BK204, BK206, HI203, HB⟩ := hcut
         cases kq with
         | zero => exact absurd HA.out (by simp [greenscreenlaw21_LockPlays.j3])
         | succ kj13 =>
          have H := HA.out
          clear HA
          simp only [greenscreenlaw21_LockPlays.j3] at H
          replace H := Option.bind_eq_some_iff.mp H
          obtain ⟨⟨t249, t250, t251, t252⟩, A1130, H⟩ := H
          replace H : (if t249 = x205000_13 then ((lock_Lock_Why.f t250 t251 t252).bind fun bt253 => (if bt253.1 = x205001_13 then ((lock_Lock_Turns.f bt253.2.1 bt253.2.2.1 bt253.2.2.2).bind fun bt257 => (if bt257.1 = x205002_13 then ((lock_Lock_Text.f bt257.2.1 bt257.2.2.1 bt257.2.2.2).bind fun bt261 => ((greenscreenref21_Text.f x205000_13 x205001_13 x205002_13).bind fun t265 => (if bt261.1.toList = t265.toList then ((lock_Lock_May.f bt261.2.1 bt261.2.2.1 bt261.2.2.2).bind fun bt266 => (if ((bt266.1 == 0) != (x205000_13 == 1)) = true then (some false) else (greenscreenlaw21_LockPlays.l0 kj13 l0 (l0.length : Int) (wrap64 (x20_1 + 1)) bt266.2.1 bt266.2.2.1 bt266.2.2.2 x205000_13 x205001_13 x205002_13))) else (some false)))) else (some false))) else (some false))) else (some false)) = some r := H
          have A113 := Aside0.mk A1130
          clear A1130
          by_cases c114 : t249 = x205000_13
          ·rw [if_pos c114] at H
           have c114b0 : (t249 == x205000_13) = true := beq_iff_eq.mpr c114
           have c114b1 : (t249 != x205000_13) = false := bne_eq_false_iff_eq.mpr c114
           clear c114
           replace H := Option.bind_eq_some_iff.mp H
           obtain ⟨⟨t253, t254, t255, t256⟩, A1150, H⟩ := H
           replace H : (if t253 = x205001_13 then ((lock_Lock_Turns.f t254 t255 t256).bind fun bt257 => (if bt257.1 = x205002_13 then ((lock_Lock_Text.f bt257.2.1 bt257.2.2.1 bt257.2.2.2).bind fun bt261 => ((greenscreenref21_Text.f x205000_13 x205001_13 x205002_13).bind fun t265 => (if bt261.1.toList = t265.toList then ((lock_Lock_May.f bt261.2.1 bt261.2.2.1 bt261.2.2.2).bind fun bt266 => (if ((bt266.1 == 0) != (x205000_13 == 1)) = true then (some false) else (greenscreenlaw21_LockPlays.l0 kj13 l0 (l0.length : Int) (wrap64 (x20_1 + 1)) bt266.2.1 bt266.2.2.1 bt266.2.2.2 x205000_13 x205001_13 x205002_13))) else (some false)))) else (some false))) else (some false)) = some r := H
           have A115 := Aside0.mk A1150
           clear A1150
           by_cases c116 : t253 = x205001_13
           ·rw [if_pos c116] at H
            have c116b0 : (t253 == x205001_13) = true := beq_iff_eq.mpr c116
            have c116b1 : (t253 != x205001_13) = false := bne_eq_false_iff_eq.mpr c116
            clear c116
            replace H := Option.bind_eq_some_iff.mp H
            obtain ⟨⟨t257, t258, t259, t260⟩, A1170, H⟩ := H
            replace H : (if t257 = x205002_13 then ((lock_Lock_Text.f t258 t259 t260).bind fun bt261 => ((greenscreenref21_Text.f x205000_13 x205001_13 x205002_13).bind fun t265 => (if bt261.1.toList = t265.toList then ((lock_Lock_May.f bt261.2.1 bt261.2.2.1 bt261.2.2.2).bind fun bt266 => (if ((bt266.1 == 0) != (x205000_13 == 1)) = true then (some false) else (greenscreenlaw21_LockPlays.l0 kj13 l0 (l0.length : Int) (wrap64 (x20_1 + 1)) bt266.2.1 bt266.2.2.1 bt266.2.2.2 x205000_13 x205001_13 x205002_13))) else (some false)))) else (some false)) = some r := H
            have A117 := Aside0.mk A1170
            clear A1170
            by_cases c118 : t257 = x205002_13
            ·rw [if_pos c118] at H
             have c118b0 : (t257 == x205002_13) = true := beq_iff_eq.mpr c118
             have c118b1 : (t257 != x205002_13) = false := bne_eq_false_iff_eq.mpr c118
             clear c118
             replace H := Option.bind_eq_some_iff.mp H
             obtain ⟨⟨t261, t262, t263, t264⟩, A1190, H⟩ := H
             replace H : ((greenscreenref21_Text.f x205000_13 x205001_13 x205002_13).bind fun t265 => (if t261.toList = t265.toList then ((lock_Lock_May.f t262 t263 t264).bind fun bt266 => (if ((bt266.1 == 0) != (x205000_13 == 1)) = true then (some false) else (greenscreenlaw21_LockPlays.l0 kj13 l0 (l0.length : Int) (wrap64 (x20_1 + 1)) bt266.2.1 bt266.2.2.1 bt266.2.2.2 x205000_13 x205001_13 x205002_13))) else (some false))) = some r := H
             have A119 := Aside0.mk A1190
             clear A1190
             replace H := Option.bind_eq_some_iff.mp H
             obtain ⟨t265, A1200, H⟩ := H
             replace H : (if t261.toList = t265.toList then ((lock_Lock_May.f t262 t263 t264).bind fun bt266 => (if ((bt266.1 == 0) != (x205000_13 == 1)) = true then (some false) else (greenscreenlaw21_LockPlays.l0 kj13 l0 (l0.length : Int) (wrap64 (x20_1 + 1)) bt266.2.1 bt266.2.2.1 bt266.2.2.2 x205000_13 x205001_13 x205002_13))) else (some false)) = some r := H
             have A120 := Aside0.mk A1200
             clear A1200
             by_cases c121 : t261.toList = t265.toList
             ·rw [if_pos c121] at H
              have c121b0 : (t261.toList == t265.toList) = true := beq_iff_eq.mpr c121
              have c121b1 : (t261.toList != t265.toList) = false := bne_eq_false_iff_eq.mpr c121
              clear c121
              replace H := Option.bind_eq_some_iff.mp H
              obtain ⟨⟨t266, t267, t268, t269⟩, A1220, H⟩ := H
              replace H : (if ((t266 == 0) != (x205000_13 == 1)) = true then (some false) else (greenscreenlaw21_LockPlays.l0 kj13 l0 (l0.length : Int) (wrap64 (x20_1 + 1)) t267 t268 t269 x205000_13 x205001_13 x205002_13)) = some r := H
              have A122 := Aside0.mk A1220
              clear A1220
              by_cases c123 : ((t266 == 0) != (x205000_13 == 1)) = true
              ·rw [if_pos c123] at H
               have c123b0 : ((t266 == 0) != (x205000_13 == 1)) = true := c123
               (try (have c123e0 : ((t266 == 0) = (x205000_13 == 1)) = False := by (have he_ := c123b0; revert he_; cases ((t266 == 0)) <;> cases ((x205000_13 == 1)) <;> simp)))
               (try (have c123e1 : ((t266 == 0) == (x205000_13 == 1)) = false := by (have he_ := c123b0; revert he_; cases ((t266 == 0)) <;> cases ((x205000_13 == 1)) <;> simp)))
               (try (have c123b1 : decide ((t266 == 0) = (x205000_13 == 1)) = false := by simpa using c123))
               (try (have c123b2 : ((t266 == 0) == (x205000_13 == 1)) = false := by simpa using c123))
               (try (have c123b3 : ¬ ((t266 == 0) = (x205000_13 == 1)) := by simpa using c123))
               clear c123
               obtain rfl := Option.some.inj H
               try go_wp2
               have n0_ := Aside0.mk (blk_drew BK204.out)
               have n1_ := Aside0.mk (blk_drew BK206.out)
               have n2_ := Aside0.mk (IsS26.drew HI203.out)
               have n3_ := Aside0.mk (below_drew1 HB.out)
               clear BK204
               clear BK206
               clear HI203
               clear HB
               have BK204 := n0_
               have BK206 := n1_
               have HI203 := n2_
               have HB := n3_
               clear n0_ n1_ n2_ n3_
               refine start_ (n := 30) (S := fun w' => w'.cell? ⟨gb204, 0, none⟩ = some (.int .i64 x205000_13) ∧ w'.cell? ⟨gb204, 1, none⟩ = some (.int .i64 x205001_13) ∧ w'.cell? ⟨gb204, 2, none⟩ = some (.int .i64 x205002_13)) (ds := []) #[F_,F_,F_,F_,F_,F_,F_,F_,F_,F_,F_,F_,F_,F_,F_,F_,F_,F_,F_,F_,F_,F_,F_,F_,F_,F_,F_,F_,F_,F_] (by kernel_rfl) rfl rfl ⟨(blk_cell BK204.out 0).trans rfl, (blk_cell BK204.out 1).trans rfl, (blk_cell BK204.out 2).trans rfl⟩ (fun hHeld => ?_); refine with_tabW greenscreenlaw21_LockPlays.tab41 greenscreenlaw21_LockPlays.bits41 (fun HT_ HW_ => ?_)
               generalize wc.drew = w124 at BK204 BK206 HI203 HB hHeld ⊢
               refine pure_ (i := 1) (N := some 96) (v := ?_) (a' := ?_) #[F_,T_,F_,F_,F_,F_,F_,F_,F_,F_,F_,F_,F_,F_,F_,F_,F_,F_,F_,F_,F_,F_,F_,F_,F_,F_,F_,F_,F_,F_] rfl rfl (any_of HT_.out (by kernel_rfl)) (fun _ _ _ h => h) (Or.inl ⟨by rfl, ?_⟩) ?_ ?_
               rotate_left
               ·intro w'
                go_simp
                with_reducible rfl
               rotate_left
               ·simp only [Act.put, zA_, zB_, zC_, i64_w, i32_w]
                rfl
               refine take_ (i := 2) (N := some 97) (v := ?_) (a' := ?_) #[F_,T_,T_,F_,F_,F_,F_,F_,F_,F_,F_,F_,F_,F_,F_,F_,F_,F_,F_,F_,F_,F_,F_,F_,F_,F_,F_,F_,F_,F_] rfl rfl (take_ofW HT_.out HW_.out (by kernel_rfl)) (fun _ _ _ h => h) (Or.inl ⟨by rfl, ?_⟩) hHeld ?_ ?_
               rotate_left
               ·rintro w' ⟨s0, s1, s2⟩
                go_simp
                with_reducible rfl
               rotate_left
               ·simp only [Act.put, zA_, zB_, zC_, i64_w, i32_w]
                rfl
               refine one_ (i := 0) (N := some 95) #[T_,T_,T_,F_,F_,F_,F_,F_,F_,F_,F_,F_,F_,F_,F_,F_,F_,F_,F_,F_,F_,F_,F_,F_,F_,F_,F_,F_,F_,F_] rfl rfl (one_of HT_.out (by kernel_rfl)) (by decide) (fun K hK => ?_)
               refine goes_ Try.func15 (by kernel_rfl) rfl #[.pointer (some ⟨gb203, 0, none⟩)] (by rfl) rfl rfl (by (try simp only [List.map_toArray, List.map_cons, List.map_nil]); first | done | rfl | (simp only [List.length_drop, List.length_take]; rfl)) ?_
               with_reducible refine (lock_Lock_State.calls gb203 x204000_13 x204001_13 x204002_13 t249 t250 t251 t252 w _ ?side1 ?side2 A113.out).mono ?_
               (case side1 => repeat (first | (with_reducible first | exact HI203.out | apply IsS26.alloc | apply IsS26.drewN | apply IsS26.drew | apply IsS26.set_0 | apply IsS26.set_1 | apply IsS26.set_2 | refine IsS26.far ?_ NB203_204.out _ | refine IsS26.far ?_ NB203_206.out _) | exact HI203.out))
               (case side2 => repeat (first | (with_reducible first | exact HB.out | apply below_alloc | apply pw_below_drewN | apply below_drew1 | refine below_set ?_ (IsS26.ge HI203.out) | refine below_set ?_ GE204.out | refine below_set ?_ GE206.out) | exact HB.out))
               rintro e w125 ⟨rfl, hi, hb, hk⟩
               refine ⟨_, rfl, ?_⟩
               have n0_ := Aside0.mk (KeepBut.blk hk (g' := gb204) (o := .cells #[.int .i64 x205000_13, .int .i64 x205001_13, .int .i64 x205002_13] 28 (0, 0)) (by (with_reducible repeat (first | refine blk_drewN ?_ _ | refine blk_drew ?_ | refine blk_alloc ?_ _)); exact BK204.out) NB204_203.out (by simp))
               have n1_ := Aside0.mk (KeepBut.blk hk (g' := gb206) (o := .cells #[.int .i64 ((rd_T30 l0 x20_1).f0), .int .i64 ((rd_T30 l0 x20_1).f1)] 30 (0, 0)) (by (with_reducible repeat (first | refine blk_drewN ?_ _ | refine blk_drew ?_ | refine blk_alloc ?_ _)); exact BK206.out) NB206_203.out (by simp))
               have n2_ := Aside0.mk (hb)
               have n3_ := Aside0.mk (hi)
               clear BK204
               clear BK206
               clear HB
               clear HI203
               have BK204 := n0_
               have BK206 := n1_
               have HB := n2_
               have HI203 := n3_
               clear n0_ n1_ n2_ n3_
               (try clear hb)
               (try clear hb2)
               (try clear hk)
               (try clear hi)
               refine hK.out _ _ ⟨(blk_cell BK204.out 0).trans rfl, (blk_cell BK204.out 1).trans rfl, (blk_cell BK204.out 2).trans rfl⟩ (fun hHeld => ?_)
               clear hK K
               refine norm_ (a' := ?_) ?_ ?_
               rotate_left
               ·show Act.put _ (some 95) _ = _
                simp only [Act.put, zA_, zB_, zC_, i64_w, i32_w]
                rfl
               refine pure_ (i := 3) (N := some 98) (v := ?_) (a' := ?_) #[T_,T_,T_,T_,F_,F_,F_,F_,F_,F_,F_,F_,F_,F_,F_,F_,F_,F_,F_,F_,F_,F_,F_,F_,F_,F_,F_,F_,F_,F_] rfl rfl (any_of HT_.out (by kernel_rfl)) (fun _ _ _ h => h) (Or.inl ⟨by rfl, ?_⟩) ?_ ?_
               rotate_left
               ·intro w'
                go_simp
                with_reducible rfl
               rotate_left
               ·simp only [Act.put, zA_, zB_, zC_, i64_w, i32_w]
                rfl
               refine pure_ (i := 4) (N := some 99) (v := ?_) (a' := ?_) #[T_,T_,T_,T_,T_,F_,F_,F_,F_,F_,F_,F_,F_,F_,F_,F_,F_,F_,F_,F_,F_,F_,F_,F_,F_,F_,F_,F_,F_,F_] rfl rfl (any_of HT_.out (by kernel_rfl)) (fun _ _ _ h => h) (Or.inl ⟨by rfl, ?_⟩) ?_ ?_
               rotate_left
               ·intro w'
                go_simp
                with_reducible rfl
               rotate_left
               ·simp only [Act.put, zA_, zB_, zC_, i64_w, i32_w]
                rfl
               refine pure_ (i := 6) (N := some 101) (v := ?_) (a' := ?_) #[T_,T_,T_,T_,T_,F_,T_,F_,F_,F_,F_,F_,F_,F_,F_,F_,F_,F_,F_,F_,F_,F_,F_,F_,F_,F_,F_,F_,F_,F_] rfl rfl (any_of HT_.out (by kernel_rfl)) (fun _ _ _ h => h) (Or.inl ⟨by rfl, ?_⟩) ?_ ?_
               rotate_left
               ·intro w'
                go_simp
                with_reducible rfl
               rotate_left
               ·simp only [Act.put, zA_, zB_, zC_, i64_w, i32_w]
                rfl
               refine take_ (i := 7) (N := some 102) (v := ?_) (a' := ?_) #[T_,T_,T_,T_,T_,F_,T_,T_,F_,F_,F_,F_,F_,F_,F_,F_,F_,F_,F_,F_,F_,F_,F_,F_,F_,F_,F_,F_,F_,F_] rfl rfl (take_ofW HT_.out HW_.out (by kernel_rfl)) (fun _ _ _ h => h) (Or.inl ⟨by rfl, ?_⟩) hHeld ?_ ?_
               rotate_left
               ·rintro w' ⟨s0, s1, s2⟩
                go_simp
                with_reducible rfl
               rotate_left
               ·simp only [Act.put, zA_, zB_, zC_, i64_w, i32_w]
                rfl
               refine one_ (i := 5) (N := some 100) #[T_,T_,T_,T_,T_,T_,T_,T_,F_,F_,F_,F_,F_,F_,F_,F_,F_,F_,F_,F_,F_,F_,F_,F_,F_,F_,F_,F_,F_,F_] rfl rfl (one_of HT_.out (by kernel_rfl)) (by decide) (fun K hK => ?_)
               refine goes_ Try.func16 (by kernel_rfl) rfl #[.pointer (some ⟨gb203, 0, none⟩)] (by rfl) rfl rfl (by (try simp only [List.map_toArray, List.map_cons, List.map_nil]); first | done | rfl | (simp only [List.length_drop, List.length_take]; rfl)) ?_
               with_reducible refine (lock_Lock_Why.calls gb203 t250 t251 t252 t253 t254 t255 t256 w _ ?side1 ?side2 A115.out).mono ?_
               (case side1 => repeat (first | (with_reducible first | exact HI203.out | apply IsS26.alloc | apply IsS26.drewN | apply IsS26.drew | apply IsS26.set_0 | apply IsS26.set_1 | apply IsS26.set_2 | refine IsS26.far ?_ NB203_204.out _ | refine IsS26.far ?_ NB203_206.out _) | exact HI203.out))
               (case side2 => repeat (first | (with_reducible first | exact HB.out | apply below_alloc | apply pw_below_drewN | apply below_drew1 | refine below_set ?_ (IsS26.ge HI203.out) | refine below_set ?_ GE204.out | refine below_set ?_ GE206.out) | exact HB.out))
               rintro e w126 ⟨rfl, hi, hb, hk⟩
               refine ⟨_, rfl, ?_⟩
               have n0_ := Aside0.mk (KeepBut.blk hk (g' := gb204) (o := .cells #[.int .i64 x205000_13, .int .i64 x205001_13, .int .i64 x205002_13] 28 (0, 0)) (by (with_reducible repeat (first | refine blk_drewN ?_ _ | refine blk_drew ?_ | refine blk_alloc ?_ _)); exact BK204.out) NB204_203.out (by simp))
               have n1_ := Aside0.mk (KeepBut.blk hk (g' := gb206) (o := .cells #[.int .i64 ((rd_T30 l0 x20_1).f0), .int .i64 ((rd_T30 l0 x20_1).f1)] 30 (0, 0)) (by (with_reducible repeat (first | refine blk_drewN ?_ _ | refine blk_drew ?_ | refine blk_alloc ?_ _)); exact BK206.out) NB206_203.out (by simp))
               have n2_ := Aside0.mk (hb)
               have n3_ := Aside0.mk (hi)
               clear BK204
               clear BK206
               clear HB
               clear HI203
               have BK204 := n0_
               have BK206 := n1_
               have HB := n2_
               have HI203 := n3_
               clear n0_ n1_ n2_ n3_
               (try clear hb)
               (try clear hb2)
               (try clear hk)
               (try clear hi)
               refine hK.out _ _ ⟨(blk_cell BK204.out 0).trans rfl, (blk_cell BK204.out 1).trans rfl, (blk_cell BK204.out 2).trans rfl⟩ (fun hHeld => ?_)
               clear hK K
               refine norm_ (a' := ?_) ?_ ?_
               rotate_left
               ·show Act.put _ (some 100) _ = _
                simp only [Act.put, zA_, zB_, zC_, i64_w, i32_w]
                rfl
               refine pure_ (i := 8) (N := some 103) (v := ?_) (a' := ?_) #[T_,T_,T_,T_,T_,T_,T_,T_,T_,F_,F_,F_,F_,F_,F_,F_,F_,F_,F_,F_,F_,F_,F_,F_,F_,F_,F_,F_,F_,F_] rfl rfl (any_of HT_.out (by kernel_rfl)) (fun _ _ _ h => h) (Or.inl ⟨by rfl, ?_⟩) ?_ ?_
               rotate_left
               ·intro w'
                go_simp
                with_reducible rfl
               rotate_left
               ·simp only [Act.put, zA_, zB_, zC_, i64_w, i32_w]
                rfl
               refine pure_ (i := 9) (N := some 104) (v := ?_) (a' := ?_) #[T_,T_,T_,T_,T_,T_,T_,T_,T_,T_,F_,F_,F_,F_,F_,F_,F_,F_,F_,F_,F_,F_,F_,F_,F_,F_,F_,F_,F_,F_] rfl rfl (any_of HT_.out (by kernel_rfl)) (fun _ _ _ h => h) (Or.inl ⟨by rfl, ?_⟩) ?_ ?_
               rotate_left
               ·intro w'
                go_simp
                with_reducible rfl
               rotate_left
               ·simp only [Act.put, zA_, zB_, zC_, i64_w, i32_w]
                rfl
               refine pure_ (i := 10) (N := some 105) (v := ?_) (a' := ?_) #[T_,T_,T_,T_,T_,T_,T_,T_,T_,T_,T_,F_,F_,F_,F_,F_,F_,F_,F_,F_,F_,F_,F_,F_,F_,F_,F_,F_,F_,F_] rfl rfl (any_of HT_.out (by kernel_rfl)) (fun _ _ _ h => h) (Or.inl ⟨by rfl, ?_⟩) ?_ ?_
               rotate_left
               ·intro w'
                go_simp
                with_reducible rfl
               rotate_left
               ·simp only [Act.put, zA_, zB_, zC_, i64_w, i32_w]
                rfl
               refine pure_ (i := 12) (N := some 107) (v := ?_) (a' := ?_) #[T_,T_,T_,T_,T_,T_,T_,T_,T_,T_,T_,F_,T_,F_,F_,F_,F_,F_,F_,F_,F_,F_,F_,F_,F_,F_,F_,F_,F_,F_] rfl rfl (any_of HT_.out (by kernel_rfl)) (fun _ _ _ h => h) (Or.inl ⟨by rfl, ?_⟩) ?_ ?_
               rotate_left
               ·intro w'
                go_simp
                with_reducible rfl
               rotate_left
               ·simp only [Act.put, zA_, zB_, zC_, i64_w, i32_w]
                rfl
               refine take_ (i := 13) (N := some 108) (v := ?_) (a' := ?_) #[T_,T_,T_,T_,T_,T_,T_,T_,T_,T_,T_,F_,T_,T_,F_,F_,F_,F_,F_,F_,F_,F_,F_,F_,F_,F_,F_,F_,F_,F_] rfl rfl (take_ofW HT_.out HW_.out (by kernel_rfl)) (fun _ _ _ h => h) (Or.inl ⟨by rfl, ?_⟩) hHeld ?_ ?_
               rotate_left
               ·rintro w' ⟨s0, s1, s2⟩
                go_simp
                with_reducible rfl
               rotate_left
               ·simp only [Act.put, zA_, zB_, zC_, i64_w, i32_w]
                rfl
               refine one_ (i := 11) (N := some 106) #[T_,T_,T_,T_,T_,T_,T_,T_,T_,T_,T_,T_,T_,T_,F_,F_,F_,F_,F_,F_,F_,F_,F_,F_,F_,F_,F_,F_,F_,F_] rfl rfl (one_of HT_.out (by kernel_rfl)) (by decide) (fun K hK => ?_)
               refine goes_ Try.func17 (by kernel_rfl) rfl #[.pointer (some ⟨gb203, 0, none⟩)] (by rfl) rfl rfl (by (try simp only [List.map_toArray, List.map_cons, List.map_nil]); first | done | rfl | (simp only [List.length_drop, List.length_take]; rfl)) ?_
               with_reducible refine (lock_Lock_Turns.calls gb203 t254 t255 t256 t257 t258 t259 t260 w _ ?side1 ?side2 A117.out).mono ?_
               (case side1 => repeat (first | (with_reducible first | exact HI203.out | apply IsS26.alloc | apply IsS26.drewN | apply IsS26.drew | apply IsS26.set_0 | apply IsS26.set_1 | apply IsS26.set_2 | refine IsS26.far ?_ NB203_204.out _ | refine IsS26.far ?_ NB203_206.out _) | exact HI203.out))
               (case side2 => repeat (first | (with_reducible first | exact HB.out | apply below_alloc | apply pw_below_drewN | apply below_drew1 | refine below_set ?_ (IsS26.ge HI203.out) | refine below_set ?_ GE204.out | refine below_set ?_ GE206.out) | exact HB.out))
               rintro e w127 ⟨rfl, hi, hb, hk⟩
               refine ⟨_, rfl, ?_⟩
               have n0_ := Aside0.mk (KeepBut.blk hk (g' := gb204) (o := .cells #[.int .i64 x205000_13, .int .i64 x205001_13, .int .i64 x205002_13] 28 (0, 0)) (by (with_reducible repeat (first | refine blk_drewN ?_ _ | refine blk_drew ?_ | refine blk_alloc ?_ _)); exact BK204.out) NB204_203.out (by simp))
               have n1_ := Aside0.mk (KeepBut.blk hk (g' := gb206) (o := .cells #[.int .i64 ((rd_T30 l0 x20_1).f0), .int .i64 ((rd_T30 l0 x20_1).f1)] 30 (0, 0)) (by (with_reducible repeat (first | refine blk_drewN ?_ _ | refine blk_drew ?_ | refine blk_alloc ?_ _)); exact BK206.out) NB206_203.out (by simp))
               have n2_ := Aside0.mk (hb)
               have n3_ := Aside0.mk (hi)
               clear BK204
               clear BK206
               clear HB
               clear HI203
               have BK204 := n0_
               have BK206 := n1_
               have HB := n2_
               have HI203 := n3_
               clear n0_ n1_ n2_ n3_
               (try clear hb)
               (try clear hb2)
               (try clear hk)
               (try clear hi)
               refine hK.out _ _ ⟨(blk_cell BK204.out 0).trans rfl, (blk_cell BK204.out 1).trans rfl, (blk_cell BK204.out 2).trans rfl⟩ (fun hHeld => ?_)
               clear hK K
               refine norm_ (a' := ?_) ?_ ?_
               rotate_left
               ·show Act.put _ (some 106) _ = _
                simp only [Act.put, zA_, zB_, zC_, i64_w, i32_w]
                rfl
               refine pure_ (i := 14) (N := some 109) (v := ?_) (a' := ?_) #[T_,T_,T_,T_,T_,T_,T_,T_,T_,T_,T_,T_,T_,T_,T_,F_,F_,F_,F_,F_,F_,F_,F_,F_,F_,F_,F_,F_,F_,F_] rfl rfl (any_of HT_.out (by kernel_rfl)) (fun _ _ _ h => h) (Or.inl ⟨by rfl, ?_⟩) ?_ ?_
               rotate_left
               ·intro w'
                go_simp
                with_reducible rfl
               rotate_left
               ·simp only [Act.put, zA_, zB_, zC_, i64_w, i32_w]
                rfl
               refine pure_ (i := 15) (N := some 110) (v := ?_) (a' := ?_) #[T_,T_,T_,T_,T_,T_,T_,T_,T_,T_,T_,T_,T_,T_,T_,T_,F_,F_,F_,F_,F_,F_,F_,F_,F_,F_,F_,F_,F_,F_] rfl rfl (any_of HT_.out (by kernel_rfl)) (fun _ _ _ h => h) (Or.inl ⟨by rfl, ?_⟩) ?_ ?_
               rotate_left
               ·intro w'
                go_simp
                with_reducible rfl
               rotate_left
               ·simp only [Act.put, zA_, zB_, zC_, i64_w, i32_w]
                rfl
               refine pure_ (i := 16) (N := some 111) (v := ?_) (a' := ?_) #[T_,T_,T_,T_,T_,T_,T_,T_,T_,T_,T_,T_,T_,T_,T_,T_,T_,F_,F_,F_,F_,F_,F_,F_,F_,F_,F_,F_,F_,F_] rfl rfl (any_of HT_.out (by kernel_rfl)) (fun _ _ _ h => h) (Or.inl ⟨by rfl, ?_⟩) ?_ ?_
               rotate_left
               ·intro w'
                go_simp
                with_reducible rfl
               rotate_left
               ·simp only [Act.put, zA_, zB_, zC_, i64_w, i32_w]
                rfl
               refine take_ (i := 18) (N := some 113) (v := ?_) (a' := ?_) #[T_,T_,T_,T_,T_,T_,T_,T_,T_,T_,T_,T_,T_,T_,T_,T_,T_,F_,T_,F_,F_,F_,F_,F_,F_,F_,F_,F_,F_,F_] rfl rfl (take_ofW HT_.out HW_.out (by kernel_rfl)) (fun _ _ _ h => h) (Or.inl ⟨by rfl, ?_⟩) hHeld ?_ ?_
               rotate_left
               ·rintro w' ⟨s0, s1, s2⟩
                go_simp
                with_reducible rfl
               rotate_left
               ·simp only [Act.put, zA_, zB_, zC_, i64_w, i32_w]
                rfl
               refine one_ (i := 17) (N := some 112) #[T_,T_,T_,T_,T_,T_,T_,T_,T_,T_,T_,T_,T_,T_,T_,T_,T_,T_,T_,F_,F_,F_,F_,F_,F_,F_,F_,F_,F_,F_] rfl rfl (one_of HT_.out (by kernel_rfl)) (by decide) (fun K hK => ?_)
               refine goes_ Try.func18 (by kernel_rfl) rfl #[.pointer (some ⟨gb203, 0, none⟩)] (by rfl) rfl rfl (by (try simp only [List.map_toArray, List.map_cons, List.map_nil]); first | done | rfl | (simp only [List.length_drop, List.length_take]; rfl)) ?_
               with_reducible refine (lock_Lock_Text.calls gb203 t258 t259 t260 t261 t262 t263 t264 w _ ?side1 ?side2 A119.out).mono ?_
               (case side1 => repeat (first | (with_reducible first | exact HI203.out | apply IsS26.alloc | apply IsS26.drewN | apply IsS26.drew | apply IsS26.set_0 | apply IsS26.set_1 | apply IsS26.set_2 | refine IsS26.far ?_ NB203_204.out _ | refine IsS26.far ?_ NB203_206.out _) | exact HI203.out))
               (case side2 => repeat (first | (with_reducible first | exact HB.out | apply below_alloc | apply pw_below_drewN | apply below_drew1 | refine below_set ?_ (IsS26.ge HI203.out) | refine below_set ?_ GE204.out | refine below_set ?_ GE206.out) | exact HB.out))
               rintro e w128 ⟨rfl, hi, hb, hk⟩
               refine ⟨_, rfl, ?_⟩
               have n0_ := Aside0.mk (KeepBut.blk hk (g' := gb204) (o := .cells #[.int .i64 x205000_13, .int .i64 x205001_13, .int .i64 x205002_13] 28 (0, 0)) (by (with_reducible repeat (first | refine blk_drewN ?_ _ | refine blk_drew ?_ | refine blk_alloc ?_ _)); exact BK204.out) NB204_203.out (by simp))
               have n1_ := Aside0.mk (KeepBut.blk hk (g' := gb206) (o := .cells #[.int .i64 ((rd_T30 l0 x20_1).f0), .int .i64 ((rd_T30 l0 x20_1).f1)] 30 (0, 0)) (by (with_reducible repeat (first | refine blk_drewN ?_ _ | refine blk_drew ?_ | refine blk_alloc ?_ _)); exact BK206.out) NB206_203.out (by simp))
               have n2_ := Aside0.mk (hb)
               have n3_ := Aside0.mk (hi)
               clear BK204
               clear BK206
               clear HB
               clear HI203
               have BK204 := n0_
               have BK206 := n1_
               have HB := n2_
               have HI203 := n3_
               clear n0_ n1_ n2_ n3_
               (try clear hb)
               (try clear hb2)
               (try clear hk)
               (try clear hi)
               refine hK.out _ _ ⟨(blk_cell BK204.out 0).trans rfl, (blk_cell BK204.out 1).trans rfl, (blk_cell BK204.out 2).trans rfl⟩ (fun hHeld => ?_)
               clear hK K
               refine norm_ (a' := ?_) ?_ ?_
               rotate_left
               ·show Act.put _ (some 112) _ = _
                simp only [Act.put, zA_, zB_, zC_, i64_w, i32_w]
                rfl
               refine one_ (i := 19) (N := some 114) #[T_,T_,T_,T_,T_,T_,T_,T_,T_,T_,T_,T_,T_,T_,T_,T_,T_,T_,T_,T_,F_,F_,F_,F_,F_,F_,F_,F_,F_,F_] rfl rfl (one_of HT_.out (by kernel_rfl)) (by decide) (fun K hK => ?_)
               refine goes_ Try.func19 (by kernel_rfl) rfl #[.agg #[.int .i64 x205000_13, .int .i64 x205001_13, .int .i64 x205002_13]] (by rfl) rfl rfl (by (try simp only [List.map_toArray, List.map_cons, List.map_nil]); first | done | rfl | (simp only [List.length_drop, List.length_take]; rfl)) ?_
               with_reducible refine (greenscreenref21_Text.calls x205000_13 x205001_13 x205002_13 t265 _ A120.out).mono ?_
               rintro e w129 ⟨rfl, hb⟩
               refine ⟨_, rfl, ?_⟩
               have n0_ := Aside0.mk (blk_below (g := gb204) (o := .cells #[.int .i64 x205000_13, .int .i64 x205001_13, .int .i64 x205002_13] 28 (0, 0)) (by (with_reducible repeat (first | refine blk_drewN ?_ _ | refine blk_drew ?_ | refine blk_alloc ?_ _)); exact BK204.out) hb)
               have n1_ := Aside0.mk (blk_below (g := gb206) (o := .cells #[.int .i64 ((rd_T30 l0 x20_1).f0), .int .i64 ((rd_T30 l0 x20_1).f1)] 30 (0, 0)) (by (with_reducible repeat (first | refine blk_drewN ?_ _ | refine blk_drew ?_ | refine blk_alloc ?_ _)); exact BK206.out) hb)
               have n2_ := Aside0.mk (IsS26.below (by repeat (first | (with_reducible first | exact HI203.out | apply IsS26.alloc | apply IsS26.drewN | apply IsS26.drew | apply IsS26.set_0 | apply IsS26.set_1 | apply IsS26.set_2 | refine IsS26.far ?_ NB203_204.out _ | refine IsS26.far ?_ NB203_206.out _) | exact HI203.out)) hb)
               have n3_ := Aside0.mk (below_step (by repeat (first | (with_reducible first | exact HB.out | apply below_alloc | apply pw_below_drewN | apply below_drew1 | refine below_set ?_ (IsS26.ge HI203.out) | refine below_set ?_ GE204.out | refine below_set ?_ GE206.out) | exact HB.out)) hb)
               clear BK204
               clear BK206
               clear HI203
               clear HB
               have BK204 := n0_
               have BK206 := n1_
               have HI203 := n2_
               have HB := n3_
               clear n0_ n1_ n2_ n3_
               (try clear hb)
               (try clear hb2)
               (try clear hk)
               (try clear hi)
               refine hK.out _ _ ⟨(blk_cell BK204.out 0).trans rfl, (blk_cell BK204.out 1).trans rfl, (blk_cell BK204.out 2).trans rfl⟩ (fun hHeld => ?_)
               clear hK K
               refine norm_ (a' := ?_) ?_ ?_
               rotate_left
               ·show Act.put _ (some 114) _ = _
                simp only [Act.put, zA_, zB_, zC_, i64_w, i32_w]
                rfl
               refine pure_ (i := 20) (N := some 115) (v := ?_) (a' := ?_) #[T_,T_,T_,T_,T_,T_,T_,T_,T_,T_,T_,T_,T_,T_,T_,T_,T_,T_,T_,T_,T_,F_,F_,F_,F_,F_,F_,F_,F_,F_] rfl rfl (any_of HT_.out (by kernel_rfl)) (fun _ _ _ h => h) (Or.inl ⟨by rfl, ?_⟩) ?_ ?_
               rotate_left
               ·intro w'
                go_simp
                with_reducible rfl
               rotate_left
               ·simp only [Act.put, zA_, zB_, zC_, i64_w, i32_w]
                rfl
               refine pure_ (i := 21) (N := some 116) (v := ?_) (a' := ?_) #[T_,T_,T_,T_,T_,T_,T_,T_,T_,T_,T_,T_,T_,T_,T_,T_,T_,T_,T_,T_,T_,T_,F_,F_,F_,F_,F_,F_,F_,F_] rfl rfl (any_of HT_.out (by kernel_rfl)) (fun _ _ _ h => h) (Or.inl ⟨by rfl, ?_⟩) ?_ ?_
               rotate_left
               ·intro w'
                go_simp
                with_reducible rfl
               rotate_left
               ·simp only [Act.put, zA_, zB_, zC_, i64_w, i32_w]
                rfl
               refine pure_ (i := 22) (N := some 117) (v := ?_) (a' := ?_) #[T_,T_,T_,T_,T_,T_,T_,T_,T_,T_,T_,T_,T_,T_,T_,T_,T_,T_,T_,T_,T_,T_,T_,F_,F_,F_,F_,F_,F_,F_] rfl rfl (any_of HT_.out (by kernel_rfl)) (fun _ _ _ h => h) (Or.inl ⟨by rfl, ?_⟩) ?_ ?_
               rotate_left
               ·intro w'
                go_simp
                with_reducible rfl
               rotate_left
               ·simp only [Act.put, zA_, zB_, zC_, i64_w, i32_w]
                rfl
               refine pure_ (i := 25) (N := some 120) (v := ?_) (a' := ?_) #[T_,T_,T_,T_,T_,T_,T_,T_,T_,T_,T_,T_,T_,T_,T_,T_,T_,T_,T_,T_,T_,T_,T_,F_,F_,T_,F_,F_,F_,F_] rfl rfl (any_of HT_.out (by kernel_rfl)) (fun _ _ _ h => h) (Or.inl ⟨by rfl, ?_⟩) ?_ ?_
               rotate_left
               ·intro w'
                go_simp
                with_reducible rfl
               rotate_left
               ·simp only [Act.put, zA_, zB_, zC_, i64_w, i32_w]
                rfl
               refine take_ (i := 26) (N := some 121) (v := ?_) (a' := ?_) #[T_,T_,T_,T_,T_,T_,T_,T_,T_,T_,T_,T_,T_,T_,T_,T_,T_,T_,T_,T_,T_,T_,T_,F_,F_,T_,T_,F_,F_,F_] rfl rfl (take_ofW HT_.out HW_.out (by kernel_rfl)) (fun _ _ _ h => h) (Or.inl ⟨by rfl, ?_⟩) hHeld ?_ ?_
               rotate_left
               ·rintro w' ⟨s0, s1, s2⟩
                go_simp
                with_reducible rfl
               rotate_left
               ·simp only [Act.put, zA_, zB_, zC_, i64_w, i32_w]
                rfl
               refine pure_ (i := 27) (N := some 122) (v := ?_) (a' := ?_) #[T_,T_,T_,T_,T_,T_,T_,T_,T_,T_,T_,T_,T_,T_,T_,T_,T_,T_,T_,T_,T_,T_,T_,F_,F_,T_,T_,T_,F_,F_] rfl rfl (any_of HT_.out (by kernel_rfl)) (fun _ _ _ h => h) (Or.inl ⟨by rfl, ?_⟩) ?_ ?_
               rotate_left
               ·intro w'
                go_simp
                with_reducible rfl
               rotate_left
               ·simp only [Act.put, zA_, zB_, zC_, i64_w, i32_w]
                rfl
               refine one_ (i := 23) (N := some 118) #[T_,T_,T_,T_,T_,T_,T_,T_,T_,T_,T_,T_,T_,T_,T_,T_,T_,T_,T_,T_,T_,T_,T_,T_,F_,T_,T_,T_,F_,F_] rfl rfl (one_of HT_.out (by kernel_rfl)) (by decide) (fun K hK => ?_)
               refine goes_ Try.func20 (by kernel_rfl) rfl #[.pointer (some ⟨gb203, 0, none⟩)] (by rfl) rfl rfl (by (try simp only [List.map_toArray, List.map_cons, List.map_nil]); first | done | rfl | (simp only [List.length_drop, List.length_take]; rfl)) ?_
               with_reducible refine (lock_Lock_May.calls gb203 t262 t263 t264 t266 t267 t268 t269 w _ ?side1 ?side2 A122.out).mono ?_
               (case side1 => repeat (first | (with_reducible first | exact HI203.out | apply IsS26.alloc | apply IsS26.drewN | apply IsS26.drew | apply IsS26.set_0 | apply IsS26.set_1 | apply IsS26.set_2 | refine IsS26.far ?_ NB203_204.out _ | refine IsS26.far ?_ NB203_206.out _) | exact HI203.out))
               (case side2 => repeat (first | (with_reducible first | exact HB.out | apply below_alloc | apply pw_below_drewN | apply below_drew1 | refine below_set ?_ (IsS26.ge HI203.out) | refine below_set ?_ GE204.out | refine below_set ?_ GE206.out) | exact HB.out))
               rintro e w130 ⟨rfl, hi, hb, hk⟩
               refine ⟨_, rfl, ?_⟩
               have n0_ := Aside0.mk (KeepBut.blk hk (g' := gb204) (o := .cells #[.int .i64 x205000_13, .int .i64 x205001_13, .int .i64 x205002_13] 28 (0, 0)) (by (with_reducible repeat (first | refine blk_drewN ?_ _ | refine blk_drew ?_ | refine blk_alloc ?_ _)); exact BK204.out) NB204_203.out (by simp))
               have n1_ := Aside0.mk (KeepBut.blk hk (g' := gb206) (o := .cells #[.int .i64 ((rd_T30 l0 x20_1).f0), .int .i64 ((rd_T30 l0 x20_1).f1)] 30 (0, 0)) (by (with_reducible repeat (first | refine blk_drewN ?_ _ | refine blk_drew ?_ | refine blk_alloc ?_ _)); exact BK206.out) NB206_203.out (by simp))
               have n2_ := Aside0.mk (hb)
               have n3_ := Aside0.mk (hi)
               clear BK204
               clear BK206
               clear HB
               clear HI203
               have BK204 := n0_
               have BK206 := n1_
               have HB := n2_
               have HI203 := n3_
               clear n0_ n1_ n2_ n3_
               (try clear hb)
               (try clear hb2)
               (try clear hk)
               (try clear hi)
               refine hK.out _ _ ⟨(blk_cell BK204.out 0).trans rfl, (blk_cell BK204.out 1).trans rfl, (blk_cell BK204.out 2).trans rfl⟩ (fun hHeld => ?_)
               clear hK K
               refine norm_ (a' := ?_) ?_ ?_
               rotate_left
               ·show Act.put _ (some 118) _ = _
                simp only [Act.put, zA_, zB_, zC_, i64_w, i32_w]
                rfl
               refine pure_ (i := 24) (N := some 119) (v := ?_) (a' := ?_) #[T_,T_,T_,T_,T_,T_,T_,T_,T_,T_,T_,T_,T_,T_,T_,T_,T_,T_,T_,T_,T_,T_,T_,T_,T_,T_,T_,T_,F_,F_] rfl rfl (any_of HT_.out (by kernel_rfl)) (fun _ _ _ h => h) (Or.inl ⟨by rfl, ?_⟩) ?_ ?_
               rotate_left
               ·intro w'
                go_simp
                with_reducible rfl
               rotate_left
               ·simp only [Act.put, zA_, zB_, zC_, i64_w, i32_w]
                rfl
               refine pure_ (i := 28) (N := some 123) (v := ?_) (a' := ?_) #[T_,T_,T_,T_,T_,T_,T_,T_,T_,T_,T_,T_,T_,T_,T_,T_,T_,T_,T_,T_,T_,T_,T_,T_,T_,T_,T_,T_,T_,F_] rfl rfl (any_of HT_.out (by kernel_rfl)) (fun _ _ _ h => h) (Or.inl ⟨by rfl, ?_⟩) ?_ ?_
               rotate_left
               ·intro w'
                go_simp
                with_reducible rfl
               rotate_left
               ·simp only [Act.put, zA_, zB_, zC_, i64_w, i32_w]
                rfl
               refine pure_ (i := 29) (N := some 124) (v := ?_) (a' := ?_) #[T_,T_,T_,T_,T_,T_,T_,T_,T_,T_,T_,T_,T_,T_,T_,T_,T_,T_,T_,T_,T_,T_,T_,T_,T_,T_,T_,T_,T_,T_] rfl rfl (any_of HT_.out (by kernel_rfl)) (fun _ _ _ h => h) (Or.inl ⟨by rfl, ?_⟩) ?_ ?_
               rotate_left
               ·intro w'
                go_simp
                with_reducible rfl
               rotate_left
               ·simp only [Act.put, zA_, zB_, zC_, i64_w, i32_w]
                rfl
               refine done_ (done_of HT_.out (by kernel_rfl)) ?_
               try go_wp2
               go_ret
               exact ⟨by first | rfl | (simp [errW_none, errW_some] <;> rfl) | (simp [*, errW_none, errW_some] <;> rfl), by repeat (first | (with_reducible first | exact HB.out | apply below_alloc | apply pw_below_drewN | apply below_drew1 | refine below_set ?_ (IsS26.ge HI203.out) | refine below_set ?_ GE204.out | refine below_set ?_ GE206.out) | exact HB.out)⟩
              ·rw [if_neg c123] at H
               have c123b0 : ((t266 == 0) != (x205000_13 == 1)) = false := by simpa using c123
               (try (have c123e0 : ((t266 == 0) = (x205000_13 == 1)) = True := by (have he_ := c123b0; revert he_; cases ((t266 == 0)) <;> cases ((x205000_13 == 1)) <;> simp)))
               (try (have c123e1 : ((t266 == 0) == (x205000_13 == 1)) = true := by (have he_ := c123b0; revert he_; cases ((t266 == 0)) <;> cases ((x205000_13 == 1)) <;> simp)))
               (try (have c123b1 : decide ((t266 == 0) = (x205000_13 == 1)) = true := by simpa using c123))
               (try (have c123b2 : ((t266 == 0) == (x205000_13 == 1)) = true := by simpa using c123))
               clear c123
               have H' := Aside0.mk H
               clear H
               try go_wp2
               have n0_ := Aside0.mk (blk_drew BK204.out)
               have n1_ := Aside0.mk (blk_drew BK206.out)
               have n2_ := Aside0.mk (IsS26.drew HI203.out)
               have n3_ := Aside0.mk (below_drew1 HB.out)
               clear BK204
               clear BK206
               clear HI203
               clear HB
               have BK204 := n0_
               have BK206 := n1_
               have HI203 := n2_
               have HB := n3_
               clear n0_ n1_ n2_ n3_
               refine start_ (n := 30) (S := fun w' => w'.cell? ⟨gb204, 0, none⟩ = some (.int .i64 x205000_13) ∧ w'.cell? ⟨gb204, 1, none⟩ = some (.int .i64 x205001_13) ∧ w'.cell? ⟨gb204, 2, none⟩ = some (.int .i64 x205002_13)) (ds := []) #[F_,F_,F_,F_,F_,F_,F_,F_,F_,F_,F_,F_,F_,F_,F_,F_,F_,F_,F_,F_,F_,F_,F_,F_,F_,F_,F_,F_,F_,F_] (by kernel_rfl) rfl rfl ⟨(blk_cell BK204.out 0).trans rfl, (blk_cell BK204.out 1).trans rfl, (blk_cell BK204.out 2).trans rfl⟩ (fun hHeld => ?_); refine with_tabW greenscreenlaw21_LockPlays.tab41 greenscreenlaw21_LockPlays.bits41 (fun HT_ HW_ => ?_)
               generalize wc.drew = w131 at BK204 BK206 HI203 HB hHeld ⊢
               refine pure_ (i := 1) (N := some 96) (v := ?_) (a' := ?_) #[F_,T_,F_,F_,F_,F_,F_,F_,F_,F_,F_,F_,F_,F_,F_,F_,F_,F_,F_,F_,F_,F_,F_,F_,F_,F_,F_,F_,F_,F_] rfl rfl (any_of HT_.out (by kernel_rfl)) (fun _ _ _ h => h) (Or.inl ⟨by rfl, ?_⟩) ?_ ?_
               rotate_left
               ·intro w'
                go_simp
                with_reducible rfl
               rotate_left
               ·simp only [Act.put, zA_, zB_, zC_, i64_w, i32_w]
                rfl
               refine take_ (i := 2) (N := some 97) (v := ?_) (a' := ?_) #[F_,T_,T_,F_,F_,F_,F_,F_,F_,F_,F_,F_,F_,F_,F_,F_,F_,F_,F_,F_,F_,F_,F_,F_,F_,F_,F_,F_,F_,F_] rfl rfl (take_ofW HT_.out HW_.out (by kernel_rfl)) (fun _ _ _ h => h) (Or.inl ⟨by rfl, ?_⟩) hHeld ?_ ?_
               rotate_left
               ·rintro w' ⟨s0, s1, s2⟩
                go_simp
                with_reducible rfl
               rotate_left
               ·simp only [Act.put, zA_, zB_, zC_, i64_w, i32_w]
                rfl
               refine one_ (i := 0) (N := some 95) #[T_,T_,T_,F_,F_,F_,F_,F_,F_,F_,F_,F_,F_,F_,F_,F_,F_,F_,F_,F_,F_,F_,F_,F_,F_,F_,F_,F_,F_,F_] rfl rfl (one_of HT_.out (by kernel_rfl)) (by decide) (fun K hK => ?_)
               refine goes_ Try.func15 (by kernel_rfl) rfl #[.pointer (some ⟨gb203, 0, none⟩)] (by rfl) rfl rfl (by (try simp only [List.map_toArray, List.map_cons, List.map_nil]); first | done | rfl | (simp only [List.length_drop, List.length_take]; rfl)) ?_
               with_reducible refine (lock_Lock_State.calls gb203 x204000_13 x204001_13 x204002_13 t249 t250 t251 t252 w _ ?side1 ?side2 A113.out).mono ?_
               (case side1 => repeat (first | (with_reducible first | exact HI203.out | apply IsS26.alloc | apply IsS26.drewN | apply IsS26.drew | apply IsS26.set_0 | apply IsS26.set_1 | apply IsS26.set_2 | refine IsS26.far ?_ NB203_204.out _ | refine IsS26.far ?_ NB203_206.out _) | exact HI203.out))
               (case side2 => repeat (first | (with_reducible first | exact HB.out | apply below_alloc | apply pw_below_drewN | apply below_drew1 | refine below_set ?_ (IsS26.ge HI203.out) | refine below_set ?_ GE204.out | refine below_set ?_ GE206.out) | exact HB.out))
               rintro e w132 ⟨rfl, hi, hb, hk⟩
               refine ⟨_, rfl, ?_⟩
               have n0_ := Aside0.mk (KeepBut.blk hk (g' := gb204) (o := .cells #[.int .i64 x205000_13, .int .i64 x205001_13, .int .i64 x205002_13] 28 (0, 0)) (by (with_reducible repeat (first | refine blk_drewN ?_ _ | refine blk_drew ?_ | refine blk_alloc ?_ _)); exact BK204.out) NB204_203.out (by simp))
               have n1_ := Aside0.mk (KeepBut.blk hk (g' := gb206) (o := .cells #[.int .i64 ((rd_T30 l0 x20_1).f0), .int .i64 ((rd_T30 l0 x20_1).f1)] 30 (0, 0)) (by (with_reducible repeat (first | refine blk_drewN ?_ _ | refine blk_drew ?_ | refine blk_alloc ?_ _)); exact BK206.out) NB206_203.out (by simp))
               have n2_ := Aside0.mk (hb)
               have n3_ := Aside0.mk (hi)
               clear BK204
               clear BK206
               clear HB
               clear HI203
               have BK204 := n0_
               have BK206 := n1_
               have HB := n2_
               have HI203 := n3_
               clear n0_ n1_ n2_ n3_
               (try clear hb)
               (try clear hb2)
               (try clear hk)
               (try clear hi)
               refine hK.out _ _ ⟨(blk_cell BK204.out 0).trans rfl, (blk_cell BK204.out 1).trans rfl, (blk_cell BK204.out 2).trans rfl⟩ (fun hHeld => ?_)
               clear hK K
               refine norm_ (a' := ?_) ?_ ?_
               rotate_left
               ·show Act.put _ (some 95) _ = _
                simp only [Act.put, zA_, zB_, zC_, i64_w, i32_w]
                rfl
               refine pure_ (i := 3) (N := some 98) (v := ?_) (a' := ?_) #[T_,T_,T_,T_,F_,F_,F_,F_,F_,F_,F_,F_,F_,F_,F_,F_,F_,F_,F_,F_,F_,F_,F_,F_,F_,F_,F_,F_,F_,F_] rfl rfl (any_of HT_.out (by kernel_rfl)) (fun _ _ _ h => h) (Or.inl ⟨by rfl, ?_⟩) ?_ ?_
               rotate_left
               ·intro w'
                go_simp
                with_reducible rfl
               rotate_left
               ·simp only [Act.put, zA_, zB_, zC_, i64_w, i32_w]
                rfl
               refine pure_ (i := 4) (N := some 99) (v := ?_) (a' := ?_) #[T_,T_,T_,T_,T_,F_,F_,F_,F_,F_,F_,F_,F_,F_,F_,F_,F_,F_,F_,F_,F_,F_,F_,F_,F_,F_,F_,F_,F_,F_] rfl rfl (any_of HT_.out (by kernel_rfl)) (fun _ _ _ h => h) (Or.inl ⟨by rfl, ?_⟩) ?_ ?_
               rotate_left
               ·intro w'
                go_simp
                with_reducible rfl
               rotate_left
               ·simp only [Act.put, zA_, zB_, zC_, i64_w, i32_w]
                rfl
               refine pure_ (i := 6) (N := some 101) (v := ?_) (a' := ?_) #[T_,T_,T_,T_,T_,F_,T_,F_,F_,F_,F_,F_,F_,F_,F_,F_,F_,F_,F_,F_,F_,F_,F_,F_,F_,F_,F_,F_,F_,F_] rfl rfl (any_of HT_.out (by kernel_rfl)) (fun _ _ _ h => h) (Or.inl ⟨by rfl, ?_⟩) ?_ ?_
               rotate_left
               ·intro w'
                go_simp
                with_reducible rfl
               rotate_left
               ·simp only [Act.put, zA_, zB_, zC_, i64_w, i32_w]
                rfl
               refine take_ (i := 7) (N := some 102) (v := ?_) (a' := ?_) #[T_,T_,T_,T_,T_,F_,T_,T_,F_,F_,F_,F_,F_,F_,F_,F_,F_,F_,F_,F_,F_,F_,F_,F_,F_,F_,F_,F_,F_,F_] rfl rfl (take_ofW HT_.out HW_.out (by kernel_rfl)) (fun _ _ _ h => h) (Or.inl ⟨by rfl, ?_⟩) hHeld ?_ ?_
               rotate_left
               ·rintro w' ⟨s0, s1, s2⟩
                go_simp
                with_reducible rfl
               rotate_left
               ·simp only [Act.put, zA_, zB_, zC_, i64_w, i32_w]
                rfl
               refine one_ (i := 5) (N := some 100) #[T_,T_,T_,T_,T_,T_,T_,T_,F_,F_,F_,F_,F_,F_,F_,F_,F_,F_,F_,F_,F_,F_,F_,F_,F_,F_,F_,F_,F_,F_] rfl rfl (one_of HT_.out (by kernel_rfl)) (by decide) (fun K hK => ?_)
               refine goes_ Try.func16 (by kernel_rfl) rfl #[.pointer (some ⟨gb203, 0, none⟩)] (by rfl) rfl rfl (by (try simp only [List.map_toArray, List.map_cons, List.map_nil]); first | done | rfl | (simp only [List.length_drop, List.length_take]; rfl)) ?_
               with_reducible refine (lock_Lock_Why.calls gb203 t250 t251 t252 t253 t254 t255 t256 w _ ?side1 ?side2 A115.out).mono ?_
               (case side1 => repeat (first | (with_reducible first | exact HI203.out | apply IsS26.alloc | apply IsS26.drewN | apply IsS26.drew | apply IsS26.set_0 | apply IsS26.set_1 | apply IsS26.set_2 | refine IsS26.far ?_ NB203_204.out _ | refine IsS26.far ?_ NB203_206.out _) | exact HI203.out))
               (case side2 => repeat (first | (with_reducible first | exact HB.out | apply below_alloc | apply pw_below_drewN | apply below_drew1 | refine below_set ?_ (IsS26.ge HI203.out) | refine below_set ?_ GE204.out | refine below_set ?_ GE206.out) | exact HB.out))
               rintro e w133 ⟨rfl, hi, hb, hk⟩
               refine ⟨_, rfl, ?_⟩
               have n0_ := Aside0.mk (KeepBut.blk hk (g' := gb204) (o := .cells #[.int .i64 x205000_13, .int .i64 x205001_13, .int .i64 x205002_13] 28 (0, 0)) (by (with_reducible repeat (first | refine blk_drewN ?_ _ | refine blk_drew ?_ | refine blk_alloc ?_ _)); exact BK204.out) NB204_203.out (by simp))
               have n1_ := Aside0.mk (KeepBut.blk hk (g' := gb206) (o := .cells #[.int .i64 ((rd_T30 l0 x20_1).f0), .int .i64 ((rd_T30 l0 x20_1).f1)] 30 (0, 0)) (by (with_reducible repeat (first | refine blk_drewN ?_ _ | refine blk_drew ?_ | refine blk_alloc ?_ _)); exact BK206.out) NB206_203.out (by simp))
               have n2_ := Aside0.mk (hb)
               have n3_ := Aside0.mk (hi)
               clear BK204
               clear BK206
               clear HB
               clear HI203
               have BK204 := n0_
               have BK206 := n1_
               have HB := n2_
               have HI203 := n3_
               clear n0_ n1_ n2_ n3_
               (try clear hb)
               (try clear hb2)
               (try clear hk)
               (try clear hi)
               refine hK.out _ _ ⟨(blk_cell BK204.out 0).trans rfl, (blk_cell BK204.out 1).trans rfl, (blk_cell BK204.out 2).trans rfl⟩ (fun hHeld => ?_)
               clear hK K
               refine norm_ (a' := ?_) ?_ ?_
               rotate_left
               ·show Act.put _ (some 100) _ = _
                simp only [Act.put, zA_, zB_, zC_, i64_w, i32_w]
                rfl
               refine pure_ (i := 8) (N := some 103) (v := ?_) (a' := ?_) #[T_,T_,T_,T_,T_,T_,T_,T_,T_,F_,F_,F_,F_,F_,F_,F_,F_,F_,F_,F_,F_,F_,F_,F_,F_,F_,F_,F_,F_,F_] rfl rfl (any_of HT_.out (by kernel_rfl)) (fun _ _ _ h => h) (Or.inl ⟨by rfl, ?_⟩) ?_ ?_
               rotate_left
               ·intro w'
                go_simp
                with_reducible rfl
               rotate_left
               ·simp only [Act.put, zA_, zB_, zC_, i64_w, i32_w]
                rfl
               refine pure_ (i := 9) (N := some 104) (v := ?_) (a' := ?_) #[T_,T_,T_,T_,T_,T_,T_,T_,T_,T_,F_,F_,F_,F_,F_,F_,F_,F_,F_,F_,F_,F_,F_,F_,F_,F_,F_,F_,F_,F_] rfl rfl (any_of HT_.out (by kernel_rfl)) (fun _ _ _ h => h) (Or.inl ⟨by rfl, ?_⟩) ?_ ?_
               rotate_left
               ·intro w'
                go_simp
                with_reducible rfl
               rotate_left
               ·simp only [Act.put, zA_, zB_, zC_, i64_w, i32_w]
                rfl
               refine pure_ (i := 10) (N := some 105) (v := ?_) (a' := ?_) #[T_,T_,T_,T_,T_,T_,T_,T_,T_,T_,T_,F_,F_,F_,F_,F_,F_,F_,F_,F_,F_,F_,F_,F_,F_,F_,F_,F_,F_,F_] rfl rfl (any_of HT_.out (by kernel_rfl)) (fun _ _ _ h => h) (Or.inl ⟨by rfl, ?_⟩) ?_ ?_
               rotate_left
               ·intro w'
                go_simp
                with_reducible rfl
               rotate_left
               ·simp only [Act.put, zA_, zB_, zC_, i64_w, i32_w]
                rfl
               refine pure_ (i := 12) (N := some 107) (v := ?_) (a' := ?_) #[T_,T_,T_,T_,T_,T_,T_,T_,T_,T_,T_,F_,T_,F_,F_,F_,F_,F_,F_,F_,F_,F_,F_,F_,F_,F_,F_,F_,F_,F_] rfl rfl (any_of HT_.out (by kernel_rfl)) (fun _ _ _ h => h) (Or.inl ⟨by rfl, ?_⟩) ?_ ?_
               rotate_left
               ·intro w'
                go_simp
                with_reducible rfl
               rotate_left
               ·simp only [Act.put, zA_, zB_, zC_, i64_w, i32_w]
                rfl
               refine take_ (i := 13) (N := some 108) (v := ?_) (a' := ?_) #[T_,T_,T_,T_,T_,T_,T_,T_,T_,T_,T_,F_,T_,T_,F_,F_,F_,F_,F_,F_,F_,F_,F_,F_,F_,F_,F_,F_,F_,F_] rfl rfl (take_ofW HT_.out HW_.out (by kernel_rfl)) (fun _ _ _ h => h) (Or.inl ⟨by rfl, ?_⟩) hHeld ?_ ?_
               rotate_left
               ·rintro w' ⟨s0, s1, s2⟩
                go_simp
                with_reducible rfl
               rotate_left
               ·simp only [Act.put, zA_, zB_, zC_, i64_w, i32_w]
                rfl
               refine one_ (i := 11) (N := some 106) #[T_,T_,T_,T_,T_,T_,T_,T_,T_,T_,T_,T_,T_,T_,F_,F_,F_,F_,F_,F_,F_,F_,F_,F_,F_,F_,F_,F_,F_,F_] rfl rfl (one_of HT_.out (by kernel_rfl)) (by decide) (fun K hK => ?_)
               refine goes_ Try.func17 (by kernel_rfl) rfl #[.pointer (some ⟨gb203, 0, none⟩)] (by rfl) rfl rfl (by (try simp only [List.map_toArray, List.map_cons, List.map_nil]); first | done | rfl | (simp only [List.length_drop, List.length_take]; rfl)) ?_
               with_reducible refine (lock_Lock_Turns.calls gb203 t254 t255 t256 t257 t258 t259 t260 w _ ?side1 ?side2 A117.out).mono ?_
               (case side1 => repeat (first | (with_reducible first | exact HI203.out | apply IsS26.alloc | apply IsS26.drewN | apply IsS26.drew | apply IsS26.set_0 | apply IsS26.set_1 | apply IsS26.set_2 | refine IsS26.far ?_ NB203_204.out _ | refine IsS26.far ?_ NB203_206.out _) | exact HI203.out))
               (case side2 => repeat (first | (with_reducible first | exact HB.out | apply below_alloc | apply pw_below_drewN | apply below_drew1 | refine below_set ?_ (IsS26.ge HI203.out) | refine below_set ?_ GE204.out | refine below_set ?_ GE206.out) | exact HB.out))
               rintro e w134 ⟨rfl, hi, hb, hk⟩
               refine ⟨_, rfl, ?_⟩
               have n0_ := Aside0.mk (KeepBut.blk hk (g' := gb204) (o := .cells #[.int .i64 x205000_13, .int .i64 x205001_13, .int .i64 x205002_13] 28 (0, 0)) (by (with_reducible repeat (first | refine blk_drewN ?_ _ | refine blk_drew ?_ | refine blk_alloc ?_ _)); exact BK204.out) NB204_203.out (by simp))
               have n1_ := Aside0.mk (KeepBut.blk hk (g' := gb206) (o := .cells #[.int .i64 ((rd_T30 l0 x20_1).f0), .int .i64 ((rd_T30 l0 x20_1).f1)] 30 (0, 0)) (by (with_reducible repeat (first | refine blk_drewN ?_ _ | refine blk_drew ?_ | refine blk_alloc ?_ _)); exact BK206.out) NB206_203.out (by simp))
               have n2_ := Aside0.mk (hb)
               have n3_ := Aside0.mk (hi)
               clear BK204
               clear BK206
               clear HB
               clear HI203
               have BK204 := n0_
               have BK206 := n1_
               have HB := n2_
               have HI203 := n3_
               clear n0_ n1_ n2_ n3_
               (try clear hb)
               (try clear hb2)
               (try clear hk)
               (try clear hi)
               refine hK.out _ _ ⟨(blk_cell BK204.out 0).trans rfl, (blk_cell BK204.out 1).trans rfl, (blk_cell BK204.out 2).trans rfl⟩ (fun hHeld => ?_)
               clear hK K
               refine norm_ (a' := ?_) ?_ ?_
               rotate_left
               ·show Act.put _ (some 106) _ = _
                simp only [Act.put, zA_, zB_, zC_, i64_w, i32_w]
                rfl
               refine pure_ (i := 14) (N := some 109) (v := ?_) (a' := ?_) #[T_,T_,T_,T_,T_,T_,T_,T_,T_,T_,T_,T_,T_,T_,T_,F_,F_,F_,F_,F_,F_,F_,F_,F_,F_,F_,F_,F_,F_,F_] rfl rfl (any_of HT_.out (by kernel_rfl)) (fun _ _ _ h => h) (Or.inl ⟨by rfl, ?_⟩) ?_ ?_
               rotate_left
               ·intro w'
                go_simp
                with_reducible rfl
               rotate_left
               ·simp only [Act.put, zA_, zB_, zC_, i64_w, i32_w]
                rfl
               refine pure_ (i := 15) (N := some 110) (v := ?_) (a' := ?_) #[T_,T_,T_,T_,T_,T_,T_,T_,T_,T_,T_,T_,T_,T_,T_,T_,F_,F_,F_,F_,F_,F_,F_,F_,F_,F_,F_,F_,F_,F_] rfl rfl (any_of HT_.out (by kernel_rfl)) (fun _ _ _ h => h) (Or.inl ⟨by rfl, ?_⟩) ?_ ?_
               rotate_left
               ·intro w'
                go_simp
                with_reducible rfl
               rotate_left
               ·simp only [Act.put, zA_, zB_, zC_, i64_w, i32_w]
                rfl
               refine pure_ (i := 16) (N := some 111) (v := ?_) (a' := ?_) #[T_,T_,T_,T_,T_,T_,T_,T_,T_,T_,T_,T_,T_,T_,T_,T_,T_,F_,F_,F_,F_,F_,F_,F_,F_,F_,F_,F_,F_,F_] rfl rfl (any_of HT_.out (by kernel_rfl)) (fun _ _ _ h => h) (Or.inl ⟨by rfl, ?_⟩) ?_ ?_
               rotate_left
               ·intro w'
                go_simp
                with_reducible rfl
               rotate_left
               ·simp only [Act.put, zA_, zB_, zC_, i64_w, i32_w]
                rfl
               refine take_ (i := 18) (N := some 113) (v := ?_) (a' := ?_) #[T_,T_,T_,T_,T_,T_,T_,T_,T_,T_,T_,T_,T_,T_,T_,T_,T_,F_,T_,F_,F_,F_,F_,F_,F_,F_,F_,F_,F_,F_] rfl rfl (take_ofW HT_.out HW_.out (by kernel_rfl)) (fun _ _ _ h => h) (Or.inl ⟨by rfl, ?_⟩) hHeld ?_ ?_
               rotate_left
               ·rintro w' ⟨s0, s1, s2⟩
                go_simp
                with_reducible rfl
               rotate_left
               ·simp only [Act.put, zA_, zB_, zC_, i64_w, i32_w]
                rfl
               refine one_ (i := 17) (N := some 112) #[T_,T_,T_,T_,T_,T_,T_,T_,T_,T_,T_,T_,T_,T_,T_,T_,T_,T_,T_,F_,F_,F_,F_,F_,F_,F_,F_,F_,F_,F_] rfl rfl (one_of HT_.out (by kernel_rfl)) (by decide) (fun K hK => ?_)
               refine goes_ Try.func18 (by kernel_rfl) rfl #[.pointer (some ⟨gb203, 0, none⟩)] (by rfl) rfl rfl (by (try simp only [List.map_toArray, List.map_cons, List.map_nil]); first | done | rfl | (simp only [List.length_drop, List.length_take]; rfl)) ?_
               with_reducible refine (lock_Lock_Text.calls gb203 t258 t259 t260 t261 t262 t263 t264 w _ ?side1 ?side2 A119.out).mono ?_
               (case side1 => repeat (first | (with_reducible first | exact HI203.out | apply IsS26.alloc | apply IsS26.drewN | apply IsS26.drew | apply IsS26.set_0 | apply IsS26.set_1 | apply IsS26.set_2 | refine IsS26.far ?_ NB203_204.out _ | refine IsS26.far ?_ NB203_206.out _) | exact HI203.out))
               (case side2 => repeat (first | (with_reducible first | exact HB.out | apply below_alloc | apply pw_below_drewN | apply below_drew1 | refine below_set ?_ (IsS26.ge HI203.out) | refine below_set ?_ GE204.out | refine below_set ?_ GE206.out) | exact HB.out))
               rintro e w135 ⟨rfl, hi, hb, hk⟩
               refine ⟨_, rfl, ?_⟩
               have n0_ := Aside0.mk (KeepBut.blk hk (g' := gb204) (o := .cells #[.int .i64 x205000_13, .int .i64 x205001_13, .int .i64 x205002_13] 28 (0, 0)) (by (with_reducible repeat (first | refine blk_drewN ?_ _ | refine blk_drew ?_ | refine blk_alloc ?_ _)); exact BK204.out) NB204_203.out (by simp))
               have n1_ := Aside0.mk (KeepBut.blk hk (g' := gb206) (o := .cells #[.int .i64 ((rd_T30 l0 x20_1).f0), .int .i64 ((rd_T30 l0 x20_1).f1)] 30 (0, 0)) (by (with_reducible repeat (first | refine blk_drewN ?_ _ | refine blk_drew ?_ | refine blk_alloc ?_ _)); exact BK206.out) NB206_203.out (by simp))
               have n2_ := Aside0.mk (hb)
               have n3_ := Aside0.mk (hi)
               clear BK204
               clear BK206
               clear HB
               clear HI203
               have BK204 := n0_
               have BK206 := n1_
               have HB := n2_
               have HI203 := n3_
               clear n0_ n1_ n2_ n3_
               (try clear hb)
               (try clear hb2)
               (try clear hk)
               (try clear hi)
               refine hK.out _ _ ⟨(blk_cell BK204.out 0).trans rfl, (blk_cell BK204.out 1).trans rfl, (blk_cell BK204.out 2).trans rfl⟩ (fun hHeld => ?_)
               clear hK K
               refine norm_ (a' := ?_) ?_ ?_
               rotate_left
               ·show Act.put _ (some 112) _ = _
                simp only [Act.put, zA_, zB_, zC_, i64_w, i32_w]
                rfl
               refine one_ (i := 19) (N := some 114) #[T_,T_,T_,T_,T_,T_,T_,T_,T_,T_,T_,T_,T_,T_,T_,T_,T_,T_,T_,T_,F_,F_,F_,F_,F_,F_,F_,F_,F_,F_] rfl rfl (one_of HT_.out (by kernel_rfl)) (by decide) (fun K hK => ?_)
               refine goes_ Try.func19 (by kernel_rfl) rfl #[.agg #[.int .i64 x205000_13, .int .i64 x205001_13, .int .i64 x205002_13]] (by rfl) rfl rfl (by (try simp only [List.map_toArray, List.map_cons, List.map_nil]); first | done | rfl | (simp only [List.length_drop, List.length_take]; rfl)) ?_
               with_reducible refine (greenscreenref21_Text.calls x205000_13 x205001_13 x205002_13 t265 _ A120.out).mono ?_
               rintro e w136 ⟨rfl, hb⟩
               refine ⟨_, rfl, ?_⟩
               have n0_ := Aside0.mk (blk_below (g := gb204) (o := .cells #[.int .i64 x205000_13, .int .i64 x205001_13, .int .i64 x205002_13] 28 (0, 0)) (by (with_reducible repeat (first | refine blk_drewN ?_ _ | refine blk_drew ?_ | refine blk_alloc ?_ _)); exact BK204.out) hb)
               have n1_ := Aside0.mk (blk_below (g := gb206) (o := .cells #[.int .i64 ((rd_T30 l0 x20_1).f0), .int .i64 ((rd_T30 l0 x20_1).f1)] 30 (0, 0)) (by (with_reducible repeat (first | refine blk_drewN ?_ _ | refine blk_drew ?_ | refine blk_alloc ?_ _)); exact BK206.out) hb)
               have n2_ := Aside0.mk (IsS26.below (by repeat (first | (with_reducible first | exact HI203.out | apply IsS26.alloc | apply IsS26.drewN | apply IsS26.drew | apply IsS26.set_0 | apply IsS26.set_1 | apply IsS26.set_2 | refine IsS26.far ?_ NB203_204.out _ | refine IsS26.far ?_ NB203_206.out _) | exact HI203.out)) hb)
               have n3_ := Aside0.mk (below_step (by repeat (first | (with_reducible first | exact HB.out | apply below_alloc | apply pw_below_drewN | apply below_drew1 | refine below_set ?_ (IsS26.ge HI203.out) | refine below_set ?_ GE204.out | refine below_set ?_ GE206.out) | exact HB.out)) hb)
               clear BK204
               clear BK206
               clear HI203
               clear HB
               have BK204 := n0_
               have BK206 := n1_
               have HI203 := n2_
               have HB := n3_
               clear n0_ n1_ n2_ n3_
               (try clear hb)
               (try clear hb2)
               (try clear hk)
               (try clear hi)
               refine hK.out _ _ ⟨(blk_cell BK204.out 0).trans rfl, (blk_cell BK204.out 1).trans rfl, (blk_cell BK204.out 2).trans rfl⟩ (fun hHeld => ?_)
               clear hK K
               refine norm_ (a' := ?_) ?_ ?_
               rotate_left
               ·show Act.put _ (some 114) _ = _
                simp only [Act.put, zA_, zB_, zC_, i64_w, i32_w]
                rfl
               refine pure_ (i := 20) (N := some 115) (v := ?_) (a' := ?_) #[T_,T_,T_,T_,T_,T_,T_,T_,T_,T_,T_,T_,T_,T_,T_,T_,T_,T_,T_,T_,T_,F_,F_,F_,F_,F_,F_,F_,F_,F_] rfl rfl (any_of HT_.out (by kernel_rfl)) (fun _ _ _ h => h) (Or.inl ⟨by rfl, ?_⟩) ?_ ?_
               rotate_left
               ·intro w'
                go_simp
                with_reducible rfl
               rotate_left
               ·simp only [Act.put, zA_, zB_, zC_, i64_w, i32_w]
                rfl
               refine pure_ (i := 21) (N := some 116) (v := ?_) (a' := ?_) #[T_,T_,T_,T_,T_,T_,T_,T_,T_,T_,T_,T_,T_,T_,T_,T_,T_,T_,T_,T_,T_,T_,F_,F_,F_,F_,F_,F_,F_,F_] rfl rfl (any_of HT_.out (by kernel_rfl)) (fun _ _ _ h => h) (Or.inl ⟨by rfl, ?_⟩) ?_ ?_
               rotate_left
               ·intro w'
                go_simp
                with_reducible rfl
               rotate_left
               ·simp only [Act.put, zA_, zB_, zC_, i64_w, i32_w]
                rfl
               refine pure_ (i := 22) (N := some 117) (v := ?_) (a' := ?_) #[T_,T_,T_,T_,T_,T_,T_,T_,T_,T_,T_,T_,T_,T_,T_,T_,T_,T_,T_,T_,T_,T_,T_,F_,F_,F_,F_,F_,F_,F_] rfl rfl (any_of HT_.out (by kernel_rfl)) (fun _ _ _ h => h) (Or.inl ⟨by rfl, ?_⟩) ?_ ?_
               rotate_left
               ·intro w'
                go_simp
                with_reducible rfl
               rotate_left
               ·simp only [Act.put, zA_, zB_, zC_, i64_w, i32_w]
                rfl
               refine pure_ (i := 25) (N := some 120) (v := ?_) (a' := ?_) #[T_,T_,T_,T_,T_,T_,T_,T_,T_,T_,T_,T_,T_,T_,T_,T_,T_,T_,T_,T_,T_,T_,T_,F_,F_,T_,F_,F_,F_,F_] rfl rfl (any_of HT_.out (by kernel_rfl)) (fun _ _ _ h => h) (Or.inl ⟨by rfl, ?_⟩) ?_ ?_
               rotate_left
               ·intro w'
                go_simp
                with_reducible rfl
               rotate_left
               ·simp only [Act.put, zA_, zB_, zC_, i64_w, i32_w]
                rfl
               refine take_ (i := 26) (N := some 121) (v := ?_) (a' := ?_) #[T_,T_,T_,T_,T_,T_,T_,T_,T_,T_,T_,T_,T_,T_,T_,T_,T_,T_,T_,T_,T_,T_,T_,F_,F_,T_,T_,F_,F_,F_] rfl rfl (take_ofW HT_.out HW_.out (by kernel_rfl)) (fun _ _ _ h => h) (Or.inl ⟨by rfl, ?_⟩) hHeld ?_ ?_
               rotate_left
               ·rintro w' ⟨s0, s1, s2⟩
                go_simp
                with_reducible rfl
               rotate_left
               ·simp only [Act.put, zA_, zB_, zC_, i64_w, i32_w]
                rfl
               refine pure_ (i := 27) (N := some 122) (v := ?_) (a' := ?_) #[T_,T_,T_,T_,T_,T_,T_,T_,T_,T_,T_,T_,T_,T_,T_,T_,T_,T_,T_,T_,T_,T_,T_,F_,F_,T_,T_,T_,F_,F_] rfl rfl (any_of HT_.out (by kernel_rfl)) (fun _ _ _ h => h) (Or.inl ⟨by rfl, ?_⟩) ?_ ?_
               rotate_left
               ·intro w'
                go_simp
                with_reducible rfl
               rotate_left
               ·simp only [Act.put, zA_, zB_, zC_, i64_w, i32_w]
                rfl
               refine one_ (i := 23) (N := some 118) #[T_,T_,T_,T_,T_,T_,T_,T_,T_,T_,T_,T_,T_,T_,T_,T_,T_,T_,T_,T_,T_,T_,T_,T_,F_,T_,T_,T_,F_,F_] rfl rfl (one_of HT_.out (by kernel_rfl)) (by decide) (fun K hK => ?_)
               refine goes_ Try.func20 (by kernel_rfl) rfl #[.pointer (some ⟨gb203, 0, none⟩)] (by rfl) rfl rfl (by (try simp only [List.map_toArray, List.map_cons, List.map_nil]); first | done | rfl | (simp only [List.length_drop, List.length_take]; rfl)) ?_
               with_reducible refine (lock_Lock_May.calls gb203 t262 t263 t264 t266 t267 t268 t269 w _ ?side1 ?side2 A122.out).mono ?_
               (case side1 => repeat (first | (with_reducible first | exact HI203.out | apply IsS26.alloc | apply IsS26.drewN | apply IsS26.drew | apply IsS26.set_0 | apply IsS26.set_1 | apply IsS26.set_2 | refine IsS26.far ?_ NB203_204.out _ | refine IsS26.far ?_ NB203_206.out _) | exact HI203.out))
               (case side2 => repeat (first | (with_reducible first | exact HB.out | apply below_alloc | apply pw_below_drewN | apply below_drew1 | refine below_set ?_ (IsS26.ge HI203.out) | refine below_set ?_ GE204.out | refine below_set ?_ GE206.out) | exact HB.out))
               rintro e w137 ⟨rfl, hi, hb, hk⟩
               refine ⟨_, rfl, ?_⟩
               have n0_ := Aside0.mk (KeepBut.blk hk (g' := gb204) (o := .cells #[.int .i64 x205000_13, .int .i64 x205001_13, .int .i64 x205002_13] 28 (0, 0)) (by (with_reducible repeat (first | refine blk_drewN ?_ _ | refine blk_drew ?_ | refine blk_alloc ?_ _)); exact BK204.out) NB204_203.out (by simp))
               have n1_ := Aside0.mk (KeepBut.blk hk (g' := gb206) (o := .cells #[.int .i64 ((rd_T30 l0 x20_1).f0), .int .i64 ((rd_T30 l0 x20_1).f1)] 30 (0, 0)) (by (with_reducible repeat (first | refine blk_drewN ?_ _ | refine blk_drew ?_ | refine blk_alloc ?_ _)); exact BK206.out) NB206_203.out (by simp))
               have n2_ := Aside0.mk (hb)
               have n3_ := Aside0.mk (hi)
               clear BK204
               clear BK206
               clear HB
               clear HI203
               have BK204 := n0_
               have BK206 := n1_
               have HB := n2_
               have HI203 := n3_
               clear n0_ n1_ n2_ n3_
               (try clear hb)
               (try clear hb2)
               (try clear hk)
               (try clear hi)
               refine hK.out _ _ ⟨(blk_cell BK204.out 0).trans rfl, (blk_cell BK204.out 1).trans rfl, (blk_cell BK204.out 2).trans rfl⟩ (fun hHeld => ?_)
               clear hK K
               refine norm_ (a' := ?_) ?_ ?_
               rotate_left
               ·show Act.put _ (some 118) _ = _
                simp only [Act.put, zA_, zB_, zC_, i64_w, i32_w]
                rfl
               refine pure_ (i := 24) (N := some 119) (v := ?_) (a' := ?_) #[T_,T_,T_,T_,T_,T_,T_,T_,T_,T_,T_,T_,T_,T_,T_,T_,T_,T_,T_,T_,T_,T_,T_,T_,T_,T_,T_,T_,F_,F_] rfl rfl (any_of HT_.out (by kernel_rfl)) (fun _ _ _ h => h) (Or.inl ⟨by rfl, ?_⟩) ?_ ?_
               rotate_left
               ·intro w'
                go_simp
                with_reducible rfl
               rotate_left
               ·simp only [Act.put, zA_, zB_, zC_, i64_w, i32_w]
                rfl
               refine pure_ (i := 28) (N := some 123) (v := ?_) (a' := ?_) #[T_,T_,T_,T_,T_,T_,T_,T_,T_,T_,T_,T_,T_,T_,T_,T_,T_,T_,T_,T_,T_,T_,T_,T_,T_,T_,T_,T_,T_,F_] rfl rfl (any_of HT_.out (by kernel_rfl)) (fun _ _ _ h => h) (Or.inl ⟨by rfl, ?_⟩) ?_ ?_
               rotate_left
               ·intro w'
                go_simp
                with_reducible rfl
               rotate_left
               ·simp only [Act.put, zA_, zB_, zC_, i64_w, i32_w]
                rfl
               refine pure_ (i := 29) (N := some 124) (v := ?_) (a' := ?_) #[T_,T_,T_,T_,T_,T_,T_,T_,T_,T_,T_,T_,T_,T_,T_,T_,T_,T_,T_,T_,T_,T_,T_,T_,T_,T_,T_,T_,T_,T_] rfl rfl (any_of HT_.out (by kernel_rfl)) (fun _ _ _ h => h) (Or.inl ⟨by rfl, ?_⟩) ?_ ?_
               rotate_left
               ·intro w'
                go_simp
                with_reducible rfl
               rotate_left
               ·simp only [Act.put, zA_, zB_, zC_, i64_w, i32_w]
                rfl
               refine done_ (done_of HT_.out (by kernel_rfl)) ?_
               try go_wp2
               go_roundg kj13
               case measure => have := HK1.out; have := HJ13.out; omega
               case rel => exact ⟨(wrap64 (x20_1 + 1)), (t267), (t268), (t269), (x205000_13), (x205001_13), (x205002_13), (by first | rfl | (simp; done) | (simp [*]; done)), H', ⟨by have := HK1.out; have := HJ13.out; omega⟩, ⟨by (with_reducible repeat (first | refine blk_drewN ?_ _ | refine blk_drew ?_ | refine blk_alloc ?_ _)); exact BK204.out⟩, ⟨by repeat (first | (with_reducible first | exact HI203.out | apply IsS26.alloc | apply IsS26.drewN | apply IsS26.drew | apply IsS26.set_0 | apply IsS26.set_1 | apply IsS26.set_2 | refine IsS26.far ?_ NB203_204.out _ | refine IsS26.far ?_ NB203_206.out _) | exact HI203.out)⟩, ⟨by repeat (first | (with_reducible first | exact HB.out | apply below_alloc | apply pw_below_drewN | apply below_drew1 | refine below_set ?_ (IsS26.ge HI203.out) | refine below_set ?_ GE204.out | refine below_set ?_ GE206.out) | exact HB.out)⟩⟩
             ·rw [if_neg c121] at H
              have c121b0 : (t261.toList == t265.toList) = false := beq_eq_false_iff_ne.mpr c121
              have c121b1 : (t261.toList != t265.toList) = true := bne_iff_ne.mpr c121
              obtain rfl := Option.some.inj H
              try go_wp2
              have n0_ := Aside0.mk (blk_drew BK204.out)
              have n1_ := Aside0.mk (blk_drew BK206.out)
              have n2_ := Aside0.mk (IsS26.drew HI203.out)
              have n3_ := Aside0.mk (below_drew1 HB.out)
              clear BK204
              clear BK206
              clear HI203
              clear HB
              have BK204 := n0_
              have BK206 := n1_
              have HI203 := n2_
              have HB := n3_
              clear n0_ n1_ n2_ n3_
              refine start_ (n := 30) (S := fun w' => w'.cell? ⟨gb204, 0, none⟩ = some (.int .i64 x205000_13) ∧ w'.cell? ⟨gb204, 1, none⟩ = some (.int .i64 x205001_13) ∧ w'.cell? ⟨gb204, 2, none⟩ = some (.int .i64 x205002_13)) (ds := []) #[F_,F_,F_,F_,F_,F_,F_,F_,F_,F_,F_,F_,F_,F_,F_,F_,F_,F_,F_,F_,F_,F_,F_,F_,F_,F_,F_,F_,F_,F_] (by kernel_rfl) rfl rfl ⟨(blk_cell BK204.out 0).trans rfl, (blk_cell BK204.out 1).trans rfl, (blk_cell BK204.out 2).trans rfl⟩ (fun hHeld => ?_); refine with_tabW greenscreenlaw21_LockPlays.tab41 greenscreenlaw21_LockPlays.bits41 (fun HT_ HW_ => ?_)
              generalize wc.drew = w138 at BK204 BK206 HI203 HB hHeld ⊢
              refine pure_ (i := 1) (N := some 96) (v := ?_) (a' := ?_) #[F_,T_,F_,F_,F_,F_,F_,F_,F_,F_,F_,F_,F_,F_,F_,F_,F_,F_,F_,F_,F_,F_,F_,F_,F_,F_,F_,F_,F_,F_] rfl rfl (any_of HT_.out (by kernel_rfl)) (fun _ _ _ h => h) (Or.inl ⟨by rfl, ?_⟩) ?_ ?_
              rotate_left
              ·intro w'
               go_simp
               with_reducible rfl
              rotate_left
              ·simp only [Act.put, zA_, zB_, zC_, i64_w, i32_w]
               rfl
              refine take_ (i := 2) (N := some 97) (v := ?_) (a' := ?_) #[F_,T_,T_,F_,F_,F_,F_,F_,F_,F_,F_,F_,F_,F_,F_,F_,F_,F_,F_,F_,F_,F_,F_,F_,F_,F_,F_,F_,F_,F_] rfl rfl (take_ofW HT_.out HW_.out (by kernel_rfl)) (fun _ _ _ h => h) (Or.inl ⟨by rfl, ?_⟩) hHeld ?_ ?_
              rotate_left
              ·rintro w' ⟨s0, s1, s2⟩
               go_simp
               with_reducible rfl
              rotate_left
              ·simp only [Act.put, zA_, zB_, zC_, i64_w, i32_w]
               rfl
              refine one_ (i := 0) (N := some 95) #[T_,T_,T_,F_,F_,F_,F_,F_,F_,F_,F_,F_,F_,F_,F_,F_,F_,F_,F_,F_,F_,F_,F_,F_,F_,F_,F_,F_,F_,F_] rfl rfl (one_of HT_.out (by kernel_rfl)) (by decide) (fun K hK => ?_)
              refine goes_ Try.func15 (by kernel_rfl) rfl #[.pointer (some ⟨gb203, 0, none⟩)] (by rfl) rfl rfl (by (try simp only [List.map_toArray, List.map_cons, List.map_nil]); first | done | rfl | (simp only [List.length_drop, List.length_take]; rfl)) ?_
              with_reducible refine (lock_Lock_State.calls gb203 x204000_13 x204001_13 x204002_13 t249 t250 t251 t252 w _ ?side1 ?side2 A113.out).mono ?_
              (case side1 => repeat (first | (with_reducible first | exact HI203.out | apply IsS26.alloc | apply IsS26.drewN | apply IsS26.drew | apply IsS26.set_0 | apply IsS26.set_1 | apply IsS26.set_2 | refine IsS26.far ?_ NB203_204.out _ | refine IsS26.far ?_ NB203_206.out _) | exact HI203.out))
              (case side2 => repeat (first | (with_reducible first | exact HB.out | apply below_alloc | apply pw_below_drewN | apply below_drew1 | refine below_set ?_ (IsS26.ge HI203.out) | refine below_set ?_ GE204.out | refine below_set ?_ GE206.out) | exact HB.out))
              rintro e w139 ⟨rfl, hi, hb, hk⟩
              refine ⟨_, rfl, ?_⟩
              have n0_ := Aside0.mk (KeepBut.blk hk (g' := gb204) (o := .cells #[.int .i64 x205000_13, .int .i64 x205001_13, .int .i64 x205002_13] 28 (0, 0)) (by (with_reducible repeat (first | refine blk_drewN ?_ _ | refine blk_drew ?_ | refine blk_alloc ?_ _)); exact BK204.out) NB204_203.out (by simp))
              have n1_ := Aside0.mk (KeepBut.blk hk (g' := gb206) (o := .cells #[.int .i64 ((rd_T30 l0 x20_1).f0), .int .i64 ((rd_T30 l0 x20_1).f1)] 30 (0, 0)) (by (with_reducible repeat (first | refine blk_drewN ?_ _ | refine blk_drew ?_ | refine blk_alloc ?_ _)); exact BK206.out) NB206_203.out (by simp))
              have n2_ := Aside0.mk (hb)
              have n3_ := Aside0.mk (hi)
              clear BK204
              clear BK206
              clear HB
              clear HI203
              have BK204 := n0_
              have BK206 := n1_
              have HB := n2_
              have HI203 := n3_
              clear n0_ n1_ n2_ n3_
              (try clear hb)
              (try clear hb2)
              (try clear hk)
              (try clear hi)
              refine hK.out _ _ ⟨(blk_cell BK204.out 0).trans rfl, (blk_cell BK204.out 1).trans rfl, (blk_cell BK204.out 2).trans rfl⟩ (fun hHeld => ?_)
              clear hK K
              refine norm_ (a' := ?_) ?_ ?_
              rotate_left
              ·show Act.put _ (some 95) _ = _
               simp only [Act.put, zA_, zB_, zC_, i64_w, i32_w]
               rfl
              refine pure_ (i := 3) (N := some 98) (v := ?_) (a' := ?_) #[T_,T_,T_,T_,F_,F_,F_,F_,F_,F_,F_,F_,F_,F_,F_,F_,F_,F_,F_,F_,F_,F_,F_,F_,F_,F_,F_,F_,F_,F_] rfl rfl (any_of HT_.out (by kernel_rfl)) (fun _ _ _ h => h) (Or.inl ⟨by rfl, ?_⟩) ?_ ?_
              rotate_left
              ·intro w'
               go_simp
               with_reducible rfl
              rotate_left
              ·simp only [Act.put, zA_, zB_, zC_, i64_w, i32_w]
               rfl
              refine pure_ (i := 4) (N := some 99) (v := ?_) (a' := ?_) #[T_,T_,T_,T_,T_,F_,F_,F_,F_,F_,F_,F_,F_,F_,F_,F_,F_,F_,F_,F_,F_,F_,F_,F_,F_,F_,F_,F_,F_,F_] rfl rfl (any_of HT_.out (by kernel_rfl)) (fun _ _ _ h => h) (Or.inl ⟨by rfl, ?_⟩) ?_ ?_
              rotate_left
              ·intro w'
               go_simp
               with_reducible rfl
              rotate_left
              ·simp only [Act.put, zA_, zB_, zC_, i64_w, i32_w]
               rfl
              refine pure_ (i := 6) (N := some 101) (v := ?_) (a' := ?_) #[T_,T_,T_,T_,T_,F_,T_,F_,F_,F_,F_,F_,F_,F_,F_,F_,F_,F_,F_,F_,F_,F_,F_,F_,F_,F_,F_,F_,F_,F_] rfl rfl (any_of HT_.out (by kernel_rfl)) (fun _ _ _ h => h) (Or.inl ⟨by rfl, ?_⟩) ?_ ?_
              rotate_left
              ·intro w'
               go_simp
               with_reducible rfl
              rotate_left
              ·simp only [Act.put, zA_, zB_, zC_, i64_w, i32_w]
               rfl
              refine take_ (i := 7) (N := some 102) (v := ?_) (a' := ?_) #[T_,T_,T_,T_,T_,F_,T_,T_,F_,F_,F_,F_,F_,F_,F_,F_,F_,F_,F_,F_,F_,F_,F_,F_,F_,F_,F_,F_,F_,F_] rfl rfl (take_ofW HT_.out HW_.out (by kernel_rfl)) (fun _ _ _ h => h) (Or.inl ⟨by rfl, ?_⟩) hHeld ?_ ?_
              rotate_left
              ·rintro w' ⟨s0, s1, s2⟩
               go_simp
               with_reducible rfl
              rotate_left
              ·simp only [Act.put, zA_, zB_, zC_, i64_w, i32_w]
               rfl
              refine one_ (i := 5) (N := some 100) #[T_,T_,T_,T_,T_,T_,T_,T_,F_,F_,F_,F_,F_,F_,F_,F_,F_,F_,F_,F_,F_,F_,F_,F_,F_,F_,F_,F_,F_,F_] rfl rfl (one_of HT_.out (by kernel_rfl)) (by decide) (fun K hK => ?_)
              refine goes_ Try.func16 (by kernel_rfl) rfl #[.pointer (some ⟨gb203, 0, none⟩)] (by rfl) rfl rfl (by (try simp only [List.map_toArray, List.map_cons, List.map_nil]); first | done | rfl | (simp only [List.length_drop, List.length_take]; rfl)) ?_
              with_reducible refine (lock_Lock_Why.calls gb203 t250 t251 t252 t253 t254 t255 t256 w _ ?side1 ?side2 A115.out).mono ?_
              (case side1 => repeat (first | (with_reducible first | exact HI203.out | apply IsS26.alloc | apply IsS26.drewN | apply IsS26.drew | apply IsS26.set_0 | apply IsS26.set_1 | apply IsS26.set_2 | refine IsS26.far ?_ NB203_204.out _ | refine IsS26.far ?_ NB203_206.out _) | exact HI203.out))
              (case side2 => repeat (first | (with_reducible first | exact HB.out | apply below_alloc | apply pw_below_drewN | apply below_drew1 | refine below_set ?_ (IsS26.ge HI203.out) | refine below_set ?_ GE204.out | refine below_set ?_ GE206.out) | exact HB.out))
              rintro e w140 ⟨rfl, hi, hb, hk⟩
              refine ⟨_, rfl, ?_⟩
              have n0_ := Aside0.mk (KeepBut.blk hk (g' := gb204) (o := .cells #[.int .i64 x205000_13, .int .i64 x205001_13, .int .i64 x205002_13] 28 (0, 0)) (by (with_reducible repeat (first | refine blk_drewN ?_ _ | refine blk_drew ?_ | refine blk_alloc ?_ _)); exact BK204.out) NB204_203.out (by simp))
              have n1_ := Aside0.mk (KeepBut.blk hk (g' := gb206) (o := .cells #[.int .i64 ((rd_T30 l0 x20_1).f0), .int .i64 ((rd_T30 l0 x20_1).f1)] 30 (0, 0)) (by (with_reducible repeat (first | refine blk_drewN ?_ _ | refine blk_drew ?_ | refine blk_alloc ?_ _)); exact BK206.out) NB206_203.out (by simp))
              have n2_ := Aside0.mk (hb)
              have n3_ := Aside0.mk (hi)
              clear BK204
              clear BK206
              clear HB
              clear HI203
              have BK204 := n0_
              have BK206 := n1_
              have HB := n2_
              have HI203 := n3_
              clear n0_ n1_ n2_ n3_
              (try clear hb)
              (try clear hb2)
              (try clear hk)
              (try clear hi)
              refine hK.out _ _ ⟨(blk_cell BK204.out 0).trans rfl, (blk_cell BK204.out 1).trans rfl, (blk_cell BK204.out 2).trans rfl⟩ (fun hHeld => ?_)
              clear hK K
              refine norm_ (a' := ?_) ?_ ?_
              rotate_left
              ·show Act.put _ (some 100) _ = _
               simp only [Act.put, zA_, zB_, zC_, i64_w, i32_w]
               rfl
              refine pure_ (i := 8) (N := some 103) (v := ?_) (a' := ?_) #[T_,T_,T_,T_,T_,T_,T_,T_,T_,F_,F_,F_,F_,F_,F_,F_,F_,F_,F_,F_,F_,F_,F_,F_,F_,F_,F_,F_,F_,F_] rfl rfl (any_of HT_.out (by kernel_rfl)) (fun _ _ _ h => h) (Or.inl ⟨by rfl, ?_⟩) ?_ ?_
              rotate_left
              ·intro w'
               go_simp
               with_reducible rfl
              rotate_left
              ·simp only [Act.put, zA_, zB_, zC_, i64_w, i32_w]
               rfl
              refine pure_ (i := 9) (N := some 104) (v := ?_) (a' := ?_) #[T_,T_,T_,T_,T_,T_,T_,T_,T_,T_,F_,F_,F_,F_,F_,F_,F_,F_,F_,F_,F_,F_,F_,F_,F_,F_,F_,F_,F_,F_] rfl rfl (any_of HT_.out (by kernel_rfl)) (fun _ _ _ h => h) (Or.inl ⟨by rfl, ?_⟩) ?_ ?_
              rotate_left
              ·intro w'
               go_simp
               with_reducible rfl
              rotate_left
              ·simp only [Act.put, zA_, zB_, zC_, i64_w, i32_w]
               rfl
              refine pure_ (i := 10) (N := some 105) (v := ?_) (a' := ?_) #[T_,T_,T_,T_,T_,T_,T_,T_,T_,T_,T_,F_,F_,F_,F_,F_,F_,F_,F_,F_,F_,F_,F_,F_,F_,F_,F_,F_,F_,F_] rfl rfl (any_of HT_.out (by kernel_rfl)) (fun _ _ _ h => h) (Or.inl ⟨by rfl, ?_⟩) ?_ ?_
              rotate_left
              ·intro w'
               go_simp
               with_reducible rfl
              rotate_left
              ·simp only [Act.put, zA_, zB_, zC_, i64_w, i32_w]
               rfl
              refine pure_ (i := 12) (N := some 107) (v := ?_) (a' := ?_) #[T_,T_,T_,T_,T_,T_,T_,T_,T_,T_,T_,F_,T_,F_,F_,F_,F_,F_,F_,F_,F_,F_,F_,F_,F_,F_,F_,F_,F_,F_] rfl rfl (any_of HT_.out (by kernel_rfl)) (fun _ _ _ h => h) (Or.inl ⟨by rfl, ?_⟩) ?_ ?_
              rotate_left
              ·intro w'
               go_simp
               with_reducible rfl
              rotate_left
              ·simp only [Act.put, zA_, zB_, zC_, i64_w, i32_w]
               rfl
              refine take_ (i := 13) (N := some 108) (v := ?_) (a' := ?_) #[T_,T_,T_,T_,T_,T_,T_,T_,T_,T_,T_,F_,T_,T_,F_,F_,F_,F_,F_,F_,F_,F_,F_,F_,F_,F_,F_,F_,F_,F_] rfl rfl (take_ofW HT_.out HW_.out (by kernel_rfl)) (fun _ _ _ h => h) (Or.inl ⟨by rfl, ?_⟩) hHeld ?_ ?_
              rotate_left
              ·rintro w' ⟨s0, s1, s2⟩
               go_simp
               with_reducible rfl
              rotate_left
              ·simp only [Act.put, zA_, zB_, zC_, i64_w, i32_w]
               rfl
              refine one_ (i := 11) (N := some 106) #[T_,T_,T_,T_,T_,T_,T_,T_,T_,T_,T_,T_,T_,T_,F_,F_,F_,F_,F_,F_,F_,F_,F_,F_,F_,F_,F_,F_,F_,F_] rfl rfl (one_of HT_.out (by kernel_rfl)) (by decide) (fun K hK => ?_)
              refine goes_ Try.func17 (by kernel_rfl) rfl #[.pointer (some ⟨gb203, 0, none⟩)] (by rfl) rfl rfl (by (try simp only [List.map_toArray, List.map_cons, List.map_nil]); first | done | rfl | (simp only [List.length_drop, List.length_take]; rfl)) ?_
              with_reducible refine (lock_Lock_Turns.calls gb203 t254 t255 t256 t257 t258 t259 t260 w _ ?side1 ?side2 A117.out).mono ?_
              (case side1 => repeat (first | (with_reducible first | exact HI203.out | apply IsS26.alloc | apply IsS26.drewN | apply IsS26.drew | apply IsS26.set_0 | apply IsS26.set_1 | apply IsS26.set_2 | refine IsS26.far ?_ NB203_204.out _ | refine IsS26.far ?_ NB203_206.out _) | exact HI203.out))
              (case side2 => repeat (first | (with_reducible first | exact HB.out | apply below_alloc | apply pw_below_drewN | apply below_drew1 | refine below_set ?_ (IsS26.ge HI203.out) | refine below_set ?_ GE204.out | refine below_set ?_ GE206.out) | exact HB.out))
              rintro e w141 ⟨rfl, hi, hb, hk⟩
              refine ⟨_, rfl, ?_⟩
              have n0_ := Aside0.mk (KeepBut.blk hk (g' := gb204) (o := .cells #[.int .i64 x205000_13, .int .i64 x205001_13, .int .i64 x205002_13] 28 (0, 0)) (by (with_reducible repeat (first | refine blk_drewN ?_ _ | refine blk_drew ?_ | refine blk_alloc ?_ _)); exact BK204.out) NB204_203.out (by simp))
              have n1_ := Aside0.mk (KeepBut.blk hk (g' := gb206) (o := .cells #[.int .i64 ((rd_T30 l0 x20_1).f0), .int .i64 ((rd_T30 l0 x20_1).f1)] 30 (0, 0)) (by (with_reducible repeat (first | refine blk_drewN ?_ _ | refine blk_drew ?_ | refine blk_alloc ?_ _)); exact BK206.out) NB206_203.out (by simp))
              have n2_ := Aside0.mk (hb)
              have n3_ := Aside0.mk (hi)
              clear BK204
              clear BK206
              clear HB
              clear HI203
              have BK204 := n0_
              have BK206 := n1_
              have HB := n2_
              have HI203 := n3_
              clear n0_ n1_ n2_ n3_
              (try clear hb)
              (try clear hb2)
              (try clear hk)
              (try clear hi)
              refine hK.out _ _ ⟨(blk_cell BK204.out 0).trans rfl, (blk_cell BK204.out 1).trans rfl, (blk_cell BK204.out 2).trans rfl⟩ (fun hHeld => ?_)
              clear hK K
              refine norm_ (a' := ?_) ?_ ?_
              rotate_left
              ·show Act.put _ (some 106) _ = _
               simp only [Act.put, zA_, zB_, zC_, i64_w, i32_w]
               rfl
              refine pure_ (i := 14) (N := some 109) (v := ?_) (a' := ?_) #[T_,T_,T_,T_,T_,T_,T_,T_,T_,T_,T_,T_,T_,T_,T_,F_,F_,F_,F_,F_,F_,F_,F_,F_,F_,F_,F_,F_,F_,F_] rfl rfl (any_of HT_.out (by kernel_rfl)) (fun _ _ _ h => h) (Or.inl ⟨by rfl, ?_⟩) ?_ ?_
              rotate_left
              ·intro w'
               go_simp
               with_reducible rfl
              rotate_left
              ·simp only [Act.put, zA_, zB_, zC_, i64_w, i32_w]
               rfl
              refine pure_ (i := 15) (N := some 110) (v := ?_) (a' := ?_) #[T_,T_,T_,T_,T_,T_,T_,T_,T_,T_,T_,T_,T_,T_,T_,T_,F_,F_,F_,F_,F_,F_,F_,F_,F_,F_,F_,F_,F_,F_] rfl rfl (any_of HT_.out (by kernel_rfl)) (fun _ _ _ h => h) (Or.inl ⟨by rfl, ?_⟩) ?_ ?_
              rotate_left
              ·intro w'
               go_simp
               with_reducible rfl
              rotate_left
              ·simp only [Act.put, zA_, zB_, zC_, i64_w, i32_w]
               rfl
              refine pure_ (i := 16) (N := some 111) (v := ?_) (a' := ?_) #[T_,T_,T_,T_,T_,T_,T_,T_,T_,T_,T_,T_,T_,T_,T_,T_,T_,F_,F_,F_,F_,F_,F_,F_,F_,F_,F_,F_,F_,F_] rfl rfl (any_of HT_.out (by kernel_rfl)) (fun _ _ _ h => h) (Or.inl ⟨by rfl, ?_⟩) ?_ ?_
              rotate_left
              ·intro w'
               go_simp
               with_reducible rfl
              rotate_left
              ·simp only [Act.put, zA_, zB_, zC_, i64_w, i32_w]
               rfl
              refine take_ (i := 18) (N := some 113) (v := ?_) (a' := ?_) #[T_,T_,T_,T_,T_,T_,T_,T_,T_,T_,T_,T_,T_,T_,T_,T_,T_,F_,T_,F_,F_,F_,F_,F_,F_,F_,F_,F_,F_,F_] rfl rfl (take_ofW HT_.out HW_.out (by kernel_rfl)) (fun _ _ _ h => h) (Or.inl ⟨by rfl, ?_⟩) hHeld ?_ ?_
              rotate_left
              ·rintro w' ⟨s0, s1, s2⟩
               go_simp
               with_reducible rfl
              rotate_left
              ·simp only [Act.put, zA_, zB_, zC_, i64_w, i32_w]
               rfl
              refine one_ (i := 17) (N := some 112) #[T_,T_,T_,T_,T_,T_,T_,T_,T_,T_,T_,T_,T_,T_,T_,T_,T_,T_,T_,F_,F_,F_,F_,F_,F_,F_,F_,F_,F_,F_] rfl rfl (one_of HT_.out (by kernel_rfl)) (by decide) (fun K hK => ?_)
              refine goes_ Try.func18 (by kernel_rfl) rfl #[.pointer (some ⟨gb203, 0, none⟩)] (by rfl) rfl rfl (by (try simp only [List.map_toArray, List.map_cons, List.map_nil]); first | done | rfl | (simp only [List.length_drop, List.length_take]; rfl)) ?_
              with_reducible refine (lock_Lock_Text.calls gb203 t258 t259 t260 t261 t262 t263 t264 w _ ?side1 ?side2 A119.out).mono ?_
              (case side1 => repeat (first | (with_reducible first | exact HI203.out | apply IsS26.alloc | apply IsS26.drewN | apply IsS26.drew | apply IsS26.set_0 | apply IsS26.set_1 | apply IsS26.set_2 | refine IsS26.far ?_ NB203_204.out _ | refine IsS26.far ?_ NB203_206.out _) | exact HI203.out))
              (case side2 => repeat (first | (with_reducible first | exact HB.out | apply below_alloc | apply pw_below_drewN | apply below_drew1 | refine below_set ?_ (IsS26.ge HI203.out) | refine below_set ?_ GE204.out | refine below_set ?_ GE206.out) | exact HB.out))
              rintro e w142 ⟨rfl, hi, hb, hk⟩
              refine ⟨_, rfl, ?_⟩
              have n0_ := Aside0.mk (KeepBut.blk hk (g' := gb204) (o := .cells #[.int .i64 x205000_13, .int .i64 x205001_13, .int .i64 x205002_13] 28 (0, 0)) (by (with_reducible repeat (first | refine blk_drewN ?_ _ | refine blk_drew ?_ | refine blk_alloc ?_ _)); exact BK204.out) NB204_203.out (by simp))
              have n1_ := Aside0.mk (KeepBut.blk hk (g' := gb206) (o := .cells #[.int .i64 ((rd_T30 l0 x20_1).f0), .int .i64 ((rd_T30 l0 x20_1).f1)] 30 (0, 0)) (by (with_reducible repeat (first | refine blk_drewN ?_ _ | refine blk_drew ?_ | refine blk_alloc ?_ _)); exact BK206.out) NB206_203.out (by simp))
              have n2_ := Aside0.mk (hb)
              have n3_ := Aside0.mk (hi)
              clear BK204
              clear BK206
              clear HB
              clear HI203
              have BK204 := n0_
              have BK206 := n1_
              have HB := n2_
              have HI203 := n3_
              clear n0_ n1_ n2_ n3_
              (try clear hb)
              (try clear hb2)
              (try clear hk)
              (try clear hi)
              refine hK.out _ _ ⟨(blk_cell BK204.out 0).trans rfl, (blk_cell BK204.out 1).trans rfl, (blk_cell BK204.out 2).trans rfl⟩ (fun hHeld => ?_)
              clear hK K
              refine norm_ (a' := ?_) ?_ ?_
              rotate_left
              ·show Act.put _ (some 112) _ = _
               simp only [Act.put, zA_, zB_, zC_, i64_w, i32_w]
               rfl
              refine one_ (i := 19) (N := some 114) #[T_,T_,T_,T_,T_,T_,T_,T_,T_,T_,T_,T_,T_,T_,T_,T_,T_,T_,T_,T_,F_,F_,F_,F_,F_,F_,F_,F_,F_,F_] rfl rfl (one_of HT_.out (by kernel_rfl)) (by decide) (fun K hK => ?_)
              refine goes_ Try.func19 (by kernel_rfl) rfl #[.agg #[.int .i64 x205000_13, .int .i64 x205001_13, .int .i64 x205002_13]] (by rfl) rfl rfl (by (try simp only [List.map_toArray, List.map_cons, List.map_nil]); first | done | rfl | (simp only [List.length_drop, List.length_take]; rfl)) ?_
              with_reducible refine (greenscreenref21_Text.calls x205000_13 x205001_13 x205002_13 t265 _ A120.out).mono ?_
              rintro e w143 ⟨rfl, hb⟩
              refine ⟨_, rfl, ?_⟩
              have n0_ := Aside0.mk (blk_below (g := gb204) (o := .cells #[.int .i64 x205000_13, .int .i64 x205001_13, .int .i64 x205002_13] 28 (0, 0)) (by (with_reducible repeat (first | refine blk_drewN ?_ _ | refine blk_drew ?_ | refine blk_alloc ?_ _)); exact BK204.out) hb)
              have n1_ := Aside0.mk (blk_below (g := gb206) (o := .cells #[.int .i64 ((rd_T30 l0 x20_1).f0), .int .i64 ((rd_T30 l0 x20_1).f1)] 30 (0, 0)) (by (with_reducible repeat (first | refine blk_drewN ?_ _ | refine blk_drew ?_ | refine blk_alloc ?_ _)); exact BK206.out) hb)
              have n2_ := Aside0.mk (IsS26.below (by repeat (first | (with_reducible first | exact HI203.out | apply IsS26.alloc | apply IsS26.drewN | apply IsS26.drew | apply IsS26.set_0 | apply IsS26.set_1 | apply IsS26.set_2 | refine IsS26.far ?_ NB203_204.out _ | refine IsS26.far ?_ NB203_206.out _) | exact HI203.out)) hb)
              have n3_ := Aside0.mk (below_step (by repeat (first | (with_reducible first | exact HB.out | apply below_alloc | apply pw_below_drewN | apply below_drew1 | refine below_set ?_ (IsS26.ge HI203.out) | refine below_set ?_ GE204.out | refine below_set ?_ GE206.out) | exact HB.out)) hb)
              clear BK204
              clear BK206
              clear HI203
              clear HB
              have BK204 := n0_
              have BK206 := n1_
              have HI203 := n2_
              have HB := n3_
              clear n0_ n1_ n2_ n3_
              (try clear hb)
              (try clear hb2)
              (try clear hk)
              (try clear hi)
              refine hK.out _ _ ⟨(blk_cell BK204.out 0).trans rfl, (blk_cell BK204.out 1).trans rfl, (blk_cell BK204.out 2).trans rfl⟩ (fun hHeld => ?_)
              clear hK K
              refine norm_ (a' := ?_) ?_ ?_
              rotate_left
              ·show Act.put _ (some 114) _ = _
               simp only [Act.put, zA_, zB_, zC_, i64_w, i32_w]
               rfl
              refine pure_ (i := 20) (N := some 115) (v := ?_) (a' := ?_) #[T_,T_,T_,T_,T_,T_,T_,T_,T_,T_,T_,T_,T_,T_,T_,T_,T_,T_,T_,T_,T_,F_,F_,F_,F_,F_,F_,F_,F_,F_] rfl rfl (any_of HT_.out (by kernel_rfl)) (fun _ _ _ h => h) (Or.inl ⟨by rfl, ?_⟩) ?_ ?_
              rotate_left
              ·intro w'
               go_simp
               with_reducible rfl
              rotate_left
              ·simp only [Act.put, zA_, zB_, zC_, i64_w, i32_w]
               rfl
              refine pure_ (i := 21) (N := some 116) (v := ?_) (a' := ?_) #[T_,T_,T_,T_,T_,T_,T_,T_,T_,T_,T_,T_,T_,T_,T_,T_,T_,T_,T_,T_,T_,T_,F_,F_,F_,F_,F_,F_,F_,F_] rfl rfl (any_of HT_.out (by kernel_rfl)) (fun _ _ _ h => h) (Or.inl ⟨by rfl, ?_⟩) ?_ ?_
              rotate_left
              ·intro w'
               go_simp
               with_reducible rfl
              rotate_left
              ·simp only [Act.put, zA_, zB_, zC_, i64_w, i32_w]
               rfl
              refine pure_ (i := 22) (N := some 117) (v := ?_) (a' := ?_) #[T_,T_,T_,T_,T_,T_,T_,T_,T_,T_,T_,T_,T_,T_,T_,T_,T_,T_,T_,T_,T_,T_,T_,F_,F_,F_,F_,F_,F_,F_] rfl rfl (any_of HT_.out (by kernel_rfl)) (fun _ _ _ h => h) (Or.inl ⟨by rfl, ?_⟩) ?_ ?_
              rotate_left
              ·intro w'
               go_simp
               with_reducible rfl
              rotate_left
              ·simp only [Act.put, zA_, zB_, zC_, i64_w, i32_w]
               rfl
              refine pure_ (i := 23) (N := some 118) (v := undef) (a' := ?_) #[T_,T_,T_,T_,T_,T_,T_,T_,T_,T_,T_,T_,T_,T_,T_,T_,T_,T_,T_,T_,T_,T_,T_,T_,F_,F_,F_,F_,F_,F_] rfl rfl (any_of HT_.out (by kernel_rfl)) (fun _ _ _ h => h) (Or.inr ⟨by rfl, rfl⟩) ?_ ?_
              rotate_left
              ·simp only [Act.put, zA_, zB_, zC_, i64_w, i32_w]
               rfl
              refine pure_ (i := 24) (N := some 119) (v := undef) (a' := ?_) #[T_,T_,T_,T_,T_,T_,T_,T_,T_,T_,T_,T_,T_,T_,T_,T_,T_,T_,T_,T_,T_,T_,T_,T_,T_,F_,F_,F_,F_,F_] rfl rfl (any_of HT_.out (by kernel_rfl)) (fun _ _ _ h => h) (Or.inr ⟨by rfl, rfl⟩) ?_ ?_
              rotate_left
              ·simp only [Act.put, zA_, zB_, zC_, i64_w, i32_w]
               rfl
              refine pure_ (i := 25) (N := some 120) (v := undef) (a' := ?_) #[T_,T_,T_,T_,T_,T_,T_,T_,T_,T_,T_,T_,T_,T_,T_,T_,T_,T_,T_,T_,T_,T_,T_,T_,T_,T_,F_,F_,F_,F_] rfl rfl (any_of HT_.out (by kernel_rfl)) (fun _ _ _ h => h) (Or.inr ⟨by rfl, rfl⟩) ?_ ?_
              rotate_left
              ·simp only [Act.put, zA_, zB_, zC_, i64_w, i32_w]
               rfl
              refine pure_ (i := 26) (N := some 121) (v := undef) (a' := ?_) #[T_,T_,T_,T_,T_,T_,T_,T_,T_,T_,T_,T_,T_,T_,T_,T_,T_,T_,T_,T_,T_,T_,T_,T_,T_,T_,T_,F_,F_,F_] rfl rfl (any_of HT_.out (by kernel_rfl)) (fun _ _ _ h => h) (Or.inr ⟨by rfl, rfl⟩) ?_ ?_
              rotate_left
              ·simp only [Act.put, zA_, zB_, zC_, i64_w, i32_w]
               rfl
              refine pure_ (i := 27) (N := some 122) (v := undef) (a' := ?_) #[T_,T_,T_,T_,T_,T_,T_,T_,T_,T_,T_,T_,T_,T_,T_,T_,T_,T_,T_,T_,T_,T_,T_,T_,T_,T_,T_,T_,F_,F_] rfl rfl (any_of HT_.out (by kernel_rfl)) (fun _ _ _ h => h) (Or.inr ⟨by rfl, rfl⟩) ?_ ?_
              rotate_left
              ·simp only [Act.put, zA_, zB_, zC_, i64_w, i32_w]
               rfl
              refine pure_ (i := 28) (N := some 123) (v := undef) (a' := ?_) #[T_,T_,T_,T_,T_,T_,T_,T_,T_,T_,T_,T_,T_,T_,T_,T_,T_,T_,T_,T_,T_,T_,T_,T_,T_,T_,T_,T_,T_,F_] rfl rfl (any_of HT_.out (by kernel_rfl)) (fun _ _ _ h => h) (Or.inr ⟨by rfl, rfl⟩) ?_ ?_
              rotate_left
              ·simp only [Act.put, zA_, zB_, zC_, i64_w, i32_w]
               rfl
              refine pure_ (i := 29) (N := some 124) (v := ?_) (a' := ?_) #[T_,T_,T_,T_,T_,T_,T_,T_,T_,T_,T_,T_,T_,T_,T_,T_,T_,T_,T_,T_,T_,T_,T_,T_,T_,T_,T_,T_,T_,T_] rfl rfl (any_of HT_.out (by kernel_rfl)) (fun _ _ _ h => h) (Or.inl ⟨by rfl, ?_⟩) ?_ ?_
              rotate_left
              ·intro w'
               go_simp
               with_reducible rfl
              rotate_left
              ·simp only [Act.put, zA_, zB_, zC_, i64_w, i32_w]
               rfl
              refine done_ (done_of HT_.out (by kernel_rfl)) ?_
              try go_wp2
              go_ret
              exact ⟨by first | rfl | (simp [errW_none, errW_some] <;> rfl) | (simp [*, errW_none, errW_some] <;> rfl), by repeat (first | (with_reducible first | exact HB.out | apply below_alloc | apply pw_below_drewN | apply below_drew1 | refine below_set ?_ (IsS26.ge HI203.out) | refine below_set ?_ GE204.out | refine below_set ?_ GE206.out) | exact HB.out)⟩
            ·rw [if_neg c118] at H
             have c118b0 : (t257 == x205002_13) = false := beq_eq_false_iff_ne.mpr c118
             have c118b1 : (t257 != x205002_13) = true := bne_iff_ne.mpr c118
             obtain rfl := Option.some.inj H
             try go_wp2
             have n0_ := Aside0.mk (blk_drew BK204.out)
             have n1_ := Aside0.mk (blk_drew BK206.out)
             have n2_ := Aside0.mk (IsS26.drew HI203.out)
             have n3_ := Aside0.mk (below_drew1 HB.out)
             clear BK204
             clear BK206
             clear HI203
             clear HB
             have BK204 := n0_
             have BK206 := n1_
             have HI203 := n2_
             have HB := n3_
             clear n0_ n1_ n2_ n3_
             refine start_ (n := 30) (S := fun w' => w'.cell? ⟨gb204, 0, none⟩ = some (.int .i64 x205000_13) ∧ w'.cell? ⟨gb204, 1, none⟩ = some (.int .i64 x205001_13) ∧ w'.cell? ⟨gb204, 2, none⟩ = some (.int .i64 x205002_13)) (ds := []) #[F_,F_,F_,F_,F_,F_,F_,F_,F_,F_,F_,F_,F_,F_,F_,F_,F_,F_,F_,F_,F_,F_,F_,F_,F_,F_,F_,F_,F_,F_] (by kernel_rfl) rfl rfl ⟨(blk_cell BK204.out 0).trans rfl, (blk_cell BK204.out 1).trans rfl, (blk_cell BK204.out 2).trans rfl⟩ (fun hHeld => ?_); refine with_tabW greenscreenlaw21_LockPlays.tab41 greenscreenlaw21_LockPlays.bits41 (fun HT_ HW_ => ?_)
             generalize wc.drew = w144 at BK204 BK206 HI203 HB hHeld ⊢
             refine pure_ (i := 1) (N := some 96) (v := ?_) (a' := ?_) #[F_,T_,F_,F_,F_,F_,F_,F_,F_,F_,F_,F_,F_,F_,F_,F_,F_,F_,F_,F_,F_,F_,F_,F_,F_,F_,F_,F_,F_,F_] rfl rfl (any_of HT_.out (by kernel_rfl)) (fun _ _ _ h => h) (Or.inl ⟨by rfl, ?_⟩) ?_ ?_
             rotate_left
             ·intro w'
              go_simp
              with_reducible rfl
             rotate_left
             ·simp only [Act.put, zA_, zB_, zC_, i64_w, i32_w]
              rfl
             refine take_ (i := 2) (N := some 97) (v := ?_) (a' := ?_) #[F_,T_,T_,F_,F_,F_,F_,F_,F_,F_,F_,F_,F_,F_,F_,F_,F_,F_,F_,F_,F_,F_,F_,F_,F_,F_,F_,F_,F_,F_] rfl rfl (take_ofW HT_.out HW_.out (by kernel_rfl)) (fun _ _ _ h => h) (Or.inl ⟨by rfl, ?_⟩) hHeld ?_ ?_
             rotate_left
             ·rintro w' ⟨s0, s1, s2⟩
              go_simp
              with_reducible rfl
             rotate_left
             ·simp only [Act.put, zA_, zB_, zC_, i64_w, i32_w]
              rfl
             refine one_ (i := 0) (N := some 95) #[T_,T_,T_,F_,F_,F_,F_,F_,F_,F_,F_,F_,F_,F_,F_,F_,F_,F_,F_,F_,F_,F_,F_,F_,F_,F_,F_,F_,F_,F_] rfl rfl (one_of HT_.out (by kernel_rfl)) (by decide) (fun K hK => ?_)
             refine goes_ Try.func15 (by kernel_rfl) rfl #[.pointer (some ⟨gb203, 0, none⟩)] (by rfl) rfl rfl (by (try simp only [List.map_toArray, List.map_cons, List.map_nil]); first | done | rfl | (simp only [List.length_drop, List.length_take]; rfl)) ?_
             with_reducible refine (lock_Lock_State.calls gb203 x204000_13 x204001_13 x204002_13 t249 t250 t251 t252 w _ ?side1 ?side2 A113.out).mono ?_
             (case side1 => repeat (first | (with_reducible first | exact HI203.out | apply IsS26.alloc | apply IsS26.drewN | apply IsS26.drew | apply IsS26.set_0 | apply IsS26.set_1 | apply IsS26.set_2 | refine IsS26.far ?_ NB203_204.out _ | refine IsS26.far ?_ NB203_206.out _) | exact HI203.out))
             (case side2 => repeat (first | (with_reducible first | exact HB.out | apply below_alloc | apply pw_below_drewN | apply below_drew1 | refine below_set ?_ (IsS26.ge HI203.out) | refine below_set ?_ GE204.out | refine below_set ?_ GE206.out) | exact HB.out))
             rintro e w145 ⟨rfl, hi, hb, hk⟩
             refine ⟨_, rfl, ?_⟩
             have n0_ := Aside0.mk (KeepBut.blk hk (g' := gb204) (o := .cells #[.int .i64 x205000_13, .int .i64 x205001_13, .int .i64 x205002_13] 28 (0, 0)) (by (with_reducible repeat (first | refine blk_drewN ?_ _ | refine blk_drew ?_ | refine blk_alloc ?_ _)); exact BK204.out) NB204_203.out (by simp))
             have n1_ := Aside0.mk (KeepBut.blk hk (g' := gb206) (o := .cells #[.int .i64 ((rd_T30 l0 x20_1).f0), .int .i64 ((rd_T30 l0 x20_1).f1)] 30 (0, 0)) (by (with_reducible repeat (first | refine blk_drewN ?_ _ | refine blk_drew ?_ | refine blk_alloc ?_ _)); exact BK206.out) NB206_203.out (by simp))
             have n2_ := Aside0.mk (hb)
             have n3_ := Aside0.mk (hi)
             clear BK204
             clear BK206
             clear HB
             clear HI203
             have BK204 := n0_
             have BK206 := n1_
             have HB := n2_
             have HI203 := n3_
             clear n0_ n1_ n2_ n3_
             (try clear hb)
             (try clear hb2)
             (try clear hk)
             (try clear hi)
             refine hK.out _ _ ⟨(blk_cell BK204.out 0).trans rfl, (blk_cell BK204.out 1).trans rfl, (blk_cell BK204.out 2).trans rfl⟩ (fun hHeld => ?_)
             clear hK K
             refine norm_ (a' := ?_) ?_ ?_
             rotate_left
             ·show Act.put _ (some 95) _ = _
              simp only [Act.put, zA_, zB_, zC_, i64_w, i32_w]
              rfl
             refine pure_ (i := 3) (N := some 98) (v := ?_) (a' := ?_) #[T_,T_,T_,T_,F_,F_,F_,F_,F_,F_,F_,F_,F_,F_,F_,F_,F_,F_,F_,F_,F_,F_,F_,F_,F_,F_,F_,F_,F_,F_] rfl rfl (any_of HT_.out (by kernel_rfl)) (fun _ _ _ h => h) (Or.inl ⟨by rfl, ?_⟩) ?_ ?_
             rotate_left
             ·intro w'
              go_simp
              with_reducible rfl
             rotate_left
             ·simp only [Act.put, zA_, zB_, zC_, i64_w, i32_w]
              rfl
             refine pure_ (i := 4) (N := some 99) (v := ?_) (a' := ?_) #[T_,T_,T_,T_,T_,F_,F_,F_,F_,F_,F_,F_,F_,F_,F_,F_,F_,F_,F_,F_,F_,F_,F_,F_,F_,F_,F_,F_,F_,F_] rfl rfl (any_of HT_.out (by kernel_rfl)) (fun _ _ _ h => h) (Or.inl ⟨by rfl, ?_⟩) ?_ ?_
             rotate_left
             ·intro w'
              go_simp
              with_reducible rfl
             rotate_left
             ·simp only [Act.put, zA_, zB_, zC_, i64_w, i32_w]
              rfl
             refine pure_ (i := 6) (N := some 101) (v := ?_) (a' := ?_) #[T_,T_,T_,T_,T_,F_,T_,F_,F_,F_,F_,F_,F_,F_,F_,F_,F_,F_,F_,F_,F_,F_,F_,F_,F_,F_,F_,F_,F_,F_] rfl rfl (any_of HT_.out (by kernel_rfl)) (fun _ _ _ h => h) (Or.inl ⟨by rfl, ?_⟩) ?_ ?_
             rotate_left
             ·intro w'
              go_simp
              with_reducible rfl
             rotate_left
             ·simp only [Act.put, zA_, zB_, zC_, i64_w, i32_w]
              rfl
             refine take_ (i := 7) (N := some 102) (v := ?_) (a' := ?_) #[T_,T_,T_,T_,T_,F_,T_,T_,F_,F_,F_,F_,F_,F_,F_,F_,F_,F_,F_,F_,F_,F_,F_,F_,F_,F_,F_,F_,F_,F_] rfl rfl (take_ofW HT_.out HW_.out (by kernel_rfl)) (fun _ _ _ h => h) (Or.inl ⟨by rfl, ?_⟩) hHeld ?_ ?_
             rotate_left
             ·rintro w' ⟨s0, s1, s2⟩
              go_simp
              with_reducible rfl
             rotate_left
             ·simp only [Act.put, zA_, zB_, zC_, i64_w, i32_w]
              rfl
             refine one_ (i := 5) (N := some 100) #[T_,T_,T_,T_,T_,T_,T_,T_,F_,F_,F_,F_,F_,F_,F_,F_,F_,F_,F_,F_,F_,F_,F_,F_,F_,F_,F_,F_,F_,F_] rfl rfl (one_of HT_.out (by kernel_rfl)) (by decide) (fun K hK => ?_)
             refine goes_ Try.func16 (by kernel_rfl) rfl #[.pointer (some ⟨gb203, 0, none⟩)] (by rfl) rfl rfl (by (try simp only [List.map_toArray, List.map_cons, List.map_nil]); first | done | rfl | (simp only [List.length_drop, List.length_take]; rfl)) ?_
             with_reducible refine (lock_Lock_Why.calls gb203 t250 t251 t252 t253 t254 t255 t256 w _ ?side1 ?side2 A115.out).mono ?_
             (case side1 => repeat (first | (with_reducible first | exact HI203.out | apply IsS26.alloc | apply IsS26.drewN | apply IsS26.drew | apply IsS26.set_0 | apply IsS26.set_1 | apply IsS26.set_2 | refine IsS26.far ?_ NB203_204.out _ | refine IsS26.far ?_ NB203_206.out _) | exact HI203.out))
             (case side2 => repeat (first | (with_reducible first | exact HB.out | apply below_alloc | apply pw_below_drewN | apply below_drew1 | refine below_set ?_ (IsS26.ge HI203.out) | refine below_set ?_ GE204.out | refine below_set ?_ GE206.out) | exact HB.out))
             rintro e w146 ⟨rfl, hi, hb, hk⟩
             refine ⟨_, rfl, ?_⟩
             have n0_ := Aside0.mk (KeepBut.blk hk (g' := gb204) (o := .cells #[.int .i64 x205000_13, .int .i64 x205001_13, .int .i64 x205002_13] 28 (0, 0)) (by (with_reducible repeat (first | refine blk_drewN ?_ _ | refine blk_drew ?_ | refine blk_alloc ?_ _)); exact BK204.out) NB204_203.out (by simp))
             have n1_ := Aside0.mk (KeepBut.blk hk (g' := gb206) (o := .cells #[.int .i64 ((rd_T30 l0 x20_1).f0), .int .i64 ((rd_T30 l0 x20_1).f1)] 30 (0, 0)) (by (with_reducible repeat (first | refine blk_drewN ?_ _ | refine blk_drew ?_ | refine blk_alloc ?_ _)); exact BK206.out) NB206_203.out (by simp))
             have n2_ := Aside0.mk (hb)
             have n3_ := Aside0.mk (hi)
             clear BK204
             clear BK206
             clear HB
             clear HI203
             have BK204 := n0_
             have BK206 := n1_
             have HB := n2_
             have HI203 := n3_
             clear n0_ n1_ n2_ n3_
             (try clear hb)
             (try clear hb2)
             (try clear hk)
             (try clear hi)
             refine hK.out _ _ ⟨(blk_cell BK204.out 0).trans rfl, (blk_cell BK204.out 1).trans rfl, (blk_cell BK204.out 2).trans rfl⟩ (fun hHeld => ?_)
             clear hK K
             refine norm_ (a' := ?_) ?_ ?_
             rotate_left
             ·show Act.put _ (some 100) _ = _
              simp only [Act.put, zA_, zB_, zC_, i64_w, i32_w]
              rfl
             refine pure_ (i := 8) (N := some 103) (v := ?_) (a' := ?_) #[T_,T_,T_,T_,T_,T_,T_,T_,T_,F_,F_,F_,F_,F_,F_,F_,F_,F_,F_,F_,F_,F_,F_,F_,F_,F_,F_,F_,F_,F_] rfl rfl (any_of HT_.out (by kernel_rfl)) (fun _ _ _ h => h) (Or.inl ⟨by rfl, ?_⟩) ?_ ?_
             rotate_left
             ·intro w'
              go_simp
              with_reducible rfl
             rotate_left
             ·simp only [Act.put, zA_, zB_, zC_, i64_w, i32_w]
              rfl
             refine pure_ (i := 9) (N := some 104) (v := ?_) (a' := ?_) #[T_,T_,T_,T_,T_,T_,T_,T_,T_,T_,F_,F_,F_,F_,F_,F_,F_,F_,F_,F_,F_,F_,F_,F_,F_,F_,F_,F_,F_,F_] rfl rfl (any_of HT_.out (by kernel_rfl)) (fun _ _ _ h => h) (Or.inl ⟨by rfl, ?_⟩) ?_ ?_
             rotate_left
             ·intro w'
              go_simp
              with_reducible rfl
             rotate_left
             ·simp only [Act.put, zA_, zB_, zC_, i64_w, i32_w]
              rfl
             refine pure_ (i := 10) (N := some 105) (v := ?_) (a' := ?_) #[T_,T_,T_,T_,T_,T_,T_,T_,T_,T_,T_,F_,F_,F_,F_,F_,F_,F_,F_,F_,F_,F_,F_,F_,F_,F_,F_,F_,F_,F_] rfl rfl (any_of HT_.out (by kernel_rfl)) (fun _ _ _ h => h) (Or.inl ⟨by rfl, ?_⟩) ?_ ?_
             rotate_left
             ·intro w'
              go_simp
              with_reducible rfl
             rotate_left
             ·simp only [Act.put, zA_, zB_, zC_, i64_w, i32_w]
              rfl
             refine pure_ (i := 12) (N := some 107) (v := ?_) (a' := ?_) #[T_,T_,T_,T_,T_,T_,T_,T_,T_,T_,T_,F_,T_,F_,F_,F_,F_,F_,F_,F_,F_,F_,F_,F_,F_,F_,F_,F_,F_,F_] rfl rfl (any_of HT_.out (by kernel_rfl)) (fun _ _ _ h => h) (Or.inl ⟨by rfl, ?_⟩) ?_ ?_
             rotate_left
             ·intro w'
              go_simp
              with_reducible rfl
             rotate_left
             ·simp only [Act.put, zA_, zB_, zC_, i64_w, i32_w]
              rfl
             refine take_ (i := 13) (N := some 108) (v := ?_) (a' := ?_) #[T_,T_,T_,T_,T_,T_,T_,T_,T_,T_,T_,F_,T_,T_,F_,F_,F_,F_,F_,F_,F_,F_,F_,F_,F_,F_,F_,F_,F_,F_] rfl rfl (take_ofW HT_.out HW_.out (by kernel_rfl)) (fun _ _ _ h => h) (Or.inl ⟨by rfl, ?_⟩) hHeld ?_ ?_
             rotate_left
             ·rintro w' ⟨s0, s1, s2⟩
              go_simp
              with_reducible rfl
             rotate_left
             ·simp only [Act.put, zA_, zB_, zC_, i64_w, i32_w]
              rfl
             refine one_ (i := 11) (N := some 106) #[T_,T_,T_,T_,T_,T_,T_,T_,T_,T_,T_,T_,T_,T_,F_,F_,F_,F_,F_,F_,F_,F_,F_,F_,F_,F_,F_,F_,F_,F_] rfl rfl (one_of HT_.out (by kernel_rfl)) (by decide) (fun K hK => ?_)
             refine goes_ Try.func17 (by kernel_rfl) rfl #[.pointer (some ⟨gb203, 0, none⟩)] (by rfl) rfl rfl (by (try simp only [List.map_toArray, List.map_cons, List.map_nil]); first | done | rfl | (simp only [List.length_drop, List.length_take]; rfl)) ?_
             with_reducible refine (lock_Lock_Turns.calls gb203 t254 t255 t256 t257 t258 t259 t260 w _ ?side1 ?side2 A117.out).mono ?_
             (case side1 => repeat (first | (with_reducible first | exact HI203.out | apply IsS26.alloc | apply IsS26.drewN | apply IsS26.drew | apply IsS26.set_0 | apply IsS26.set_1 | apply IsS26.set_2 | refine IsS26.far ?_ NB203_204.out _ | refine IsS26.far ?_ NB203_206.out _) | exact HI203.out))
             (case side2 => repeat (first | (with_reducible first | exact HB.out | apply below_alloc | apply pw_below_drewN | apply below_drew1 | refine below_set ?_ (IsS26.ge HI203.out) | refine below_set ?_ GE204.out | refine below_set ?_ GE206.out) | exact HB.out))
             rintro e w147 ⟨rfl, hi, hb, hk⟩
             refine ⟨_, rfl, ?_⟩
             have n0_ := Aside0.mk (KeepBut.blk hk (g' := gb204) (o := .cells #[.int .i64 x205000_13, .int .i64 x205001_13, .int .i64 x205002_13] 28 (0, 0)) (by (with_reducible repeat (first | refine blk_drewN ?_ _ | refine blk_drew ?_ | refine blk_alloc ?_ _)); exact BK204.out) NB204_203.out (by simp))
             have n1_ := Aside0.mk (KeepBut.blk hk (g' := gb206) (o := .cells #[.int .i64 ((rd_T30 l0 x20_1).f0), .int .i64 ((rd_T30 l0 x20_1).f1)] 30 (0, 0)) (by (with_reducible repeat (first | refine blk_drewN ?_ _ | refine blk_drew ?_ | refine blk_alloc ?_ _)); exact BK206.out) NB206_203.out (by simp))
             have n2_ := Aside0.mk (hb)
             have n3_ := Aside0.mk (hi)
             clear BK204
             clear BK206
             clear HB
             clear HI203
             have BK204 := n0_
             have BK206 := n1_
             have HB := n2_
             have HI203 := n3_
             clear n0_ n1_ n2_ n3_
             (try clear hb)
             (try clear hb2)
             (try clear hk)
             (try clear hi)
             refine hK.out _ _ ⟨(blk_cell BK204.out 0).trans rfl, (blk_cell BK204.out 1).trans rfl, (blk_cell BK204.out 2).trans rfl⟩ (fun hHeld => ?_)
             clear hK K
             refine norm_ (a' := ?_) ?_ ?_
             rotate_left
             ·show Act.put _ (some 106) _ = _
              simp only [Act.put, zA_, zB_, zC_, i64_w, i32_w]
              rfl
             refine pure_ (i := 14) (N := some 109) (v := ?_) (a' := ?_) #[T_,T_,T_,T_,T_,T_,T_,T_,T_,T_,T_,T_,T_,T_,T_,F_,F_,F_,F_,F_,F_,F_,F_,F_,F_,F_,F_,F_,F_,F_] rfl rfl (any_of HT_.out (by kernel_rfl)) (fun _ _ _ h => h) (Or.inl ⟨by rfl, ?_⟩) ?_ ?_
             rotate_left
             ·intro w'
              go_simp
              with_reducible rfl
             rotate_left
             ·simp only [Act.put, zA_, zB_, zC_, i64_w, i32_w]
              rfl
             refine pure_ (i := 15) (N := some 110) (v := ?_) (a' := ?_) #[T_,T_,T_,T_,T_,T_,T_,T_,T_,T_,T_,T_,T_,T_,T_,T_,F_,F_,F_,F_,F_,F_,F_,F_,F_,F_,F_,F_,F_,F_] rfl rfl (any_of HT_.out (by kernel_rfl)) (fun _ _ _ h => h) (Or.inl ⟨by rfl, ?_⟩) ?_ ?_
             rotate_left
             ·intro w'
              go_simp
              with_reducible rfl
             rotate_left
             ·simp only [Act.put, zA_, zB_, zC_, i64_w, i32_w]
              rfl
             refine pure_ (i := 16) (N := some 111) (v := ?_) (a' := ?_) #[T_,T_,T_,T_,T_,T_,T_,T_,T_,T_,T_,T_,T_,T_,T_,T_,T_,F_,F_,F_,F_,F_,F_,F_,F_,F_,F_,F_,F_,F_] rfl rfl (any_of HT_.out (by kernel_rfl)) (fun _ _ _ h => h) (Or.inl ⟨by rfl, ?_⟩) ?_ ?_
             rotate_left
             ·intro w'
              go_simp
              with_reducible rfl
             rotate_left
             ·simp only [Act.put, zA_, zB_, zC_, i64_w, i32_w]
              rfl
             refine pure_ (i := 17) (N := some 112) (v := undef) (a' := ?_) #[T_,T_,T_,T_,T_,T_,T_,T_,T_,T_,T_,T_,T_,T_,T_,T_,T_,T_,F_,F_,F_,F_,F_,F_,F_,F_,F_,F_,F_,F_] rfl rfl (any_of HT_.out (by kernel_rfl)) (fun _ _ _ h => h) (Or.inr ⟨by rfl, rfl⟩) ?_ ?_
             rotate_left
             ·simp only [Act.put, zA_, zB_, zC_, i64_w, i32_w]
              rfl
             refine pure_ (i := 18) (N := some 113) (v := undef) (a' := ?_) #[T_,T_,T_,T_,T_,T_,T_,T_,T_,T_,T_,T_,T_,T_,T_,T_,T_,T_,T_,F_,F_,F_,F_,F_,F_,F_,F_,F_,F_,F_] rfl rfl (any_of HT_.out (by kernel_rfl)) (fun _ _ _ h => h) (Or.inr ⟨by rfl, rfl⟩) ?_ ?_
             rotate_left
             ·simp only [Act.put, zA_, zB_, zC_, i64_w, i32_w]
              rfl
             refine pure_ (i := 19) (N := some 114) (v := undef) (a' := ?_) #[T_,T_,T_,T_,T_,T_,T_,T_,T_,T_,T_,T_,T_,T_,T_,T_,T_,T_,T_,T_,F_,F_,F_,F_,F_,F_,F_,F_,F_,F_] rfl rfl (any_of HT_.out (by kernel_rfl)) (fun _ _ _ h => h) (Or.inr ⟨by rfl, rfl⟩) ?_ ?_
             rotate_left
             ·simp only [Act.put, zA_, zB_, zC_, i64_w, i32_w]
              rfl
             refine pure_ (i := 20) (N := some 115) (v := undef) (a' := ?_) #[T_,T_,T_,T_,T_,T_,T_,T_,T_,T_,T_,T_,T_,T_,T_,T_,T_,T_,T_,T_,T_,F_,F_,F_,F_,F_,F_,F_,F_,F_] rfl rfl (any_of HT_.out (by kernel_rfl)) (fun _ _ _ h => h) (Or.inr ⟨by rfl, rfl⟩) ?_ ?_
             rotate_left
             ·simp only [Act.put, zA_, zB_, zC_, i64_w, i32_w]
              rfl
             refine pure_ (i := 21) (N := some 116) (v := ?_) (a' := ?_) #[T_,T_,T_,T_,T_,T_,T_,T_,T_,T_,T_,T_,T_,T_,T_,T_,T_,T_,T_,T_,T_,T_,F_,F_,F_,F_,F_,F_,F_,F_] rfl rfl (any_of HT_.out (by kernel_rfl)) (fun _ _ _ h => h) (Or.inl ⟨by rfl, ?_⟩) ?_ ?_
             rotate_left
             ·intro w'
              go_simp
              with_reducible rfl
             rotate_left
             ·simp only [Act.put, zA_, zB_, zC_, i64_w, i32_w]
              rfl
             refine pure_ (i := 22) (N := some 117) (v := ?_) (a' := ?_) #[T_,T_,T_,T_,T_,T_,T_,T_,T_,T_,T_,T_,T_,T_,T_,T_,T_,T_,T_,T_,T_,T_,T_,F_,F_,F_,F_,F_,F_,F_] rfl rfl (any_of HT_.out (by kernel_rfl)) (fun _ _ _ h => h) (Or.inl ⟨by rfl, ?_⟩) ?_ ?_
             rotate_left
             ·intro w'
              go_simp
              with_reducible rfl
             rotate_left
             ·simp only [Act.put, zA_, zB_, zC_, i64_w, i32_w]
              rfl
             refine pure_ (i := 23) (N := some 118) (v := undef) (a' := ?_) #[T_,T_,T_,T_,T_,T_,T_,T_,T_,T_,T_,T_,T_,T_,T_,T_,T_,T_,T_,T_,T_,T_,T_,T_,F_,F_,F_,F_,F_,F_] rfl rfl (any_of HT_.out (by kernel_rfl)) (fun _ _ _ h => h) (Or.inr ⟨by rfl, rfl⟩) ?_ ?_
             rotate_left
             ·simp only [Act.put, zA_, zB_, zC_, i64_w, i32_w]
              rfl
             refine pure_ (i := 24) (N := some 119) (v := undef) (a' := ?_) #[T_,T_,T_,T_,T_,T_,T_,T_,T_,T_,T_,T_,T_,T_,T_,T_,T_,T_,T_,T_,T_,T_,T_,T_,T_,F_,F_,F_,F_,F_] rfl rfl (any_of HT_.out (by kernel_rfl)) (fun _ _ _ h => h) (Or.inr ⟨by rfl, rfl⟩) ?_ ?_
             rotate_left
             ·simp only [Act.put, zA_, zB_, zC_, i64_w, i32_w]
              rfl
             refine pure_ (i := 25) (N := some 120) (v := undef) (a' := ?_) #[T_,T_,T_,T_,T_,T_,T_,T_,T_,T_,T_,T_,T_,T_,T_,T_,T_,T_,T_,T_,T_,T_,T_,T_,T_,T_,F_,F_,F_,F_] rfl rfl (any_of HT_.out (by kernel_rfl)) (fun _ _ _ h => h) (Or.inr ⟨by rfl, rfl⟩) ?_ ?_
             rotate_left
             ·simp only [Act.put, zA_, zB_, zC_, i64_w, i32_w]
              rfl
             refine pure_ (i := 26) (N := some 121) (v := undef) (a' := ?_) #[T_,T_,T_,T_,T_,T_,T_,T_,T_,T_,T_,T_,T_,T_,T_,T_,T_,T_,T_,T_,T_,T_,T_,T_,T_,T_,T_,F_,F_,F_] rfl rfl (any_of HT_.out (by kernel_rfl)) (fun _ _ _ h => h) (Or.inr ⟨by rfl, rfl⟩) ?_ ?_
             rotate_left
             ·simp only [Act.put, zA_, zB_, zC_, i64_w, i32_w]
              rfl
             refine pure_ (i := 27) (N := some 122) (v := undef) (a' := ?_) #[T_,T_,T_,T_,T_,T_,T_,T_,T_,T_,T_,T_,T_,T_,T_,T_,T_,T_,T_,T_,T_,T_,T_,T_,T_,T_,T_,T_,F_,F_] rfl rfl (any_of HT_.out (by kernel_rfl)) (fun _ _ _ h => h) (Or.inr ⟨by rfl, rfl⟩) ?_ ?_
             rotate_left
             ·simp only [Act.put, zA_, zB_, zC_, i64_w, i32_w]
              rfl
             refine pure_ (i := 28) (N := some 123) (v := undef) (a' := ?_) #[T_,T_,T_,T_,T_,T_,T_,T_,T_,T_,T_,T_,T_,T_,T_,T_,T_,T_,T_,T_,T_,T_,T_,T_,T_,T_,T_,T_,T_,F_] rfl rfl (any_of HT_.out (by kernel_rfl)) (fun _ _ _ h => h) (Or.inr ⟨by rfl, rfl⟩) ?_ ?_
             rotate_left
             ·simp only [Act.put, zA_, zB_, zC_, i64_w, i32_w]
              rfl
             refine pure_ (i := 29) (N := some 124) (v := ?_) (a' := ?_) #[T_,T_,T_,T_,T_,T_,T_,T_,T_,T_,T_,T_,T_,T_,T_,T_,T_,T_,T_,T_,T_,T_,T_,T_,T_,T_,T_,T_,T_,T_] rfl rfl (any_of HT_.out (by kernel_rfl)) (fun _ _ _ h => h) (Or.inl ⟨by rfl, ?_⟩) ?_ ?_
             rotate_left
             ·intro w'
              go_simp
              with_reducible rfl
             rotate_left
             ·simp only [Act.put, zA_, zB_, zC_, i64_w, i32_w]
              rfl
             refine done_ (done_of HT_.out (by kernel_rfl)) ?_
             try go_wp2
             go_ret
             exact ⟨by first | rfl | (simp [errW_none, errW_some] <;> rfl) | (simp [*, errW_none, errW_some] <;> rfl), by repeat (first | (with_reducible first | exact HB.out | apply below_alloc | apply pw_below_drewN | apply below_drew1 | refine below_set ?_ (IsS26.ge HI203.out) | refine below_set ?_ GE204.out | refine below_set ?_ GE206.out) | exact HB.out)⟩
           ·rw [if_neg c116] at H
            have c116b0 : (t253 == x205001_13) = false := beq_eq_false_iff_ne.mpr c116
            have c116b1 : (t253 != x205001_13) = true := bne_iff_ne.mpr c116
            obtain rfl := Option.some.inj H
            try go_wp2
            have n0_ := Aside0.mk (blk_drew BK204.out)
            have n1_ := Aside0.mk (blk_drew BK206.out)
            have n2_ := Aside0.mk (IsS26.drew HI203.out)
            have n3_ := Aside0.mk (below_drew1 HB.out)
            clear BK204
            clear BK206
            clear HI203
            clear HB
            have BK204 := n0_
            have BK206 := n1_
            have HI203 := n2_
            have HB := n3_
            clear n0_ n1_ n2_ n3_
            refine start_ (n := 30) (S := fun w' => w'.cell? ⟨gb204, 0, none⟩ = some (.int .i64 x205000_13) ∧ w'.cell? ⟨gb204, 1, none⟩ = some (.int .i64 x205001_13) ∧ w'.cell? ⟨gb204, 2, none⟩ = some (.int .i64 x205002_13)) (ds := []) #[F_,F_,F_,F_,F_,F_,F_,F_,F_,F_,F_,F_,F_,F_,F_,F_,F_,F_,F_,F_,F_,F_,F_,F_,F_,F_,F_,F_,F_,F_] (by kernel_rfl) rfl rfl ⟨(blk_cell BK204.out 0).trans rfl, (blk_cell BK204.out 1).trans rfl, (blk_cell BK204.out 2).trans rfl⟩ (fun hHeld => ?_); refine with_tabW greenscreenlaw21_LockPlays.tab41 greenscreenlaw21_LockPlays.bits41 (fun HT_ HW_ => ?_)
            generalize wc.drew = w148 at BK204 BK206 HI203 HB hHeld ⊢
            refine pure_ (i := 1) (N := some 96) (v := ?_) (a' := ?_) #[F_,T_,F_,F_,F_,F_,F_,F_,F_,F_,F_,F_,F_,F_,F_,F_,F_,F_,F_,F_,F_,F_,F_,F_,F_,F_,F_,F_,F_,F_] rfl rfl (any_of HT_.out (by kernel_rfl)) (fun _ _ _ h => h) (Or.inl ⟨by rfl, ?_⟩) ?_ ?_
            rotate_left
            ·intro w'
             go_simp
             with_reducible rfl
            rotate_left
            ·simp only [Act.put, zA_, zB_, zC_, i64_w, i32_w]
             rfl
            refine take_ (i := 2) (N := some 97) (v := ?_) (a' := ?_) #[F_,T_,T_,F_,F_,F_,F_,F_,F_,F_,F_,F_,F_,F_,F_,F_,F_,F_,F_,F_,F_,F_,F_,F_,F_,F_,F_,F_,F_,F_] rfl rfl (take_ofW HT_.out HW_.out (by kernel_rfl)) (fun _ _ _ h => h) (Or.inl ⟨by rfl, ?_⟩) hHeld ?_ ?_
            rotate_left
            ·rintro w' ⟨s0, s1, s2⟩
             go_simp
             with_reducible rfl
            rotate_left
            ·simp only [Act.put, zA_, zB_, zC_, i64_w, i32_w]
             rfl
            refine one_ (i := 0) (N := some 95) #[T_,T_,T_,F_,F_,F_,F_,F_,F_,F_,F_,F_,F_,F_,F_,F_,F_,F_,F_,F_,F_,F_,F_,F_,F_,F_,F_,F_,F_,F_] rfl rfl (one_of HT_.out (by kernel_rfl)) (by decide) (fun K hK => ?_)
            refine goes_ Try.func15 (by kernel_rfl) rfl #[.pointer (some ⟨gb203, 0, none⟩)] (by rfl) rfl rfl (by (try simp only [List.map_toArray, List.map_cons, List.map_nil]); first | done | rfl | (simp only [List.length_drop, List.length_take]; rfl)) ?_
            with_reducible refine (lock_Lock_State.calls gb203 x204000_13 x204001_13 x204002_13 t249 t250 t251 t252 w _ ?side1 ?side2 A113.out).mono ?_
            (case side1 => repeat (first | (with_reducible first | exact HI203.out | apply IsS26.alloc | apply IsS26.drewN | apply IsS26.drew | apply IsS26.set_0 | apply IsS26.set_1 | apply IsS26.set_2 | refine IsS26.far ?_ NB203_204.out _ | refine IsS26.far ?_ NB203_206.out _) | exact HI203.out))
            (case side2 => repeat (first | (with_reducible first | exact HB.out | apply below_alloc | apply pw_below_drewN | apply below_drew1 | refine below_set ?_ (IsS26.ge HI203.out) | refine below_set ?_ GE204.out | refine below_set ?_ GE206.out) | exact HB.out))
            rintro e w149 ⟨rfl, hi, hb, hk⟩
            refine ⟨_, rfl, ?_⟩
            have n0_ := Aside0.mk (KeepBut.blk hk (g' := gb204) (o := .cells #[.int .i64 x205000_13, .int .i64 x205001_13, .int .i64 x205002_13] 28 (0, 0)) (by (with_reducible repeat (first | refine blk_drewN ?_ _ | refine blk_drew ?_ | refine blk_alloc ?_ _)); exact BK204.out) NB204_203.out (by simp))
            have n1_ := Aside0.mk (KeepBut.blk hk (g' := gb206) (o := .cells #[.int .i64 ((rd_T30 l0 x20_1).f0), .int .i64 ((rd_T30 l0 x20_1).f1)] 30 (0, 0)) (by (with_reducible repeat (first | refine blk_drewN ?_ _ | refine blk_drew ?_ | refine blk_alloc ?_ _)); exact BK206.out) NB206_203.out (by simp))
            have n2_ := Aside0.mk (hb)
            have n3_ := Aside0.mk (hi)
            clear BK204
            clear BK206
            clear HB
            clear HI203
            have BK204 := n0_
            have BK206 := n1_
            have HB := n2_
            have HI203 := n3_
            clear n0_ n1_ n2_ n3_
            (try clear hb)
            (try clear hb2)
            (try clear hk)
            (try clear hi)
            refine hK.out _ _ ⟨(blk_cell BK204.out 0).trans rfl, (blk_cell BK204.out 1).trans rfl, (blk_cell BK204.out 2).trans rfl⟩ (fun hHeld => ?_)
            clear hK K
            refine norm_ (a' := ?_) ?_ ?_
            rotate_left
            ·show Act.put _ (some 95) _ = _
             simp only [Act.put, zA_, zB_, zC_, i64_w, i32_w]
             rfl
            refine pure_ (i := 3) (N := some 98) (v := ?_) (a' := ?_) #[T_,T_,T_,T_,F_,F_,F_,F_,F_,F_,F_,F_,F_,F_,F_,F_,F_,F_,F_,F_,F_,F_,F_,F_,F_,F_,F_,F_,F_,F_] rfl rfl (any_of HT_.out (by kernel_rfl)) (fun _ _ _ h => h) (Or.inl ⟨by rfl, ?_⟩) ?_ ?_
            rotate_left
            ·intro w'
             go_simp
             with_reducible rfl
            rotate_left
            ·simp only [Act.put, zA_, zB_, zC_, i64_w, i32_w]
             rfl
            refine pure_ (i := 4) (N := some 99) (v := ?_) (a' := ?_) #[T_,T_,T_,T_,T_,F_,F_,F_,F_,F_,F_,F_,F_,F_,F_,F_,F_,F_,F_,F_,F_,F_,F_,F_,F_,F_,F_,F_,F_,F_] rfl rfl (any_of HT_.out (by kernel_rfl)) (fun _ _ _ h => h) (Or.inl ⟨by rfl, ?_⟩) ?_ ?_
            rotate_left
            ·intro w'
             go_simp
             with_reducible rfl
            rotate_left
            ·simp only [Act.put, zA_, zB_, zC_, i64_w, i32_w]
             rfl
            refine pure_ (i := 6) (N := some 101) (v := ?_) (a' := ?_) #[T_,T_,T_,T_,T_,F_,T_,F_,F_,F_,F_,F_,F_,F_,F_,F_,F_,F_,F_,F_,F_,F_,F_,F_,F_,F_,F_,F_,F_,F_] rfl rfl (any_of HT_.out (by kernel_rfl)) (fun _ _ _ h => h) (Or.inl ⟨by rfl, ?_⟩) ?_ ?_
            rotate_left
            ·intro w'
             go_simp
             with_reducible rfl
            rotate_left
            ·simp only [Act.put, zA_, zB_, zC_, i64_w, i32_w]
             rfl
            refine take_ (i := 7) (N := some 102) (v := ?_) (a' := ?_) #[T_,T_,T_,T_,T_,F_,T_,T_,F_,F_,F_,F_,F_,F_,F_,F_,F_,F_,F_,F_,F_,F_,F_,F_,F_,F_,F_,F_,F_,F_] rfl rfl (take_ofW HT_.out HW_.out (by kernel_rfl)) (fun _ _ _ h => h) (Or.inl ⟨by rfl, ?_⟩) hHeld ?_ ?_
            rotate_left
            ·rintro w' ⟨s0, s1, s2⟩
             go_simp
             with_reducible rfl
            rotate_left
            ·simp only [Act.put, zA_, zB_, zC_, i64_w, i32_w]
             rfl
            refine one_ (i := 5) (N := some 100) #[T_,T_,T_,T_,T_,T_,T_,T_,F_,F_,F_,F_,F_,F_,F_,F_,F_,F_,F_,F_,F_,F_,F_,F_,F_,F_,F_,F_,F_,F_] rfl rfl (one_of HT_.out (by kernel_rfl)) (by decide) (fun K hK => ?_)
            refine goes_ Try.func16 (by kernel_rfl) rfl #[.pointer (some ⟨gb203, 0, none⟩)] (by rfl) rfl rfl (by (try simp only [List.map_toArray, List.map_cons, List.map_nil]); first | done | rfl | (simp only [List.length_drop, List.length_take]; rfl)) ?_
            with_reducible refine (lock_Lock_Why.calls gb203 t250 t251 t252 t253 t254 t255 t256 w _ ?side1 ?side2 A115.out).mono ?_
            (case side1 => repeat (first | (with_reducible first | exact HI203.out | apply IsS26.alloc | apply IsS26.drewN | apply IsS26.drew | apply IsS26.set_0 | apply IsS26.set_1 | apply IsS26.set_2 | refine IsS26.far ?_ NB203_204.out _ | refine IsS26.far ?_ NB203_206.out _) | exact HI203.out))
            (case side2 => repeat (first | (with_reducible first | exact HB.out | apply below_alloc | apply pw_below_drewN | apply below_drew1 | refine below_set ?_ (IsS26.ge HI203.out) | refine below_set ?_ GE204.out | refine below_set ?_ GE206.out) | exact HB.out))
            rintro e w150 ⟨rfl, hi, hb, hk⟩
            refine ⟨_, rfl, ?_⟩
            have n0_ := Aside0.mk (KeepBut.blk hk (g' := gb204) (o := .cells #[.int .i64 x205000_13, .int .i64 x205001_13, .int .i64 x205002_13] 28 (0, 0)) (by (with_reducible repeat (first | refine blk_drewN ?_ _ | refine blk_drew ?_ | refine blk_alloc ?_ _)); exact BK204.out) NB204_203.out (by simp))
            have n1_ := Aside0.mk (KeepBut.blk hk (g' := gb206) (o := .cells #[.int .i64 ((rd_T30 l0 x20_1).f0), .int .i64 ((rd_T30 l0 x20_1).f1)] 30 (0, 0)) (by (with_reducible repeat (first | refine blk_drewN ?_ _ | refine blk_drew ?_ | refine blk_alloc ?_ _)); exact BK206.out) NB206_203.out (by simp))
            have n2_ := Aside0.mk (hb)
            have n3_ := Aside0.mk (hi)
            clear BK204
            clear BK206
            clear HB
            clear HI203
            have BK204 := n0_
            have BK206 := n1_
            have HB := n2_
            have HI203 := n3_
            clear n0_ n1_ n2_ n3_
            (try clear hb)
            (try clear hb2)
            (try clear hk)
            (try clear hi)
            refine hK.out _ _ ⟨(blk_cell BK204.out 0).trans rfl, (blk_cell BK204.out 1).trans rfl, (blk_cell BK204.out 2).trans rfl⟩ (fun hHeld => ?_)
            clear hK K
            refine norm_ (a' := ?_) ?_ ?_
            rotate_left
            ·show Act.put _ (some 100) _ = _
             simp only [Act.put, zA_, zB_, zC_, i64_w, i32_w]
             rfl
            refine pure_ (i := 8) (N := some 103) (v := ?_) (a' := ?_) #[T_,T_,T_,T_,T_,T_,T_,T_,T_,F_,F_,F_,F_,F_,F_,F_,F_,F_,F_,F_,F_,F_,F_,F_,F_,F_,F_,F_,F_,F_] rfl rfl (any_of HT_.out (by kernel_rfl)) (fun _ _ _ h => h) (Or.inl ⟨by rfl, ?_⟩) ?_ ?_
            rotate_left
            ·intro w'
             go_simp
             with_reducible rfl
            rotate_left
            ·simp only [Act.put, zA_, zB_, zC_, i64_w, i32_w]
             rfl
            refine pure_ (i := 9) (N := some 104) (v := ?_) (a' := ?_) #[T_,T_,T_,T_,T_,T_,T_,T_,T_,T_,F_,F_,F_,F_,F_,F_,F_,F_,F_,F_,F_,F_,F_,F_,F_,F_,F_,F_,F_,F_] rfl rfl (any_of HT_.out (by kernel_rfl)) (fun _ _ _ h => h) (Or.inl ⟨by rfl, ?_⟩) ?_ ?_
            rotate_left
            ·intro w'
             go_simp
             with_reducible rfl
            rotate_left
            ·simp only [Act.put, zA_, zB_, zC_, i64_w, i32_w]
             rfl
            refine pure_ (i := 10) (N := some 105) (v := ?_) (a' := ?_) #[T_,T_,T_,T_,T_,T_,T_,T_,T_,T_,T_,F_,F_,F_,F_,F_,F_,F_,F_,F_,F_,F_,F_,F_,F_,F_,F_,F_,F_,F_] rfl rfl (any_of HT_.out (by kernel_rfl)) (fun _ _ _ h => h) (Or.inl ⟨by rfl, ?_⟩) ?_ ?_
            rotate_left
            ·intro w'
             go_simp
             with_reducible rfl
            rotate_left
            ·simp only [Act.put, zA_, zB_, zC_, i64_w, i32_w]
             rfl
            refine pure_ (i := 11) (N := some 106) (v := undef) (a' := ?_) #[T_,T_,T_,T_,T_,T_,T_,T_,T_,T_,T_,T_,F_,F_,F_,F_,F_,F_,F_,F_,F_,F_,F_,F_,F_,F_,F_,F_,F_,F_] rfl rfl (any_of HT_.out (by kernel_rfl)) (fun _ _ _ h => h) (Or.inr ⟨by rfl, rfl⟩) ?_ ?_
            rotate_left
            ·simp only [Act.put, zA_, zB_, zC_, i64_w, i32_w]
             rfl
            refine pure_ (i := 12) (N := some 107) (v := undef) (a' := ?_) #[T_,T_,T_,T_,T_,T_,T_,T_,T_,T_,T_,T_,T_,F_,F_,F_,F_,F_,F_,F_,F_,F_,F_,F_,F_,F_,F_,F_,F_,F_] rfl rfl (any_of HT_.out (by kernel_rfl)) (fun _ _ _ h => h) (Or.inr ⟨by rfl, rfl⟩) ?_ ?_
            rotate_left
            ·simp only [Act.put, zA_, zB_, zC_, i64_w, i32_w]
             rfl
            refine pure_ (i := 13) (N := some 108) (v := undef) (a' := ?_) #[T_,T_,T_,T_,T_,T_,T_,T_,T_,T_,T_,T_,T_,T_,F_,F_,F_,F_,F_,F_,F_,F_,F_,F_,F_,F_,F_,F_,F_,F_] rfl rfl (any_of HT_.out (by kernel_rfl)) (fun _ _ _ h => h) (Or.inr ⟨by rfl, rfl⟩) ?_ ?_
            rotate_left
            ·simp only [Act.put, zA_, zB_, zC_, i64_w, i32_w]
             rfl
            refine pure_ (i := 14) (N := some 109) (v := undef) (a' := ?_) #[T_,T_,T_,T_,T_,T_,T_,T_,T_,T_,T_,T_,T_,T_,T_,F_,F_,F_,F_,F_,F_,F_,F_,F_,F_,F_,F_,F_,F_,F_] rfl rfl (any_of HT_.out (by kernel_rfl)) (fun _ _ _ h => h) (Or.inr ⟨by rfl, rfl⟩) ?_ ?_
            rotate_left
            ·simp only [Act.put, zA_, zB_, zC_, i64_w, i32_w]
             rfl
            refine pure_ (i := 15) (N := some 110) (v := ?_) (a' := ?_) #[T_,T_,T_,T_,T_,T_,T_,T_,T_,T_,T_,T_,T_,T_,T_,T_,F_,F_,F_,F_,F_,F_,F_,F_,F_,F_,F_,F_,F_,F_] rfl rfl (any_of HT_.out (by kernel_rfl)) (fun _ _ _ h => h) (Or.inl ⟨by rfl, ?_⟩) ?_ ?_
            rotate_left
            ·intro w'
             go_simp
             with_reducible rfl
            rotate_left
            ·simp only [Act.put, zA_, zB_, zC_, i64_w, i32_w]
             rfl
            refine pure_ (i := 16) (N := some 111) (v := ?_) (a' := ?_) #[T_,T_,T_,T_,T_,T_,T_,T_,T_,T_,T_,T_,T_,T_,T_,T_,T_,F_,F_,F_,F_,F_,F_,F_,F_,F_,F_,F_,F_,F_] rfl rfl (any_of HT_.out (by kernel_rfl)) (fun _ _ _ h => h) (Or.inl ⟨by rfl, ?_⟩) ?_ ?_
            rotate_left
            ·intro w'
             go_simp
             with_reducible rfl
            rotate_left
            ·simp only [Act.put, zA_, zB_, zC_, i64_w, i32_w]
             rfl
            refine pure_ (i := 17) (N := some 112) (v := undef) (a' := ?_) #[T_,T_,T_,T_,T_,T_,T_,T_,T_,T_,T_,T_,T_,T_,T_,T_,T_,T_,F_,F_,F_,F_,F_,F_,F_,F_,F_,F_,F_,F_] rfl rfl (any_of HT_.out (by kernel_rfl)) (fun _ _ _ h => h) (Or.inr ⟨by rfl, rfl⟩) ?_ ?_
            rotate_left
            ·simp only [Act.put, zA_, zB_, zC_, i64_w, i32_w]
             rfl
            refine pure_ (i := 18) (N := some 113) (v := undef) (a' := ?_) #[T_,T_,T_,T_,T_,T_,T_,T_,T_,T_,T_,T_,T_,T_,T_,T_,T_,T_,T_,F_,F_,F_,F_,F_,F_,F_,F_,F_,F_,F_] rfl rfl (any_of HT_.out (by kernel_rfl)) (fun _ _ _ h => h) (Or.inr ⟨by rfl, rfl⟩) ?_ ?_
            rotate_left
            ·simp only [Act.put, zA_, zB_, zC_, i64_w, i32_w]
             rfl
            refine pure_ (i := 19) (N := some 114) (v := undef) (a' := ?_) #[T_,T_,T_,T_,T_,T_,T_,T_,T_,T_,T_,T_,T_,T_,T_,T_,T_,T_,T_,T_,F_,F_,F_,F_,F_,F_,F_,F_,F_,F_] rfl rfl (any_of HT_.out (by kernel_rfl)) (fun _ _ _ h => h) (Or.inr ⟨by rfl, rfl⟩) ?_ ?_
            rotate_left
            ·simp only [Act.put, zA_, zB_, zC_, i64_w, i32_w]
             rfl
            refine pure_ (i := 20) (N := some 115) (v := undef) (a' := ?_) #[T_,T_,T_,T_,T_,T_,T_,T_,T_,T_,T_,T_,T_,T_,T_,T_,T_,T_,T_,T_,T_,F_,F_,F_,F_,F_,F_,F_,F_,F_] rfl rfl (any_of HT_.out (by kernel_rfl)) (fun _ _ _ h => h) (Or.inr ⟨by rfl, rfl⟩) ?_ ?_
            rotate_left
            ·simp only [Act.put, zA_, zB_, zC_, i64_w, i32_w]
             rfl
            refine pure_ (i := 21) (N := some 116) (v := ?_) (a' := ?_) #[T_,T_,T_,T_,T_,T_,T_,T_,T_,T_,T_,T_,T_,T_,T_,T_,T_,T_,T_,T_,T_,T_,F_,F_,F_,F_,F_,F_,F_,F_] rfl rfl (any_of HT_.out (by kernel_rfl)) (fun _ _ _ h => h) (Or.inl ⟨by rfl, ?_⟩) ?_ ?_
            rotate_left
            ·intro w'
             go_simp
             with_reducible rfl
            rotate_left
            ·simp only [Act.put, zA_, zB_, zC_, i64_w, i32_w]
             rfl
            refine pure_ (i := 22) (N := some 117) (v := ?_) (a' := ?_) #[T_,T_,T_,T_,T_,T_,T_,T_,T_,T_,T_,T_,T_,T_,T_,T_,T_,T_,T_,T_,T_,T_,T_,F_,F_,F_,F_,F_,F_,F_] rfl rfl (any_of HT_.out (by kernel_rfl)) (fun _ _ _ h => h) (Or.inl ⟨by rfl, ?_⟩) ?_ ?_
            rotate_left
            ·intro w'
             go_simp
             with_reducible rfl
            rotate_left
            ·simp only [Act.put, zA_, zB_, zC_, i64_w, i32_w]
             rfl
            refine pure_ (i := 23) (N := some 118) (v := undef) (a' := ?_) #[T_,T_,T_,T_,T_,T_,T_,T_,T_,T_,T_,T_,T_,T_,T_,T_,T_,T_,T_,T_,T_,T_,T_,T_,F_,F_,F_,F_,F_,F_] rfl rfl (any_of HT_.out (by kernel_rfl)) (fun _ _ _ h => h) (Or.inr ⟨by rfl, rfl⟩) ?_ ?_
            rotate_left
            ·simp only [Act.put, zA_, zB_, zC_, i64_w, i32_w]
             rfl
            refine pure_ (i := 24) (N := some 119) (v := undef) (a' := ?_) #[T_,T_,T_,T_,T_,T_,T_,T_,T_,T_,T_,T_,T_,T_,T_,T_,T_,T_,T_,T_,T_,T_,T_,T_,T_,F_,F_,F_,F_,F_] rfl rfl (any_of HT_.out (by kernel_rfl)) (fun _ _ _ h => h) (Or.inr ⟨by rfl, rfl⟩) ?_ ?_
            rotate_left
            ·simp only [Act.put, zA_, zB_, zC_, i64_w, i32_w]
             rfl
            refine pure_ (i := 25) (N := some 120) (v := undef) (a' := ?_) #[T_,T_,T_,T_,T_,T_,T_,T_,T_,T_,T_,T_,T_,T_,T_,T_,T_,T_,T_,T_,T_,T_,T_,T_,T_,T_,F_,F_,F_,F_] rfl rfl (any_of HT_.out (by kernel_rfl)) (fun _ _ _ h => h) (Or.inr ⟨by rfl, rfl⟩) ?_ ?_
            rotate_left
            ·simp only [Act.put, zA_, zB_, zC_, i64_w, i32_w]
             rfl
            refine pure_ (i := 26) (N := some 121) (v := undef) (a' := ?_) #[T_,T_,T_,T_,T_,T_,T_,T_,T_,T_,T_,T_,T_,T_,T_,T_,T_,T_,T_,T_,T_,T_,T_,T_,T_,T_,T_,F_,F_,F_] rfl rfl (any_of HT_.out (by kernel_rfl)) (fun _ _ _ h => h) (Or.inr ⟨by rfl, rfl⟩) ?_ ?_
            rotate_left
            ·simp only [Act.put, zA_, zB_, zC_, i64_w, i32_w]
             rfl
            refine pure_ (i := 27) (N := some 122) (v := undef) (a' := ?_) #[T_,T_,T_,T_,T_,T_,T_,T_,T_,T_,T_,T_,T_,T_,T_,T_,T_,T_,T_,T_,T_,T_,T_,T_,T_,T_,T_,T_,F_,F_] rfl rfl (any_of HT_.out (by kernel_rfl)) (fun _ _ _ h => h) (Or.inr ⟨by rfl, rfl⟩) ?_ ?_
            rotate_left
            ·simp only [Act.put, zA_, zB_, zC_, i64_w, i32_w]
             rfl
            refine pure_ (i := 28) (N := some 123) (v := undef) (a' := ?_) #[T_,T_,T_,T_,T_,T_,T_,T_,T_,T_,T_,T_,T_,T_,T_,T_,T_,T_,T_,T_,T_,T_,T_,T_,T_,T_,T_,T_,T_,F_] rfl rfl (any_of HT_.out (by kernel_rfl)) (fun _ _ _ h => h) (Or.inr ⟨by rfl, rfl⟩) ?_ ?_
            rotate_left
            ·simp only [Act.put, zA_, zB_, zC_, i64_w, i32_w]
             rfl
            refine pure_ (i := 29) (N := some 124) (v := ?_) (a' := ?_) #[T_,T_,T_,T_,T_,T_,T_,T_,T_,T_,T_,T_,T_,T_,T_,T_,T_,T_,T_,T_,T_,T_,T_,T_,T_,T_,T_,T_,T_,T_] rfl rfl (any_of HT_.out (by kernel_rfl)) (fun _ _ _ h => h) (Or.inl ⟨by rfl, ?_⟩) ?_ ?_
            rotate_left
            ·intro w'
             go_simp
             with_reducible rfl
            rotate_left
            ·simp only [Act.put, zA_, zB_, zC_, i64_w, i32_w]
             rfl
            refine done_ (done_of HT_.out (by kernel_rfl)) ?_
            try go_wp2
            go_ret
            exact ⟨by first | rfl | (simp [errW_none, errW_some] <;> rfl) | (simp [*, errW_none, errW_some] <;> rfl), by repeat (first | (with_reducible first | exact HB.out | apply below_alloc | apply pw_below_drewN | apply below_drew1 | refine below_set ?_ (IsS26.ge HI203.out) | refine below_set ?_ GE204.out | refine below_set ?_ GE206.out) | exact HB.out)⟩
          ·rw [if_neg c114] at H
           have c114b0 : (t249 == x205000_13) = false := beq_eq_false_iff_ne.mpr c114
           have c114b1 : (t249 != x205000_13) = true := bne_iff_ne.mpr c114
           obtain rfl := Option.some.inj H
           try go_wp2
           have n0_ := Aside0.mk (blk_drew BK204.out)
           have n1_ := Aside0.mk (blk_drew BK206.out)
           have n2_ := Aside0.mk (IsS26.drew HI203.out)
           have n3_ := Aside0.mk (below_drew1 HB.out)
           clear BK204
           clear BK206
           clear HI203
           clear HB
           have BK204 := n0_
           have BK206 := n1_
           have HI203 := n2_
           have HB := n3_
           clear n0_ n1_ n2_ n3_
           refine start_ (n := 30) (S := fun w' => w'.cell? ⟨gb204, 0, none⟩ = some (.int .i64 x205000_13) ∧ w'.cell? ⟨gb204, 1, none⟩ = some (.int .i64 x205001_13) ∧ w'.cell? ⟨gb204, 2, none⟩ = some (.int .i64 x205002_13)) (ds := []) #[F_,F_,F_,F_,F_,F_,F_,F_,F_,F_,F_,F_,F_,F_,F_,F_,F_,F_,F_,F_,F_,F_,F_,F_,F_,F_,F_,F_,F_,F_] (by kernel_rfl) rfl rfl ⟨(blk_cell BK204.out 0).trans rfl, (blk_cell BK204.out 1).trans rfl, (blk_cell BK204.out 2).trans rfl⟩ (fun hHeld => ?_); refine with_tabW greenscreenlaw21_LockPlays.tab41 greenscreenlaw21_LockPlays.bits41 (fun HT_ HW_ => ?_)
           generalize wc.drew = w151 at BK204 BK206 HI203 HB hHeld ⊢
           refine pure_ (i := 1) (N := some 96) (v := ?_) (a' := ?_) #[F_,T_,F_,F_,F_,F_,F_,F_,F_,F_,F_,F_,F_,F_,F_,F_,F_,F_,F_,F_,F_,F_,F_,F_,F_,F_,F_,F_,F_,F_] rfl rfl (any_of HT_.out (by kernel_rfl)) (fun _ _ _ h => h) (Or.inl ⟨by rfl, ?_⟩) ?_ ?_
           rotate_left
           ·intro w'
            go_simp
            with_reducible rfl
           rotate_left
           ·simp only [Act.put, zA_, zB_, zC_, i64_w, i32_w]
            rfl
           refine take_ (i := 2) (N := some 97) (v := ?_) (a' := ?_) #[F_,T_,T_,F_,F_,F_,F_,F_,F_,F_,F_,F_,F_,F_,F_,F_,F_,F_,F_,F_,F_,F_,F_,F_,F_,F_,F_,F_,F_,F_] rfl rfl (take_ofW HT_.out HW_.out (by kernel_rfl)) (fun _ _ _ h => h) (Or.inl ⟨by rfl, ?_⟩) hHeld ?_ ?_
           rotate_left
           ·rintro w' ⟨s0, s1, s2⟩
            go_simp
            with_reducible rfl
           rotate_left
           ·simp only [Act.put, zA_, zB_, zC_, i64_w, i32_w]
            rfl
           refine one_ (i := 0) (N := some 95) #[T_,T_,T_,F_,F_,F_,F_,F_,F_,F_,F_,F_,F_,F_,F_,F_,F_,F_,F_,F_,F_,F_,F_,F_,F_,F_,F_,F_,F_,F_] rfl rfl (one_of HT_.out (by kernel_rfl)) (by decide) (fun K hK => ?_)
           refine goes_ Try.func15 (by kernel_rfl) rfl #[.pointer (some ⟨gb203, 0, none⟩)] (by rfl) rfl rfl (by (try simp only [List.map_toArray, List.map_cons, List.map_nil]); first | done | rfl | (simp only [List.length_drop, List.length_take]; rfl)) ?_
           with_reducible refine (lock_Lock_State.calls gb203 x204000_13 x204001_13 x204002_13 t249 t250 t251 t252 w _ ?side1 ?side2 A113.out).mono ?_
           (case side1 => repeat (first | (with_reducible first | exact HI203.out | apply IsS26.alloc | apply IsS26.drewN | apply IsS26.drew | apply IsS26.set_0 | apply IsS26.set_1 | apply IsS26.set_2 | refine IsS26.far ?_ NB203_204.out _ | refine IsS26.far ?_ NB203_206.out _) | exact HI203.out))
           (case side2 => repeat (first | (with_reducible first | exact HB.out | apply below_alloc | apply pw_below_drewN | apply below_drew1 | refine below_set ?_ (IsS26.ge HI203.out) | refine below_set ?_ GE204.out | refine below_set ?_ GE206.out) | exact HB.out))
           rintro e w152 ⟨rfl, hi, hb, hk⟩
           refine ⟨_, rfl, ?_⟩
           have n0_ := Aside0.mk (KeepBut.blk hk (g' := gb204) (o := .cells #[.int .i64 x205000_13, .int .i64 x205001_13, .int .i64 x205002_13] 28 (0, 0)) (by (with_reducible repeat (first | refine blk_drewN ?_ _ | refine blk_drew ?_ | refine blk_alloc ?_ _)); exact BK204.out) NB204_203.out (by simp))
           have n1_ := Aside0.mk (KeepBut.blk hk (g' := gb206) (o := .cells #[.int .i64 ((rd_T30 l0 x20_1).f0), .int .i64 ((rd_T30 l0 x20_1).f1)] 30 (0, 0)) (by (with_reducible repeat (first | refine blk_drewN ?_ _ | refine blk_drew ?_ | refine blk_alloc ?_ _)); exact BK206.out) NB206_203.out (by simp))
           have n2_ := Aside0.mk (hb)
           have n3_ := Aside0.mk (hi)
           clear BK204
           clear BK206
           clear HB
           clear HI203
           have BK204 := n0_
           have BK206 := n1_
           have HB := n2_
           have HI203 := n3_
           clear n0_ n1_ n2_ n3_
           (try clear hb)
           (try clear hb2)
           (try clear hk)
           (try clear hi)
           refine hK.out _ _ ⟨(blk_cell BK204.out 0).trans rfl, (blk_cell BK204.out 1).trans rfl, (blk_cell BK204.out 2).trans rfl⟩ (fun hHeld => ?_)
           clear hK K
           refine norm_ (a' := ?_) ?_ ?_
           rotate_left
           ·show Act.put _ (some 95) _ = _
            simp only [Act.put, zA_, zB_, zC_, i64_w, i32_w]
            rfl
           refine pure_ (i := 3) (N := some 98) (v := ?_) (a' := ?_) #[T_,T_,T_,T_,F_,F_,F_,F_,F_,F_,F_,F_,F_,F_,F_,F_,F_,F_,F_,F_,F_,F_,F_,F_,F_,F_,F_,F_,F_,F_] rfl rfl (any_of HT_.out (by kernel_rfl)) (fun _ _ _ h => h) (Or.inl ⟨by rfl, ?_⟩) ?_ ?_
           rotate_left
           ·intro w'
            go_simp
            with_reducible rfl
           rotate_left
           ·simp only [Act.put, zA_, zB_, zC_, i64_w, i32_w]
            rfl
           refine pure_ (i := 4) (N := some 99) (v := ?_) (a' := ?_) #[T_,T_,T_,T_,T_,F_,F_,F_,F_,F_,F_,F_,F_,F_,F_,F_,F_,F_,F_,F_,F_,F_,F_,F_,F_,F_,F_,F_,F_,F_] rfl rfl (any_of HT_.out (by kernel_rfl)) (fun _ _ _ h => h) (Or.inl ⟨by rfl, ?_⟩) ?_ ?_
           rotate_left
           ·intro w'
            go_simp
            with_reducible rfl
           rotate_left
           ·simp only [Act.put, zA_, zB_, zC_, i64_w, i32_w]
            rfl
           refine pure_ (i := 5) (N := some 100) (v := undef) (a' := ?_) #[T_,T_,T_,T_,T_,T_,F_,F_,F_,F_,F_,F_,F_,F_,F_,F_,F_,F_,F_,F_,F_,F_,F_,F_,F_,F_,F_,F_,F_,F_] rfl rfl (any_of HT_.out (by kernel_rfl)) (fun _ _ _ h => h) (Or.inr ⟨by rfl, rfl⟩) ?_ ?_
           rotate_left
           ·simp only [Act.put, zA_, zB_, zC_, i64_w, i32_w]
            rfl
           refine pure_ (i := 6) (N := some 101) (v := undef) (a' := ?_) #[T_,T_,T_,T_,T_,T_,T_,F_,F_,F_,F_,F_,F_,F_,F_,F_,F_,F_,F_,F_,F_,F_,F_,F_,F_,F_,F_,F_,F_,F_] rfl rfl (any_of HT_.out (by kernel_rfl)) (fun _ _ _ h => h) (Or.inr ⟨by rfl, rfl⟩) ?_ ?_
           rotate_left
           ·simp only [Act.put, zA_, zB_, zC_, i64_w, i32_w]
            rfl
           refine pure_ (i := 7) (N := some 102) (v := undef) (a' := ?_) #[T_,T_,T_,T_,T_,T_,T_,T_,F_,F_,F_,F_,F_,F_,F_,F_,F_,F_,F_,F_,F_,F_,F_,F_,F_,F_,F_,F_,F_,F_] rfl rfl (any_of HT_.out (by kernel_rfl)) (fun _ _ _ h => h) (Or.inr ⟨by rfl, rfl⟩) ?_ ?_
           rotate_left
           ·simp only [Act.put, zA_, zB_, zC_, i64_w, i32_w]
            rfl
           refine pure_ (i := 8) (N := some 103) (v := undef) (a' := ?_) #[T_,T_,T_,T_,T_,T_,T_,T_,T_,F_,F_,F_,F_,F_,F_,F_,F_,F_,F_,F_,F_,F_,F_,F_,F_,F_,F_,F_,F_,F_] rfl rfl (any_of HT_.out (by kernel_rfl)) (fun _ _ _ h => h) (Or.inr ⟨by rfl, rfl⟩) ?_ ?_
           rotate_left
           ·simp only [Act.put, zA_, zB_, zC_, i64_w, i32_w]
            rfl
           refine pure_ (i := 9) (N := some 104) (v := ?_) (a' := ?_) #[T_,T_,T_,T_,T_,T_,T_,T_,T_,T_,F_,F_,F_,F_,F_,F_,F_,F_,F_,F_,F_,F_,F_,F_,F_,F_,F_,F_,F_,F_] rfl rfl (any_of HT_.out (by kernel_rfl)) (fun _ _ _ h => h) (Or.inl ⟨by rfl, ?_⟩) ?_ ?_
           rotate_left
           ·intro w'
            go_simp
            with_reducible rfl
           rotate_left
           ·simp only [Act.put, zA_, zB_, zC_, i64_w, i32_w]
            rfl
           refine pure_ (i := 10) (N := some 105) (v := ?_) (a' := ?_) #[T_,T_,T_,T_,T_,T_,T_,T_,T_,T_,T_,F_,F_,F_,F_,F_,F_,F_,F_,F_,F_,F_,F_,F_,F_,F_,F_,F_,F_,F_] rfl rfl (any_of HT_.out (by kernel_rfl)) (fun _ _ _ h => h) (Or.inl ⟨by rfl, ?_⟩) ?_ ?_
           rotate_left
           ·intro w'
            go_simp
            with_reducible rfl
           rotate_left
           ·simp only [Act.put, zA_, zB_, zC_, i64_w, i32_w]
            rfl
           refine pure_ (i := 11) (N := some 106) (v := undef) (a' := ?_) #[T_,T_,T_,T_,T_,T_,T_,T_,T_,T_,T_,T_,F_,F_,F_,F_,F_,F_,F_,F_,F_,F_,F_,F_,F_,F_,F_,F_,F_,F_] rfl rfl (any_of HT_.out (by kernel_rfl)) (fun _ _ _ h => h) (Or.inr ⟨by rfl, rfl⟩) ?_ ?_
           rotate_left
           ·simp only [Act.put, zA_, zB_, zC_, i64_w, i32_w]
            rfl
           refine pure_ (i := 12) (N := some 107) (v := undef) (a' := ?_) #[T_,T_,T_,T_,T_,T_,T_,T_,T_,T_,T_,T_,T_,F_,F_,F_,F_,F_,F_,F_,F_,F_,F_,F_,F_,F_,F_,F_,F_,F_] rfl rfl (any_of HT_.out (by kernel_rfl)) (fun _ _ _ h => h) (Or.inr ⟨by rfl, rfl⟩) ?_ ?_
           rotate_left
           ·simp only [Act.put, zA_, zB_, zC_, i64_w, i32_w]
            rfl
           refine pure_ (i := 13) (N := some 108) (v := undef) (a' := ?_) #[T_,T_,T_,T_,T_,T_,T_,T_,T_,T_,T_,T_,T_,T_,F_,F_,F_,F_,F_,F_,F_,F_,F_,F_,F_,F_,F_,F_,F_,F_] rfl rfl (any_of HT_.out (by kernel_rfl)) (fun _ _ _ h => h) (Or.inr ⟨by rfl, rfl⟩) ?_ ?_
           rotate_left
           ·simp only [Act.put, zA_, zB_, zC_, i64_w, i32_w]
            rfl
           refine pure_ (i := 14) (N := some 109) (v := undef) (a' := ?_) #[T_,T_,T_,T_,T_,T_,T_,T_,T_,T_,T_,T_,T_,T_,T_,F_,F_,F_,F_,F_,F_,F_,F_,F_,F_,F_,F_,F_,F_,F_] rfl rfl (any_of HT_.out (by kernel_rfl)) (fun _ _ _ h => h) (Or.inr ⟨by rfl, rfl⟩) ?_ ?_
           rotate_left
           ·simp only [Act.put, zA_, zB_, zC_, i64_w, i32_w]
            rfl
           refine pure_ (i := 15) (N := some 110) (v := ?_) (a' := ?_) #[T_,T_,T_,T_,T_,T_,T_,T_,T_,T_,T_,T_,T_,T_,T_,T_,F_,F_,F_,F_,F_,F_,F_,F_,F_,F_,F_,F_,F_,F_] rfl rfl (any_of HT_.out (by kernel_rfl)) (fun _ _ _ h => h) (Or.inl ⟨by rfl, ?_⟩) ?_ ?_
           rotate_left
           ·intro w'
            go_simp
            with_reducible rfl
           rotate_left
           ·simp only [Act.put, zA_, zB_, zC_, i64_w, i32_w]
            rfl
           refine pure_ (i := 16) (N := some 111) (v := ?_) (a' := ?_) #[T_,T_,T_,T_,T_,T_,T_,T_,T_,T_,T_,T_,T_,T_,T_,T_,T_,F_,F_,F_,F_,F_,F_,F_,F_,F_,F_,F_,F_,F_] rfl rfl (any_of HT_.out (by kernel_rfl)) (fun _ _ _ h => h) (Or.inl ⟨by rfl, ?_⟩) ?_ ?_
           rotate_left
           ·intro w'
            go_simp
            with_reducible rfl
           rotate_left
           ·simp only [Act.put, zA_, zB_, zC_, i64_w, i32_w]
            rfl
           refine pure_ (i := 17) (N := some 112) (v := undef) (a' := ?_) #[T_,T_,T_,T_,T_,T_,T_,T_,T_,T_,T_,T_,T_,T_,T_,T_,T_,T_,F_,F_,F_,F_,F_,F_,F_,F_,F_,F_,F_,F_] rfl rfl (any_of HT_.out (by kernel_rfl)) (fun _ _ _ h => h) (Or.inr ⟨by rfl, rfl⟩) ?_ ?_
           rotate_left
           ·simp only [Act.put, zA_, zB_, zC_, i64_w, i32_w]
            rfl
           refine pure_ (i := 18) (N := some 113) (v := undef) (a' := ?_) #[T_,T_,T_,T_,T_,T_,T_,T_,T_,T_,T_,T_,T_,T_,T_,T_,T_,T_,T_,F_,F_,F_,F_,F_,F_,F_,F_,F_,F_,F_] rfl rfl (any_of HT_.out (by kernel_rfl)) (fun _ _ _ h => h) (Or.inr ⟨by rfl, rfl⟩) ?_ ?_
           rotate_left
           ·simp only [Act.put, zA_, zB_, zC_, i64_w, i32_w]
            rfl
           refine pure_ (i := 19) (N := some 114) (v := undef) (a' := ?_) #[T_,T_,T_,T_,T_,T_,T_,T_,T_,T_,T_,T_,T_,T_,T_,T_,T_,T_,T_,T_,F_,F_,F_,F_,F_,F_,F_,F_,F_,F_] rfl rfl (any_of HT_.out (by kernel_rfl)) (fun _ _ _ h => h) (Or.inr ⟨by rfl, rfl⟩) ?_ ?_
           rotate_left
           ·simp only [Act.put, zA_, zB_, zC_, i64_w, i32_w]
            rfl
           refine pure_ (i := 20) (N := some 115) (v := undef) (a' := ?_) #[T_,T_,T_,T_,T_,T_,T_,T_,T_,T_,T_,T_,T_,T_,T_,T_,T_,T_,T_,T_,T_,F_,F_,F_,F_,F_,F_,F_,F_,F_] rfl rfl (any_of HT_.out (by kernel_rfl)) (fun _ _ _ h => h) (Or.inr ⟨by rfl, rfl⟩) ?_ ?_
           rotate_left
           ·simp only [Act.put, zA_, zB_, zC_, i64_w, i32_w]
            rfl
           refine pure_ (i := 21) (N := some 116) (v := ?_) (a' := ?_) #[T_,T_,T_,T_,T_,T_,T_,T_,T_,T_,T_,T_,T_,T_,T_,T_,T_,T_,T_,T_,T_,T_,F_,F_,F_,F_,F_,F_,F_,F_] rfl rfl (any_of HT_.out (by kernel_rfl)) (fun _ _ _ h => h) (Or.inl ⟨by rfl, ?_⟩) ?_ ?_
           rotate_left
           ·intro w'
            go_simp
            with_reducible rfl
           rotate_left
           ·simp only [Act.put, zA_, zB_, zC_, i64_w, i32_w]
            rfl
           refine pure_ (i := 22) (N := some 117) (v := ?_) (a' := ?_) #[T_,T_,T_,T_,T_,T_,T_,T_,T_,T_,T_,T_,T_,T_,T_,T_,T_,T_,T_,T_,T_,T_,T_,F_,F_,F_,F_,F_,F_,F_] rfl rfl (any_of HT_.out (by kernel_rfl)) (fun _ _ _ h => h) (Or.inl ⟨by rfl, ?_⟩) ?_ ?_
           rotate_left
           ·intro w'
            go_simp
            with_reducible rfl
           rotate_left
           ·simp only [Act.put, zA_, zB_, zC_, i64_w, i32_w]
            rfl
           refine pure_ (i := 23) (N := some 118) (v := undef) (a' := ?_) #[T_,T_,T_,T_,T_,T_,T_,T_,T_,T_,T_,T_,T_,T_,T_,T_,T_,T_,T_,T_,T_,T_,T_,T_,F_,F_,F_,F_,F_,F_] rfl rfl (any_of HT_.out (by kernel_rfl)) (fun _ _ _ h => h) (Or.inr ⟨by rfl, rfl⟩) ?_ ?_
           rotate_left
           ·simp only [Act.put, zA_, zB_, zC_, i64_w, i32_w]
            rfl
           refine pure_ (i := 24) (N := some 119) (v := undef) (a' := ?_) #[T_,T_,T_,T_,T_,T_,T_,T_,T_,T_,T_,T_,T_,T_,T_,T_,T_,T_,T_,T_,T_,T_,T_,T_,T_,F_,F_,F_,F_,F_] rfl rfl (any_of HT_.out (by kernel_rfl)) (fun _ _ _ h => h) (Or.inr ⟨by rfl, rfl⟩) ?_ ?_
           rotate_left
           ·simp only [Act.put, zA_, zB_, zC_, i64_w, i32_w]
            rfl
           refine pure_ (i := 25) (N := some 120) (v := undef) (a' := ?_) #[T_,T_,T_,T_,T_,T_,T_,T_,T_,T_,T_,T_,T_,T_,T_,T_,T_,T_,T_,T_,T_,T_,T_,T_,T_,T_,F_,F_,F_,F_] rfl rfl (any_of HT_.out (by kernel_rfl)) (fun _ _ _ h => h) (Or.inr ⟨by rfl, rfl⟩) ?_ ?_
           rotate_left
           ·simp only [Act.put, zA_, zB_, zC_, i64_w, i32_w]
            rfl
           refine pure_ (i := 26) (N := some 121) (v := undef) (a' := ?_) #[T_,T_,T_,T_,T_,T_,T_,T_,T_,T_,T_,T_,T_,T_,T_,T_,T_,T_,T_,T_,T_,T_,T_,T_,T_,T_,T_,F_,F_,F_] rfl rfl (any_of HT_.out (by kernel_rfl)) (fun _ _ _ h => h) (Or.inr ⟨by rfl, rfl⟩) ?_ ?_
           rotate_left
           ·simp only [Act.put, zA_, zB_, zC_, i64_w, i32_w]
            rfl
           refine pure_ (i := 27) (N := some 122) (v := undef) (a' := ?_) #[T_,T_,T_,T_,T_,T_,T_,T_,T_,T_,T_,T_,T_,T_,T_,T_,T_,T_,T_,T_,T_,T_,T_,T_,T_,T_,T_,T_,F_,F_] rfl rfl (any_of HT_.out (by kernel_rfl)) (fun _ _ _ h => h) (Or.inr ⟨by rfl, rfl⟩) ?_ ?_
           rotate_left
           ·simp only [Act.put, zA_, zB_, zC_, i64_w, i32_w]
            rfl
           refine pure_ (i := 28) (N := some 123) (v := undef) (a' := ?_) #[T_,T_,T_,T_,T_,T_,T_,T_,T_,T_,T_,T_,T_,T_,T_,T_,T_,T_,T_,T_,T_,T_,T_,T_,T_,T_,T_,T_,T_,F_] rfl rfl (any_of HT_.out (by kernel_rfl)) (fun _ _ _ h => h) (Or.inr ⟨by rfl, rfl⟩) ?_ ?_
           rotate_left
           ·simp only [Act.put, zA_, zB_, zC_, i64_w, i32_w]
            rfl
           refine pure_ (i := 29) (N := some 124) (v := ?_) (a' := ?_) #[T_,T_,T_,T_,T_,T_,T_,T_,T_,T_,T_,T_,T_,T_,T_,T_,T_,T_,T_,T_,T_,T_,T_,T_,T_,T_,T_,T_,T_,T_] rfl rfl (any_of HT_.out (by kernel_rfl)) (fun _ _ _ h => h) (Or.inl ⟨by rfl, ?_⟩) ?_ ?_
           rotate_left
           ·intro w'
            go_simp
            with_reducible rfl
           rotate_left
           ·simp only [Act.put, zA_, zB_, zC_, i64_w, i32_w]
            rfl
           refine done_ (done_of HT_.out (by kernel_rfl)) ?_
           try go_wp2
           go_ret
           exact ⟨by first | rfl | (simp [errW_none, errW_some] <;> rfl) | (simp [*, errW_none, errW_some] <;> rfl), by repeat (first | (with_reducible first | exact HB.out | apply below_alloc | apply pw_below_drewN | apply below_drew1 | refine below_set ?_ (IsS26.ge HI203.out) | refine below_set ?_ GE204.out | refine below_set ?_ GE206.out) | exact HB.out)⟩
       ·rw [if_neg c13] at H
        exact absurd H (by simp)
      ·rw [if_neg c12] at H
       exact absurd H (by simp)
     ·rw [if_neg c11] at H
      have c11b0 : decide (x20_1 < (l0.length : Int)) = false := decide_eq_false c11
      clear c11
      obtain rfl := Option.some.inj H
      go_wp2
      go_ret
      exact ⟨by first | rfl | (simp [errW_none, errW_some] <;> rfl) | (simp [*, errW_none, errW_some] <;> rfl), by repeat (first | (with_reducible first | exact HB.out | apply below_alloc | apply pw_below_drewN | apply below_drew1 | refine below_set ?_ (IsS26.ge HI203.out) | refine below_set ?_ GE204.out) | exact HB.out)⟩
 ·replace c3 := Bool.eq_false_iff.mpr c3
  subst c3
  have H1 : (some false) = some r := by rw [if_neg (show ¬ (false = true) by decide)] at H; exact H
  clear H
  have H := H1
  clear H1
  obtain rfl := Option.some.inj H
  go_enter Try.func3, Try.ntmps3
  go_wp2_with (first | ((with_reducible refine gate_callee (f := 6) rfl ?_); refine goesL_ (some 12) rfl rfl Try.func6 (by kernel_rfl) rfl #[] rfl (by (try simp only [List.map_toArray, List.map_cons, List.map_nil]); first | done | rfl | (simp only [List.length_drop, List.length_take]; rfl)) ?_; (with_reducible refine (greenscreenlaw21_alive.calls  false _ A2.out).mono ?_); rintro e w153 ⟨rfl, hb⟩; refine ⟨_, rfl, ?_⟩; have n0_ := Aside0.mk (below_step (by repeat (first | (with_reducible first | exact HB.out | apply below_alloc | apply pw_below_drewN | apply below_drew1) | exact HB.out)) hb); clear HB; have HB := n0_; clear n0_; (try clear hb); (try clear hb2); (try clear hk); (try clear hi)))
  go_ret
  exact ⟨by first | rfl | (simp [errW_none, errW_some] <;> rfl) | (simp [*, errW_none, errW_some] <;> rfl), by repeat (first | (with_reducible first | exact HB.out | apply below_alloc | apply pw_below_drewN | apply below_drew1) | exact HB.out)⟩

end Go.Proofs.Ytbgpmdoeghajcaa.P
