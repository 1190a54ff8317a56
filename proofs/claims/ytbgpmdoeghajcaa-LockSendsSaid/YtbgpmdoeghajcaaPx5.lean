-- Laid by program out of the translation, some functions' texts by hand (a session's own run, not print.sh's). Lean checks it.
import Derived.Test.YtbgpmdoeghajcaaPx0
import Derived.Test.YtbgpmdoeghajcaaPx1
import Derived.Test.YtbgpmdoeghajcaaPx2
namespace Go.Proofs.Ytbgpmdoeghajcaa.P
open Go.RowKit Go.Proofs.YtbgpmdoeghajcaaW.PrintWords Go.Proofs.YtbgpmdoeghajcaaW.PrintLast Go.Proofs.YtbgpmdoeghajcaaW.PrintMore
attribute [local go_sem] max2_int min2_int max_two min_two max_three min_three max_four min_four   -- for this text's walks alone
set_option linter.unusedVariables false
set_option linter.unusedSimpArgs false

/-! ### greenscreenlaw21_LockSends: function 4 -/
mutual
def greenscreenlaw21_LockSends.l0 : Nat → Bool → List (S30) → Int → Int → Int → Int → Int → Option (Bool)
  | 0, _, _, _, _, _, _, _ => none
  | k + 1, x4, x16, x17, x18, x272000, x272001, x272002 => if x18 < x17 then (if 0 ≤ x18 then (if x18 < (x16.length : Int) then ((lock_Lock_State.f x272000 x272001 x272002).bind fun bt274 => ((lock_Lock_Why.f bt274.2.1 bt274.2.2.1 bt274.2.2.2).bind fun bt278 => ((lock_Lock_Turns.f bt278.2.1 bt278.2.2.1 bt278.2.2.2).bind fun bt282 => (if ((rd_T30 x16 x18).f0) = 0 then ((lock_Lock_Open.f bt282.2.1 bt282.2.2.1 bt282.2.2.2).bind fun bt286 => (greenscreenlaw21_LockSends.j2 k true bt274.1 bt278.1 bt282.1 0 x16 x17 x18 bt286.1 bt286.2.1 bt286.2.2 ((rd_T30 x16 x18).f0) ((rd_T30 x16 x18).f1))) else (if ((rd_T30 x16 x18).f0) = 1 then ((lock_Lock_Shut.f bt282.2.1 bt282.2.2.1 bt282.2.2.2).bind fun bt289 => (greenscreenlaw21_LockSends.j2 k x4 bt274.1 bt278.1 bt282.1 0 x16 x17 x18 bt289.1 bt289.2.1 bt289.2.2 ((rd_T30 x16 x18).f0) ((rd_T30 x16 x18).f1))) else (if ((rd_T30 x16 x18).f0) = 2 then (greenscreenlaw21_LockSends.j1 k x4 bt274.1 bt278.1 bt282.1 0 x16 x17 x18 ((rd_T30 x16 x18).f0) (((rd_T30 x16 x18).f0) == 2) bt282.2.1 bt282.2.2.1 bt282.2.2.2 ((rd_T30 x16 x18).f0) ((rd_T30 x16 x18).f1)) else (greenscreenlaw21_LockSends.j1 k x4 bt274.1 bt278.1 bt282.1 0 x16 x17 x18 ((rd_T30 x16 x18).f0) (((rd_T30 x16 x18).f0) == 3) bt282.2.1 bt282.2.2.1 bt282.2.2.2 ((rd_T30 x16 x18).f0) ((rd_T30 x16 x18).f1)))))))) else (none)) else (none)) else (some true)
def greenscreenlaw21_LockSends.j2 : Nat → Bool → Int → Int → Int → Int → List (S30) → Int → Int → Int → Int → Int → Int → Int → Option (Bool)
  | 0, _, _, _, _, _, _, _, _, _, _, _, _, _ => none
  | k + 1, x4, x7, x8, x9, x10, x16, x17, x18, x272000, x272001, x272002, x274000, x274001 => if x274000 = 4 then ((lock_Lock_Turns.f x272000 x272001 x272002).bind fun bt308 => (if bt308.1 < x9 then (some false) else ((lock_Lock_Turns.f bt308.2.1 bt308.2.2.1 bt308.2.2.2).bind fun bt312 => (if bt312.1 > (wrap64 (x9 + 1)) then (some false) else (greenscreenlaw21_LockSends.l0 k x4 x16 x17 (wrap64 (x18 + 1)) bt312.2.1 bt312.2.2.1 bt312.2.2.2))))) else (if x10 = 40 then ((lock_Lock_State.f x272000 x272001 x272002).bind fun bt316 => (if bt316.1 = x7 then ((lock_Lock_Why.f bt316.2.1 bt316.2.2.1 bt316.2.2.2).bind fun bt320 => (if bt320.1 = x8 then ((lock_Lock_Turns.f bt320.2.1 bt320.2.2.1 bt320.2.2.2).bind fun bt324 => (if bt324.1 = x9 then ((lock_Lock_Turns.f bt324.2.1 bt324.2.2.1 bt324.2.2.2).bind fun bt328 => (if bt328.1 < x9 then (some false) else ((lock_Lock_Turns.f bt328.2.1 bt328.2.2.1 bt328.2.2.2).bind fun bt332 => (if bt332.1 > (wrap64 (x9 + 1)) then (some false) else (greenscreenlaw21_LockSends.l0 k x4 x16 x17 (wrap64 (x18 + 1)) bt332.2.1 bt332.2.2.1 bt332.2.2.2))))) else (some false))) else (some false))) else (some false))) else ((lock_Lock_Turns.f x272000 x272001 x272002).bind fun bt336 => (if bt336.1 < x9 then (some false) else ((lock_Lock_Turns.f bt336.2.1 bt336.2.2.1 bt336.2.2.2).bind fun bt340 => (if bt340.1 > (wrap64 (x9 + 1)) then (some false) else (greenscreenlaw21_LockSends.l0 k x4 x16 x17 (wrap64 (x18 + 1)) bt340.2.1 bt340.2.2.1 bt340.2.2.2))))))
def greenscreenlaw21_LockSends.j1 : Nat → Bool → Int → Int → Int → Int → List (S30) → Int → Int → Int → Bool → Int → Int → Int → Int → Int → Option (Bool)
  | 0, _, _, _, _, _, _, _, _, _, _, _, _, _, _, _ => none
  | k + 1, x4, x7, x8, x9, x10, x16, x17, x18, x26, x33, x272000, x272001, x272002, x274000, x274001 => if x33 = true then ((lock_Lock_Send.f x272000 x272001 x272002).bind fun bt292 => (if bt292.1 = 0 then (if x4 = true then (greenscreenlaw21_LockSends.j2 k (bt292.1 != 0) x7 x8 x9 bt292.1 x16 x17 x18 bt292.2.1 bt292.2.2.1 bt292.2.2.2 x274000 x274001) else (some false)) else (if x4 = true then (greenscreenlaw21_LockSends.j2 k (bt292.1 != 0) x7 x8 x9 bt292.1 x16 x17 x18 bt292.2.1 bt292.2.2.1 bt292.2.2.2 x274000 x274001) else (greenscreenlaw21_LockSends.j2 k false x7 x8 x9 bt292.1 x16 x17 x18 bt292.2.1 bt292.2.2.1 bt292.2.2.2 x274000 x274001)))) else (if x26 = 4 then ((lock_Lock_Fail.f x272000 x272001 x272002 x274001).bind fun bt296 => (greenscreenlaw21_LockSends.j2 k x4 x7 x8 x9 bt296.1 x16 x17 x18 bt296.2.1 bt296.2.2.1 bt296.2.2.2 x274000 x274001)) else (if x26 = 5 then ((lock_Lock_Reset.f x272000 x272001 x272002).bind fun bt300 => (greenscreenlaw21_LockSends.j2 k x4 x7 x8 x9 x10 x16 x17 x18 bt300.2.1 bt300.2.2.1 bt300.2.2.2 x274000 x274001)) else (if x26 = 6 then ((lock_Lock_Restore.f x272000 x272001 x272002).bind fun bt304 => (if bt304.1 = true then (greenscreenlaw21_LockSends.j2 k true x7 x8 x9 x10 x16 x17 x18 bt304.2.1 bt304.2.2.1 bt304.2.2.2 x274000 x274001) else (greenscreenlaw21_LockSends.j2 k x4 x7 x8 x9 x10 x16 x17 x18 bt304.2.1 bt304.2.2.1 bt304.2.2.2 x274000 x274001))) else (greenscreenlaw21_LockSends.j2 k x4 x7 x8 x9 x10 x16 x17 x18 x272000 x272001 x272002 x274000 x274001))))
end
def greenscreenlaw21_LockSends.f (k : Nat) (l0 : List (S30)) : Option (Bool) := (greenscreenlaw21_alive.f).bind fun t270 => (if t270 = true then (if (l0.length : Int) > 100 then (some true) else (greenscreenlaw21_LockSends.l0 k false l0 (l0.length : Int) 0 0 0 0)) else (some false))
theorem greenscreenlaw21_LockSends.mono_l : ∀ k, (∀ y0 y1 y2 y3 y4 y5 y6, LeO (greenscreenlaw21_LockSends.l0 k y0 y1 y2 y3 y4 y5 y6) (greenscreenlaw21_LockSends.l0 (k + 1) y0 y1 y2 y3 y4 y5 y6)) ∧ (∀ y0 y1 y2 y3 y4 y5 y6 y7 y8 y9 y10 y11 y12, LeO (greenscreenlaw21_LockSends.j2 k y0 y1 y2 y3 y4 y5 y6 y7 y8 y9 y10 y11 y12) (greenscreenlaw21_LockSends.j2 (k + 1) y0 y1 y2 y3 y4 y5 y6 y7 y8 y9 y10 y11 y12)) ∧ (∀ y0 y1 y2 y3 y4 y5 y6 y7 y8 y9 y10 y11 y12 y13 y14, LeO (greenscreenlaw21_LockSends.j1 k y0 y1 y2 y3 y4 y5 y6 y7 y8 y9 y10 y11 y12 y13 y14) (greenscreenlaw21_LockSends.j1 (k + 1) y0 y1 y2 y3 y4 y5 y6 y7 y8 y9 y10 y11 y12 y13 y14))
  | 0 => ⟨fun _ _ _ _ _ _ _ r h => by simp [greenscreenlaw21_LockSends.l0] at h, fun _ _ _ _ _ _ _ _ _ _ _ _ _ r h => by simp [greenscreenlaw21_LockSends.j2] at h, fun _ _ _ _ _ _ _ _ _ _ _ _ _ _ _ r h => by simp [greenscreenlaw21_LockSends.j1] at h⟩
  | k + 1 => by
    obtain ⟨ih0, ih1, ih2⟩ := greenscreenlaw21_LockSends.mono_l k
    refine ⟨?_, ?_, ?_⟩
    · intro y0 y1 y2 y3 y4 y5 y6
      unfold greenscreenlaw21_LockSends.l0
      repeat' first
      | (with_reducible exact ih0 _ _ _ _ _ _ _)
      | (with_reducible exact ih1 _ _ _ _ _ _ _ _ _ _ _ _ _)
      | (with_reducible exact ih2 _ _ _ _ _ _ _ _ _ _ _ _ _ _ _)
      | (with_reducible exact LeO.refl _)
      | (with_reducible exact LeO.none _)
      | (with_reducible refine LeO.ite ?_ ?_)
      | (with_reducible refine LeO.bind ?_ (fun _ => ?_))
      | exact ih0 _ _ _ _ _ _ _
      | exact ih1 _ _ _ _ _ _ _ _ _ _ _ _ _
      | exact ih2 _ _ _ _ _ _ _ _ _ _ _ _ _ _ _
      | exact LeO.none _
      | refine LeO.ite ?_ ?_
      | refine LeO.bind ?_ (fun _ => ?_)
    · intro y0 y1 y2 y3 y4 y5 y6 y7 y8 y9 y10 y11 y12
      unfold greenscreenlaw21_LockSends.j2
      repeat' first
      | (with_reducible exact ih0 _ _ _ _ _ _ _)
      | (with_reducible exact ih1 _ _ _ _ _ _ _ _ _ _ _ _ _)
      | (with_reducible exact ih2 _ _ _ _ _ _ _ _ _ _ _ _ _ _ _)
      | (with_reducible exact LeO.refl _)
      | (with_reducible exact LeO.none _)
      | (with_reducible refine LeO.ite ?_ ?_)
      | (with_reducible refine LeO.bind ?_ (fun _ => ?_))
      | exact ih0 _ _ _ _ _ _ _
      | exact ih1 _ _ _ _ _ _ _ _ _ _ _ _ _
      | exact ih2 _ _ _ _ _ _ _ _ _ _ _ _ _ _ _
      | exact LeO.none _
      | refine LeO.ite ?_ ?_
      | refine LeO.bind ?_ (fun _ => ?_)
    · intro y0 y1 y2 y3 y4 y5 y6 y7 y8 y9 y10 y11 y12 y13 y14
      unfold greenscreenlaw21_LockSends.j1
      repeat' first
      | (with_reducible exact ih0 _ _ _ _ _ _ _)
      | (with_reducible exact ih1 _ _ _ _ _ _ _ _ _ _ _ _ _)
      | (with_reducible exact ih2 _ _ _ _ _ _ _ _ _ _ _ _ _ _ _)
      | (with_reducible exact LeO.refl _)
      | (with_reducible exact LeO.none _)
      | (with_reducible refine LeO.ite ?_ ?_)
      | (with_reducible refine LeO.bind ?_ (fun _ => ?_))
      | exact ih0 _ _ _ _ _ _ _
      | exact ih1 _ _ _ _ _ _ _ _ _ _ _ _ _
      | exact ih2 _ _ _ _ _ _ _ _ _ _ _ _ _ _ _
      | exact LeO.none _
      | refine LeO.ite ?_ ?_
      | refine LeO.bind ?_ (fun _ => ?_)
theorem greenscreenlaw21_LockSends.mono : ∀ a0 k, LeO (greenscreenlaw21_LockSends.f k a0) (greenscreenlaw21_LockSends.f (k + 1) a0) := by
  intro a0 k
  obtain ⟨ih0, ih1, ih2⟩ := greenscreenlaw21_LockSends.mono_l k
  unfold greenscreenlaw21_LockSends.f
  repeat' first
      | (with_reducible exact ih0 _ _ _ _ _ _ _)
      | (with_reducible exact ih1 _ _ _ _ _ _ _ _ _ _ _ _ _)
      | (with_reducible exact ih2 _ _ _ _ _ _ _ _ _ _ _ _ _ _ _)
      | (with_reducible exact LeO.refl _)
      | (with_reducible exact LeO.none _)
      | (with_reducible refine LeO.ite ?_ ?_)
      | (with_reducible refine LeO.bind ?_ (fun _ => ?_))
      | exact ih0 _ _ _ _ _ _ _
      | exact ih1 _ _ _ _ _ _ _ _ _ _ _ _ _
      | exact ih2 _ _ _ _ _ _ _ _ _ _ _ _ _ _ _
      | exact LeO.none _
      | refine LeO.ite ?_ ?_
      | refine LeO.bind ?_ (fun _ => ?_)
set_option maxHeartbeats 8000000 in
set_option maxRecDepth 100000 in
theorem greenscreenlaw21_LockSends.calls (k : Nat) (A0 : Option Addr) (c0 : Nat) (l0 : List (S30)) (r : Bool) (w : World) (hr0 : Kd.C k30 w A0 l0.length l0) (hc0 : l0.length ≤ c0) (h : greenscreenlaw21_LockSends.f k l0 = some r) :
    Calls Try.prog 4 #[.slice A0 l0.length c0] w fun e w' => e = .returned (.bool r) ∧ Below w.heap.size w w' := by
  have hu26 := Try.underlying26
  have hu30 := Try.underlying30
  have HR0 := Aside0.mk hr0
  have HC0 := Aside0.mk hc0
  clear hr0 hc0
  have HB := Aside0.mk (Below.refl w.heap.size w)
  have H : ((greenscreenlaw21_alive.f).bind fun t270 => (if t270 = true then (if (l0.length : Int) > 100 then (some true) else (greenscreenlaw21_LockSends.l0 k false l0 (l0.length : Int) 0 0 0 0)) else (some false))) = some r := h
  clear h
  replace H := Option.bind_eq_some_iff.mp H
  obtain ⟨t270, A20, H⟩ := H
  replace H : (if t270 = true then (if (l0.length : Int) > 100 then (some true) else (greenscreenlaw21_LockSends.l0 k false l0 (l0.length : Int) 0 0 0 0)) else (some false)) = some r := H
  have A2 := Aside0.mk A20
  clear A20
  by_cases c3 : t270 = true
  · subst c3
    have H1 : (if (l0.length : Int) > 100 then (some true) else (greenscreenlaw21_LockSends.l0 k false l0 (l0.length : Int) 0 0 0 0)) = some r := by rw [if_pos rfl] at H; exact H
    clear H
    have H := H1
    clear H1
    by_cases c4 : (l0.length : Int) > 100
    · rw [if_pos c4] at H
      have c4b0 : decide (100 < (l0.length : Int)) = true := decide_eq_true c4
      have c4b1 : decide (100 < l0.length) = true := decide_eq_true (by omega)
      clear c4
      obtain rfl := Option.some.inj H
      go_enter Try.func4, Try.ntmps4
      go_wp2_with (first | ((with_reducible refine gate_callee (f := 6) rfl ?_); refine goesL_ (some 11) rfl rfl Try.func6 (by kernel_rfl) rfl #[] rfl (by (try simp only [List.map_toArray, List.map_cons, List.map_nil]); first | done | rfl | (simp only [List.length_drop, List.length_take]; rfl)) ?_; (with_reducible refine (greenscreenlaw21_alive.calls  true _ A2.out).mono ?_); rintro e w5 ⟨rfl, hb⟩; refine ⟨_, rfl, ?_⟩; have n0_ := Aside0.mk (below_step (by repeat (first | (with_reducible first | exact HB.out | apply below_alloc | apply pw_below_drewN | apply below_drew1) | exact HB.out)) hb); clear HB; have HB := n0_; clear n0_; (try clear hb); (try clear hb2); (try clear hk); (try clear hi)))
      go_ret
      exact ⟨by first | rfl | (simp [errW_none, errW_some] <;> rfl) | (simp [*, errW_none, errW_some] <;> rfl), by repeat (first | (with_reducible first | exact HB.out | apply below_alloc | apply pw_below_drewN | apply below_drew1) | exact HB.out)⟩
    · rw [if_neg c4] at H
      have c4b0 : decide (100 < (l0.length : Int)) = false := decide_eq_false c4
      have c4b1 : decide (100 < l0.length) = false := decide_eq_false (by omega)
      clear c4
      have H' := Aside0.mk H
      clear H
      go_enter Try.func4, Try.ntmps4
      go_wp2_with (first | ((with_reducible refine gate_callee (f := 6) rfl ?_); refine goesL_ (some 11) rfl rfl Try.func6 (by kernel_rfl) rfl #[] rfl (by (try simp only [List.map_toArray, List.map_cons, List.map_nil]); first | done | rfl | (simp only [List.length_drop, List.length_take]; rfl)) ?_; (with_reducible refine (greenscreenlaw21_alive.calls  true _ A2.out).mono ?_); rintro e w6 ⟨rfl, hb⟩; refine ⟨_, rfl, ?_⟩; have n0_ := Aside0.mk (below_step (by repeat (first | (with_reducible first | exact HB.out | apply below_alloc | apply pw_below_drewN | apply below_drew1) | exact HB.out)) hb); clear HB; have HB := n0_; clear n0_; (try clear hb); (try clear hb2); (try clear hk); (try clear hi)) | ((with_reducible refine gate_dst (N := 3) rfl ?_); refine box_event ?hg (N := 3) ?hd (cs := #[.int .i64 0, .int .i64 0, .int .i64 0]) (t := 26) ?hr ?_; (case hd => rfl); (case hg => rfl); (case hr => first | (go_simp; done) | (go_simp; rfl)); intro gb271 hg w7 hbox hb; have n0_ := Aside0.mk (below_step (by repeat (first | (with_reducible first | exact HB.out | apply below_alloc | apply pw_below_drewN | apply below_drew1) | exact HB.out)) hb); have n1_ := Aside0.mk ((⟨hbox, (by rw [hg]; exact (below_size (by repeat (first | (with_reducible first | exact HB.out | apply below_alloc | apply pw_below_drewN | apply below_drew1) | exact HB.out))) : w.heap.size ≤ gb271)⟩ : IsS26 w _ gb271 0 0 0)); clear HB; have HB := n0_; have HI271 := n1_; clear n0_ n1_; clear hb hbox hg))
      go_loopg [4, 18] k (fun kq v4 v18 w' => ∃ (x4_1 : Bool) (x18_1 : Int) (x272000_1 : Int) (x272001_1 : Int) (x272002_1 : Int), v4 = .bool x4_1 ∧ v18 = .int .i64 x18_1 ∧ Aside0 (greenscreenlaw21_LockSends.l0 kq x4_1 l0 (l0.length : Int) x18_1 x272000_1 x272001_1 x272002_1 = some r) ∧ Aside0 (kq ≤ k) ∧ Aside0 (IsS26 w w' gb271 x272000_1 x272001_1 x272002_1) ∧ Aside0 (Below w.heap.size w w'))
      case atStart => exact ⟨(false), (0), (0), (0), (0), (by first | rfl | (simp; done) | (simp [*]; done)), (by first | rfl | (simp; done) | (simp [*]; done)), H', ⟨Nat.le_refl _⟩, ⟨by repeat (first | (with_reducible first | exact HI271.out | apply IsS26.alloc | apply IsS26.drewN | apply IsS26.drew | apply IsS26.set_0 | apply IsS26.set_1 | apply IsS26.set_2) | exact HI271.out)⟩, ⟨by repeat (first | (with_reducible first | exact HB.out | apply below_alloc | apply pw_below_drewN | apply below_drew1 | refine below_set ?_ (IsS26.ge HI271.out)) | exact HB.out)⟩⟩
      case round =>
        clear H'
        try clear p2
        try clear c3
        try clear c4
        try clear c4b0
        try clear c4b1
        try clear c6
        obtain ⟨x4_1, x18_1, x272000_1, x272001_1, x272002_1, rfl, rfl, HA, HK1, HI271, HB⟩ := hrel
        cases gk with
        | zero => exact absurd HA.out (by simp [greenscreenlaw21_LockSends.l0])
        | succ k1 =>
          have H := HA.out
          clear HA
          simp only [greenscreenlaw21_LockSends.l0] at H
          by_cases c8 : x18_1 < (l0.length : Int)
          · rw [if_pos c8] at H
            have c8b0 : decide (x18_1 < (l0.length : Int)) = true := decide_eq_true c8
            clear c8
            by_cases c9 : 0 ≤ x18_1
            · rw [if_pos c9] at H
              have c9b0 : decide (0 ≤ x18_1) = true := decide_eq_true c9
              clear c9
              by_cases c10 : x18_1 < (l0.length : Int)
              · rw [if_pos c10] at H
                have c10b0 : decide (x18_1 < (l0.length : Int)) = true := decide_eq_true c10
                clear c10
                replace H := Option.bind_eq_some_iff.mp H
                obtain ⟨⟨t274, t275, t276, t277⟩, A110, H⟩ := H
                replace H : ((lock_Lock_Why.f t275 t276 t277).bind fun bt278 => ((lock_Lock_Turns.f bt278.2.1 bt278.2.2.1 bt278.2.2.2).bind fun bt282 => (if ((rd_T30 l0 x18_1).f0) = 0 then ((lock_Lock_Open.f bt282.2.1 bt282.2.2.1 bt282.2.2.2).bind fun bt286 => (greenscreenlaw21_LockSends.j2 k1 true t274 bt278.1 bt282.1 0 l0 (l0.length : Int) x18_1 bt286.1 bt286.2.1 bt286.2.2 ((rd_T30 l0 x18_1).f0) ((rd_T30 l0 x18_1).f1))) else (if ((rd_T30 l0 x18_1).f0) = 1 then ((lock_Lock_Shut.f bt282.2.1 bt282.2.2.1 bt282.2.2.2).bind fun bt289 => (greenscreenlaw21_LockSends.j2 k1 x4_1 t274 bt278.1 bt282.1 0 l0 (l0.length : Int) x18_1 bt289.1 bt289.2.1 bt289.2.2 ((rd_T30 l0 x18_1).f0) ((rd_T30 l0 x18_1).f1))) else (if ((rd_T30 l0 x18_1).f0) = 2 then (greenscreenlaw21_LockSends.j1 k1 x4_1 t274 bt278.1 bt282.1 0 l0 (l0.length : Int) x18_1 ((rd_T30 l0 x18_1).f0) (((rd_T30 l0 x18_1).f0) == 2) bt282.2.1 bt282.2.2.1 bt282.2.2.2 ((rd_T30 l0 x18_1).f0) ((rd_T30 l0 x18_1).f1)) else (greenscreenlaw21_LockSends.j1 k1 x4_1 t274 bt278.1 bt282.1 0 l0 (l0.length : Int) x18_1 ((rd_T30 l0 x18_1).f0) (((rd_T30 l0 x18_1).f0) == 3) bt282.2.1 bt282.2.2.1 bt282.2.2.2 ((rd_T30 l0 x18_1).f0) ((rd_T30 l0 x18_1).f1))))))) = some r := H
                have A11 := Aside0.mk A110
                clear A110
                replace H := Option.bind_eq_some_iff.mp H
                obtain ⟨⟨t278, t279, t280, t281⟩, A120, H⟩ := H
                replace H : ((lock_Lock_Turns.f t279 t280 t281).bind fun bt282 => (if ((rd_T30 l0 x18_1).f0) = 0 then ((lock_Lock_Open.f bt282.2.1 bt282.2.2.1 bt282.2.2.2).bind fun bt286 => (greenscreenlaw21_LockSends.j2 k1 true t274 t278 bt282.1 0 l0 (l0.length : Int) x18_1 bt286.1 bt286.2.1 bt286.2.2 ((rd_T30 l0 x18_1).f0) ((rd_T30 l0 x18_1).f1))) else (if ((rd_T30 l0 x18_1).f0) = 1 then ((lock_Lock_Shut.f bt282.2.1 bt282.2.2.1 bt282.2.2.2).bind fun bt289 => (greenscreenlaw21_LockSends.j2 k1 x4_1 t274 t278 bt282.1 0 l0 (l0.length : Int) x18_1 bt289.1 bt289.2.1 bt289.2.2 ((rd_T30 l0 x18_1).f0) ((rd_T30 l0 x18_1).f1))) else (if ((rd_T30 l0 x18_1).f0) = 2 then (greenscreenlaw21_LockSends.j1 k1 x4_1 t274 t278 bt282.1 0 l0 (l0.length : Int) x18_1 ((rd_T30 l0 x18_1).f0) (((rd_T30 l0 x18_1).f0) == 2) bt282.2.1 bt282.2.2.1 bt282.2.2.2 ((rd_T30 l0 x18_1).f0) ((rd_T30 l0 x18_1).f1)) else (greenscreenlaw21_LockSends.j1 k1 x4_1 t274 t278 bt282.1 0 l0 (l0.length : Int) x18_1 ((rd_T30 l0 x18_1).f0) (((rd_T30 l0 x18_1).f0) == 3) bt282.2.1 bt282.2.2.1 bt282.2.2.2 ((rd_T30 l0 x18_1).f0) ((rd_T30 l0 x18_1).f1)))))) = some r := H
                have A12 := Aside0.mk A120
                clear A120
                replace H := Option.bind_eq_some_iff.mp H
                obtain ⟨⟨t282, t283, t284, t285⟩, A130, H⟩ := H
                replace H : (if ((rd_T30 l0 x18_1).f0) = 0 then ((lock_Lock_Open.f t283 t284 t285).bind fun bt286 => (greenscreenlaw21_LockSends.j2 k1 true t274 t278 t282 0 l0 (l0.length : Int) x18_1 bt286.1 bt286.2.1 bt286.2.2 ((rd_T30 l0 x18_1).f0) ((rd_T30 l0 x18_1).f1))) else (if ((rd_T30 l0 x18_1).f0) = 1 then ((lock_Lock_Shut.f t283 t284 t285).bind fun bt289 => (greenscreenlaw21_LockSends.j2 k1 x4_1 t274 t278 t282 0 l0 (l0.length : Int) x18_1 bt289.1 bt289.2.1 bt289.2.2 ((rd_T30 l0 x18_1).f0) ((rd_T30 l0 x18_1).f1))) else (if ((rd_T30 l0 x18_1).f0) = 2 then (greenscreenlaw21_LockSends.j1 k1 x4_1 t274 t278 t282 0 l0 (l0.length : Int) x18_1 ((rd_T30 l0 x18_1).f0) (((rd_T30 l0 x18_1).f0) == 2) t283 t284 t285 ((rd_T30 l0 x18_1).f0) ((rd_T30 l0 x18_1).f1)) else (greenscreenlaw21_LockSends.j1 k1 x4_1 t274 t278 t282 0 l0 (l0.length : Int) x18_1 ((rd_T30 l0 x18_1).f0) (((rd_T30 l0 x18_1).f0) == 3) t283 t284 t285 ((rd_T30 l0 x18_1).f0) ((rd_T30 l0 x18_1).f1))))) = some r := H
                have A13 := Aside0.mk A130
                clear A130
                have HC14 := Aside0.mk H
                clear H
                have p272 : 0 ≤ (x18_1 : Int) := of_decide_eq_true (by first | (with_reducible assumption) | assumption)
                have q272 : x18_1 < (l0.length : Int) := of_decide_eq_true (by first | (with_reducible assumption) | assumption)
                obtain ⟨ad272, e272, hx272_0, hx272_1⟩ := at_T30 HR0.out x18_1 p272 q272
                cases e272
                replace hx272_0 := (HB.out.cell (World.block_lt_of_cell? w _ hx272_0)).trans hx272_0
                replace hx272_1 := (HB.out.cell (World.block_lt_of_cell? w _ hx272_1)).trans hx272_1
                replace p272 := eq_true p272
                replace q272 := eq_true q272
                go_upto_block 2 with (first | ((with_reducible refine gate_dst (N := 6) rfl ?_); refine box_event ?hg (N := 6) ?hd (cs := #[.int .i64 0, .int .i64 0]) (t := 30) ?hr ?_; (case hd => rfl); (case hg => rfl); (case hr => first | (go_simp; done) | (go_simp; rfl)); intro gb273 hg w15 hbox hb; have n0_ := Aside0.mk (IsS26.below (by repeat (first | (with_reducible first | exact HI271.out | apply IsS26.alloc | apply IsS26.drewN | apply IsS26.drew | apply IsS26.set_0 | apply IsS26.set_1 | apply IsS26.set_2) | exact HI271.out)) hb); have n1_ := Aside0.mk (below_step (by repeat (first | (with_reducible first | exact HB.out | apply below_alloc | apply pw_below_drewN | apply below_drew1 | refine below_set ?_ (IsS26.ge HI271.out)) | exact HB.out)) hb); have n2_ := Aside0.mk (hbox); have n3_ := Aside0.mk ((by rw [hg]; exact (below_size (by repeat (first | (with_reducible first | exact HB.out | apply below_alloc | apply pw_below_drewN | apply below_drew1 | refine below_set ?_ (IsS26.ge HI271.out)) | exact HB.out))) : w.heap.size ≤ gb273)); have n4_ := Aside0.mk ((by rw [hg]; exact (below_size (by repeat (first | (with_reducible first | exact HB.out | apply below_alloc | apply pw_below_drewN | apply below_drew1 | refine below_set ?_ (IsS26.ge HI271.out)) | exact HB.out))) : w.heap.size ≤ gb273)); have n5_ := Aside0.mk ((by rw [hg]; exact Nat.ne_of_lt (IsS26.lt (show IsS26 w _ gb271 x272000_1 x272001_1 x272002_1 from by repeat (first | (with_reducible first | exact HI271.out | apply IsS26.alloc | apply IsS26.drewN | apply IsS26.drew | apply IsS26.set_0 | apply IsS26.set_1 | apply IsS26.set_2) | exact HI271.out))) : gb271 ≠ gb273)); have n6_ := Aside0.mk ((by rw [hg]; exact Nat.ne_of_gt (IsS26.lt (show IsS26 w _ gb271 x272000_1 x272001_1 x272002_1 from by repeat (first | (with_reducible first | exact HI271.out | apply IsS26.alloc | apply IsS26.drewN | apply IsS26.drew | apply IsS26.set_0 | apply IsS26.set_1 | apply IsS26.set_2) | exact HI271.out))) : gb273 ≠ gb271)); clear HI271; clear HB; have HI271 := n0_; have HB := n1_; have BK273 := n2_; have GW273 := n3_; have GE273 := n4_; have NB271_273 := n5_; have NB273_271 := n6_; clear n0_ n1_ n2_ n3_ n4_ n5_ n6_; clear hb hbox hg; have hnb16 := NB273_271.out; have hnc16 := NB271_273.out; have hcz17_0 : w15.cell? ⟨gb273, 0, none⟩ = some (.int .i64 0) := (blk_cell BK273.out 0).trans rfl; have hcz17_1 : w15.cell? ⟨gb273, 1, none⟩ = some (.int .i64 0) := (blk_cell BK273.out 1).trans rfl; have hfz17_0 := blk_frozen BK273.out 0; have hfz17_1 := blk_frozen BK273.out 1) | ((with_reducible refine gate_callee (f := 15) rfl ?_); refine goesL_ (some 22) rfl rfl Try.func15 (by kernel_rfl) rfl #[.pointer (some ⟨gb271, 0, none⟩)] rfl (by (try simp only [List.map_toArray, List.map_cons, List.map_nil]); first | done | rfl | (simp only [List.length_drop, List.length_take]; rfl)) ?_; (with_reducible refine (lock_Lock_State.calls gb271 x272000_1 x272001_1 x272002_1 t274 t275 t276 t277 w _ ?side1 ?side2 A11.out).mono ?_); (case side1 => repeat (first | (with_reducible first | exact HI271.out | apply IsS26.alloc | apply IsS26.drewN | apply IsS26.drew | apply IsS26.set_0 | apply IsS26.set_1 | apply IsS26.set_2 | refine IsS26.far ?_ NB271_273.out _) | exact HI271.out)); (case side2 => repeat (first | (with_reducible first | exact HB.out | apply below_alloc | apply pw_below_drewN | apply below_drew1 | refine below_set ?_ (IsS26.ge HI271.out) | refine below_set ?_ GE273.out) | exact HB.out)); rintro e w18 ⟨rfl, hi, hb, hk⟩; refine ⟨_, rfl, ?_⟩; have n0_ := Aside0.mk (KeepBut.blk hk (g' := gb273) (o := .cells #[.int .i64 ((rd_T30 l0 x18_1).f0), .int .i64 ((rd_T30 l0 x18_1).f1)] 30 (0, 0)) (by (with_reducible repeat (first | refine blk_drewN ?_ _ | refine blk_drew ?_ | refine blk_alloc ?_ _)); refine blk_put (cs := #[.int .i64 ((rd_T30 l0 x18_1).f0), .int .i64 0]) ?_ 1 _ rfl; (with_reducible repeat (first | refine blk_drewN ?_ _ | refine blk_drew ?_ | refine blk_alloc ?_ _)); refine blk_put (cs := #[.int .i64 0, .int .i64 0]) ?_ 0 _ rfl; (with_reducible repeat (first | refine blk_drewN ?_ _ | refine blk_drew ?_ | refine blk_alloc ?_ _)); exact BK273.out) NB273_271.out (by simp)); have n1_ := Aside0.mk (hb); have n2_ := Aside0.mk (hi); clear BK273; clear HB; clear HI271; have BK273 := n0_; have HB := n1_; have HI271 := n2_; clear n0_ n1_ n2_; (try clear hb); (try clear hb2); (try clear hk); (try clear hi)) | ((with_reducible refine gate_callee (f := 16) rfl ?_); refine goesL_ (some 23) rfl rfl Try.func16 (by kernel_rfl) rfl #[.pointer (some ⟨gb271, 0, none⟩)] rfl (by (try simp only [List.map_toArray, List.map_cons, List.map_nil]); first | done | rfl | (simp only [List.length_drop, List.length_take]; rfl)) ?_; (with_reducible refine (lock_Lock_Why.calls gb271 t275 t276 t277 t278 t279 t280 t281 w _ ?side1 ?side2 A12.out).mono ?_); (case side1 => repeat (first | (with_reducible first | exact HI271.out | apply IsS26.alloc | apply IsS26.drewN | apply IsS26.drew | apply IsS26.set_0 | apply IsS26.set_1 | apply IsS26.set_2 | refine IsS26.far ?_ NB271_273.out _) | exact HI271.out)); (case side2 => repeat (first | (with_reducible first | exact HB.out | apply below_alloc | apply pw_below_drewN | apply below_drew1 | refine below_set ?_ (IsS26.ge HI271.out) | refine below_set ?_ GE273.out) | exact HB.out)); rintro e w19 ⟨rfl, hi, hb, hk⟩; refine ⟨_, rfl, ?_⟩; have n0_ := Aside0.mk (KeepBut.blk hk (g' := gb273) (o := .cells #[.int .i64 ((rd_T30 l0 x18_1).f0), .int .i64 ((rd_T30 l0 x18_1).f1)] 30 (0, 0)) (by (with_reducible repeat (first | refine blk_drewN ?_ _ | refine blk_drew ?_ | refine blk_alloc ?_ _)); exact BK273.out) NB273_271.out (by simp)); have n1_ := Aside0.mk (hb); have n2_ := Aside0.mk (hi); clear BK273; clear HB; clear HI271; have BK273 := n0_; have HB := n1_; have HI271 := n2_; clear n0_ n1_ n2_; (try clear hb); (try clear hb2); (try clear hk); (try clear hi)) | ((with_reducible refine gate_callee (f := 17) rfl ?_); refine goesL_ (some 24) rfl rfl Try.func17 (by kernel_rfl) rfl #[.pointer (some ⟨gb271, 0, none⟩)] rfl (by (try simp only [List.map_toArray, List.map_cons, List.map_nil]); first | done | rfl | (simp only [List.length_drop, List.length_take]; rfl)) ?_; (with_reducible refine (lock_Lock_Turns.calls gb271 t279 t280 t281 t282 t283 t284 t285 w _ ?side1 ?side2 A13.out).mono ?_); (case side1 => repeat (first | (with_reducible first | exact HI271.out | apply IsS26.alloc | apply IsS26.drewN | apply IsS26.drew | apply IsS26.set_0 | apply IsS26.set_1 | apply IsS26.set_2 | refine IsS26.far ?_ NB271_273.out _) | exact HI271.out)); (case side2 => repeat (first | (with_reducible first | exact HB.out | apply below_alloc | apply pw_below_drewN | apply below_drew1 | refine below_set ?_ (IsS26.ge HI271.out) | refine below_set ?_ GE273.out) | exact HB.out)); rintro e w20 ⟨rfl, hi, hb, hk⟩; refine ⟨_, rfl, ?_⟩; have n0_ := Aside0.mk (KeepBut.blk hk (g' := gb273) (o := .cells #[.int .i64 ((rd_T30 l0 x18_1).f0), .int .i64 ((rd_T30 l0 x18_1).f1)] 30 (0, 0)) (by (with_reducible repeat (first | refine blk_drewN ?_ _ | refine blk_drew ?_ | refine blk_alloc ?_ _)); exact BK273.out) NB273_271.out (by simp)); have n1_ := Aside0.mk (hb); have n2_ := Aside0.mk (hi); clear BK273; clear HB; clear HI271; have BK273 := n0_; have HB := n1_; have HI271 := n2_; clear n0_ n1_ n2_; (try clear hb); (try clear hb2); (try clear hk); (try clear hi); have hcz21_0 : w20.cell? ⟨gb273, 0, none⟩ = some (.int .i64 ((rd_T30 l0 x18_1).f0)) := (blk_cell BK273.out 0).trans rfl; have hcz21_1 : w20.cell? ⟨gb273, 1, none⟩ = some (.int .i64 ((rd_T30 l0 x18_1).f1)) := (blk_cell BK273.out 1).trans rfl; have hfz21_0 := blk_frozen BK273.out 0; have hfz21_1 := blk_frozen BK273.out 1))
                (try simp only [Act.put, List.setIfInBounds_toArray, List.set_cons_zero, List.set_cons_succ])
                go_cut [4, 10] (fun v4 v10 wc => ∃ (kq : Nat) (x4_13 : Bool) (x10_13 : Int) (x272000_13 : Int) (x272001_13 : Int) (x272002_13 : Int), v4 = .bool x4_13 ∧ v10 = .int .i64 x10_13 ∧ Aside0 (greenscreenlaw21_LockSends.j2 kq x4_13 t274 t278 t282 x10_13 l0 (l0.length : Int) x18_1 x272000_13 x272001_13 x272002_13 ((rd_T30 l0 x18_1).f0) ((rd_T30 l0 x18_1).f1) = some r) ∧ Aside0 (kq ≤ k1) ∧ Aside0 (wc.heap[gb273]? = some (.cells #[.int .i64 ((rd_T30 l0 x18_1).f0), .int .i64 ((rd_T30 l0 x18_1).f1)] 30 (0, 0))) ∧ Aside0 (IsS26 w wc gb271 x272000_13 x272001_13 x272002_13) ∧ Aside0 (Below w.heap.size w wc))
                case first =>
                  have H := HC14.out
                  clear HC14
                  by_cases c22 : ((rd_T30 l0 x18_1).f0) = 0
                  · rw [if_pos c22] at H
                    have c22b0 : (((rd_T30 l0 x18_1).f0) == 0) = true := beq_iff_eq.mpr c22
                    have c22b1 : (((rd_T30 l0 x18_1).f0) != 0) = false := bne_eq_false_iff_eq.mpr c22
                    clear c22
                    (first | rw [c22b0] | (simp only [i64_w, i32_w]; rw [c22b0]) | skip)
                    replace H := Option.bind_eq_some_iff.mp H
                    obtain ⟨⟨t286, t287, t288⟩, A230, H⟩ := H
                    replace H : (greenscreenlaw21_LockSends.j2 k1 true t274 t278 t282 0 l0 (l0.length : Int) x18_1 t286 t287 t288 ((rd_T30 l0 x18_1).f0) ((rd_T30 l0 x18_1).f1)) = some r := H
                    have A23 := Aside0.mk A230
                    clear A230
                    have H' := Aside0.mk H
                    clear H
                    go_wp2_with (first | ((with_reducible refine gate_callee (f := 7) rfl ?_); refine goesL_ (some 29) rfl rfl Try.func7 (by kernel_rfl) rfl #[.pointer (some ⟨gb271, 0, none⟩)] rfl (by (try simp only [List.map_toArray, List.map_cons, List.map_nil]); first | done | rfl | (simp only [List.length_drop, List.length_take]; rfl)) ?_; (with_reducible refine (lock_Lock_Open.calls gb271 t283 t284 t285 t286 t287 t288 w _ ?side1 ?side2 A23.out).mono ?_); (case side1 => repeat (first | (with_reducible first | exact HI271.out | apply IsS26.alloc | apply IsS26.drewN | apply IsS26.drew | apply IsS26.set_0 | apply IsS26.set_1 | apply IsS26.set_2 | refine IsS26.far ?_ NB271_273.out _) | exact HI271.out)); (case side2 => repeat (first | (with_reducible first | exact HB.out | apply below_alloc | apply pw_below_drewN | apply below_drew1 | refine below_set ?_ (IsS26.ge HI271.out) | refine below_set ?_ GE273.out) | exact HB.out)); rintro e w24 ⟨rfl, hi, hb, hk⟩; refine ⟨_, rfl, ?_⟩; have n0_ := Aside0.mk (KeepBut.blk hk (g' := gb273) (o := .cells #[.int .i64 ((rd_T30 l0 x18_1).f0), .int .i64 ((rd_T30 l0 x18_1).f1)] 30 (0, 0)) (by (with_reducible repeat (first | refine blk_drewN ?_ _ | refine blk_drew ?_ | refine blk_alloc ?_ _)); exact BK273.out) NB273_271.out (by simp)); have n1_ := Aside0.mk (hb); have n2_ := Aside0.mk (hi); clear BK273; clear HB; clear HI271; have BK273 := n0_; have HB := n1_; have HI271 := n2_; clear n0_ n1_ n2_; (try clear hb); (try clear hb2); (try clear hk); (try clear hi)))
                    go_meet
                    case rel => exact ⟨_, (true), (0), (t286), (t287), (t288), (by first | rfl | (simp; done) | (simp [*]; done)), (by first | rfl | (simp; done) | (simp [*]; done)), H', ⟨by have := HK1.out; first | omega | exact Nat.le_refl _⟩, ⟨by (with_reducible repeat (first | refine blk_drewN ?_ _ | refine blk_drew ?_ | refine blk_alloc ?_ _)); exact BK273.out⟩, ⟨by repeat (first | (with_reducible first | exact HI271.out | apply IsS26.alloc | apply IsS26.drewN | apply IsS26.drew | apply IsS26.set_0 | apply IsS26.set_1 | apply IsS26.set_2 | refine IsS26.far ?_ NB271_273.out _) | exact HI271.out)⟩, ⟨by repeat (first | (with_reducible first | exact HB.out | apply below_alloc | apply pw_below_drewN | apply below_drew1 | refine below_set ?_ (IsS26.ge HI271.out) | refine below_set ?_ GE273.out) | exact HB.out)⟩⟩
                  · rw [if_neg c22] at H
                    have c22b0 : (((rd_T30 l0 x18_1).f0) == 0) = false := beq_eq_false_iff_ne.mpr c22
                    have c22b1 : (((rd_T30 l0 x18_1).f0) != 0) = true := bne_iff_ne.mpr c22
                    (first | rw [c22b0] | (simp only [i64_w, i32_w]; rw [c22b0]) | skip)
                    by_cases c25 : ((rd_T30 l0 x18_1).f0) = 1
                    · rw [if_pos c25] at H
                      have c25b0 : (((rd_T30 l0 x18_1).f0) == 1) = true := beq_iff_eq.mpr c25
                      have c25b1 : (((rd_T30 l0 x18_1).f0) != 1) = false := bne_eq_false_iff_eq.mpr c25
                      clear c25
                      replace H := Option.bind_eq_some_iff.mp H
                      obtain ⟨⟨t289, t290, t291⟩, A260, H⟩ := H
                      replace H : (greenscreenlaw21_LockSends.j2 k1 x4_1 t274 t278 t282 0 l0 (l0.length : Int) x18_1 t289 t290 t291 ((rd_T30 l0 x18_1).f0) ((rd_T30 l0 x18_1).f1)) = some r := H
                      have A26 := Aside0.mk A260
                      clear A260
                      have H' := Aside0.mk H
                      clear H
                      go_wp2_with (first | ((with_reducible refine gate_callee (f := 9) rfl ?_); refine goesL_ (some 32) rfl rfl Try.func9 (by kernel_rfl) rfl #[.pointer (some ⟨gb271, 0, none⟩)] rfl (by (try simp only [List.map_toArray, List.map_cons, List.map_nil]); first | done | rfl | (simp only [List.length_drop, List.length_take]; rfl)) ?_; (with_reducible refine (lock_Lock_Shut.calls gb271 t283 t284 t285 t289 t290 t291 w _ ?side1 ?side2 A26.out).mono ?_); (case side1 => repeat (first | (with_reducible first | exact HI271.out | apply IsS26.alloc | apply IsS26.drewN | apply IsS26.drew | apply IsS26.set_0 | apply IsS26.set_1 | apply IsS26.set_2 | refine IsS26.far ?_ NB271_273.out _) | exact HI271.out)); (case side2 => repeat (first | (with_reducible first | exact HB.out | apply below_alloc | apply pw_below_drewN | apply below_drew1 | refine below_set ?_ (IsS26.ge HI271.out) | refine below_set ?_ GE273.out) | exact HB.out)); rintro e w27 ⟨rfl, hi, hb, hk⟩; refine ⟨_, rfl, ?_⟩; have n0_ := Aside0.mk (KeepBut.blk hk (g' := gb273) (o := .cells #[.int .i64 ((rd_T30 l0 x18_1).f0), .int .i64 ((rd_T30 l0 x18_1).f1)] 30 (0, 0)) (by (with_reducible repeat (first | refine blk_drewN ?_ _ | refine blk_drew ?_ | refine blk_alloc ?_ _)); exact BK273.out) NB273_271.out (by simp)); have n1_ := Aside0.mk (hb); have n2_ := Aside0.mk (hi); clear BK273; clear HB; clear HI271; have BK273 := n0_; have HB := n1_; have HI271 := n2_; clear n0_ n1_ n2_; (try clear hb); (try clear hb2); (try clear hk); (try clear hi)))
                      go_meet
                      case rel => exact ⟨_, (x4_1), (0), (t289), (t290), (t291), (by first | rfl | (simp; done) | (simp [*]; done)), (by first | rfl | (simp; done) | (simp [*]; done)), H', ⟨by have := HK1.out; first | omega | exact Nat.le_refl _⟩, ⟨by (with_reducible repeat (first | refine blk_drewN ?_ _ | refine blk_drew ?_ | refine blk_alloc ?_ _)); exact BK273.out⟩, ⟨by repeat (first | (with_reducible first | exact HI271.out | apply IsS26.alloc | apply IsS26.drewN | apply IsS26.drew | apply IsS26.set_0 | apply IsS26.set_1 | apply IsS26.set_2 | refine IsS26.far ?_ NB271_273.out _) | exact HI271.out)⟩, ⟨by repeat (first | (with_reducible first | exact HB.out | apply below_alloc | apply pw_below_drewN | apply below_drew1 | refine below_set ?_ (IsS26.ge HI271.out) | refine below_set ?_ GE273.out) | exact HB.out)⟩⟩
                    · rw [if_neg c25] at H
                      have c25b0 : (((rd_T30 l0 x18_1).f0) == 1) = false := beq_eq_false_iff_ne.mpr c25
                      have c25b1 : (((rd_T30 l0 x18_1).f0) != 1) = true := bne_iff_ne.mpr c25
                      have HC28 := Aside0.mk H
                      clear H
                      go_upto_if 33 with (fail)
                      go_cut [33] (fun v33 wc => ∃ (kq : Nat) (x33_27 : Bool), v33 = .bool x33_27 ∧ Aside0 (greenscreenlaw21_LockSends.j1 kq x4_1 t274 t278 t282 0 l0 (l0.length : Int) x18_1 ((rd_T30 l0 x18_1).f0) x33_27 t283 t284 t285 ((rd_T30 l0 x18_1).f0) ((rd_T30 l0 x18_1).f1) = some r) ∧ Aside0 (kq ≤ k1) ∧ Aside0 (wc.heap[gb273]? = some (.cells #[.int .i64 ((rd_T30 l0 x18_1).f0), .int .i64 ((rd_T30 l0 x18_1).f1)] 30 (0, 0))) ∧ Aside0 (IsS26 w wc gb271 t283 t284 t285) ∧ Aside0 (Below w.heap.size w wc))
                      case first =>
                        have H := HC28.out
                        clear HC28
                        by_cases c29 : ((rd_T30 l0 x18_1).f0) = 2
                        · rw [if_pos c29] at H
                          have c29b0 : (((rd_T30 l0 x18_1).f0) == 2) = true := beq_iff_eq.mpr c29
                          have c29b1 : (((rd_T30 l0 x18_1).f0) != 2) = false := bne_eq_false_iff_eq.mpr c29
                          clear c29
                          (first | rw [c29b0] | (simp only [i64_w, i32_w]; rw [c29b0]) | skip)
                          have H' := Aside0.mk H
                          clear H
                          go_wp2
                          go_meet
                          case rel => exact ⟨_, ((((rd_T30 l0 x18_1).f0) == 2)), (by first | rfl | (simp; done) | (simp [*]; done)), H', ⟨by have := HK1.out; first | omega | exact Nat.le_refl _⟩, ⟨by (with_reducible repeat (first | refine blk_drewN ?_ _ | refine blk_drew ?_ | refine blk_alloc ?_ _)); exact BK273.out⟩, ⟨by repeat (first | (with_reducible first | exact HI271.out | apply IsS26.alloc | apply IsS26.drewN | apply IsS26.drew | apply IsS26.set_0 | apply IsS26.set_1 | apply IsS26.set_2 | refine IsS26.far ?_ NB271_273.out _) | exact HI271.out)⟩, ⟨by repeat (first | (with_reducible first | exact HB.out | apply below_alloc | apply pw_below_drewN | apply below_drew1 | refine below_set ?_ (IsS26.ge HI271.out) | refine below_set ?_ GE273.out) | exact HB.out)⟩⟩
                        · rw [if_neg c29] at H
                          have c29b0 : (((rd_T30 l0 x18_1).f0) == 2) = false := beq_eq_false_iff_ne.mpr c29
                          have c29b1 : (((rd_T30 l0 x18_1).f0) != 2) = true := bne_iff_ne.mpr c29
                          (first | rw [c29b0] | (simp only [i64_w, i32_w]; rw [c29b0]) | skip)
                          have H' := Aside0.mk H
                          clear H
                          go_wp2
                          go_meet
                          case rel => exact ⟨_, ((((rd_T30 l0 x18_1).f0) == 3)), (by first | rfl | (simp; done) | (simp [*]; done)), H', ⟨by have := HK1.out; first | omega | exact Nat.le_refl _⟩, ⟨by (with_reducible repeat (first | refine blk_drewN ?_ _ | refine blk_drew ?_ | refine blk_alloc ?_ _)); exact BK273.out⟩, ⟨by repeat (first | (with_reducible first | exact HI271.out | apply IsS26.alloc | apply IsS26.drewN | apply IsS26.drew | apply IsS26.set_0 | apply IsS26.set_1 | apply IsS26.set_2 | refine IsS26.far ?_ NB271_273.out _) | exact HI271.out)⟩, ⟨by repeat (first | (with_reducible first | exact HB.out | apply below_alloc | apply pw_below_drewN | apply below_drew1 | refine below_set ?_ (IsS26.ge HI271.out) | refine below_set ?_ GE273.out) | exact HB.out)⟩⟩
                      case rest =>
                        clear HC28
                        try clear c1
                        try clear c2
                        try clear p2
                        try clear q2
                        try clear hx2
                        try clear c3
                        try clear c4
                        try clear c4b0
                        try clear c4b1
                        try clear c6
                        try clear c7
                        try clear c8
                        try clear c8b0
                        try clear c9
                        try clear c9b0
                        try clear c10
                        try clear c10b0
                        try clear c15
                        try clear c16
                        try clear c17
                        try clear c22
                        try clear c22b0
                        try clear c22b1
                        try clear c25
                        try clear c25b0
                        try clear c25b1
                        try clear p27
                        try clear q27
                        try clear hx27
                        try clear c29
                        try clear c29b0
                        try clear c29b1
                        try clear hcz17_0
                        try clear hcz17_1
                        try clear hcz21_0
                        try clear hcz21_1
                        try clear hfz17_0
                        try clear hfz17_1
                        try clear hfz21_0
                        try clear hfz21_1
                        try clear hx272_0
                        try clear hx272_1
                        try clear p2
                        try clear p272
                        try clear q272
                        obtain ⟨kq, x33_27, rfl, HA, HJ27, BK273, HI271, HB⟩ := hcut
                        cases kq with
                        | zero => exact absurd HA.out (by simp [greenscreenlaw21_LockSends.j1])
                        | succ kj27 =>
                          have H := HA.out
                          clear HA
                          simp only [greenscreenlaw21_LockSends.j1] at H
                          by_cases c30 : x33_27 = true
                          · subst c30
                            have H1 : ((lock_Lock_Send.f t283 t284 t285).bind fun bt292 => (if bt292.1 = 0 then (if x4_1 = true then (greenscreenlaw21_LockSends.j2 kj27 (bt292.1 != 0) t274 t278 t282 bt292.1 l0 (l0.length : Int) x18_1 bt292.2.1 bt292.2.2.1 bt292.2.2.2 ((rd_T30 l0 x18_1).f0) ((rd_T30 l0 x18_1).f1)) else (some false)) else (if x4_1 = true then (greenscreenlaw21_LockSends.j2 kj27 (bt292.1 != 0) t274 t278 t282 bt292.1 l0 (l0.length : Int) x18_1 bt292.2.1 bt292.2.2.1 bt292.2.2.2 ((rd_T30 l0 x18_1).f0) ((rd_T30 l0 x18_1).f1)) else (greenscreenlaw21_LockSends.j2 kj27 false t274 t278 t282 bt292.1 l0 (l0.length : Int) x18_1 bt292.2.1 bt292.2.2.1 bt292.2.2.2 ((rd_T30 l0 x18_1).f0) ((rd_T30 l0 x18_1).f1))))) = some r := by rw [if_pos rfl] at H; exact H
                            clear H
                            have H := H1
                            clear H1
                            replace H := Option.bind_eq_some_iff.mp H
                            obtain ⟨⟨t292, t293, t294, t295⟩, A310, H⟩ := H
                            replace H : (if t292 = 0 then (if x4_1 = true then (greenscreenlaw21_LockSends.j2 kj27 (t292 != 0) t274 t278 t282 t292 l0 (l0.length : Int) x18_1 t293 t294 t295 ((rd_T30 l0 x18_1).f0) ((rd_T30 l0 x18_1).f1)) else (some false)) else (if x4_1 = true then (greenscreenlaw21_LockSends.j2 kj27 (t292 != 0) t274 t278 t282 t292 l0 (l0.length : Int) x18_1 t293 t294 t295 ((rd_T30 l0 x18_1).f0) ((rd_T30 l0 x18_1).f1)) else (greenscreenlaw21_LockSends.j2 kj27 false t274 t278 t282 t292 l0 (l0.length : Int) x18_1 t293 t294 t295 ((rd_T30 l0 x18_1).f0) ((rd_T30 l0 x18_1).f1)))) = some r := H
                            have A31 := Aside0.mk A310
                            clear A310
                            by_cases c32 : t292 = 0
                            · rw [if_pos c32] at H
                              have c32b0 : (t292 == 0) = true := beq_iff_eq.mpr c32
                              have c32b1 : (t292 != 0) = false := bne_eq_false_iff_eq.mpr c32
                              clear c32
                              by_cases c33 : x4_1 = true
                              · subst c33
                                have H1 : (greenscreenlaw21_LockSends.j2 kj27 (t292 != 0) t274 t278 t282 t292 l0 (l0.length : Int) x18_1 t293 t294 t295 ((rd_T30 l0 x18_1).f0) ((rd_T30 l0 x18_1).f1)) = some r := by rw [if_pos rfl] at H; exact H
                                clear H
                                have H := H1
                                clear H1
                                have H' := Aside0.mk H
                                clear H
                                go_wp2_with (first | ((with_reducible refine gate_callee (f := 10) rfl ?_); refine goesL_ (some 36) rfl rfl Try.func10 (by kernel_rfl) rfl #[.pointer (some ⟨gb271, 0, none⟩)] rfl (by (try simp only [List.map_toArray, List.map_cons, List.map_nil]); first | done | rfl | (simp only [List.length_drop, List.length_take]; rfl)) ?_; (with_reducible refine (lock_Lock_Send.calls gb271 t283 t284 t285 t292 t293 t294 t295 w _ ?side1 ?side2 A31.out).mono ?_); (case side1 => repeat (first | (with_reducible first | exact HI271.out | apply IsS26.alloc | apply IsS26.drewN | apply IsS26.drew | apply IsS26.set_0 | apply IsS26.set_1 | apply IsS26.set_2 | refine IsS26.far ?_ NB271_273.out _) | exact HI271.out)); (case side2 => repeat (first | (with_reducible first | exact HB.out | apply below_alloc | apply pw_below_drewN | apply below_drew1 | refine below_set ?_ (IsS26.ge HI271.out) | refine below_set ?_ GE273.out) | exact HB.out)); rintro e w34 ⟨rfl, hi, hb, hk⟩; refine ⟨_, rfl, ?_⟩; have n0_ := Aside0.mk (KeepBut.blk hk (g' := gb273) (o := .cells #[.int .i64 ((rd_T30 l0 x18_1).f0), .int .i64 ((rd_T30 l0 x18_1).f1)] 30 (0, 0)) (by (with_reducible repeat (first | refine blk_drewN ?_ _ | refine blk_drew ?_ | refine blk_alloc ?_ _)); exact BK273.out) NB273_271.out (by simp)); have n1_ := Aside0.mk (hb); have n2_ := Aside0.mk (hi); clear BK273; clear HB; clear HI271; have BK273 := n0_; have HB := n1_; have HI271 := n2_; clear n0_ n1_ n2_; (try clear hb); (try clear hb2); (try clear hk); (try clear hi)))
                                go_meet
                                case rel => exact ⟨_, ((t292 != 0)), (t292), (t293), (t294), (t295), (by first | rfl | (simp; done) | (simp [*]; done)), (by first | rfl | (simp; done) | (simp [*]; done)), H', ⟨by have := HK1.out; have := HJ27.out; first | omega | exact Nat.le_refl _⟩, ⟨by (with_reducible repeat (first | refine blk_drewN ?_ _ | refine blk_drew ?_ | refine blk_alloc ?_ _)); exact BK273.out⟩, ⟨by repeat (first | (with_reducible first | exact HI271.out | apply IsS26.alloc | apply IsS26.drewN | apply IsS26.drew | apply IsS26.set_0 | apply IsS26.set_1 | apply IsS26.set_2 | refine IsS26.far ?_ NB271_273.out _) | exact HI271.out)⟩, ⟨by repeat (first | (with_reducible first | exact HB.out | apply below_alloc | apply pw_below_drewN | apply below_drew1 | refine below_set ?_ (IsS26.ge HI271.out) | refine below_set ?_ GE273.out) | exact HB.out)⟩⟩
                              · replace c33 := Bool.eq_false_iff.mpr c33
                                subst c33
                                have H1 : (some false) = some r := by rw [if_neg (show ¬ (false = true) by decide)] at H; exact H
                                clear H
                                have H := H1
                                clear H1
                                obtain rfl := Option.some.inj H
                                go_wp2_with (first | ((with_reducible refine gate_callee (f := 10) rfl ?_); refine goesL_ (some 36) rfl rfl Try.func10 (by kernel_rfl) rfl #[.pointer (some ⟨gb271, 0, none⟩)] rfl (by (try simp only [List.map_toArray, List.map_cons, List.map_nil]); first | done | rfl | (simp only [List.length_drop, List.length_take]; rfl)) ?_; (with_reducible refine (lock_Lock_Send.calls gb271 t283 t284 t285 t292 t293 t294 t295 w _ ?side1 ?side2 A31.out).mono ?_); (case side1 => repeat (first | (with_reducible first | exact HI271.out | apply IsS26.alloc | apply IsS26.drewN | apply IsS26.drew | apply IsS26.set_0 | apply IsS26.set_1 | apply IsS26.set_2 | refine IsS26.far ?_ NB271_273.out _) | exact HI271.out)); (case side2 => repeat (first | (with_reducible first | exact HB.out | apply below_alloc | apply pw_below_drewN | apply below_drew1 | refine below_set ?_ (IsS26.ge HI271.out) | refine below_set ?_ GE273.out) | exact HB.out)); rintro e w35 ⟨rfl, hi, hb, hk⟩; refine ⟨_, rfl, ?_⟩; have n0_ := Aside0.mk (KeepBut.blk hk (g' := gb273) (o := .cells #[.int .i64 ((rd_T30 l0 x18_1).f0), .int .i64 ((rd_T30 l0 x18_1).f1)] 30 (0, 0)) (by (with_reducible repeat (first | refine blk_drewN ?_ _ | refine blk_drew ?_ | refine blk_alloc ?_ _)); exact BK273.out) NB273_271.out (by simp)); have n1_ := Aside0.mk (hb); have n2_ := Aside0.mk (hi); clear BK273; clear HB; clear HI271; have BK273 := n0_; have HB := n1_; have HI271 := n2_; clear n0_ n1_ n2_; (try clear hb); (try clear hb2); (try clear hk); (try clear hi)))
                                go_ret
                                exact ⟨by first | rfl | (simp [errW_none, errW_some] <;> rfl) | (simp [*, errW_none, errW_some] <;> rfl), by repeat (first | (with_reducible first | exact HB.out | apply below_alloc | apply pw_below_drewN | apply below_drew1 | refine below_set ?_ (IsS26.ge HI271.out) | refine below_set ?_ GE273.out) | exact HB.out)⟩
                            · rw [if_neg c32] at H
                              have c32b0 : (t292 == 0) = false := beq_eq_false_iff_ne.mpr c32
                              have c32b1 : (t292 != 0) = true := bne_iff_ne.mpr c32
                              by_cases c36 : x4_1 = true
                              · subst c36
                                have H1 : (greenscreenlaw21_LockSends.j2 kj27 (t292 != 0) t274 t278 t282 t292 l0 (l0.length : Int) x18_1 t293 t294 t295 ((rd_T30 l0 x18_1).f0) ((rd_T30 l0 x18_1).f1)) = some r := by rw [if_pos rfl] at H; exact H
                                clear H
                                have H := H1
                                clear H1
                                have H' := Aside0.mk H
                                clear H
                                go_wp2_with (first | ((with_reducible refine gate_callee (f := 10) rfl ?_); refine goesL_ (some 36) rfl rfl Try.func10 (by kernel_rfl) rfl #[.pointer (some ⟨gb271, 0, none⟩)] rfl (by (try simp only [List.map_toArray, List.map_cons, List.map_nil]); first | done | rfl | (simp only [List.length_drop, List.length_take]; rfl)) ?_; (with_reducible refine (lock_Lock_Send.calls gb271 t283 t284 t285 t292 t293 t294 t295 w _ ?side1 ?side2 A31.out).mono ?_); (case side1 => repeat (first | (with_reducible first | exact HI271.out | apply IsS26.alloc | apply IsS26.drewN | apply IsS26.drew | apply IsS26.set_0 | apply IsS26.set_1 | apply IsS26.set_2 | refine IsS26.far ?_ NB271_273.out _) | exact HI271.out)); (case side2 => repeat (first | (with_reducible first | exact HB.out | apply below_alloc | apply pw_below_drewN | apply below_drew1 | refine below_set ?_ (IsS26.ge HI271.out) | refine below_set ?_ GE273.out) | exact HB.out)); rintro e w37 ⟨rfl, hi, hb, hk⟩; refine ⟨_, rfl, ?_⟩; have n0_ := Aside0.mk (KeepBut.blk hk (g' := gb273) (o := .cells #[.int .i64 ((rd_T30 l0 x18_1).f0), .int .i64 ((rd_T30 l0 x18_1).f1)] 30 (0, 0)) (by (with_reducible repeat (first | refine blk_drewN ?_ _ | refine blk_drew ?_ | refine blk_alloc ?_ _)); exact BK273.out) NB273_271.out (by simp)); have n1_ := Aside0.mk (hb); have n2_ := Aside0.mk (hi); clear BK273; clear HB; clear HI271; have BK273 := n0_; have HB := n1_; have HI271 := n2_; clear n0_ n1_ n2_; (try clear hb); (try clear hb2); (try clear hk); (try clear hi)))
                                go_meet
                                case rel => exact ⟨_, ((t292 != 0)), (t292), (t293), (t294), (t295), (by first | rfl | (simp; done) | (simp [*]; done)), (by first | rfl | (simp; done) | (simp [*]; done)), H', ⟨by have := HK1.out; have := HJ27.out; first | omega | exact Nat.le_refl _⟩, ⟨by (with_reducible repeat (first | refine blk_drewN ?_ _ | refine blk_drew ?_ | refine blk_alloc ?_ _)); exact BK273.out⟩, ⟨by repeat (first | (with_reducible first | exact HI271.out | apply IsS26.alloc | apply IsS26.drewN | apply IsS26.drew | apply IsS26.set_0 | apply IsS26.set_1 | apply IsS26.set_2 | refine IsS26.far ?_ NB271_273.out _) | exact HI271.out)⟩, ⟨by repeat (first | (with_reducible first | exact HB.out | apply below_alloc | apply pw_below_drewN | apply below_drew1 | refine below_set ?_ (IsS26.ge HI271.out) | refine below_set ?_ GE273.out) | exact HB.out)⟩⟩
                              · replace c36 := Bool.eq_false_iff.mpr c36
                                subst c36
                                have H1 : (greenscreenlaw21_LockSends.j2 kj27 false t274 t278 t282 t292 l0 (l0.length : Int) x18_1 t293 t294 t295 ((rd_T30 l0 x18_1).f0) ((rd_T30 l0 x18_1).f1)) = some r := by rw [if_neg (show ¬ (false = true) by decide)] at H; exact H
                                clear H
                                have H := H1
                                clear H1
                                have H' := Aside0.mk H
                                clear H
                                go_wp2_with (first | ((with_reducible refine gate_callee (f := 10) rfl ?_); refine goesL_ (some 36) rfl rfl Try.func10 (by kernel_rfl) rfl #[.pointer (some ⟨gb271, 0, none⟩)] rfl (by (try simp only [List.map_toArray, List.map_cons, List.map_nil]); first | done | rfl | (simp only [List.length_drop, List.length_take]; rfl)) ?_; (with_reducible refine (lock_Lock_Send.calls gb271 t283 t284 t285 t292 t293 t294 t295 w _ ?side1 ?side2 A31.out).mono ?_); (case side1 => repeat (first | (with_reducible first | exact HI271.out | apply IsS26.alloc | apply IsS26.drewN | apply IsS26.drew | apply IsS26.set_0 | apply IsS26.set_1 | apply IsS26.set_2 | refine IsS26.far ?_ NB271_273.out _) | exact HI271.out)); (case side2 => repeat (first | (with_reducible first | exact HB.out | apply below_alloc | apply pw_below_drewN | apply below_drew1 | refine below_set ?_ (IsS26.ge HI271.out) | refine below_set ?_ GE273.out) | exact HB.out)); rintro e w38 ⟨rfl, hi, hb, hk⟩; refine ⟨_, rfl, ?_⟩; have n0_ := Aside0.mk (KeepBut.blk hk (g' := gb273) (o := .cells #[.int .i64 ((rd_T30 l0 x18_1).f0), .int .i64 ((rd_T30 l0 x18_1).f1)] 30 (0, 0)) (by (with_reducible repeat (first | refine blk_drewN ?_ _ | refine blk_drew ?_ | refine blk_alloc ?_ _)); exact BK273.out) NB273_271.out (by simp)); have n1_ := Aside0.mk (hb); have n2_ := Aside0.mk (hi); clear BK273; clear HB; clear HI271; have BK273 := n0_; have HB := n1_; have HI271 := n2_; clear n0_ n1_ n2_; (try clear hb); (try clear hb2); (try clear hk); (try clear hi)))
                                go_meet
                                case rel => exact ⟨_, (false), (t292), (t293), (t294), (t295), (by first | rfl | (simp; done) | (simp [*]; done)), (by first | rfl | (simp; done) | (simp [*]; done)), H', ⟨by have := HK1.out; have := HJ27.out; first | omega | exact Nat.le_refl _⟩, ⟨by (with_reducible repeat (first | refine blk_drewN ?_ _ | refine blk_drew ?_ | refine blk_alloc ?_ _)); exact BK273.out⟩, ⟨by repeat (first | (with_reducible first | exact HI271.out | apply IsS26.alloc | apply IsS26.drewN | apply IsS26.drew | apply IsS26.set_0 | apply IsS26.set_1 | apply IsS26.set_2 | refine IsS26.far ?_ NB271_273.out _) | exact HI271.out)⟩, ⟨by repeat (first | (with_reducible first | exact HB.out | apply below_alloc | apply pw_below_drewN | apply below_drew1 | refine below_set ?_ (IsS26.ge HI271.out) | refine below_set ?_ GE273.out) | exact HB.out)⟩⟩
                          · replace c30 := Bool.eq_false_iff.mpr c30
                            subst c30
                            have H1 : (if ((rd_T30 l0 x18_1).f0) = 4 then ((lock_Lock_Fail.f t283 t284 t285 ((rd_T30 l0 x18_1).f1)).bind fun bt296 => (greenscreenlaw21_LockSends.j2 kj27 x4_1 t274 t278 t282 bt296.1 l0 (l0.length : Int) x18_1 bt296.2.1 bt296.2.2.1 bt296.2.2.2 ((rd_T30 l0 x18_1).f0) ((rd_T30 l0 x18_1).f1))) else (if ((rd_T30 l0 x18_1).f0) = 5 then ((lock_Lock_Reset.f t283 t284 t285).bind fun bt300 => (greenscreenlaw21_LockSends.j2 kj27 x4_1 t274 t278 t282 0 l0 (l0.length : Int) x18_1 bt300.2.1 bt300.2.2.1 bt300.2.2.2 ((rd_T30 l0 x18_1).f0) ((rd_T30 l0 x18_1).f1))) else (if ((rd_T30 l0 x18_1).f0) = 6 then ((lock_Lock_Restore.f t283 t284 t285).bind fun bt304 => (if bt304.1 = true then (greenscreenlaw21_LockSends.j2 kj27 true t274 t278 t282 0 l0 (l0.length : Int) x18_1 bt304.2.1 bt304.2.2.1 bt304.2.2.2 ((rd_T30 l0 x18_1).f0) ((rd_T30 l0 x18_1).f1)) else (greenscreenlaw21_LockSends.j2 kj27 x4_1 t274 t278 t282 0 l0 (l0.length : Int) x18_1 bt304.2.1 bt304.2.2.1 bt304.2.2.2 ((rd_T30 l0 x18_1).f0) ((rd_T30 l0 x18_1).f1)))) else (greenscreenlaw21_LockSends.j2 kj27 x4_1 t274 t278 t282 0 l0 (l0.length : Int) x18_1 t283 t284 t285 ((rd_T30 l0 x18_1).f0) ((rd_T30 l0 x18_1).f1))))) = some r := by rw [if_neg (show ¬ (false = true) by decide)] at H; exact H
                            clear H
                            have H := H1
                            clear H1
                            by_cases c39 : ((rd_T30 l0 x18_1).f0) = 4
                            · rw [if_pos c39] at H
                              have c39b0 : (((rd_T30 l0 x18_1).f0) == 4) = true := beq_iff_eq.mpr c39
                              have c39b1 : (((rd_T30 l0 x18_1).f0) != 4) = false := bne_eq_false_iff_eq.mpr c39
                              clear c39
                              replace H := Option.bind_eq_some_iff.mp H
                              obtain ⟨⟨t296, t297, t298, t299⟩, A400, H⟩ := H
                              replace H : (greenscreenlaw21_LockSends.j2 kj27 x4_1 t274 t278 t282 t296 l0 (l0.length : Int) x18_1 t297 t298 t299 ((rd_T30 l0 x18_1).f0) ((rd_T30 l0 x18_1).f1)) = some r := H
                              have A40 := Aside0.mk A400
                              clear A400
                              have H' := Aside0.mk H
                              clear H
                              have hnb41 := NB273_271.out
                              have hnc41 := NB271_273.out
                              have hcz42_0 : wc.cell? ⟨gb273, 0, none⟩ = some (.int .i64 ((rd_T30 l0 x18_1).f0)) := (blk_cell BK273.out 0).trans rfl
                              have hcz42_1 : wc.cell? ⟨gb273, 1, none⟩ = some (.int .i64 ((rd_T30 l0 x18_1).f1)) := (blk_cell BK273.out 1).trans rfl
                              have hfz42_0 := blk_frozen BK273.out 0
                              have hfz42_1 := blk_frozen BK273.out 1
                              go_wp2_with (first | ((with_reducible refine gate_callee (f := 11) rfl ?_); refine goesL_ (some 52) rfl rfl Try.func11 (by kernel_rfl) rfl #[.pointer (some ⟨gb271, 0, none⟩), .int .i64 ((rd_T30 l0 x18_1).f1)] rfl (by (try simp only [List.map_toArray, List.map_cons, List.map_nil]); first | done | rfl | (simp only [List.length_drop, List.length_take]; rfl)) ?_; (with_reducible refine (lock_Lock_Fail.calls gb271 t283 t284 t285 ((rd_T30 l0 x18_1).f1) t296 t297 t298 t299 w _ ?side1 ?side2 A40.out).mono ?_); (case side1 => repeat (first | (with_reducible first | exact HI271.out | apply IsS26.alloc | apply IsS26.drewN | apply IsS26.drew | apply IsS26.set_0 | apply IsS26.set_1 | apply IsS26.set_2 | refine IsS26.far ?_ NB271_273.out _) | exact HI271.out)); (case side2 => repeat (first | (with_reducible first | exact HB.out | apply below_alloc | apply pw_below_drewN | apply below_drew1 | refine below_set ?_ (IsS26.ge HI271.out) | refine below_set ?_ GE273.out) | exact HB.out)); rintro e w43 ⟨rfl, hi, hb, hk⟩; refine ⟨_, rfl, ?_⟩; have n0_ := Aside0.mk (KeepBut.blk hk (g' := gb273) (o := .cells #[.int .i64 ((rd_T30 l0 x18_1).f0), .int .i64 ((rd_T30 l0 x18_1).f1)] 30 (0, 0)) (by (with_reducible repeat (first | refine blk_drewN ?_ _ | refine blk_drew ?_ | refine blk_alloc ?_ _)); exact BK273.out) NB273_271.out (by simp)); have n1_ := Aside0.mk (hb); have n2_ := Aside0.mk (hi); clear BK273; clear HB; clear HI271; have BK273 := n0_; have HB := n1_; have HI271 := n2_; clear n0_ n1_ n2_; (try clear hb); (try clear hb2); (try clear hk); (try clear hi)))
                              go_meet
                              case rel => exact ⟨_, (x4_1), (t296), (t297), (t298), (t299), (by first | rfl | (simp; done) | (simp [*]; done)), (by first | rfl | (simp; done) | (simp [*]; done)), H', ⟨by have := HK1.out; have := HJ27.out; first | omega | exact Nat.le_refl _⟩, ⟨by (with_reducible repeat (first | refine blk_drewN ?_ _ | refine blk_drew ?_ | refine blk_alloc ?_ _)); exact BK273.out⟩, ⟨by repeat (first | (with_reducible first | exact HI271.out | apply IsS26.alloc | apply IsS26.drewN | apply IsS26.drew | apply IsS26.set_0 | apply IsS26.set_1 | apply IsS26.set_2 | refine IsS26.far ?_ NB271_273.out _) | exact HI271.out)⟩, ⟨by repeat (first | (with_reducible first | exact HB.out | apply below_alloc | apply pw_below_drewN | apply below_drew1 | refine below_set ?_ (IsS26.ge HI271.out) | refine below_set ?_ GE273.out) | exact HB.out)⟩⟩
                            · rw [if_neg c39] at H
                              have c39b0 : (((rd_T30 l0 x18_1).f0) == 4) = false := beq_eq_false_iff_ne.mpr c39
                              have c39b1 : (((rd_T30 l0 x18_1).f0) != 4) = true := bne_iff_ne.mpr c39
                              by_cases c44 : ((rd_T30 l0 x18_1).f0) = 5
                              · rw [if_pos c44] at H
                                have c44b0 : (((rd_T30 l0 x18_1).f0) == 5) = true := beq_iff_eq.mpr c44
                                have c44b1 : (((rd_T30 l0 x18_1).f0) != 5) = false := bne_eq_false_iff_eq.mpr c44
                                clear c44
                                replace H := Option.bind_eq_some_iff.mp H
                                obtain ⟨⟨t300, t301, t302, t303⟩, A450, H⟩ := H
                                replace H : (greenscreenlaw21_LockSends.j2 kj27 x4_1 t274 t278 t282 0 l0 (l0.length : Int) x18_1 t301 t302 t303 ((rd_T30 l0 x18_1).f0) ((rd_T30 l0 x18_1).f1)) = some r := H
                                have A45 := Aside0.mk A450
                                clear A450
                                have H' := Aside0.mk H
                                clear H
                                go_wp2_with (first | ((with_reducible refine gate_callee (f := 13) rfl ?_); refine goesL_ (some 55) rfl rfl Try.func13 (by kernel_rfl) rfl #[.pointer (some ⟨gb271, 0, none⟩)] rfl (by (try simp only [List.map_toArray, List.map_cons, List.map_nil]); first | done | rfl | (simp only [List.length_drop, List.length_take]; rfl)) ?_; (with_reducible refine (lock_Lock_Reset.calls gb271 t283 t284 t285 t300 t301 t302 t303 w _ ?side1 ?side2 A45.out).mono ?_); (case side1 => repeat (first | (with_reducible first | exact HI271.out | apply IsS26.alloc | apply IsS26.drewN | apply IsS26.drew | apply IsS26.set_0 | apply IsS26.set_1 | apply IsS26.set_2 | refine IsS26.far ?_ NB271_273.out _) | exact HI271.out)); (case side2 => repeat (first | (with_reducible first | exact HB.out | apply below_alloc | apply pw_below_drewN | apply below_drew1 | refine below_set ?_ (IsS26.ge HI271.out) | refine below_set ?_ GE273.out) | exact HB.out)); rintro e w46 ⟨rfl, hi, hb, hk⟩; refine ⟨_, rfl, ?_⟩; have n0_ := Aside0.mk (KeepBut.blk hk (g' := gb273) (o := .cells #[.int .i64 ((rd_T30 l0 x18_1).f0), .int .i64 ((rd_T30 l0 x18_1).f1)] 30 (0, 0)) (by (with_reducible repeat (first | refine blk_drewN ?_ _ | refine blk_drew ?_ | refine blk_alloc ?_ _)); exact BK273.out) NB273_271.out (by simp)); have n1_ := Aside0.mk (hb); have n2_ := Aside0.mk (hi); clear BK273; clear HB; clear HI271; have BK273 := n0_; have HB := n1_; have HI271 := n2_; clear n0_ n1_ n2_; (try clear hb); (try clear hb2); (try clear hk); (try clear hi)))
                                go_meet
                                case rel => exact ⟨_, (x4_1), (0), (t301), (t302), (t303), (by first | rfl | (simp; done) | (simp [*]; done)), (by first | rfl | (simp; done) | (simp [*]; done)), H', ⟨by have := HK1.out; have := HJ27.out; first | omega | exact Nat.le_refl _⟩, ⟨by (with_reducible repeat (first | refine blk_drewN ?_ _ | refine blk_drew ?_ | refine blk_alloc ?_ _)); exact BK273.out⟩, ⟨by repeat (first | (with_reducible first | exact HI271.out | apply IsS26.alloc | apply IsS26.drewN | apply IsS26.drew | apply IsS26.set_0 | apply IsS26.set_1 | apply IsS26.set_2 | refine IsS26.far ?_ NB271_273.out _) | exact HI271.out)⟩, ⟨by repeat (first | (with_reducible first | exact HB.out | apply below_alloc | apply pw_below_drewN | apply below_drew1 | refine below_set ?_ (IsS26.ge HI271.out) | refine below_set ?_ GE273.out) | exact HB.out)⟩⟩
                              · rw [if_neg c44] at H
                                have c44b0 : (((rd_T30 l0 x18_1).f0) == 5) = false := beq_eq_false_iff_ne.mpr c44
                                have c44b1 : (((rd_T30 l0 x18_1).f0) != 5) = true := bne_iff_ne.mpr c44
                                by_cases c47 : ((rd_T30 l0 x18_1).f0) = 6
                                · rw [if_pos c47] at H
                                  have c47b0 : (((rd_T30 l0 x18_1).f0) == 6) = true := beq_iff_eq.mpr c47
                                  have c47b1 : (((rd_T30 l0 x18_1).f0) != 6) = false := bne_eq_false_iff_eq.mpr c47
                                  clear c47
                                  replace H := Option.bind_eq_some_iff.mp H
                                  obtain ⟨⟨t304, t305, t306, t307⟩, A480, H⟩ := H
                                  replace H : (if t304 = true then (greenscreenlaw21_LockSends.j2 kj27 true t274 t278 t282 0 l0 (l0.length : Int) x18_1 t305 t306 t307 ((rd_T30 l0 x18_1).f0) ((rd_T30 l0 x18_1).f1)) else (greenscreenlaw21_LockSends.j2 kj27 x4_1 t274 t278 t282 0 l0 (l0.length : Int) x18_1 t305 t306 t307 ((rd_T30 l0 x18_1).f0) ((rd_T30 l0 x18_1).f1))) = some r := H
                                  have A48 := Aside0.mk A480
                                  clear A480
                                  by_cases c49 : t304 = true
                                  · subst c49
                                    have H1 : (greenscreenlaw21_LockSends.j2 kj27 true t274 t278 t282 0 l0 (l0.length : Int) x18_1 t305 t306 t307 ((rd_T30 l0 x18_1).f0) ((rd_T30 l0 x18_1).f1)) = some r := by rw [if_pos rfl] at H; exact H
                                    clear H
                                    have H := H1
                                    clear H1
                                    have H' := Aside0.mk H
                                    clear H
                                    go_wp2_with (first | ((with_reducible refine gate_callee (f := 14) rfl ?_); refine goesL_ (some 58) rfl rfl Try.func14 (by kernel_rfl) rfl #[.pointer (some ⟨gb271, 0, none⟩)] rfl (by (try simp only [List.map_toArray, List.map_cons, List.map_nil]); first | done | rfl | (simp only [List.length_drop, List.length_take]; rfl)) ?_; (with_reducible refine (lock_Lock_Restore.calls gb271 t283 t284 t285 true t305 t306 t307 w _ ?side1 ?side2 A48.out).mono ?_); (case side1 => repeat (first | (with_reducible first | exact HI271.out | apply IsS26.alloc | apply IsS26.drewN | apply IsS26.drew | apply IsS26.set_0 | apply IsS26.set_1 | apply IsS26.set_2 | refine IsS26.far ?_ NB271_273.out _) | exact HI271.out)); (case side2 => repeat (first | (with_reducible first | exact HB.out | apply below_alloc | apply pw_below_drewN | apply below_drew1 | refine below_set ?_ (IsS26.ge HI271.out) | refine below_set ?_ GE273.out) | exact HB.out)); rintro e w50 ⟨rfl, hi, hb, hk⟩; refine ⟨_, rfl, ?_⟩; have n0_ := Aside0.mk (KeepBut.blk hk (g' := gb273) (o := .cells #[.int .i64 ((rd_T30 l0 x18_1).f0), .int .i64 ((rd_T30 l0 x18_1).f1)] 30 (0, 0)) (by (with_reducible repeat (first | refine blk_drewN ?_ _ | refine blk_drew ?_ | refine blk_alloc ?_ _)); exact BK273.out) NB273_271.out (by simp)); have n1_ := Aside0.mk (hb); have n2_ := Aside0.mk (hi); clear BK273; clear HB; clear HI271; have BK273 := n0_; have HB := n1_; have HI271 := n2_; clear n0_ n1_ n2_; (try clear hb); (try clear hb2); (try clear hk); (try clear hi)))
                                    go_meet
                                    case rel => exact ⟨_, (true), (0), (t305), (t306), (t307), (by first | rfl | (simp; done) | (simp [*]; done)), (by first | rfl | (simp; done) | (simp [*]; done)), H', ⟨by have := HK1.out; have := HJ27.out; first | omega | exact Nat.le_refl _⟩, ⟨by (with_reducible repeat (first | refine blk_drewN ?_ _ | refine blk_drew ?_ | refine blk_alloc ?_ _)); exact BK273.out⟩, ⟨by repeat (first | (with_reducible first | exact HI271.out | apply IsS26.alloc | apply IsS26.drewN | apply IsS26.drew | apply IsS26.set_0 | apply IsS26.set_1 | apply IsS26.set_2 | refine IsS26.far ?_ NB271_273.out _) | exact HI271.out)⟩, ⟨by repeat (first | (with_reducible first | exact HB.out | apply below_alloc | apply pw_below_drewN | apply below_drew1 | refine below_set ?_ (IsS26.ge HI271.out) | refine below_set ?_ GE273.out) | exact HB.out)⟩⟩
                                  · replace c49 := Bool.eq_false_iff.mpr c49
                                    subst c49
                                    have H1 : (greenscreenlaw21_LockSends.j2 kj27 x4_1 t274 t278 t282 0 l0 (l0.length : Int) x18_1 t305 t306 t307 ((rd_T30 l0 x18_1).f0) ((rd_T30 l0 x18_1).f1)) = some r := by rw [if_neg (show ¬ (false = true) by decide)] at H; exact H
                                    clear H
                                    have H := H1
                                    clear H1
                                    have H' := Aside0.mk H
                                    clear H
                                    go_wp2_with (first | ((with_reducible refine gate_callee (f := 14) rfl ?_); refine goesL_ (some 58) rfl rfl Try.func14 (by kernel_rfl) rfl #[.pointer (some ⟨gb271, 0, none⟩)] rfl (by (try simp only [List.map_toArray, List.map_cons, List.map_nil]); first | done | rfl | (simp only [List.length_drop, List.length_take]; rfl)) ?_; (with_reducible refine (lock_Lock_Restore.calls gb271 t283 t284 t285 false t305 t306 t307 w _ ?side1 ?side2 A48.out).mono ?_); (case side1 => repeat (first | (with_reducible first | exact HI271.out | apply IsS26.alloc | apply IsS26.drewN | apply IsS26.drew | apply IsS26.set_0 | apply IsS26.set_1 | apply IsS26.set_2 | refine IsS26.far ?_ NB271_273.out _) | exact HI271.out)); (case side2 => repeat (first | (with_reducible first | exact HB.out | apply below_alloc | apply pw_below_drewN | apply below_drew1 | refine below_set ?_ (IsS26.ge HI271.out) | refine below_set ?_ GE273.out) | exact HB.out)); rintro e w51 ⟨rfl, hi, hb, hk⟩; refine ⟨_, rfl, ?_⟩; have n0_ := Aside0.mk (KeepBut.blk hk (g' := gb273) (o := .cells #[.int .i64 ((rd_T30 l0 x18_1).f0), .int .i64 ((rd_T30 l0 x18_1).f1)] 30 (0, 0)) (by (with_reducible repeat (first | refine blk_drewN ?_ _ | refine blk_drew ?_ | refine blk_alloc ?_ _)); exact BK273.out) NB273_271.out (by simp)); have n1_ := Aside0.mk (hb); have n2_ := Aside0.mk (hi); clear BK273; clear HB; clear HI271; have BK273 := n0_; have HB := n1_; have HI271 := n2_; clear n0_ n1_ n2_; (try clear hb); (try clear hb2); (try clear hk); (try clear hi)))
                                    go_meet
                                    case rel => exact ⟨_, (x4_1), (0), (t305), (t306), (t307), (by first | rfl | (simp; done) | (simp [*]; done)), (by first | rfl | (simp; done) | (simp [*]; done)), H', ⟨by have := HK1.out; have := HJ27.out; first | omega | exact Nat.le_refl _⟩, ⟨by (with_reducible repeat (first | refine blk_drewN ?_ _ | refine blk_drew ?_ | refine blk_alloc ?_ _)); exact BK273.out⟩, ⟨by repeat (first | (with_reducible first | exact HI271.out | apply IsS26.alloc | apply IsS26.drewN | apply IsS26.drew | apply IsS26.set_0 | apply IsS26.set_1 | apply IsS26.set_2 | refine IsS26.far ?_ NB271_273.out _) | exact HI271.out)⟩, ⟨by repeat (first | (with_reducible first | exact HB.out | apply below_alloc | apply pw_below_drewN | apply below_drew1 | refine below_set ?_ (IsS26.ge HI271.out) | refine below_set ?_ GE273.out) | exact HB.out)⟩⟩
                                · rw [if_neg c47] at H
                                  have c47b0 : (((rd_T30 l0 x18_1).f0) == 6) = false := beq_eq_false_iff_ne.mpr c47
                                  have c47b1 : (((rd_T30 l0 x18_1).f0) != 6) = true := bne_iff_ne.mpr c47
                                  have H' := Aside0.mk H
                                  clear H
                                  go_wp2
                                  go_meet
                                  case rel => exact ⟨_, (x4_1), (0), (t283), (t284), (t285), (by first | rfl | (simp; done) | (simp [*]; done)), (by first | rfl | (simp; done) | (simp [*]; done)), H', ⟨by have := HK1.out; have := HJ27.out; first | omega | exact Nat.le_refl _⟩, ⟨by (with_reducible repeat (first | refine blk_drewN ?_ _ | refine blk_drew ?_ | refine blk_alloc ?_ _)); exact BK273.out⟩, ⟨by repeat (first | (with_reducible first | exact HI271.out | apply IsS26.alloc | apply IsS26.drewN | apply IsS26.drew | apply IsS26.set_0 | apply IsS26.set_1 | apply IsS26.set_2 | refine IsS26.far ?_ NB271_273.out _) | exact HI271.out)⟩, ⟨by repeat (first | (with_reducible first | exact HB.out | apply below_alloc | apply pw_below_drewN | apply below_drew1 | refine below_set ?_ (IsS26.ge HI271.out) | refine below_set ?_ GE273.out) | exact HB.out)⟩⟩
                case rest =>
                  clear HC14
                  try clear c1
                  try clear c2
                  try clear p2
                  try clear q2
                  try clear hx2
                  try clear c3
                  try clear c4
                  try clear c4b0
                  try clear c4b1
                  try clear c6
                  try clear c7
                  try clear c8
                  try clear c8b0
                  try clear c9
                  try clear c9b0
                  try clear c10
                  try clear c10b0
                  try clear c11
                  try clear c13
                  try clear c14
                  try clear c15
                  try clear c16
                  try clear c17
                  try clear c22
                  try clear c22b0
                  try clear c22b1
                  try clear c25
                  try clear c25b0
                  try clear c25b1
                  try clear p27
                  try clear q27
                  try clear hx27
                  try clear c29
                  try clear c29b0
                  try clear c29b1
                  try clear c30
                  try clear c32
                  try clear c32b0
                  try clear c32b1
                  try clear c33
                  try clear c36
                  try clear c39
                  try clear c39b0
                  try clear c39b1
                  try clear c41
                  try clear c44
                  try clear c44b0
                  try clear c44b1
                  try clear c47
                  try clear c47b0
                  try clear c47b1
                  try clear c49
                  try clear hcz17_0
                  try clear hcz17_1
                  try clear hcz21_0
                  try clear hcz21_1
                  try clear hcz42_0
                  try clear hcz42_1
                  try clear hfz17_0
                  try clear hfz17_1
                  try clear hfz21_0
                  try clear hfz21_1
                  try clear hfz42_0
                  try clear hfz42_1
                  try clear hx272_0
                  try clear hx272_1
                  try clear p2
                  try clear p27
                  try clear p272
                  try clear q2
                  try clear q27
                  try clear q272
                  obtain ⟨kq, x4_13, x10_13, x272000_13, x272001_13, x272002_13, rfl, rfl, HA, HJ13, BK273, HI271, HB⟩ := hcut
                  cases kq with
                  | zero => exact absurd HA.out (by simp [greenscreenlaw21_LockSends.j2])
                  | succ kj13 =>
                    have H := HA.out
                    clear HA
                    simp only [greenscreenlaw21_LockSends.j2] at H
                    by_cases c52 : ((rd_T30 l0 x18_1).f0) = 4
                    · rw [if_pos c52] at H
                      have c52b0 : (((rd_T30 l0 x18_1).f0) == 4) = true := beq_iff_eq.mpr c52
                      have c52b1 : (((rd_T30 l0 x18_1).f0) != 4) = false := bne_eq_false_iff_eq.mpr c52
                      clear c52
                      replace H := Option.bind_eq_some_iff.mp H
                      obtain ⟨⟨t308, t309, t310, t311⟩, A530, H⟩ := H
                      replace H : (if t308 < t282 then (some false) else ((lock_Lock_Turns.f t309 t310 t311).bind fun bt312 => (if bt312.1 > (wrap64 (t282 + 1)) then (some false) else (greenscreenlaw21_LockSends.l0 kj13 x4_13 l0 (l0.length : Int) (wrap64 (x18_1 + 1)) bt312.2.1 bt312.2.2.1 bt312.2.2.2)))) = some r := H
                      have A53 := Aside0.mk A530
                      clear A530
                      by_cases c54 : t308 < t282
                      · rw [if_pos c54] at H
                        have c54b0 : decide (t308 < t282) = true := decide_eq_true c54
                        clear c54
                        obtain rfl := Option.some.inj H
                        have hnb55 := NB273_271.out
                        have hnc55 := NB271_273.out
                        have hcz56_0 : wc.cell? ⟨gb273, 0, none⟩ = some (.int .i64 ((rd_T30 l0 x18_1).f0)) := (blk_cell BK273.out 0).trans rfl
                        have hcz56_1 : wc.cell? ⟨gb273, 1, none⟩ = some (.int .i64 ((rd_T30 l0 x18_1).f1)) := (blk_cell BK273.out 1).trans rfl
                        have hfz56_0 := blk_frozen BK273.out 0
                        have hfz56_1 := blk_frozen BK273.out 1
                        go_wp2_with (first | (go_at_call 17; (with_reducible refine (lock_Lock_Turns.calls gb271 x272000_13 x272001_13 x272002_13 t308 t309 t310 t311 w _ ?side1 ?side2 A53.out).mono ?_); (case side1 => repeat (first | (with_reducible first | exact HI271.out | apply IsS26.alloc | apply IsS26.drewN | apply IsS26.drew | apply IsS26.set_0 | apply IsS26.set_1 | apply IsS26.set_2 | refine IsS26.far ?_ NB271_273.out _) | exact HI271.out)); (case side2 => repeat (first | (with_reducible first | exact HB.out | apply below_alloc | apply pw_below_drewN | apply below_drew1 | refine below_set ?_ (IsS26.ge HI271.out) | refine below_set ?_ GE273.out) | exact HB.out)); rintro e w57 ⟨rfl, hi, hb, hk⟩; have n0_ := Aside0.mk (KeepBut.blk hk (g' := gb273) (o := .cells #[.int .i64 ((rd_T30 l0 x18_1).f0), .int .i64 ((rd_T30 l0 x18_1).f1)] 30 (0, 0)) (by (with_reducible repeat (first | refine blk_drewN ?_ _ | refine blk_drew ?_ | refine blk_alloc ?_ _)); exact BK273.out) NB273_271.out (by simp)); have n1_ := Aside0.mk (hb); have n2_ := Aside0.mk (hi); clear BK273; clear HB; clear HI271; have BK273 := n0_; have HB := n1_; have HI271 := n2_; clear n0_ n1_ n2_; (try clear hb); (try clear hb2); (try clear hk); (try clear hi)))
                        go_ret
                        exact ⟨by first | rfl | (simp [errW_none, errW_some] <;> rfl) | (simp [*, errW_none, errW_some] <;> rfl), by repeat (first | (with_reducible first | exact HB.out | apply below_alloc | apply pw_below_drewN | apply below_drew1 | refine below_set ?_ (IsS26.ge HI271.out) | refine below_set ?_ GE273.out) | exact HB.out)⟩
                      · rw [if_neg c54] at H
                        have c54b0 : decide (t308 < t282) = false := decide_eq_false c54
                        clear c54
                        replace H := Option.bind_eq_some_iff.mp H
                        obtain ⟨⟨t312, t313, t314, t315⟩, A580, H⟩ := H
                        replace H : (if t312 > (wrap64 (t282 + 1)) then (some false) else (greenscreenlaw21_LockSends.l0 kj13 x4_13 l0 (l0.length : Int) (wrap64 (x18_1 + 1)) t313 t314 t315)) = some r := H
                        have A58 := Aside0.mk A580
                        clear A580
                        by_cases c59 : t312 > (wrap64 (t282 + 1))
                        · rw [if_pos c59] at H
                          have c59b0 : decide ((wrap64 (t282 + 1)) < t312) = true := decide_eq_true c59
                          clear c59
                          obtain rfl := Option.some.inj H
                          have hnb60 := NB273_271.out
                          have hnc60 := NB271_273.out
                          have hcz61_0 : wc.cell? ⟨gb273, 0, none⟩ = some (.int .i64 ((rd_T30 l0 x18_1).f0)) := (blk_cell BK273.out 0).trans rfl
                          have hcz61_1 : wc.cell? ⟨gb273, 1, none⟩ = some (.int .i64 ((rd_T30 l0 x18_1).f1)) := (blk_cell BK273.out 1).trans rfl
                          have hfz61_0 := blk_frozen BK273.out 0
                          have hfz61_1 := blk_frozen BK273.out 1
                          go_wp2_with (first | (go_at_call 17; (with_reducible refine (lock_Lock_Turns.calls gb271 x272000_13 x272001_13 x272002_13 t308 t309 t310 t311 w _ ?side1 ?side2 A53.out).mono ?_); (case side1 => repeat (first | (with_reducible first | exact HI271.out | apply IsS26.alloc | apply IsS26.drewN | apply IsS26.drew | apply IsS26.set_0 | apply IsS26.set_1 | apply IsS26.set_2 | refine IsS26.far ?_ NB271_273.out _) | exact HI271.out)); (case side2 => repeat (first | (with_reducible first | exact HB.out | apply below_alloc | apply pw_below_drewN | apply below_drew1 | refine below_set ?_ (IsS26.ge HI271.out) | refine below_set ?_ GE273.out) | exact HB.out)); rintro e w62 ⟨rfl, hi, hb, hk⟩; have n0_ := Aside0.mk (KeepBut.blk hk (g' := gb273) (o := .cells #[.int .i64 ((rd_T30 l0 x18_1).f0), .int .i64 ((rd_T30 l0 x18_1).f1)] 30 (0, 0)) (by (with_reducible repeat (first | refine blk_drewN ?_ _ | refine blk_drew ?_ | refine blk_alloc ?_ _)); exact BK273.out) NB273_271.out (by simp)); have n1_ := Aside0.mk (hb); have n2_ := Aside0.mk (hi); clear BK273; clear HB; clear HI271; have BK273 := n0_; have HB := n1_; have HI271 := n2_; clear n0_ n1_ n2_; (try clear hb); (try clear hb2); (try clear hk); (try clear hi)) | (go_at_call 17; (with_reducible refine (lock_Lock_Turns.calls gb271 t309 t310 t311 t312 t313 t314 t315 w _ ?side1 ?side2 A58.out).mono ?_); (case side1 => repeat (first | (with_reducible first | exact HI271.out | apply IsS26.alloc | apply IsS26.drewN | apply IsS26.drew | apply IsS26.set_0 | apply IsS26.set_1 | apply IsS26.set_2 | refine IsS26.far ?_ NB271_273.out _) | exact HI271.out)); (case side2 => repeat (first | (with_reducible first | exact HB.out | apply below_alloc | apply pw_below_drewN | apply below_drew1 | refine below_set ?_ (IsS26.ge HI271.out) | refine below_set ?_ GE273.out) | exact HB.out)); rintro e w63 ⟨rfl, hi, hb, hk⟩; have n0_ := Aside0.mk (KeepBut.blk hk (g' := gb273) (o := .cells #[.int .i64 ((rd_T30 l0 x18_1).f0), .int .i64 ((rd_T30 l0 x18_1).f1)] 30 (0, 0)) (by (with_reducible repeat (first | refine blk_drewN ?_ _ | refine blk_drew ?_ | refine blk_alloc ?_ _)); exact BK273.out) NB273_271.out (by simp)); have n1_ := Aside0.mk (hb); have n2_ := Aside0.mk (hi); clear BK273; clear HB; clear HI271; have BK273 := n0_; have HB := n1_; have HI271 := n2_; clear n0_ n1_ n2_; (try clear hb); (try clear hb2); (try clear hk); (try clear hi)))
                          go_ret
                          exact ⟨by first | rfl | (simp [errW_none, errW_some] <;> rfl) | (simp [*, errW_none, errW_some] <;> rfl), by repeat (first | (with_reducible first | exact HB.out | apply below_alloc | apply pw_below_drewN | apply below_drew1 | refine below_set ?_ (IsS26.ge HI271.out) | refine below_set ?_ GE273.out) | exact HB.out)⟩
                        · rw [if_neg c59] at H
                          have c59b0 : decide ((wrap64 (t282 + 1)) < t312) = false := decide_eq_false c59
                          clear c59
                          have H' := Aside0.mk H
                          clear H
                          have hnb64 := NB273_271.out
                          have hnc64 := NB271_273.out
                          have hcz65_0 : wc.cell? ⟨gb273, 0, none⟩ = some (.int .i64 ((rd_T30 l0 x18_1).f0)) := (blk_cell BK273.out 0).trans rfl
                          have hcz65_1 : wc.cell? ⟨gb273, 1, none⟩ = some (.int .i64 ((rd_T30 l0 x18_1).f1)) := (blk_cell BK273.out 1).trans rfl
                          have hfz65_0 := blk_frozen BK273.out 0
                          have hfz65_1 := blk_frozen BK273.out 1
                          go_wp2_with (first | (go_at_call 17; (with_reducible refine (lock_Lock_Turns.calls gb271 x272000_13 x272001_13 x272002_13 t308 t309 t310 t311 w _ ?side1 ?side2 A53.out).mono ?_); (case side1 => repeat (first | (with_reducible first | exact HI271.out | apply IsS26.alloc | apply IsS26.drewN | apply IsS26.drew | apply IsS26.set_0 | apply IsS26.set_1 | apply IsS26.set_2 | refine IsS26.far ?_ NB271_273.out _) | exact HI271.out)); (case side2 => repeat (first | (with_reducible first | exact HB.out | apply below_alloc | apply pw_below_drewN | apply below_drew1 | refine below_set ?_ (IsS26.ge HI271.out) | refine below_set ?_ GE273.out) | exact HB.out)); rintro e w66 ⟨rfl, hi, hb, hk⟩; have n0_ := Aside0.mk (KeepBut.blk hk (g' := gb273) (o := .cells #[.int .i64 ((rd_T30 l0 x18_1).f0), .int .i64 ((rd_T30 l0 x18_1).f1)] 30 (0, 0)) (by (with_reducible repeat (first | refine blk_drewN ?_ _ | refine blk_drew ?_ | refine blk_alloc ?_ _)); exact BK273.out) NB273_271.out (by simp)); have n1_ := Aside0.mk (hb); have n2_ := Aside0.mk (hi); clear BK273; clear HB; clear HI271; have BK273 := n0_; have HB := n1_; have HI271 := n2_; clear n0_ n1_ n2_; (try clear hb); (try clear hb2); (try clear hk); (try clear hi)) | (go_at_call 17; (with_reducible refine (lock_Lock_Turns.calls gb271 t309 t310 t311 t312 t313 t314 t315 w _ ?side1 ?side2 A58.out).mono ?_); (case side1 => repeat (first | (with_reducible first | exact HI271.out | apply IsS26.alloc | apply IsS26.drewN | apply IsS26.drew | apply IsS26.set_0 | apply IsS26.set_1 | apply IsS26.set_2 | refine IsS26.far ?_ NB271_273.out _) | exact HI271.out)); (case side2 => repeat (first | (with_reducible first | exact HB.out | apply below_alloc | apply pw_below_drewN | apply below_drew1 | refine below_set ?_ (IsS26.ge HI271.out) | refine below_set ?_ GE273.out) | exact HB.out)); rintro e w67 ⟨rfl, hi, hb, hk⟩; have n0_ := Aside0.mk (KeepBut.blk hk (g' := gb273) (o := .cells #[.int .i64 ((rd_T30 l0 x18_1).f0), .int .i64 ((rd_T30 l0 x18_1).f1)] 30 (0, 0)) (by (with_reducible repeat (first | refine blk_drewN ?_ _ | refine blk_drew ?_ | refine blk_alloc ?_ _)); exact BK273.out) NB273_271.out (by simp)); have n1_ := Aside0.mk (hb); have n2_ := Aside0.mk (hi); clear BK273; clear HB; clear HI271; have BK273 := n0_; have HB := n1_; have HI271 := n2_; clear n0_ n1_ n2_; (try clear hb); (try clear hb2); (try clear hk); (try clear hi)))
                          go_roundg kj13
                          case measure => have := HK1.out; have := HJ13.out; omega
                          case rel => exact ⟨(x4_13), (wrap64 (x18_1 + 1)), (t313), (t314), (t315), (by first | rfl | (simp; done) | (simp [*]; done)), (by first | rfl | (simp; done) | (simp [*]; done)), H', ⟨by have := HK1.out; have := HJ13.out; omega⟩, ⟨by repeat (first | (with_reducible first | exact HI271.out | apply IsS26.alloc | apply IsS26.drewN | apply IsS26.drew | apply IsS26.set_0 | apply IsS26.set_1 | apply IsS26.set_2 | refine IsS26.far ?_ NB271_273.out _) | exact HI271.out)⟩, ⟨by repeat (first | (with_reducible first | exact HB.out | apply below_alloc | apply pw_below_drewN | apply below_drew1 | refine below_set ?_ (IsS26.ge HI271.out) | refine below_set ?_ GE273.out) | exact HB.out)⟩⟩
                    · rw [if_neg c52] at H
                      have c52b0 : (((rd_T30 l0 x18_1).f0) == 4) = false := beq_eq_false_iff_ne.mpr c52
                      have c52b1 : (((rd_T30 l0 x18_1).f0) != 4) = true := bne_iff_ne.mpr c52
                      by_cases c68 : x10_13 = 40
                      · rw [if_pos c68] at H
                        have c68b0 : (x10_13 == 40) = true := beq_iff_eq.mpr c68
                        have c68b1 : (x10_13 != 40) = false := bne_eq_false_iff_eq.mpr c68
                        clear c68
                        replace H := Option.bind_eq_some_iff.mp H
                        obtain ⟨⟨t316, t317, t318, t319⟩, A690, H⟩ := H
                        replace H : (if t316 = t274 then ((lock_Lock_Why.f t317 t318 t319).bind fun bt320 => (if bt320.1 = t278 then ((lock_Lock_Turns.f bt320.2.1 bt320.2.2.1 bt320.2.2.2).bind fun bt324 => (if bt324.1 = t282 then ((lock_Lock_Turns.f bt324.2.1 bt324.2.2.1 bt324.2.2.2).bind fun bt328 => (if bt328.1 < t282 then (some false) else ((lock_Lock_Turns.f bt328.2.1 bt328.2.2.1 bt328.2.2.2).bind fun bt332 => (if bt332.1 > (wrap64 (t282 + 1)) then (some false) else (greenscreenlaw21_LockSends.l0 kj13 x4_13 l0 (l0.length : Int) (wrap64 (x18_1 + 1)) bt332.2.1 bt332.2.2.1 bt332.2.2.2))))) else (some false))) else (some false))) else (some false)) = some r := H
                        have A69 := Aside0.mk A690
                        clear A690
                        by_cases c70 : t316 = t274
                        · rw [if_pos c70] at H
                          have c70b0 : (t316 == t274) = true := beq_iff_eq.mpr c70
                          have c70b1 : (t316 != t274) = false := bne_eq_false_iff_eq.mpr c70
                          clear c70
                          replace H := Option.bind_eq_some_iff.mp H
                          obtain ⟨⟨t320, t321, t322, t323⟩, A710, H⟩ := H
                          replace H : (if t320 = t278 then ((lock_Lock_Turns.f t321 t322 t323).bind fun bt324 => (if bt324.1 = t282 then ((lock_Lock_Turns.f bt324.2.1 bt324.2.2.1 bt324.2.2.2).bind fun bt328 => (if bt328.1 < t282 then (some false) else ((lock_Lock_Turns.f bt328.2.1 bt328.2.2.1 bt328.2.2.2).bind fun bt332 => (if bt332.1 > (wrap64 (t282 + 1)) then (some false) else (greenscreenlaw21_LockSends.l0 kj13 x4_13 l0 (l0.length : Int) (wrap64 (x18_1 + 1)) bt332.2.1 bt332.2.2.1 bt332.2.2.2))))) else (some false))) else (some false)) = some r := H
                          have A71 := Aside0.mk A710
                          clear A710
                          by_cases c72 : t320 = t278
                          · rw [if_pos c72] at H
                            have c72b0 : (t320 == t278) = true := beq_iff_eq.mpr c72
                            have c72b1 : (t320 != t278) = false := bne_eq_false_iff_eq.mpr c72
                            clear c72
                            replace H := Option.bind_eq_some_iff.mp H
                            obtain ⟨⟨t324, t325, t326, t327⟩, A730, H⟩ := H
                            replace H : (if t324 = t282 then ((lock_Lock_Turns.f t325 t326 t327).bind fun bt328 => (if bt328.1 < t282 then (some false) else ((lock_Lock_Turns.f bt328.2.1 bt328.2.2.1 bt328.2.2.2).bind fun bt332 => (if bt332.1 > (wrap64 (t282 + 1)) then (some false) else (greenscreenlaw21_LockSends.l0 kj13 x4_13 l0 (l0.length : Int) (wrap64 (x18_1 + 1)) bt332.2.1 bt332.2.2.1 bt332.2.2.2))))) else (some false)) = some r := H
                            have A73 := Aside0.mk A730
                            clear A730
                            by_cases c74 : t324 = t282
                            · rw [if_pos c74] at H
                              have c74b0 : (t324 == t282) = true := beq_iff_eq.mpr c74
                              have c74b1 : (t324 != t282) = false := bne_eq_false_iff_eq.mpr c74
                              clear c74
                              replace H := Option.bind_eq_some_iff.mp H
                              obtain ⟨⟨t328, t329, t330, t331⟩, A750, H⟩ := H
                              replace H : (if t328 < t282 then (some false) else ((lock_Lock_Turns.f t329 t330 t331).bind fun bt332 => (if bt332.1 > (wrap64 (t282 + 1)) then (some false) else (greenscreenlaw21_LockSends.l0 kj13 x4_13 l0 (l0.length : Int) (wrap64 (x18_1 + 1)) bt332.2.1 bt332.2.2.1 bt332.2.2.2)))) = some r := H
                              have A75 := Aside0.mk A750
                              clear A750
                              by_cases c76 : t328 < t282
                              · rw [if_pos c76] at H
                                have c76b0 : decide (t328 < t282) = true := decide_eq_true c76
                                clear c76
                                obtain rfl := Option.some.inj H
                                have hnb77 := NB273_271.out
                                have hnc77 := NB271_273.out
                                have hcz78_0 : wc.cell? ⟨gb273, 0, none⟩ = some (.int .i64 ((rd_T30 l0 x18_1).f0)) := (blk_cell BK273.out 0).trans rfl
                                have hcz78_1 : wc.cell? ⟨gb273, 1, none⟩ = some (.int .i64 ((rd_T30 l0 x18_1).f1)) := (blk_cell BK273.out 1).trans rfl
                                have hfz78_0 := blk_frozen BK273.out 0
                                have hfz78_1 := blk_frozen BK273.out 1
                                go_wp2_with (first | (go_at_call 15; (with_reducible refine (lock_Lock_State.calls gb271 x272000_13 x272001_13 x272002_13 t316 t317 t318 t319 w _ ?side1 ?side2 A69.out).mono ?_); (case side1 => repeat (first | (with_reducible first | exact HI271.out | apply IsS26.alloc | apply IsS26.drewN | apply IsS26.drew | apply IsS26.set_0 | apply IsS26.set_1 | apply IsS26.set_2 | refine IsS26.far ?_ NB271_273.out _) | exact HI271.out)); (case side2 => repeat (first | (with_reducible first | exact HB.out | apply below_alloc | apply pw_below_drewN | apply below_drew1 | refine below_set ?_ (IsS26.ge HI271.out) | refine below_set ?_ GE273.out) | exact HB.out)); rintro e w79 ⟨rfl, hi, hb, hk⟩; have n0_ := Aside0.mk (KeepBut.blk hk (g' := gb273) (o := .cells #[.int .i64 ((rd_T30 l0 x18_1).f0), .int .i64 ((rd_T30 l0 x18_1).f1)] 30 (0, 0)) (by (with_reducible repeat (first | refine blk_drewN ?_ _ | refine blk_drew ?_ | refine blk_alloc ?_ _)); exact BK273.out) NB273_271.out (by simp)); have n1_ := Aside0.mk (hb); have n2_ := Aside0.mk (hi); clear BK273; clear HB; clear HI271; have BK273 := n0_; have HB := n1_; have HI271 := n2_; clear n0_ n1_ n2_; (try clear hb); (try clear hb2); (try clear hk); (try clear hi)) | (go_at_call 16; (with_reducible refine (lock_Lock_Why.calls gb271 t317 t318 t319 t320 t321 t322 t323 w _ ?side1 ?side2 A71.out).mono ?_); (case side1 => repeat (first | (with_reducible first | exact HI271.out | apply IsS26.alloc | apply IsS26.drewN | apply IsS26.drew | apply IsS26.set_0 | apply IsS26.set_1 | apply IsS26.set_2 | refine IsS26.far ?_ NB271_273.out _) | exact HI271.out)); (case side2 => repeat (first | (with_reducible first | exact HB.out | apply below_alloc | apply pw_below_drewN | apply below_drew1 | refine below_set ?_ (IsS26.ge HI271.out) | refine below_set ?_ GE273.out) | exact HB.out)); rintro e w80 ⟨rfl, hi, hb, hk⟩; have n0_ := Aside0.mk (KeepBut.blk hk (g' := gb273) (o := .cells #[.int .i64 ((rd_T30 l0 x18_1).f0), .int .i64 ((rd_T30 l0 x18_1).f1)] 30 (0, 0)) (by (with_reducible repeat (first | refine blk_drewN ?_ _ | refine blk_drew ?_ | refine blk_alloc ?_ _)); exact BK273.out) NB273_271.out (by simp)); have n1_ := Aside0.mk (hb); have n2_ := Aside0.mk (hi); clear BK273; clear HB; clear HI271; have BK273 := n0_; have HB := n1_; have HI271 := n2_; clear n0_ n1_ n2_; (try clear hb); (try clear hb2); (try clear hk); (try clear hi)) | (go_at_call 17; (with_reducible refine (lock_Lock_Turns.calls gb271 t321 t322 t323 t324 t325 t326 t327 w _ ?side1 ?side2 A73.out).mono ?_); (case side1 => repeat (first | (with_reducible first | exact HI271.out | apply IsS26.alloc | apply IsS26.drewN | apply IsS26.drew | apply IsS26.set_0 | apply IsS26.set_1 | apply IsS26.set_2 | refine IsS26.far ?_ NB271_273.out _) | exact HI271.out)); (case side2 => repeat (first | (with_reducible first | exact HB.out | apply below_alloc | apply pw_below_drewN | apply below_drew1 | refine below_set ?_ (IsS26.ge HI271.out) | refine below_set ?_ GE273.out) | exact HB.out)); rintro e w81 ⟨rfl, hi, hb, hk⟩; have n0_ := Aside0.mk (KeepBut.blk hk (g' := gb273) (o := .cells #[.int .i64 ((rd_T30 l0 x18_1).f0), .int .i64 ((rd_T30 l0 x18_1).f1)] 30 (0, 0)) (by (with_reducible repeat (first | refine blk_drewN ?_ _ | refine blk_drew ?_ | refine blk_alloc ?_ _)); exact BK273.out) NB273_271.out (by simp)); have n1_ := Aside0.mk (hb); have n2_ := Aside0.mk (hi); clear BK273; clear HB; clear HI271; have BK273 := n0_; have HB := n1_; have HI271 := n2_; clear n0_ n1_ n2_; (try clear hb); (try clear hb2); (try clear hk); (try clear hi)) | (go_at_call 17; (with_reducible refine (lock_Lock_Turns.calls gb271 t325 t326 t327 t328 t329 t330 t331 w _ ?side1 ?side2 A75.out).mono ?_); (case side1 => repeat (first | (with_reducible first | exact HI271.out | apply IsS26.alloc | apply IsS26.drewN | apply IsS26.drew | apply IsS26.set_0 | apply IsS26.set_1 | apply IsS26.set_2 | refine IsS26.far ?_ NB271_273.out _) | exact HI271.out)); (case side2 => repeat (first | (with_reducible first | exact HB.out | apply below_alloc | apply pw_below_drewN | apply below_drew1 | refine below_set ?_ (IsS26.ge HI271.out) | refine below_set ?_ GE273.out) | exact HB.out)); rintro e w82 ⟨rfl, hi, hb, hk⟩; have n0_ := Aside0.mk (KeepBut.blk hk (g' := gb273) (o := .cells #[.int .i64 ((rd_T30 l0 x18_1).f0), .int .i64 ((rd_T30 l0 x18_1).f1)] 30 (0, 0)) (by (with_reducible repeat (first | refine blk_drewN ?_ _ | refine blk_drew ?_ | refine blk_alloc ?_ _)); exact BK273.out) NB273_271.out (by simp)); have n1_ := Aside0.mk (hb); have n2_ := Aside0.mk (hi); clear BK273; clear HB; clear HI271; have BK273 := n0_; have HB := n1_; have HI271 := n2_; clear n0_ n1_ n2_; (try clear hb); (try clear hb2); (try clear hk); (try clear hi)))
                                go_ret
                                exact ⟨by first | rfl | (simp [errW_none, errW_some] <;> rfl) | (simp [*, errW_none, errW_some] <;> rfl), by repeat (first | (with_reducible first | exact HB.out | apply below_alloc | apply pw_below_drewN | apply below_drew1 | refine below_set ?_ (IsS26.ge HI271.out) | refine below_set ?_ GE273.out) | exact HB.out)⟩
                              · rw [if_neg c76] at H
                                have c76b0 : decide (t328 < t282) = false := decide_eq_false c76
                                clear c76
                                replace H := Option.bind_eq_some_iff.mp H
                                obtain ⟨⟨t332, t333, t334, t335⟩, A830, H⟩ := H
                                replace H : (if t332 > (wrap64 (t282 + 1)) then (some false) else (greenscreenlaw21_LockSends.l0 kj13 x4_13 l0 (l0.length : Int) (wrap64 (x18_1 + 1)) t333 t334 t335)) = some r := H
                                have A83 := Aside0.mk A830
                                clear A830
                                by_cases c84 : t332 > (wrap64 (t282 + 1))
                                · rw [if_pos c84] at H
                                  have c84b0 : decide ((wrap64 (t282 + 1)) < t332) = true := decide_eq_true c84
                                  clear c84
                                  obtain rfl := Option.some.inj H
                                  have hnb85 := NB273_271.out
                                  have hnc85 := NB271_273.out
                                  have hcz86_0 : wc.cell? ⟨gb273, 0, none⟩ = some (.int .i64 ((rd_T30 l0 x18_1).f0)) := (blk_cell BK273.out 0).trans rfl
                                  have hcz86_1 : wc.cell? ⟨gb273, 1, none⟩ = some (.int .i64 ((rd_T30 l0 x18_1).f1)) := (blk_cell BK273.out 1).trans rfl
                                  have hfz86_0 := blk_frozen BK273.out 0
                                  have hfz86_1 := blk_frozen BK273.out 1
                                  go_wp2_with (first | (go_at_call 15; (with_reducible refine (lock_Lock_State.calls gb271 x272000_13 x272001_13 x272002_13 t316 t317 t318 t319 w _ ?side1 ?side2 A69.out).mono ?_); (case side1 => repeat (first | (with_reducible first | exact HI271.out | apply IsS26.alloc | apply IsS26.drewN | apply IsS26.drew | apply IsS26.set_0 | apply IsS26.set_1 | apply IsS26.set_2 | refine IsS26.far ?_ NB271_273.out _) | exact HI271.out)); (case side2 => repeat (first | (with_reducible first | exact HB.out | apply below_alloc | apply pw_below_drewN | apply below_drew1 | refine below_set ?_ (IsS26.ge HI271.out) | refine below_set ?_ GE273.out) | exact HB.out)); rintro e w87 ⟨rfl, hi, hb, hk⟩; have n0_ := Aside0.mk (KeepBut.blk hk (g' := gb273) (o := .cells #[.int .i64 ((rd_T30 l0 x18_1).f0), .int .i64 ((rd_T30 l0 x18_1).f1)] 30 (0, 0)) (by (with_reducible repeat (first | refine blk_drewN ?_ _ | refine blk_drew ?_ | refine blk_alloc ?_ _)); exact BK273.out) NB273_271.out (by simp)); have n1_ := Aside0.mk (hb); have n2_ := Aside0.mk (hi); clear BK273; clear HB; clear HI271; have BK273 := n0_; have HB := n1_; have HI271 := n2_; clear n0_ n1_ n2_; (try clear hb); (try clear hb2); (try clear hk); (try clear hi)) | (go_at_call 16; (with_reducible refine (lock_Lock_Why.calls gb271 t317 t318 t319 t320 t321 t322 t323 w _ ?side1 ?side2 A71.out).mono ?_); (case side1 => repeat (first | (with_reducible first | exact HI271.out | apply IsS26.alloc | apply IsS26.drewN | apply IsS26.drew | apply IsS26.set_0 | apply IsS26.set_1 | apply IsS26.set_2 | refine IsS26.far ?_ NB271_273.out _) | exact HI271.out)); (case side2 => repeat (first | (with_reducible first | exact HB.out | apply below_alloc | apply pw_below_drewN | apply below_drew1 | refine below_set ?_ (IsS26.ge HI271.out) | refine below_set ?_ GE273.out) | exact HB.out)); rintro e w88 ⟨rfl, hi, hb, hk⟩; have n0_ := Aside0.mk (KeepBut.blk hk (g' := gb273) (o := .cells #[.int .i64 ((rd_T30 l0 x18_1).f0), .int .i64 ((rd_T30 l0 x18_1).f1)] 30 (0, 0)) (by (with_reducible repeat (first | refine blk_drewN ?_ _ | refine blk_drew ?_ | refine blk_alloc ?_ _)); exact BK273.out) NB273_271.out (by simp)); have n1_ := Aside0.mk (hb); have n2_ := Aside0.mk (hi); clear BK273; clear HB; clear HI271; have BK273 := n0_; have HB := n1_; have HI271 := n2_; clear n0_ n1_ n2_; (try clear hb); (try clear hb2); (try clear hk); (try clear hi)) | (go_at_call 17; (with_reducible refine (lock_Lock_Turns.calls gb271 t321 t322 t323 t324 t325 t326 t327 w _ ?side1 ?side2 A73.out).mono ?_); (case side1 => repeat (first | (with_reducible first | exact HI271.out | apply IsS26.alloc | apply IsS26.drewN | apply IsS26.drew | apply IsS26.set_0 | apply IsS26.set_1 | apply IsS26.set_2 | refine IsS26.far ?_ NB271_273.out _) | exact HI271.out)); (case side2 => repeat (first | (with_reducible first | exact HB.out | apply below_alloc | apply pw_below_drewN | apply below_drew1 | refine below_set ?_ (IsS26.ge HI271.out) | refine below_set ?_ GE273.out) | exact HB.out)); rintro e w89 ⟨rfl, hi, hb, hk⟩; have n0_ := Aside0.mk (KeepBut.blk hk (g' := gb273) (o := .cells #[.int .i64 ((rd_T30 l0 x18_1).f0), .int .i64 ((rd_T30 l0 x18_1).f1)] 30 (0, 0)) (by (with_reducible repeat (first | refine blk_drewN ?_ _ | refine blk_drew ?_ | refine blk_alloc ?_ _)); exact BK273.out) NB273_271.out (by simp)); have n1_ := Aside0.mk (hb); have n2_ := Aside0.mk (hi); clear BK273; clear HB; clear HI271; have BK273 := n0_; have HB := n1_; have HI271 := n2_; clear n0_ n1_ n2_; (try clear hb); (try clear hb2); (try clear hk); (try clear hi)) | (go_at_call 17; (with_reducible refine (lock_Lock_Turns.calls gb271 t325 t326 t327 t328 t329 t330 t331 w _ ?side1 ?side2 A75.out).mono ?_); (case side1 => repeat (first | (with_reducible first | exact HI271.out | apply IsS26.alloc | apply IsS26.drewN | apply IsS26.drew | apply IsS26.set_0 | apply IsS26.set_1 | apply IsS26.set_2 | refine IsS26.far ?_ NB271_273.out _) | exact HI271.out)); (case side2 => repeat (first | (with_reducible first | exact HB.out | apply below_alloc | apply pw_below_drewN | apply below_drew1 | refine below_set ?_ (IsS26.ge HI271.out) | refine below_set ?_ GE273.out) | exact HB.out)); rintro e w90 ⟨rfl, hi, hb, hk⟩; have n0_ := Aside0.mk (KeepBut.blk hk (g' := gb273) (o := .cells #[.int .i64 ((rd_T30 l0 x18_1).f0), .int .i64 ((rd_T30 l0 x18_1).f1)] 30 (0, 0)) (by (with_reducible repeat (first | refine blk_drewN ?_ _ | refine blk_drew ?_ | refine blk_alloc ?_ _)); exact BK273.out) NB273_271.out (by simp)); have n1_ := Aside0.mk (hb); have n2_ := Aside0.mk (hi); clear BK273; clear HB; clear HI271; have BK273 := n0_; have HB := n1_; have HI271 := n2_; clear n0_ n1_ n2_; (try clear hb); (try clear hb2); (try clear hk); (try clear hi)) | (go_at_call 17; (with_reducible refine (lock_Lock_Turns.calls gb271 t329 t330 t331 t332 t333 t334 t335 w _ ?side1 ?side2 A83.out).mono ?_); (case side1 => repeat (first | (with_reducible first | exact HI271.out | apply IsS26.alloc | apply IsS26.drewN | apply IsS26.drew | apply IsS26.set_0 | apply IsS26.set_1 | apply IsS26.set_2 | refine IsS26.far ?_ NB271_273.out _) | exact HI271.out)); (case side2 => repeat (first | (with_reducible first | exact HB.out | apply below_alloc | apply pw_below_drewN | apply below_drew1 | refine below_set ?_ (IsS26.ge HI271.out) | refine below_set ?_ GE273.out) | exact HB.out)); rintro e w91 ⟨rfl, hi, hb, hk⟩; have n0_ := Aside0.mk (KeepBut.blk hk (g' := gb273) (o := .cells #[.int .i64 ((rd_T30 l0 x18_1).f0), .int .i64 ((rd_T30 l0 x18_1).f1)] 30 (0, 0)) (by (with_reducible repeat (first | refine blk_drewN ?_ _ | refine blk_drew ?_ | refine blk_alloc ?_ _)); exact BK273.out) NB273_271.out (by simp)); have n1_ := Aside0.mk (hb); have n2_ := Aside0.mk (hi); clear BK273; clear HB; clear HI271; have BK273 := n0_; have HB := n1_; have HI271 := n2_; clear n0_ n1_ n2_; (try clear hb); (try clear hb2); (try clear hk); (try clear hi)))
                                  go_ret
                                  exact ⟨by first | rfl | (simp [errW_none, errW_some] <;> rfl) | (simp [*, errW_none, errW_some] <;> rfl), by repeat (first | (with_reducible first | exact HB.out | apply below_alloc | apply pw_below_drewN | apply below_drew1 | refine below_set ?_ (IsS26.ge HI271.out) | refine below_set ?_ GE273.out) | exact HB.out)⟩
                                · rw [if_neg c84] at H
                                  have c84b0 : decide ((wrap64 (t282 + 1)) < t332) = false := decide_eq_false c84
                                  clear c84
                                  have H' := Aside0.mk H
                                  clear H
                                  have hnb92 := NB273_271.out
                                  have hnc92 := NB271_273.out
                                  have hcz93_0 : wc.cell? ⟨gb273, 0, none⟩ = some (.int .i64 ((rd_T30 l0 x18_1).f0)) := (blk_cell BK273.out 0).trans rfl
                                  have hcz93_1 : wc.cell? ⟨gb273, 1, none⟩ = some (.int .i64 ((rd_T30 l0 x18_1).f1)) := (blk_cell BK273.out 1).trans rfl
                                  have hfz93_0 := blk_frozen BK273.out 0
                                  have hfz93_1 := blk_frozen BK273.out 1
                                  go_wp2_with (first | (go_at_call 15; (with_reducible refine (lock_Lock_State.calls gb271 x272000_13 x272001_13 x272002_13 t316 t317 t318 t319 w _ ?side1 ?side2 A69.out).mono ?_); (case side1 => repeat (first | (with_reducible first | exact HI271.out | apply IsS26.alloc | apply IsS26.drewN | apply IsS26.drew | apply IsS26.set_0 | apply IsS26.set_1 | apply IsS26.set_2 | refine IsS26.far ?_ NB271_273.out _) | exact HI271.out)); (case side2 => repeat (first | (with_reducible first | exact HB.out | apply below_alloc | apply pw_below_drewN | apply below_drew1 | refine below_set ?_ (IsS26.ge HI271.out) | refine below_set ?_ GE273.out) | exact HB.out)); rintro e w94 ⟨rfl, hi, hb, hk⟩; have n0_ := Aside0.mk (KeepBut.blk hk (g' := gb273) (o := .cells #[.int .i64 ((rd_T30 l0 x18_1).f0), .int .i64 ((rd_T30 l0 x18_1).f1)] 30 (0, 0)) (by (with_reducible repeat (first | refine blk_drewN ?_ _ | refine blk_drew ?_ | refine blk_alloc ?_ _)); exact BK273.out) NB273_271.out (by simp)); have n1_ := Aside0.mk (hb); have n2_ := Aside0.mk (hi); clear BK273; clear HB; clear HI271; have BK273 := n0_; have HB := n1_; have HI271 := n2_; clear n0_ n1_ n2_; (try clear hb); (try clear hb2); (try clear hk); (try clear hi)) | (go_at_call 16; (with_reducible refine (lock_Lock_Why.calls gb271 t317 t318 t319 t320 t321 t322 t323 w _ ?side1 ?side2 A71.out).mono ?_); (case side1 => repeat (first | (with_reducible first | exact HI271.out | apply IsS26.alloc | apply IsS26.drewN | apply IsS26.drew | apply IsS26.set_0 | apply IsS26.set_1 | apply IsS26.set_2 | refine IsS26.far ?_ NB271_273.out _) | exact HI271.out)); (case side2 => repeat (first | (with_reducible first | exact HB.out | apply below_alloc | apply pw_below_drewN | apply below_drew1 | refine below_set ?_ (IsS26.ge HI271.out) | refine below_set ?_ GE273.out) | exact HB.out)); rintro e w95 ⟨rfl, hi, hb, hk⟩; have n0_ := Aside0.mk (KeepBut.blk hk (g' := gb273) (o := .cells #[.int .i64 ((rd_T30 l0 x18_1).f0), .int .i64 ((rd_T30 l0 x18_1).f1)] 30 (0, 0)) (by (with_reducible repeat (first | refine blk_drewN ?_ _ | refine blk_drew ?_ | refine blk_alloc ?_ _)); exact BK273.out) NB273_271.out (by simp)); have n1_ := Aside0.mk (hb); have n2_ := Aside0.mk (hi); clear BK273; clear HB; clear HI271; have BK273 := n0_; have HB := n1_; have HI271 := n2_; clear n0_ n1_ n2_; (try clear hb); (try clear hb2); (try clear hk); (try clear hi)) | (go_at_call 17; (with_reducible refine (lock_Lock_Turns.calls gb271 t321 t322 t323 t324 t325 t326 t327 w _ ?side1 ?side2 A73.out).mono ?_); (case side1 => repeat (first | (with_reducible first | exact HI271.out | apply IsS26.alloc | apply IsS26.drewN | apply IsS26.drew | apply IsS26.set_0 | apply IsS26.set_1 | apply IsS26.set_2 | refine IsS26.far ?_ NB271_273.out _) | exact HI271.out)); (case side2 => repeat (first | (with_reducible first | exact HB.out | apply below_alloc | apply pw_below_drewN | apply below_drew1 | refine below_set ?_ (IsS26.ge HI271.out) | refine below_set ?_ GE273.out) | exact HB.out)); rintro e w96 ⟨rfl, hi, hb, hk⟩; have n0_ := Aside0.mk (KeepBut.blk hk (g' := gb273) (o := .cells #[.int .i64 ((rd_T30 l0 x18_1).f0), .int .i64 ((rd_T30 l0 x18_1).f1)] 30 (0, 0)) (by (with_reducible repeat (first | refine blk_drewN ?_ _ | refine blk_drew ?_ | refine blk_alloc ?_ _)); exact BK273.out) NB273_271.out (by simp)); have n1_ := Aside0.mk (hb); have n2_ := Aside0.mk (hi); clear BK273; clear HB; clear HI271; have BK273 := n0_; have HB := n1_; have HI271 := n2_; clear n0_ n1_ n2_; (try clear hb); (try clear hb2); (try clear hk); (try clear hi)) | (go_at_call 17; (with_reducible refine (lock_Lock_Turns.calls gb271 t325 t326 t327 t328 t329 t330 t331 w _ ?side1 ?side2 A75.out).mono ?_); (case side1 => repeat (first | (with_reducible first | exact HI271.out | apply IsS26.alloc | apply IsS26.drewN | apply IsS26.drew | apply IsS26.set_0 | apply IsS26.set_1 | apply IsS26.set_2 | refine IsS26.far ?_ NB271_273.out _) | exact HI271.out)); (case side2 => repeat (first | (with_reducible first | exact HB.out | apply below_alloc | apply pw_below_drewN | apply below_drew1 | refine below_set ?_ (IsS26.ge HI271.out) | refine below_set ?_ GE273.out) | exact HB.out)); rintro e w97 ⟨rfl, hi, hb, hk⟩; have n0_ := Aside0.mk (KeepBut.blk hk (g' := gb273) (o := .cells #[.int .i64 ((rd_T30 l0 x18_1).f0), .int .i64 ((rd_T30 l0 x18_1).f1)] 30 (0, 0)) (by (with_reducible repeat (first | refine blk_drewN ?_ _ | refine blk_drew ?_ | refine blk_alloc ?_ _)); exact BK273.out) NB273_271.out (by simp)); have n1_ := Aside0.mk (hb); have n2_ := Aside0.mk (hi); clear BK273; clear HB; clear HI271; have BK273 := n0_; have HB := n1_; have HI271 := n2_; clear n0_ n1_ n2_; (try clear hb); (try clear hb2); (try clear hk); (try clear hi)) | (go_at_call 17; (with_reducible refine (lock_Lock_Turns.calls gb271 t329 t330 t331 t332 t333 t334 t335 w _ ?side1 ?side2 A83.out).mono ?_); (case side1 => repeat (first | (with_reducible first | exact HI271.out | apply IsS26.alloc | apply IsS26.drewN | apply IsS26.drew | apply IsS26.set_0 | apply IsS26.set_1 | apply IsS26.set_2 | refine IsS26.far ?_ NB271_273.out _) | exact HI271.out)); (case side2 => repeat (first | (with_reducible first | exact HB.out | apply below_alloc | apply pw_below_drewN | apply below_drew1 | refine below_set ?_ (IsS26.ge HI271.out) | refine below_set ?_ GE273.out) | exact HB.out)); rintro e w98 ⟨rfl, hi, hb, hk⟩; have n0_ := Aside0.mk (KeepBut.blk hk (g' := gb273) (o := .cells #[.int .i64 ((rd_T30 l0 x18_1).f0), .int .i64 ((rd_T30 l0 x18_1).f1)] 30 (0, 0)) (by (with_reducible repeat (first | refine blk_drewN ?_ _ | refine blk_drew ?_ | refine blk_alloc ?_ _)); exact BK273.out) NB273_271.out (by simp)); have n1_ := Aside0.mk (hb); have n2_ := Aside0.mk (hi); clear BK273; clear HB; clear HI271; have BK273 := n0_; have HB := n1_; have HI271 := n2_; clear n0_ n1_ n2_; (try clear hb); (try clear hb2); (try clear hk); (try clear hi)))
                                  go_roundg kj13
                                  case measure => have := HK1.out; have := HJ13.out; omega
                                  case rel => exact ⟨(x4_13), (wrap64 (x18_1 + 1)), (t333), (t334), (t335), (by first | rfl | (simp; done) | (simp [*]; done)), (by first | rfl | (simp; done) | (simp [*]; done)), H', ⟨by have := HK1.out; have := HJ13.out; omega⟩, ⟨by repeat (first | (with_reducible first | exact HI271.out | apply IsS26.alloc | apply IsS26.drewN | apply IsS26.drew | apply IsS26.set_0 | apply IsS26.set_1 | apply IsS26.set_2 | refine IsS26.far ?_ NB271_273.out _) | exact HI271.out)⟩, ⟨by repeat (first | (with_reducible first | exact HB.out | apply below_alloc | apply pw_below_drewN | apply below_drew1 | refine below_set ?_ (IsS26.ge HI271.out) | refine below_set ?_ GE273.out) | exact HB.out)⟩⟩
                            · rw [if_neg c74] at H
                              have c74b0 : (t324 == t282) = false := beq_eq_false_iff_ne.mpr c74
                              have c74b1 : (t324 != t282) = true := bne_iff_ne.mpr c74
                              obtain rfl := Option.some.inj H
                              have hnb99 := NB273_271.out
                              have hnc99 := NB271_273.out
                              have hcz100_0 : wc.cell? ⟨gb273, 0, none⟩ = some (.int .i64 ((rd_T30 l0 x18_1).f0)) := (blk_cell BK273.out 0).trans rfl
                              have hcz100_1 : wc.cell? ⟨gb273, 1, none⟩ = some (.int .i64 ((rd_T30 l0 x18_1).f1)) := (blk_cell BK273.out 1).trans rfl
                              have hfz100_0 := blk_frozen BK273.out 0
                              have hfz100_1 := blk_frozen BK273.out 1
                              go_wp2_with (first | (go_at_call 15; (with_reducible refine (lock_Lock_State.calls gb271 x272000_13 x272001_13 x272002_13 t316 t317 t318 t319 w _ ?side1 ?side2 A69.out).mono ?_); (case side1 => repeat (first | (with_reducible first | exact HI271.out | apply IsS26.alloc | apply IsS26.drewN | apply IsS26.drew | apply IsS26.set_0 | apply IsS26.set_1 | apply IsS26.set_2 | refine IsS26.far ?_ NB271_273.out _) | exact HI271.out)); (case side2 => repeat (first | (with_reducible first | exact HB.out | apply below_alloc | apply pw_below_drewN | apply below_drew1 | refine below_set ?_ (IsS26.ge HI271.out) | refine below_set ?_ GE273.out) | exact HB.out)); rintro e w101 ⟨rfl, hi, hb, hk⟩; have n0_ := Aside0.mk (KeepBut.blk hk (g' := gb273) (o := .cells #[.int .i64 ((rd_T30 l0 x18_1).f0), .int .i64 ((rd_T30 l0 x18_1).f1)] 30 (0, 0)) (by (with_reducible repeat (first | refine blk_drewN ?_ _ | refine blk_drew ?_ | refine blk_alloc ?_ _)); exact BK273.out) NB273_271.out (by simp)); have n1_ := Aside0.mk (hb); have n2_ := Aside0.mk (hi); clear BK273; clear HB; clear HI271; have BK273 := n0_; have HB := n1_; have HI271 := n2_; clear n0_ n1_ n2_; (try clear hb); (try clear hb2); (try clear hk); (try clear hi)) | (go_at_call 16; (with_reducible refine (lock_Lock_Why.calls gb271 t317 t318 t319 t320 t321 t322 t323 w _ ?side1 ?side2 A71.out).mono ?_); (case side1 => repeat (first | (with_reducible first | exact HI271.out | apply IsS26.alloc | apply IsS26.drewN | apply IsS26.drew | apply IsS26.set_0 | apply IsS26.set_1 | apply IsS26.set_2 | refine IsS26.far ?_ NB271_273.out _) | exact HI271.out)); (case side2 => repeat (first | (with_reducible first | exact HB.out | apply below_alloc | apply pw_below_drewN | apply below_drew1 | refine below_set ?_ (IsS26.ge HI271.out) | refine below_set ?_ GE273.out) | exact HB.out)); rintro e w102 ⟨rfl, hi, hb, hk⟩; have n0_ := Aside0.mk (KeepBut.blk hk (g' := gb273) (o := .cells #[.int .i64 ((rd_T30 l0 x18_1).f0), .int .i64 ((rd_T30 l0 x18_1).f1)] 30 (0, 0)) (by (with_reducible repeat (first | refine blk_drewN ?_ _ | refine blk_drew ?_ | refine blk_alloc ?_ _)); exact BK273.out) NB273_271.out (by simp)); have n1_ := Aside0.mk (hb); have n2_ := Aside0.mk (hi); clear BK273; clear HB; clear HI271; have BK273 := n0_; have HB := n1_; have HI271 := n2_; clear n0_ n1_ n2_; (try clear hb); (try clear hb2); (try clear hk); (try clear hi)) | (go_at_call 17; (with_reducible refine (lock_Lock_Turns.calls gb271 t321 t322 t323 t324 t325 t326 t327 w _ ?side1 ?side2 A73.out).mono ?_); (case side1 => repeat (first | (with_reducible first | exact HI271.out | apply IsS26.alloc | apply IsS26.drewN | apply IsS26.drew | apply IsS26.set_0 | apply IsS26.set_1 | apply IsS26.set_2 | refine IsS26.far ?_ NB271_273.out _) | exact HI271.out)); (case side2 => repeat (first | (with_reducible first | exact HB.out | apply below_alloc | apply pw_below_drewN | apply below_drew1 | refine below_set ?_ (IsS26.ge HI271.out) | refine below_set ?_ GE273.out) | exact HB.out)); rintro e w103 ⟨rfl, hi, hb, hk⟩; have n0_ := Aside0.mk (KeepBut.blk hk (g' := gb273) (o := .cells #[.int .i64 ((rd_T30 l0 x18_1).f0), .int .i64 ((rd_T30 l0 x18_1).f1)] 30 (0, 0)) (by (with_reducible repeat (first | refine blk_drewN ?_ _ | refine blk_drew ?_ | refine blk_alloc ?_ _)); exact BK273.out) NB273_271.out (by simp)); have n1_ := Aside0.mk (hb); have n2_ := Aside0.mk (hi); clear BK273; clear HB; clear HI271; have BK273 := n0_; have HB := n1_; have HI271 := n2_; clear n0_ n1_ n2_; (try clear hb); (try clear hb2); (try clear hk); (try clear hi)))
                              go_ret
                              exact ⟨by first | rfl | (simp [errW_none, errW_some] <;> rfl) | (simp [*, errW_none, errW_some] <;> rfl), by repeat (first | (with_reducible first | exact HB.out | apply below_alloc | apply pw_below_drewN | apply below_drew1 | refine below_set ?_ (IsS26.ge HI271.out) | refine below_set ?_ GE273.out) | exact HB.out)⟩
                          · rw [if_neg c72] at H
                            have c72b0 : (t320 == t278) = false := beq_eq_false_iff_ne.mpr c72
                            have c72b1 : (t320 != t278) = true := bne_iff_ne.mpr c72
                            obtain rfl := Option.some.inj H
                            have hnb104 := NB273_271.out
                            have hnc104 := NB271_273.out
                            have hcz105_0 : wc.cell? ⟨gb273, 0, none⟩ = some (.int .i64 ((rd_T30 l0 x18_1).f0)) := (blk_cell BK273.out 0).trans rfl
                            have hcz105_1 : wc.cell? ⟨gb273, 1, none⟩ = some (.int .i64 ((rd_T30 l0 x18_1).f1)) := (blk_cell BK273.out 1).trans rfl
                            have hfz105_0 := blk_frozen BK273.out 0
                            have hfz105_1 := blk_frozen BK273.out 1
                            go_wp2_with (first | (go_at_call 15; (with_reducible refine (lock_Lock_State.calls gb271 x272000_13 x272001_13 x272002_13 t316 t317 t318 t319 w _ ?side1 ?side2 A69.out).mono ?_); (case side1 => repeat (first | (with_reducible first | exact HI271.out | apply IsS26.alloc | apply IsS26.drewN | apply IsS26.drew | apply IsS26.set_0 | apply IsS26.set_1 | apply IsS26.set_2 | refine IsS26.far ?_ NB271_273.out _) | exact HI271.out)); (case side2 => repeat (first | (with_reducible first | exact HB.out | apply below_alloc | apply pw_below_drewN | apply below_drew1 | refine below_set ?_ (IsS26.ge HI271.out) | refine below_set ?_ GE273.out) | exact HB.out)); rintro e w106 ⟨rfl, hi, hb, hk⟩; have n0_ := Aside0.mk (KeepBut.blk hk (g' := gb273) (o := .cells #[.int .i64 ((rd_T30 l0 x18_1).f0), .int .i64 ((rd_T30 l0 x18_1).f1)] 30 (0, 0)) (by (with_reducible repeat (first | refine blk_drewN ?_ _ | refine blk_drew ?_ | refine blk_alloc ?_ _)); exact BK273.out) NB273_271.out (by simp)); have n1_ := Aside0.mk (hb); have n2_ := Aside0.mk (hi); clear BK273; clear HB; clear HI271; have BK273 := n0_; have HB := n1_; have HI271 := n2_; clear n0_ n1_ n2_; (try clear hb); (try clear hb2); (try clear hk); (try clear hi)) | (go_at_call 16; (with_reducible refine (lock_Lock_Why.calls gb271 t317 t318 t319 t320 t321 t322 t323 w _ ?side1 ?side2 A71.out).mono ?_); (case side1 => repeat (first | (with_reducible first | exact HI271.out | apply IsS26.alloc | apply IsS26.drewN | apply IsS26.drew | apply IsS26.set_0 | apply IsS26.set_1 | apply IsS26.set_2 | refine IsS26.far ?_ NB271_273.out _) | exact HI271.out)); (case side2 => repeat (first | (with_reducible first | exact HB.out | apply below_alloc | apply pw_below_drewN | apply below_drew1 | refine below_set ?_ (IsS26.ge HI271.out) | refine below_set ?_ GE273.out) | exact HB.out)); rintro e w107 ⟨rfl, hi, hb, hk⟩; have n0_ := Aside0.mk (KeepBut.blk hk (g' := gb273) (o := .cells #[.int .i64 ((rd_T30 l0 x18_1).f0), .int .i64 ((rd_T30 l0 x18_1).f1)] 30 (0, 0)) (by (with_reducible repeat (first | refine blk_drewN ?_ _ | refine blk_drew ?_ | refine blk_alloc ?_ _)); exact BK273.out) NB273_271.out (by simp)); have n1_ := Aside0.mk (hb); have n2_ := Aside0.mk (hi); clear BK273; clear HB; clear HI271; have BK273 := n0_; have HB := n1_; have HI271 := n2_; clear n0_ n1_ n2_; (try clear hb); (try clear hb2); (try clear hk); (try clear hi)))
                            go_ret
                            exact ⟨by first | rfl | (simp [errW_none, errW_some] <;> rfl) | (simp [*, errW_none, errW_some] <;> rfl), by repeat (first | (with_reducible first | exact HB.out | apply below_alloc | apply pw_below_drewN | apply below_drew1 | refine below_set ?_ (IsS26.ge HI271.out) | refine below_set ?_ GE273.out) | exact HB.out)⟩
                        · rw [if_neg c70] at H
                          have c70b0 : (t316 == t274) = false := beq_eq_false_iff_ne.mpr c70
                          have c70b1 : (t316 != t274) = true := bne_iff_ne.mpr c70
                          obtain rfl := Option.some.inj H
                          have hnb108 := NB273_271.out
                          have hnc108 := NB271_273.out
                          have hcz109_0 : wc.cell? ⟨gb273, 0, none⟩ = some (.int .i64 ((rd_T30 l0 x18_1).f0)) := (blk_cell BK273.out 0).trans rfl
                          have hcz109_1 : wc.cell? ⟨gb273, 1, none⟩ = some (.int .i64 ((rd_T30 l0 x18_1).f1)) := (blk_cell BK273.out 1).trans rfl
                          have hfz109_0 := blk_frozen BK273.out 0
                          have hfz109_1 := blk_frozen BK273.out 1
                          go_wp2_with (first | (go_at_call 15; (with_reducible refine (lock_Lock_State.calls gb271 x272000_13 x272001_13 x272002_13 t316 t317 t318 t319 w _ ?side1 ?side2 A69.out).mono ?_); (case side1 => repeat (first | (with_reducible first | exact HI271.out | apply IsS26.alloc | apply IsS26.drewN | apply IsS26.drew | apply IsS26.set_0 | apply IsS26.set_1 | apply IsS26.set_2 | refine IsS26.far ?_ NB271_273.out _) | exact HI271.out)); (case side2 => repeat (first | (with_reducible first | exact HB.out | apply below_alloc | apply pw_below_drewN | apply below_drew1 | refine below_set ?_ (IsS26.ge HI271.out) | refine below_set ?_ GE273.out) | exact HB.out)); rintro e w110 ⟨rfl, hi, hb, hk⟩; have n0_ := Aside0.mk (KeepBut.blk hk (g' := gb273) (o := .cells #[.int .i64 ((rd_T30 l0 x18_1).f0), .int .i64 ((rd_T30 l0 x18_1).f1)] 30 (0, 0)) (by (with_reducible repeat (first | refine blk_drewN ?_ _ | refine blk_drew ?_ | refine blk_alloc ?_ _)); exact BK273.out) NB273_271.out (by simp)); have n1_ := Aside0.mk (hb); have n2_ := Aside0.mk (hi); clear BK273; clear HB; clear HI271; have BK273 := n0_; have HB := n1_; have HI271 := n2_; clear n0_ n1_ n2_; (try clear hb); (try clear hb2); (try clear hk); (try clear hi)))
                          go_ret
                          exact ⟨by first | rfl | (simp [errW_none, errW_some] <;> rfl) | (simp [*, errW_none, errW_some] <;> rfl), by repeat (first | (with_reducible first | exact HB.out | apply below_alloc | apply pw_below_drewN | apply below_drew1 | refine below_set ?_ (IsS26.ge HI271.out) | refine below_set ?_ GE273.out) | exact HB.out)⟩
                      · rw [if_neg c68] at H
                        have c68b0 : (x10_13 == 40) = false := beq_eq_false_iff_ne.mpr c68
                        have c68b1 : (x10_13 != 40) = true := bne_iff_ne.mpr c68
                        replace H := Option.bind_eq_some_iff.mp H
                        obtain ⟨⟨t336, t337, t338, t339⟩, A1110, H⟩ := H
                        replace H : (if t336 < t282 then (some false) else ((lock_Lock_Turns.f t337 t338 t339).bind fun bt340 => (if bt340.1 > (wrap64 (t282 + 1)) then (some false) else (greenscreenlaw21_LockSends.l0 kj13 x4_13 l0 (l0.length : Int) (wrap64 (x18_1 + 1)) bt340.2.1 bt340.2.2.1 bt340.2.2.2)))) = some r := H
                        have A111 := Aside0.mk A1110
                        clear A1110
                        by_cases c112 : t336 < t282
                        · rw [if_pos c112] at H
                          have c112b0 : decide (t336 < t282) = true := decide_eq_true c112
                          clear c112
                          obtain rfl := Option.some.inj H
                          have hnb113 := NB273_271.out
                          have hnc113 := NB271_273.out
                          have hcz114_0 : wc.cell? ⟨gb273, 0, none⟩ = some (.int .i64 ((rd_T30 l0 x18_1).f0)) := (blk_cell BK273.out 0).trans rfl
                          have hcz114_1 : wc.cell? ⟨gb273, 1, none⟩ = some (.int .i64 ((rd_T30 l0 x18_1).f1)) := (blk_cell BK273.out 1).trans rfl
                          have hfz114_0 := blk_frozen BK273.out 0
                          have hfz114_1 := blk_frozen BK273.out 1
                          go_wp2_with (first | (go_at_call 17; (with_reducible refine (lock_Lock_Turns.calls gb271 x272000_13 x272001_13 x272002_13 t336 t337 t338 t339 w _ ?side1 ?side2 A111.out).mono ?_); (case side1 => repeat (first | (with_reducible first | exact HI271.out | apply IsS26.alloc | apply IsS26.drewN | apply IsS26.drew | apply IsS26.set_0 | apply IsS26.set_1 | apply IsS26.set_2 | refine IsS26.far ?_ NB271_273.out _) | exact HI271.out)); (case side2 => repeat (first | (with_reducible first | exact HB.out | apply below_alloc | apply pw_below_drewN | apply below_drew1 | refine below_set ?_ (IsS26.ge HI271.out) | refine below_set ?_ GE273.out) | exact HB.out)); rintro e w115 ⟨rfl, hi, hb, hk⟩; have n0_ := Aside0.mk (KeepBut.blk hk (g' := gb273) (o := .cells #[.int .i64 ((rd_T30 l0 x18_1).f0), .int .i64 ((rd_T30 l0 x18_1).f1)] 30 (0, 0)) (by (with_reducible repeat (first | refine blk_drewN ?_ _ | refine blk_drew ?_ | refine blk_alloc ?_ _)); exact BK273.out) NB273_271.out (by simp)); have n1_ := Aside0.mk (hb); have n2_ := Aside0.mk (hi); clear BK273; clear HB; clear HI271; have BK273 := n0_; have HB := n1_; have HI271 := n2_; clear n0_ n1_ n2_; (try clear hb); (try clear hb2); (try clear hk); (try clear hi)))
                          go_ret
                          exact ⟨by first | rfl | (simp [errW_none, errW_some] <;> rfl) | (simp [*, errW_none, errW_some] <;> rfl), by repeat (first | (with_reducible first | exact HB.out | apply below_alloc | apply pw_below_drewN | apply below_drew1 | refine below_set ?_ (IsS26.ge HI271.out) | refine below_set ?_ GE273.out) | exact HB.out)⟩
                        · rw [if_neg c112] at H
                          have c112b0 : decide (t336 < t282) = false := decide_eq_false c112
                          clear c112
                          replace H := Option.bind_eq_some_iff.mp H
                          obtain ⟨⟨t340, t341, t342, t343⟩, A1160, H⟩ := H
                          replace H : (if t340 > (wrap64 (t282 + 1)) then (some false) else (greenscreenlaw21_LockSends.l0 kj13 x4_13 l0 (l0.length : Int) (wrap64 (x18_1 + 1)) t341 t342 t343)) = some r := H
                          have A116 := Aside0.mk A1160
                          clear A1160
                          by_cases c117 : t340 > (wrap64 (t282 + 1))
                          · rw [if_pos c117] at H
                            have c117b0 : decide ((wrap64 (t282 + 1)) < t340) = true := decide_eq_true c117
                            clear c117
                            obtain rfl := Option.some.inj H
                            have hnb118 := NB273_271.out
                            have hnc118 := NB271_273.out
                            have hcz119_0 : wc.cell? ⟨gb273, 0, none⟩ = some (.int .i64 ((rd_T30 l0 x18_1).f0)) := (blk_cell BK273.out 0).trans rfl
                            have hcz119_1 : wc.cell? ⟨gb273, 1, none⟩ = some (.int .i64 ((rd_T30 l0 x18_1).f1)) := (blk_cell BK273.out 1).trans rfl
                            have hfz119_0 := blk_frozen BK273.out 0
                            have hfz119_1 := blk_frozen BK273.out 1
                            go_wp2_with (first | (go_at_call 17; (with_reducible refine (lock_Lock_Turns.calls gb271 x272000_13 x272001_13 x272002_13 t336 t337 t338 t339 w _ ?side1 ?side2 A111.out).mono ?_); (case side1 => repeat (first | (with_reducible first | exact HI271.out | apply IsS26.alloc | apply IsS26.drewN | apply IsS26.drew | apply IsS26.set_0 | apply IsS26.set_1 | apply IsS26.set_2 | refine IsS26.far ?_ NB271_273.out _) | exact HI271.out)); (case side2 => repeat (first | (with_reducible first | exact HB.out | apply below_alloc | apply pw_below_drewN | apply below_drew1 | refine below_set ?_ (IsS26.ge HI271.out) | refine below_set ?_ GE273.out) | exact HB.out)); rintro e w120 ⟨rfl, hi, hb, hk⟩; have n0_ := Aside0.mk (KeepBut.blk hk (g' := gb273) (o := .cells #[.int .i64 ((rd_T30 l0 x18_1).f0), .int .i64 ((rd_T30 l0 x18_1).f1)] 30 (0, 0)) (by (with_reducible repeat (first | refine blk_drewN ?_ _ | refine blk_drew ?_ | refine blk_alloc ?_ _)); exact BK273.out) NB273_271.out (by simp)); have n1_ := Aside0.mk (hb); have n2_ := Aside0.mk (hi); clear BK273; clear HB; clear HI271; have BK273 := n0_; have HB := n1_; have HI271 := n2_; clear n0_ n1_ n2_; (try clear hb); (try clear hb2); (try clear hk); (try clear hi)) | (go_at_call 17; (with_reducible refine (lock_Lock_Turns.calls gb271 t337 t338 t339 t340 t341 t342 t343 w _ ?side1 ?side2 A116.out).mono ?_); (case side1 => repeat (first | (with_reducible first | exact HI271.out | apply IsS26.alloc | apply IsS26.drewN | apply IsS26.drew | apply IsS26.set_0 | apply IsS26.set_1 | apply IsS26.set_2 | refine IsS26.far ?_ NB271_273.out _) | exact HI271.out)); (case side2 => repeat (first | (with_reducible first | exact HB.out | apply below_alloc | apply pw_below_drewN | apply below_drew1 | refine below_set ?_ (IsS26.ge HI271.out) | refine below_set ?_ GE273.out) | exact HB.out)); rintro e w121 ⟨rfl, hi, hb, hk⟩; have n0_ := Aside0.mk (KeepBut.blk hk (g' := gb273) (o := .cells #[.int .i64 ((rd_T30 l0 x18_1).f0), .int .i64 ((rd_T30 l0 x18_1).f1)] 30 (0, 0)) (by (with_reducible repeat (first | refine blk_drewN ?_ _ | refine blk_drew ?_ | refine blk_alloc ?_ _)); exact BK273.out) NB273_271.out (by simp)); have n1_ := Aside0.mk (hb); have n2_ := Aside0.mk (hi); clear BK273; clear HB; clear HI271; have BK273 := n0_; have HB := n1_; have HI271 := n2_; clear n0_ n1_ n2_; (try clear hb); (try clear hb2); (try clear hk); (try clear hi)))
                            go_ret
                            exact ⟨by first | rfl | (simp [errW_none, errW_some] <;> rfl) | (simp [*, errW_none, errW_some] <;> rfl), by repeat (first | (with_reducible first | exact HB.out | apply below_alloc | apply pw_below_drewN | apply below_drew1 | refine below_set ?_ (IsS26.ge HI271.out) | refine below_set ?_ GE273.out) | exact HB.out)⟩
                          · rw [if_neg c117] at H
                            have c117b0 : decide ((wrap64 (t282 + 1)) < t340) = false := decide_eq_false c117
                            clear c117
                            have H' := Aside0.mk H
                            clear H
                            have hnb122 := NB273_271.out
                            have hnc122 := NB271_273.out
                            have hcz123_0 : wc.cell? ⟨gb273, 0, none⟩ = some (.int .i64 ((rd_T30 l0 x18_1).f0)) := (blk_cell BK273.out 0).trans rfl
                            have hcz123_1 : wc.cell? ⟨gb273, 1, none⟩ = some (.int .i64 ((rd_T30 l0 x18_1).f1)) := (blk_cell BK273.out 1).trans rfl
                            have hfz123_0 := blk_frozen BK273.out 0
                            have hfz123_1 := blk_frozen BK273.out 1
                            go_wp2_with (first | (go_at_call 17; (with_reducible refine (lock_Lock_Turns.calls gb271 x272000_13 x272001_13 x272002_13 t336 t337 t338 t339 w _ ?side1 ?side2 A111.out).mono ?_); (case side1 => repeat (first | (with_reducible first | exact HI271.out | apply IsS26.alloc | apply IsS26.drewN | apply IsS26.drew | apply IsS26.set_0 | apply IsS26.set_1 | apply IsS26.set_2 | refine IsS26.far ?_ NB271_273.out _) | exact HI271.out)); (case side2 => repeat (first | (with_reducible first | exact HB.out | apply below_alloc | apply pw_below_drewN | apply below_drew1 | refine below_set ?_ (IsS26.ge HI271.out) | refine below_set ?_ GE273.out) | exact HB.out)); rintro e w124 ⟨rfl, hi, hb, hk⟩; have n0_ := Aside0.mk (KeepBut.blk hk (g' := gb273) (o := .cells #[.int .i64 ((rd_T30 l0 x18_1).f0), .int .i64 ((rd_T30 l0 x18_1).f1)] 30 (0, 0)) (by (with_reducible repeat (first | refine blk_drewN ?_ _ | refine blk_drew ?_ | refine blk_alloc ?_ _)); exact BK273.out) NB273_271.out (by simp)); have n1_ := Aside0.mk (hb); have n2_ := Aside0.mk (hi); clear BK273; clear HB; clear HI271; have BK273 := n0_; have HB := n1_; have HI271 := n2_; clear n0_ n1_ n2_; (try clear hb); (try clear hb2); (try clear hk); (try clear hi)) | (go_at_call 17; (with_reducible refine (lock_Lock_Turns.calls gb271 t337 t338 t339 t340 t341 t342 t343 w _ ?side1 ?side2 A116.out).mono ?_); (case side1 => repeat (first | (with_reducible first | exact HI271.out | apply IsS26.alloc | apply IsS26.drewN | apply IsS26.drew | apply IsS26.set_0 | apply IsS26.set_1 | apply IsS26.set_2 | refine IsS26.far ?_ NB271_273.out _) | exact HI271.out)); (case side2 => repeat (first | (with_reducible first | exact HB.out | apply below_alloc | apply pw_below_drewN | apply below_drew1 | refine below_set ?_ (IsS26.ge HI271.out) | refine below_set ?_ GE273.out) | exact HB.out)); rintro e w125 ⟨rfl, hi, hb, hk⟩; have n0_ := Aside0.mk (KeepBut.blk hk (g' := gb273) (o := .cells #[.int .i64 ((rd_T30 l0 x18_1).f0), .int .i64 ((rd_T30 l0 x18_1).f1)] 30 (0, 0)) (by (with_reducible repeat (first | refine blk_drewN ?_ _ | refine blk_drew ?_ | refine blk_alloc ?_ _)); exact BK273.out) NB273_271.out (by simp)); have n1_ := Aside0.mk (hb); have n2_ := Aside0.mk (hi); clear BK273; clear HB; clear HI271; have BK273 := n0_; have HB := n1_; have HI271 := n2_; clear n0_ n1_ n2_; (try clear hb); (try clear hb2); (try clear hk); (try clear hi)))
                            go_roundg kj13
                            case measure => have := HK1.out; have := HJ13.out; omega
                            case rel => exact ⟨(x4_13), (wrap64 (x18_1 + 1)), (t341), (t342), (t343), (by first | rfl | (simp; done) | (simp [*]; done)), (by first | rfl | (simp; done) | (simp [*]; done)), H', ⟨by have := HK1.out; have := HJ13.out; omega⟩, ⟨by repeat (first | (with_reducible first | exact HI271.out | apply IsS26.alloc | apply IsS26.drewN | apply IsS26.drew | apply IsS26.set_0 | apply IsS26.set_1 | apply IsS26.set_2 | refine IsS26.far ?_ NB271_273.out _) | exact HI271.out)⟩, ⟨by repeat (first | (with_reducible first | exact HB.out | apply below_alloc | apply pw_below_drewN | apply below_drew1 | refine below_set ?_ (IsS26.ge HI271.out) | refine below_set ?_ GE273.out) | exact HB.out)⟩⟩
              · rw [if_neg c10] at H
                exact absurd H (by simp)
            · rw [if_neg c9] at H
              exact absurd H (by simp)
          · rw [if_neg c8] at H
            have c8b0 : decide (x18_1 < (l0.length : Int)) = false := decide_eq_false c8
            clear c8
            obtain rfl := Option.some.inj H
            go_wp2
            go_ret
            exact ⟨by first | rfl | (simp [errW_none, errW_some] <;> rfl) | (simp [*, errW_none, errW_some] <;> rfl), by repeat (first | (with_reducible first | exact HB.out | apply below_alloc | apply pw_below_drewN | apply below_drew1 | refine below_set ?_ (IsS26.ge HI271.out)) | exact HB.out)⟩
  · replace c3 := Bool.eq_false_iff.mpr c3
    subst c3
    have H1 : (some false) = some r := by rw [if_neg (show ¬ (false = true) by decide)] at H; exact H
    clear H
    have H := H1
    clear H1
    obtain rfl := Option.some.inj H
    go_enter Try.func4, Try.ntmps4
    go_wp2_with (first | ((with_reducible refine gate_callee (f := 6) rfl ?_); refine goesL_ (some 11) rfl rfl Try.func6 (by kernel_rfl) rfl #[] rfl (by (try simp only [List.map_toArray, List.map_cons, List.map_nil]); first | done | rfl | (simp only [List.length_drop, List.length_take]; rfl)) ?_; (with_reducible refine (greenscreenlaw21_alive.calls  false _ A2.out).mono ?_); rintro e w126 ⟨rfl, hb⟩; refine ⟨_, rfl, ?_⟩; have n0_ := Aside0.mk (below_step (by repeat (first | (with_reducible first | exact HB.out | apply below_alloc | apply pw_below_drewN | apply below_drew1) | exact HB.out)) hb); clear HB; have HB := n0_; clear n0_; (try clear hb); (try clear hb2); (try clear hk); (try clear hi)))
    go_ret
    exact ⟨by first | rfl | (simp [errW_none, errW_some] <;> rfl) | (simp [*, errW_none, errW_some] <;> rfl), by repeat (first | (with_reducible first | exact HB.out | apply below_alloc | apply pw_below_drewN | apply below_drew1) | exact HB.out)⟩

end Go.Proofs.Ytbgpmdoeghajcaa.P
