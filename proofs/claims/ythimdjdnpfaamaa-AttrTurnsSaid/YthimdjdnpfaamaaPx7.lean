-- Laid by program out of the translation, some functions' texts by hand (a session's own run, not print.sh's). Lean checks it.
import Derived.Test.YthimdjdnpfaamaaPx0
import Derived.Test.YthimdjdnpfaamaaPx1
import Derived.Test.YthimdjdnpfaamaaPx2
import Derived.Test.YthimdjdnpfaamaaPx3
namespace Go.Proofs.Ythimdjdnpfaamaa.P
open Go.RowKit Go.Proofs.YthimdjdnpfaamaaW.PrintWords Go.Proofs.YthimdjdnpfaamaaW.PrintLast Go.Proofs.YthimdjdnpfaamaaW.PrintMore
attribute [local go_sem] max2_int min2_int max_two min_two max_three min_three max_four min_four   -- for this text's walks alone
set_option linter.unusedVariables false
set_option linter.unusedSimpArgs false

attribute [local go_sem high] eqA33
/-! ### greenscreenlaw11_AttrTurns: function 5 -/
def greenscreenlaw11_AttrTurns.j0 : Nat → List (S36) → Int → Bool → Int → Bool → Bool → Int → Int → Option (Bool)
  | 0, _, _, _, _, _, _, _, _ => none
  | k + 1, x2, x3, x66, x200000, x200001, x200002, x200003, x200004 => if x66 = true then (some false) else (if (wrap64 ((x2.length : Int) + 1)) = 0 then (none) else ((attr_Dress.f k x200000 x200001 x200002 x200003 x200004 x2).bind fun bt214 => (if 0 ≤ (Int.tmod (Go.bits .and .i64 x3 1023) (wrap64 ((x2.length : Int) + 1))) then (if (Int.tmod (Go.bits .and .i64 x3 1023) (wrap64 ((x2.length : Int) + 1))) ≤ (x2.length : Int) then ((attr_Dress.f k x200000 x200001 x200002 x200003 x200004 (x2.take ((Int.tmod (Go.bits .and .i64 x3 1023) (wrap64 ((x2.length : Int) + 1))) : Int).toNat)).bind fun bt224 => ((attr_Dress.f k bt224.1 bt224.2.1 bt224.2.2.1 bt224.2.2.2.1 bt224.2.2.2.2 (x2.drop ((Int.tmod (Go.bits .and .i64 x3 1023) (wrap64 ((x2.length : Int) + 1))) : Int).toNat)).bind fun bt233 => (if (bt233.1 == bt214.1 && (bt233.2.1 == bt214.2.1 && (bt233.2.2.1 == bt214.2.2.1 && (bt233.2.2.2.1 == bt214.2.2.2.1 && (bt233.2.2.2.2 == bt214.2.2.2.2))))) = true then (if (bt214.2.2.1 == x200002) = true then (some (bt214.2.1 == x200001)) else (some false)) else (some false)))) else (none)) else (none))))
def greenscreenlaw11_AttrTurns.f (k : Nat) (a0 : Int) (a1_0 : Int) (a1_1 : Bool) (a1_2 : Bool) (a1_3 : Int) (a1_4 : Int) (l2 : List (S36)) (a3 : Int) : Option (Bool) := (greenscreenlaw11_alive.f k).bind fun t200 => (if t200 = true then (if (l2.length : Int) > 100 then (some true) else ((attr_Modify.f a0 true).bind fun t201 => ((attr_Modify.f a0 false).bind fun t202 => ((attr_Modified.f t201).bind fun t203 => (if t203 = true then ((attr_Modified.f t202).bind fun t204 => (if t204 = true then (greenscreenlaw11_AttrTurns.j0 k l2 a3 true a1_0 a1_1 a1_2 a1_3 a1_4) else (if (Go.bits .xor .u8 t201 t202) = 1 then ((attr_Protected.f t201).bind fun t205 => ((attr_Protected.f a0).bind fun t206 => (if (t205 != t206) = true then (greenscreenlaw11_AttrTurns.j0 k l2 a3 true a1_0 a1_1 a1_2 a1_3 a1_4) else ((attr_Numeric.f t202).bind fun t207 => ((attr_Numeric.f a0).bind fun t208 => (if (t207 != t208) = true then (greenscreenlaw11_AttrTurns.j0 k l2 a3 true a1_0 a1_1 a1_2 a1_3 a1_4) else ((attr_Shown.f t201).bind fun t209 => ((attr_Shown.f t202).bind fun t210 => (if t209 = t210 then ((attr_Byte.f a0).bind fun t211 => ((attr_Same.f t211 a0).bind fun t212 => (if t212 = true then ((attr_Same.f t201 t202).bind fun t213 => (greenscreenlaw11_AttrTurns.j0 k l2 a3 t213 a1_0 a1_1 a1_2 a1_3 a1_4)) else (greenscreenlaw11_AttrTurns.j0 k l2 a3 true a1_0 a1_1 a1_2 a1_3 a1_4)))) else (greenscreenlaw11_AttrTurns.j0 k l2 a3 true a1_0 a1_1 a1_2 a1_3 a1_4)))))))))) else (greenscreenlaw11_AttrTurns.j0 k l2 a3 true a1_0 a1_1 a1_2 a1_3 a1_4)))) else (greenscreenlaw11_AttrTurns.j0 k l2 a3 true a1_0 a1_1 a1_2 a1_3 a1_4)))))) else (some false))
theorem greenscreenlaw11_AttrTurns.mono_l : ∀ k, (∀ y0 y1 y2 y3 y4 y5 y6 y7, LeO (greenscreenlaw11_AttrTurns.j0 k y0 y1 y2 y3 y4 y5 y6 y7) (greenscreenlaw11_AttrTurns.j0 (k + 1) y0 y1 y2 y3 y4 y5 y6 y7))
  | 0 => fun _ _ _ _ _ _ _ _ r h => by simp [greenscreenlaw11_AttrTurns.j0] at h
  | k + 1 => by
    have ih0 := greenscreenlaw11_AttrTurns.mono_l k
    · intro y0 y1 y2 y3 y4 y5 y6 y7
      unfold greenscreenlaw11_AttrTurns.j0
      repeat' first
      | (with_reducible exact ih0 _ _ _ _ _ _ _ _)
      | (with_reducible exact attr_Dress.mono _ _ _ _ _ _ _)
      | (with_reducible exact greenscreenlaw11_alive.mono _)
      | (with_reducible exact LeO.refl _)
      | (with_reducible exact LeO.none _)
      | (with_reducible refine LeO.ite ?_ ?_)
      | (with_reducible refine LeO.bind ?_ (fun _ => ?_))
      | exact ih0 _ _ _ _ _ _ _ _
      | exact attr_Dress.mono _ _ _ _ _ _ _
      | exact greenscreenlaw11_alive.mono _
      | exact LeO.none _
      | refine LeO.ite ?_ ?_
      | refine LeO.bind ?_ (fun _ => ?_)
theorem greenscreenlaw11_AttrTurns.mono : ∀ a0 a1 a2 a3 a4 a5 a6 a7 k, LeO (greenscreenlaw11_AttrTurns.f k a0 a1 a2 a3 a4 a5 a6 a7) (greenscreenlaw11_AttrTurns.f (k + 1) a0 a1 a2 a3 a4 a5 a6 a7) := by
  intro a0 a1 a2 a3 a4 a5 a6 a7 k
  have ih0 := greenscreenlaw11_AttrTurns.mono_l k
  unfold greenscreenlaw11_AttrTurns.f
  repeat' first
      | (with_reducible exact ih0 _ _ _ _ _ _ _ _)
      | (with_reducible exact attr_Dress.mono _ _ _ _ _ _ _)
      | (with_reducible exact greenscreenlaw11_alive.mono _)
      | (with_reducible exact LeO.refl _)
      | (with_reducible exact LeO.none _)
      | (with_reducible refine LeO.ite ?_ ?_)
      | (with_reducible refine LeO.bind ?_ (fun _ => ?_))
      | exact ih0 _ _ _ _ _ _ _ _
      | exact attr_Dress.mono _ _ _ _ _ _ _
      | exact greenscreenlaw11_alive.mono _
      | exact LeO.none _
      | refine LeO.ite ?_ ?_
      | refine LeO.bind ?_ (fun _ => ?_)
def greenscreenlaw11_AttrTurns.T10 : Bool × List (List Nat × List Nat) := (true, [([], []), ([], []), ([], []), ([1, 2], [1, 2]), ([0, 3], [0, 3]), ([], []), ([], []), ([5, 6], [5, 6]), ([4, 7, 4], [4, 7]), ([], []), ([8, 9], [8, 9]), ([10, 8], [10]), ([11], [11]), ([12, 11], [11, 12]), ([11], [11]), ([14, 11], [11, 14]), ([13, 15, 11], [11, 13, 15]), ([11, 16], [11, 16]), ([17, 11], [17]), ([18], [18]), ([19, 18], [18, 19]), ([18], [18]), ([21, 18], [18, 21]), ([20, 22, 18], [18, 20, 22]), ([18, 23], [18, 23]), ([24, 18, 0, 1, 2, 3, 4, 5, 6, 7, 8, 9, 10, 11, 12, 13, 14, 15, 16, 17, 18, 19, 20, 21, 22, 23, 24], [24])])
def greenscreenlaw11_AttrTurns.B10 : List Nat := [0, 0, 0, 6, 15, 0, 0, 96, 255, 0, 1023, 2047, 4095, 8191, 4095, 20479, 65535, 131071, 262143, 524287, 1048575, 524287, 2621439, 8388607, 16777215, 33554431]
theorem greenscreenlaw11_AttrTurns.tab10 : rtab .any (opsOf Try.f5 10) = greenscreenlaw11_AttrTurns.T10 := by kernel_rfl
theorem greenscreenlaw11_AttrTurns.bits10 : waitsOk greenscreenlaw11_AttrTurns.T10.2 greenscreenlaw11_AttrTurns.B10 = true := by kernel_rfl
set_option maxHeartbeats 8000000 in
set_option maxRecDepth 100000 in
theorem greenscreenlaw11_AttrTurns.calls (k : Nat) (a0 : Int) (a1_0 : Int) (a1_1 : Bool) (a1_2 : Bool) (a1_3 : Int) (a1_4 : Int) (A2 : Option Addr) (c2 : Nat) (l2 : List (S36)) (a3 : Int) (r : Bool) (hr_ : r = true) (w : World) (hr2 : Kd.C k36 w A2 l2.length l2) (hc2 : l2.length ≤ c2) (h : greenscreenlaw11_AttrTurns.f k a0 a1_0 a1_1 a1_2 a1_3 a1_4 l2 a3 = some r) :
    Calls Try.prog 5 #[.int .u8 a0, .agg #[.int .u8 a1_0, .bool a1_1, .bool a1_2, .int .u8 a1_3, .int .u8 a1_4], .slice A2 l2.length c2, .int .i64 a3] w fun e w' => e = .returned (.bool r) ∧ Below w.heap.size w w' := by
  have hu33 := Try.underlying33
  have HR2 := Aside0.mk hr2
  have HC2 := Aside0.mk hc2
  clear hr2 hc2
  have HB := Aside0.mk (Below.refl w.heap.size w)
  have H : ((greenscreenlaw11_alive.f k).bind fun t200 => (if t200 = true then (if (l2.length : Int) > 100 then (some true) else ((attr_Modify.f a0 true).bind fun t201 => ((attr_Modify.f a0 false).bind fun t202 => ((attr_Modified.f t201).bind fun t203 => (if t203 = true then ((attr_Modified.f t202).bind fun t204 => (if t204 = true then (greenscreenlaw11_AttrTurns.j0 k l2 a3 true a1_0 a1_1 a1_2 a1_3 a1_4) else (if (Go.bits .xor .u8 t201 t202) = 1 then ((attr_Protected.f t201).bind fun t205 => ((attr_Protected.f a0).bind fun t206 => (if (t205 != t206) = true then (greenscreenlaw11_AttrTurns.j0 k l2 a3 true a1_0 a1_1 a1_2 a1_3 a1_4) else ((attr_Numeric.f t202).bind fun t207 => ((attr_Numeric.f a0).bind fun t208 => (if (t207 != t208) = true then (greenscreenlaw11_AttrTurns.j0 k l2 a3 true a1_0 a1_1 a1_2 a1_3 a1_4) else ((attr_Shown.f t201).bind fun t209 => ((attr_Shown.f t202).bind fun t210 => (if t209 = t210 then ((attr_Byte.f a0).bind fun t211 => ((attr_Same.f t211 a0).bind fun t212 => (if t212 = true then ((attr_Same.f t201 t202).bind fun t213 => (greenscreenlaw11_AttrTurns.j0 k l2 a3 t213 a1_0 a1_1 a1_2 a1_3 a1_4)) else (greenscreenlaw11_AttrTurns.j0 k l2 a3 true a1_0 a1_1 a1_2 a1_3 a1_4)))) else (greenscreenlaw11_AttrTurns.j0 k l2 a3 true a1_0 a1_1 a1_2 a1_3 a1_4)))))))))) else (greenscreenlaw11_AttrTurns.j0 k l2 a3 true a1_0 a1_1 a1_2 a1_3 a1_4)))) else (greenscreenlaw11_AttrTurns.j0 k l2 a3 true a1_0 a1_1 a1_2 a1_3 a1_4)))))) else (some false))) = some r := h
  clear h
  replace H := Option.bind_eq_some_iff.mp H
  obtain ⟨t200, A50, H⟩ := H
  replace H : (if t200 = true then (if (l2.length : Int) > 100 then (some true) else ((attr_Modify.f a0 true).bind fun t201 => ((attr_Modify.f a0 false).bind fun t202 => ((attr_Modified.f t201).bind fun t203 => (if t203 = true then ((attr_Modified.f t202).bind fun t204 => (if t204 = true then (greenscreenlaw11_AttrTurns.j0 k l2 a3 true a1_0 a1_1 a1_2 a1_3 a1_4) else (if (Go.bits .xor .u8 t201 t202) = 1 then ((attr_Protected.f t201).bind fun t205 => ((attr_Protected.f a0).bind fun t206 => (if (t205 != t206) = true then (greenscreenlaw11_AttrTurns.j0 k l2 a3 true a1_0 a1_1 a1_2 a1_3 a1_4) else ((attr_Numeric.f t202).bind fun t207 => ((attr_Numeric.f a0).bind fun t208 => (if (t207 != t208) = true then (greenscreenlaw11_AttrTurns.j0 k l2 a3 true a1_0 a1_1 a1_2 a1_3 a1_4) else ((attr_Shown.f t201).bind fun t209 => ((attr_Shown.f t202).bind fun t210 => (if t209 = t210 then ((attr_Byte.f a0).bind fun t211 => ((attr_Same.f t211 a0).bind fun t212 => (if t212 = true then ((attr_Same.f t201 t202).bind fun t213 => (greenscreenlaw11_AttrTurns.j0 k l2 a3 t213 a1_0 a1_1 a1_2 a1_3 a1_4)) else (greenscreenlaw11_AttrTurns.j0 k l2 a3 true a1_0 a1_1 a1_2 a1_3 a1_4)))) else (greenscreenlaw11_AttrTurns.j0 k l2 a3 true a1_0 a1_1 a1_2 a1_3 a1_4)))))))))) else (greenscreenlaw11_AttrTurns.j0 k l2 a3 true a1_0 a1_1 a1_2 a1_3 a1_4)))) else (greenscreenlaw11_AttrTurns.j0 k l2 a3 true a1_0 a1_1 a1_2 a1_3 a1_4)))))) else (some false)) = some r := H
  have A5 := Aside0.mk A50
  clear A50
  by_cases c6 : t200 = true
  · subst c6
    have H1 : (if (l2.length : Int) > 100 then (some true) else ((attr_Modify.f a0 true).bind fun t201 => ((attr_Modify.f a0 false).bind fun t202 => ((attr_Modified.f t201).bind fun t203 => (if t203 = true then ((attr_Modified.f t202).bind fun t204 => (if t204 = true then (greenscreenlaw11_AttrTurns.j0 k l2 a3 true a1_0 a1_1 a1_2 a1_3 a1_4) else (if (Go.bits .xor .u8 t201 t202) = 1 then ((attr_Protected.f t201).bind fun t205 => ((attr_Protected.f a0).bind fun t206 => (if (t205 != t206) = true then (greenscreenlaw11_AttrTurns.j0 k l2 a3 true a1_0 a1_1 a1_2 a1_3 a1_4) else ((attr_Numeric.f t202).bind fun t207 => ((attr_Numeric.f a0).bind fun t208 => (if (t207 != t208) = true then (greenscreenlaw11_AttrTurns.j0 k l2 a3 true a1_0 a1_1 a1_2 a1_3 a1_4) else ((attr_Shown.f t201).bind fun t209 => ((attr_Shown.f t202).bind fun t210 => (if t209 = t210 then ((attr_Byte.f a0).bind fun t211 => ((attr_Same.f t211 a0).bind fun t212 => (if t212 = true then ((attr_Same.f t201 t202).bind fun t213 => (greenscreenlaw11_AttrTurns.j0 k l2 a3 t213 a1_0 a1_1 a1_2 a1_3 a1_4)) else (greenscreenlaw11_AttrTurns.j0 k l2 a3 true a1_0 a1_1 a1_2 a1_3 a1_4)))) else (greenscreenlaw11_AttrTurns.j0 k l2 a3 true a1_0 a1_1 a1_2 a1_3 a1_4)))))))))) else (greenscreenlaw11_AttrTurns.j0 k l2 a3 true a1_0 a1_1 a1_2 a1_3 a1_4)))) else (greenscreenlaw11_AttrTurns.j0 k l2 a3 true a1_0 a1_1 a1_2 a1_3 a1_4)))))) = some r := by rw [if_pos rfl] at H; exact H
    clear H
    have H := H1
    clear H1
    by_cases c7 : (l2.length : Int) > 100
    · rw [if_pos c7] at H
      have c7b0 : decide (100 < (l2.length : Int)) = true := decide_eq_true c7
      have c7b1 : decide (100 < l2.length) = true := decide_eq_true (by omega)
      clear c7
      obtain rfl := Option.some.inj H
      go_enter Try.func5, Try.ntmps5
      go_wp2_with (first | ((with_reducible refine gate_dst (N := 5) rfl ?_); refine box_event ?hg (N := 5) ?hd (cs := #[.int .u8 a1_0, .bool a1_1, .bool a1_2, .int .u8 a1_3, .int .u8 a1_4]) (t := 33) ?hr ?_; (case hd => rfl); (case hg => rfl); (case hr => first | (go_simp; done) | (go_simp; rfl)); intro gb199 hg w8 hbox hb; have n0_ := Aside0.mk (below_step (by repeat (first | (with_reducible first | exact HB.out | apply below_alloc | apply pw_below_drewN | apply below_drew1) | exact HB.out)) hb); have n1_ := Aside0.mk (hbox); have n2_ := Aside0.mk ((by rw [hg]; exact (below_size (by repeat (first | (with_reducible first | exact HB.out | apply below_alloc | apply pw_below_drewN | apply below_drew1) | exact HB.out))) : w.heap.size ≤ gb199)); have n3_ := Aside0.mk ((by rw [hg]; exact (below_size (by repeat (first | (with_reducible first | exact HB.out | apply below_alloc | apply pw_below_drewN | apply below_drew1) | exact HB.out))) : w.heap.size ≤ gb199)); clear HB; have HB := n0_; have BK199 := n1_; have GW199 := n2_; have GE199 := n3_; clear n0_ n1_ n2_ n3_; clear hb hbox hg) | ((with_reducible refine gate_callee (f := 7) rfl ?_); refine goesL_ (some 12) rfl rfl Try.func7 (by kernel_rfl) rfl #[] rfl (by (try simp only [List.map_toArray, List.map_cons, List.map_nil]); first | done | rfl | (simp only [List.length_drop, List.length_take]; rfl)) ?_; (with_reducible refine (greenscreenlaw11_alive.calls k  true rfl _ A5.out).mono ?_); rintro e w9 ⟨rfl, hb⟩; refine ⟨_, rfl, ?_⟩; have n0_ := Aside0.mk (blk_below (g := gb199) (o := .cells #[.int .u8 a1_0, .bool a1_1, .bool a1_2, .int .u8 a1_3, .int .u8 a1_4] 33 (0, 0)) (by (with_reducible repeat (first | refine blk_drewN ?_ _ | refine blk_drew ?_ | refine blk_alloc ?_ _)); exact BK199.out) hb); have n1_ := Aside0.mk (below_step (by repeat (first | (with_reducible first | exact HB.out | apply below_alloc | apply pw_below_drewN | apply below_drew1 | refine below_set ?_ GE199.out) | exact HB.out)) hb); clear BK199; clear HB; have BK199 := n0_; have HB := n1_; clear n0_ n1_; (try clear hb); (try clear hb2); (try clear hk); (try clear hi)))
      go_ret
      exact ⟨by first | rfl | (simp [errW_none, errW_some] <;> rfl) | (simp [*, errW_none, errW_some] <;> rfl), by repeat (first | (with_reducible first | exact HB.out | apply below_alloc | apply pw_below_drewN | apply below_drew1 | refine below_set ?_ GE199.out) | exact HB.out)⟩
    · rw [if_neg c7] at H
      have c7b0 : decide (100 < (l2.length : Int)) = false := decide_eq_false c7
      have c7b1 : decide (100 < l2.length) = false := decide_eq_false (by omega)
      clear c7
      replace H := Option.bind_eq_some_iff.mp H
      obtain ⟨t201, A100, H⟩ := H
      replace H : ((attr_Modify.f a0 false).bind fun t202 => ((attr_Modified.f t201).bind fun t203 => (if t203 = true then ((attr_Modified.f t202).bind fun t204 => (if t204 = true then (greenscreenlaw11_AttrTurns.j0 k l2 a3 true a1_0 a1_1 a1_2 a1_3 a1_4) else (if (Go.bits .xor .u8 t201 t202) = 1 then ((attr_Protected.f t201).bind fun t205 => ((attr_Protected.f a0).bind fun t206 => (if (t205 != t206) = true then (greenscreenlaw11_AttrTurns.j0 k l2 a3 true a1_0 a1_1 a1_2 a1_3 a1_4) else ((attr_Numeric.f t202).bind fun t207 => ((attr_Numeric.f a0).bind fun t208 => (if (t207 != t208) = true then (greenscreenlaw11_AttrTurns.j0 k l2 a3 true a1_0 a1_1 a1_2 a1_3 a1_4) else ((attr_Shown.f t201).bind fun t209 => ((attr_Shown.f t202).bind fun t210 => (if t209 = t210 then ((attr_Byte.f a0).bind fun t211 => ((attr_Same.f t211 a0).bind fun t212 => (if t212 = true then ((attr_Same.f t201 t202).bind fun t213 => (greenscreenlaw11_AttrTurns.j0 k l2 a3 t213 a1_0 a1_1 a1_2 a1_3 a1_4)) else (greenscreenlaw11_AttrTurns.j0 k l2 a3 true a1_0 a1_1 a1_2 a1_3 a1_4)))) else (greenscreenlaw11_AttrTurns.j0 k l2 a3 true a1_0 a1_1 a1_2 a1_3 a1_4)))))))))) else (greenscreenlaw11_AttrTurns.j0 k l2 a3 true a1_0 a1_1 a1_2 a1_3 a1_4)))) else (greenscreenlaw11_AttrTurns.j0 k l2 a3 true a1_0 a1_1 a1_2 a1_3 a1_4)))) = some r := H
      have A10 := Aside0.mk A100
      clear A100
      replace H := Option.bind_eq_some_iff.mp H
      obtain ⟨t202, A110, H⟩ := H
      replace H : ((attr_Modified.f t201).bind fun t203 => (if t203 = true then ((attr_Modified.f t202).bind fun t204 => (if t204 = true then (greenscreenlaw11_AttrTurns.j0 k l2 a3 true a1_0 a1_1 a1_2 a1_3 a1_4) else (if (Go.bits .xor .u8 t201 t202) = 1 then ((attr_Protected.f t201).bind fun t205 => ((attr_Protected.f a0).bind fun t206 => (if (t205 != t206) = true then (greenscreenlaw11_AttrTurns.j0 k l2 a3 true a1_0 a1_1 a1_2 a1_3 a1_4) else ((attr_Numeric.f t202).bind fun t207 => ((attr_Numeric.f a0).bind fun t208 => (if (t207 != t208) = true then (greenscreenlaw11_AttrTurns.j0 k l2 a3 true a1_0 a1_1 a1_2 a1_3 a1_4) else ((attr_Shown.f t201).bind fun t209 => ((attr_Shown.f t202).bind fun t210 => (if t209 = t210 then ((attr_Byte.f a0).bind fun t211 => ((attr_Same.f t211 a0).bind fun t212 => (if t212 = true then ((attr_Same.f t201 t202).bind fun t213 => (greenscreenlaw11_AttrTurns.j0 k l2 a3 t213 a1_0 a1_1 a1_2 a1_3 a1_4)) else (greenscreenlaw11_AttrTurns.j0 k l2 a3 true a1_0 a1_1 a1_2 a1_3 a1_4)))) else (greenscreenlaw11_AttrTurns.j0 k l2 a3 true a1_0 a1_1 a1_2 a1_3 a1_4)))))))))) else (greenscreenlaw11_AttrTurns.j0 k l2 a3 true a1_0 a1_1 a1_2 a1_3 a1_4)))) else (greenscreenlaw11_AttrTurns.j0 k l2 a3 true a1_0 a1_1 a1_2 a1_3 a1_4))) = some r := H
      have A11 := Aside0.mk A110
      clear A110
      have HC12 := Aside0.mk H
      clear H
      go_enter Try.func5, Try.ntmps5
      go_upto_region 6 with (first | ((with_reducible refine gate_dst (N := 5) rfl ?_); refine box_event ?hg (N := 5) ?hd (cs := #[.int .u8 a1_0, .bool a1_1, .bool a1_2, .int .u8 a1_3, .int .u8 a1_4]) (t := 33) ?hr ?_; (case hd => rfl); (case hg => rfl); (case hr => first | (go_simp; done) | (go_simp; rfl)); intro gb199 hg w13 hbox hb; have n0_ := Aside0.mk (below_step (by repeat (first | (with_reducible first | exact HB.out | apply below_alloc | apply pw_below_drewN | apply below_drew1) | exact HB.out)) hb); have n1_ := Aside0.mk (hbox); have n2_ := Aside0.mk ((by rw [hg]; exact (below_size (by repeat (first | (with_reducible first | exact HB.out | apply below_alloc | apply pw_below_drewN | apply below_drew1) | exact HB.out))) : w.heap.size ≤ gb199)); have n3_ := Aside0.mk ((by rw [hg]; exact (below_size (by repeat (first | (with_reducible first | exact HB.out | apply below_alloc | apply pw_below_drewN | apply below_drew1) | exact HB.out))) : w.heap.size ≤ gb199)); clear HB; have HB := n0_; have BK199 := n1_; have GW199 := n2_; have GE199 := n3_; clear n0_ n1_ n2_ n3_; clear hb hbox hg) | ((with_reducible refine gate_callee (f := 7) rfl ?_); refine goesL_ (some 12) rfl rfl Try.func7 (by kernel_rfl) rfl #[] rfl (by (try simp only [List.map_toArray, List.map_cons, List.map_nil]); first | done | rfl | (simp only [List.length_drop, List.length_take]; rfl)) ?_; (with_reducible refine (greenscreenlaw11_alive.calls k  true rfl _ A5.out).mono ?_); rintro e w14 ⟨rfl, hb⟩; refine ⟨_, rfl, ?_⟩; have n0_ := Aside0.mk (blk_below (g := gb199) (o := .cells #[.int .u8 a1_0, .bool a1_1, .bool a1_2, .int .u8 a1_3, .int .u8 a1_4] 33 (0, 0)) (by (with_reducible repeat (first | refine blk_drewN ?_ _ | refine blk_drew ?_ | refine blk_alloc ?_ _)); exact BK199.out) hb); have n1_ := Aside0.mk (below_step (by repeat (first | (with_reducible first | exact HB.out | apply below_alloc | apply pw_below_drewN | apply below_drew1 | refine below_set ?_ GE199.out) | exact HB.out)) hb); clear BK199; clear HB; have BK199 := n0_; have HB := n1_; clear n0_ n1_; (try clear hb); (try clear hb2); (try clear hk); (try clear hi)) | ((with_reducible refine gate_callee (f := 15) rfl ?_); refine goesL_ (some 18) rfl rfl Try.func15 (by kernel_rfl) rfl #[.int .u8 a0, .bool true] rfl (by (try simp only [List.map_toArray, List.map_cons, List.map_nil]); first | done | rfl | (simp only [List.length_drop, List.length_take]; rfl)) ?_; (with_reducible refine (attr_Modify.calls a0 true t201 _ A10.out).mono ?_); rintro e w' ⟨rfl, ⟨nd, rfl⟩⟩; refine ⟨_, rfl, ?_⟩) | ((with_reducible refine gate_callee (f := 15) rfl ?_); refine goesL_ (some 20) rfl rfl Try.func15 (by kernel_rfl) rfl #[.int .u8 a0, .bool false] rfl (by (try simp only [List.map_toArray, List.map_cons, List.map_nil]); first | done | rfl | (simp only [List.length_drop, List.length_take]; rfl)) ?_; (with_reducible refine (attr_Modify.calls a0 false t202 _ A11.out).mono ?_); rintro e w' ⟨rfl, ⟨nd, rfl⟩⟩; refine ⟨_, rfl, ?_⟩))
      (try simp only [Act.put, List.setIfInBounds_toArray, List.set_cons_zero, List.set_cons_succ])
      go_cut [66] (fun v66 wc => ∃ (kq : Nat) (x66_11 : Bool), v66 = .bool x66_11 ∧ Aside0 (greenscreenlaw11_AttrTurns.j0 kq l2 a3 x66_11 a1_0 a1_1 a1_2 a1_3 a1_4 = some r) ∧ Aside0 (kq ≤ k) ∧ Aside0 (wc.heap[gb199]? = some (.cells #[.int .u8 a1_0, .bool a1_1, .bool a1_2, .int .u8 a1_3, .int .u8 a1_4] 33 (0, 0))) ∧ Aside0 (Below w.heap.size w wc))
      case first =>
        have H := HC12.out
        clear HC12
        replace H := Option.bind_eq_some_iff.mp H
        obtain ⟨t203, A150, H⟩ := H
        replace H : (if t203 = true then ((attr_Modified.f t202).bind fun t204 => (if t204 = true then (greenscreenlaw11_AttrTurns.j0 k l2 a3 true a1_0 a1_1 a1_2 a1_3 a1_4) else (if (Go.bits .xor .u8 t201 t202) = 1 then ((attr_Protected.f t201).bind fun t205 => ((attr_Protected.f a0).bind fun t206 => (if (t205 != t206) = true then (greenscreenlaw11_AttrTurns.j0 k l2 a3 true a1_0 a1_1 a1_2 a1_3 a1_4) else ((attr_Numeric.f t202).bind fun t207 => ((attr_Numeric.f a0).bind fun t208 => (if (t207 != t208) = true then (greenscreenlaw11_AttrTurns.j0 k l2 a3 true a1_0 a1_1 a1_2 a1_3 a1_4) else ((attr_Shown.f t201).bind fun t209 => ((attr_Shown.f t202).bind fun t210 => (if t209 = t210 then ((attr_Byte.f a0).bind fun t211 => ((attr_Same.f t211 a0).bind fun t212 => (if t212 = true then ((attr_Same.f t201 t202).bind fun t213 => (greenscreenlaw11_AttrTurns.j0 k l2 a3 t213 a1_0 a1_1 a1_2 a1_3 a1_4)) else (greenscreenlaw11_AttrTurns.j0 k l2 a3 true a1_0 a1_1 a1_2 a1_3 a1_4)))) else (greenscreenlaw11_AttrTurns.j0 k l2 a3 true a1_0 a1_1 a1_2 a1_3 a1_4)))))))))) else (greenscreenlaw11_AttrTurns.j0 k l2 a3 true a1_0 a1_1 a1_2 a1_3 a1_4)))) else (greenscreenlaw11_AttrTurns.j0 k l2 a3 true a1_0 a1_1 a1_2 a1_3 a1_4)) = some r := H
        have A15 := Aside0.mk A150
        clear A150
        by_cases c16 : t203 = true
        · subst c16
          have H1 : ((attr_Modified.f t202).bind fun t204 => (if t204 = true then (greenscreenlaw11_AttrTurns.j0 k l2 a3 true a1_0 a1_1 a1_2 a1_3 a1_4) else (if (Go.bits .xor .u8 t201 t202) = 1 then ((attr_Protected.f t201).bind fun t205 => ((attr_Protected.f a0).bind fun t206 => (if (t205 != t206) = true then (greenscreenlaw11_AttrTurns.j0 k l2 a3 true a1_0 a1_1 a1_2 a1_3 a1_4) else ((attr_Numeric.f t202).bind fun t207 => ((attr_Numeric.f a0).bind fun t208 => (if (t207 != t208) = true then (greenscreenlaw11_AttrTurns.j0 k l2 a3 true a1_0 a1_1 a1_2 a1_3 a1_4) else ((attr_Shown.f t201).bind fun t209 => ((attr_Shown.f t202).bind fun t210 => (if t209 = t210 then ((attr_Byte.f a0).bind fun t211 => ((attr_Same.f t211 a0).bind fun t212 => (if t212 = true then ((attr_Same.f t201 t202).bind fun t213 => (greenscreenlaw11_AttrTurns.j0 k l2 a3 t213 a1_0 a1_1 a1_2 a1_3 a1_4)) else (greenscreenlaw11_AttrTurns.j0 k l2 a3 true a1_0 a1_1 a1_2 a1_3 a1_4)))) else (greenscreenlaw11_AttrTurns.j0 k l2 a3 true a1_0 a1_1 a1_2 a1_3 a1_4)))))))))) else (greenscreenlaw11_AttrTurns.j0 k l2 a3 true a1_0 a1_1 a1_2 a1_3 a1_4)))) = some r := by rw [if_pos rfl] at H; exact H
          clear H
          have H := H1
          clear H1
          replace H := Option.bind_eq_some_iff.mp H
          obtain ⟨t204, A170, H⟩ := H
          replace H : (if t204 = true then (greenscreenlaw11_AttrTurns.j0 k l2 a3 true a1_0 a1_1 a1_2 a1_3 a1_4) else (if (Go.bits .xor .u8 t201 t202) = 1 then ((attr_Protected.f t201).bind fun t205 => ((attr_Protected.f a0).bind fun t206 => (if (t205 != t206) = true then (greenscreenlaw11_AttrTurns.j0 k l2 a3 true a1_0 a1_1 a1_2 a1_3 a1_4) else ((attr_Numeric.f t202).bind fun t207 => ((attr_Numeric.f a0).bind fun t208 => (if (t207 != t208) = true then (greenscreenlaw11_AttrTurns.j0 k l2 a3 true a1_0 a1_1 a1_2 a1_3 a1_4) else ((attr_Shown.f t201).bind fun t209 => ((attr_Shown.f t202).bind fun t210 => (if t209 = t210 then ((attr_Byte.f a0).bind fun t211 => ((attr_Same.f t211 a0).bind fun t212 => (if t212 = true then ((attr_Same.f t201 t202).bind fun t213 => (greenscreenlaw11_AttrTurns.j0 k l2 a3 t213 a1_0 a1_1 a1_2 a1_3 a1_4)) else (greenscreenlaw11_AttrTurns.j0 k l2 a3 true a1_0 a1_1 a1_2 a1_3 a1_4)))) else (greenscreenlaw11_AttrTurns.j0 k l2 a3 true a1_0 a1_1 a1_2 a1_3 a1_4)))))))))) else (greenscreenlaw11_AttrTurns.j0 k l2 a3 true a1_0 a1_1 a1_2 a1_3 a1_4))) = some r := H
          have A17 := Aside0.mk A170
          clear A170
          by_cases c18 : t204 = true
          · subst c18
            have H1 : (greenscreenlaw11_AttrTurns.j0 k l2 a3 true a1_0 a1_1 a1_2 a1_3 a1_4) = some r := by rw [if_pos rfl] at H; exact H
            clear H
            have H := H1
            clear H1
            have H' := Aside0.mk H
            clear H
            go_wp2_with (first | ((with_reducible refine gate_callee (f := 14) rfl ?_); refine goesL_ (some 22) rfl rfl Try.func14 (by kernel_rfl) rfl #[.int .u8 t201] rfl (by (try simp only [List.map_toArray, List.map_cons, List.map_nil]); first | done | rfl | (simp only [List.length_drop, List.length_take]; rfl)) ?_; (with_reducible refine (attr_Modified.calls t201 true _ A15.out).mono ?_); rintro e w' ⟨rfl, ⟨nd, rfl⟩⟩; refine ⟨_, rfl, ?_⟩) | (go_at_call 14; (with_reducible refine (attr_Modified.calls t202 true _ A17.out).mono ?_); rintro e w' ⟨rfl, ⟨nd, rfl⟩⟩) | (go_at_call 14; (with_reducible refine (attr_Modified.calls t201 true _ A15.out).mono ?_); rintro e w' ⟨rfl, ⟨nd, rfl⟩⟩))
            go_meet
            case rel => exact ⟨_, (true), (by first | rfl | (simp; done) | (simp [*]; done)), H', ⟨by first | omega | exact Nat.le_refl _⟩, ⟨by (with_reducible repeat (first | refine blk_drewN ?_ _ | refine blk_drew ?_ | refine blk_alloc ?_ _)); exact BK199.out⟩, ⟨by repeat (first | (with_reducible first | exact HB.out | apply below_alloc | apply pw_below_drewN | apply below_drew1 | refine below_set ?_ GE199.out) | exact HB.out)⟩⟩
          · replace c18 := Bool.eq_false_iff.mpr c18
            subst c18
            have H1 : (if (Go.bits .xor .u8 t201 t202) = 1 then ((attr_Protected.f t201).bind fun t205 => ((attr_Protected.f a0).bind fun t206 => (if (t205 != t206) = true then (greenscreenlaw11_AttrTurns.j0 k l2 a3 true a1_0 a1_1 a1_2 a1_3 a1_4) else ((attr_Numeric.f t202).bind fun t207 => ((attr_Numeric.f a0).bind fun t208 => (if (t207 != t208) = true then (greenscreenlaw11_AttrTurns.j0 k l2 a3 true a1_0 a1_1 a1_2 a1_3 a1_4) else ((attr_Shown.f t201).bind fun t209 => ((attr_Shown.f t202).bind fun t210 => (if t209 = t210 then ((attr_Byte.f a0).bind fun t211 => ((attr_Same.f t211 a0).bind fun t212 => (if t212 = true then ((attr_Same.f t201 t202).bind fun t213 => (greenscreenlaw11_AttrTurns.j0 k l2 a3 t213 a1_0 a1_1 a1_2 a1_3 a1_4)) else (greenscreenlaw11_AttrTurns.j0 k l2 a3 true a1_0 a1_1 a1_2 a1_3 a1_4)))) else (greenscreenlaw11_AttrTurns.j0 k l2 a3 true a1_0 a1_1 a1_2 a1_3 a1_4)))))))))) else (greenscreenlaw11_AttrTurns.j0 k l2 a3 true a1_0 a1_1 a1_2 a1_3 a1_4)) = some r := by rw [if_neg (show ¬ (false = true) by decide)] at H; exact H
            clear H
            have H := H1
            clear H1
            by_cases c19 : (Go.bits .xor .u8 t201 t202) = 1
            · rw [if_pos c19] at H
              have c19b0 : ((Go.bits .xor .u8 t201 t202) == 1) = true := beq_iff_eq.mpr c19
              have c19b1 : ((Go.bits .xor .u8 t201 t202) != 1) = false := bne_eq_false_iff_eq.mpr c19
              clear c19
              (first | rw [c19b0] | (simp only [i64_w, i32_w]; rw [c19b0]) | skip)
              replace H := Option.bind_eq_some_iff.mp H
              obtain ⟨t205, A200, H⟩ := H
              replace H : ((attr_Protected.f a0).bind fun t206 => (if (t205 != t206) = true then (greenscreenlaw11_AttrTurns.j0 k l2 a3 true a1_0 a1_1 a1_2 a1_3 a1_4) else ((attr_Numeric.f t202).bind fun t207 => ((attr_Numeric.f a0).bind fun t208 => (if (t207 != t208) = true then (greenscreenlaw11_AttrTurns.j0 k l2 a3 true a1_0 a1_1 a1_2 a1_3 a1_4) else ((attr_Shown.f t201).bind fun t209 => ((attr_Shown.f t202).bind fun t210 => (if t209 = t210 then ((attr_Byte.f a0).bind fun t211 => ((attr_Same.f t211 a0).bind fun t212 => (if t212 = true then ((attr_Same.f t201 t202).bind fun t213 => (greenscreenlaw11_AttrTurns.j0 k l2 a3 t213 a1_0 a1_1 a1_2 a1_3 a1_4)) else (greenscreenlaw11_AttrTurns.j0 k l2 a3 true a1_0 a1_1 a1_2 a1_3 a1_4)))) else (greenscreenlaw11_AttrTurns.j0 k l2 a3 true a1_0 a1_1 a1_2 a1_3 a1_4))))))))) = some r := H
              have A20 := Aside0.mk A200
              clear A200
              replace H := Option.bind_eq_some_iff.mp H
              obtain ⟨t206, A210, H⟩ := H
              replace H : (if (t205 != t206) = true then (greenscreenlaw11_AttrTurns.j0 k l2 a3 true a1_0 a1_1 a1_2 a1_3 a1_4) else ((attr_Numeric.f t202).bind fun t207 => ((attr_Numeric.f a0).bind fun t208 => (if (t207 != t208) = true then (greenscreenlaw11_AttrTurns.j0 k l2 a3 true a1_0 a1_1 a1_2 a1_3 a1_4) else ((attr_Shown.f t201).bind fun t209 => ((attr_Shown.f t202).bind fun t210 => (if t209 = t210 then ((attr_Byte.f a0).bind fun t211 => ((attr_Same.f t211 a0).bind fun t212 => (if t212 = true then ((attr_Same.f t201 t202).bind fun t213 => (greenscreenlaw11_AttrTurns.j0 k l2 a3 t213 a1_0 a1_1 a1_2 a1_3 a1_4)) else (greenscreenlaw11_AttrTurns.j0 k l2 a3 true a1_0 a1_1 a1_2 a1_3 a1_4)))) else (greenscreenlaw11_AttrTurns.j0 k l2 a3 true a1_0 a1_1 a1_2 a1_3 a1_4)))))))) = some r := H
              have A21 := Aside0.mk A210
              clear A210
              by_cases c22 : (t205 != t206) = true
              · rw [if_pos c22] at H
                have c22b0 : (t205 != t206) = true := c22
                (try (have c22b1 : decide (t205 = t206) = false := by simpa using c22))
                (try (have c22b2 : (t205 == t206) = false := by simpa using c22))
                (try (have c22b3 : ¬ (t205 = t206) := by simpa using c22))
                clear c22
                have H' := Aside0.mk H
                clear H
                go_wp2_with (first | ((with_reducible refine gate_callee (f := 14) rfl ?_); refine goesL_ (some 22) rfl rfl Try.func14 (by kernel_rfl) rfl #[.int .u8 t201] rfl (by (try simp only [List.map_toArray, List.map_cons, List.map_nil]); first | done | rfl | (simp only [List.length_drop, List.length_take]; rfl)) ?_; (with_reducible refine (attr_Modified.calls t201 true _ A15.out).mono ?_); rintro e w' ⟨rfl, ⟨nd, rfl⟩⟩; refine ⟨_, rfl, ?_⟩) | (go_at_call 14; (with_reducible refine (attr_Modified.calls t202 false _ A17.out).mono ?_); rintro e w' ⟨rfl, ⟨nd, rfl⟩⟩) | (go_at_call 9; (with_reducible refine (attr_Protected.calls t201 t205 _ A20.out).mono ?_); rintro e w' ⟨rfl, ⟨nd, rfl⟩⟩) | (go_at_call 9; (with_reducible refine (attr_Protected.calls a0 t206 _ A21.out).mono ?_); rintro e w' ⟨rfl, ⟨nd, rfl⟩⟩) | (go_at_call 14; (with_reducible refine (attr_Modified.calls t201 true _ A15.out).mono ?_); rintro e w' ⟨rfl, ⟨nd, rfl⟩⟩))
                go_meet
                case rel => exact ⟨_, (true), (by first | rfl | (simp; done) | (simp [*]; done)), H', ⟨by first | omega | exact Nat.le_refl _⟩, ⟨by (with_reducible repeat (first | refine blk_drewN ?_ _ | refine blk_drew ?_ | refine blk_alloc ?_ _)); exact BK199.out⟩, ⟨by repeat (first | (with_reducible first | exact HB.out | apply below_alloc | apply pw_below_drewN | apply below_drew1 | refine below_set ?_ GE199.out) | exact HB.out)⟩⟩
              · rw [if_neg c22] at H
                have c22b0 : (t205 != t206) = false := by simpa using c22
                (try (have c22b1 : decide (t205 = t206) = true := by simpa using c22))
                (try (have c22b2 : (t205 == t206) = true := by simpa using c22))
                clear c22
                replace H := Option.bind_eq_some_iff.mp H
                obtain ⟨t207, A230, H⟩ := H
                replace H : ((attr_Numeric.f a0).bind fun t208 => (if (t207 != t208) = true then (greenscreenlaw11_AttrTurns.j0 k l2 a3 true a1_0 a1_1 a1_2 a1_3 a1_4) else ((attr_Shown.f t201).bind fun t209 => ((attr_Shown.f t202).bind fun t210 => (if t209 = t210 then ((attr_Byte.f a0).bind fun t211 => ((attr_Same.f t211 a0).bind fun t212 => (if t212 = true then ((attr_Same.f t201 t202).bind fun t213 => (greenscreenlaw11_AttrTurns.j0 k l2 a3 t213 a1_0 a1_1 a1_2 a1_3 a1_4)) else (greenscreenlaw11_AttrTurns.j0 k l2 a3 true a1_0 a1_1 a1_2 a1_3 a1_4)))) else (greenscreenlaw11_AttrTurns.j0 k l2 a3 true a1_0 a1_1 a1_2 a1_3 a1_4)))))) = some r := H
                have A23 := Aside0.mk A230
                clear A230
                replace H := Option.bind_eq_some_iff.mp H
                obtain ⟨t208, A240, H⟩ := H
                replace H : (if (t207 != t208) = true then (greenscreenlaw11_AttrTurns.j0 k l2 a3 true a1_0 a1_1 a1_2 a1_3 a1_4) else ((attr_Shown.f t201).bind fun t209 => ((attr_Shown.f t202).bind fun t210 => (if t209 = t210 then ((attr_Byte.f a0).bind fun t211 => ((attr_Same.f t211 a0).bind fun t212 => (if t212 = true then ((attr_Same.f t201 t202).bind fun t213 => (greenscreenlaw11_AttrTurns.j0 k l2 a3 t213 a1_0 a1_1 a1_2 a1_3 a1_4)) else (greenscreenlaw11_AttrTurns.j0 k l2 a3 true a1_0 a1_1 a1_2 a1_3 a1_4)))) else (greenscreenlaw11_AttrTurns.j0 k l2 a3 true a1_0 a1_1 a1_2 a1_3 a1_4))))) = some r := H
                have A24 := Aside0.mk A240
                clear A240
                by_cases c25 : (t207 != t208) = true
                · rw [if_pos c25] at H
                  have c25b0 : (t207 != t208) = true := c25
                  (try (have c25b1 : decide (t207 = t208) = false := by simpa using c25))
                  (try (have c25b2 : (t207 == t208) = false := by simpa using c25))
                  (try (have c25b3 : ¬ (t207 = t208) := by simpa using c25))
                  clear c25
                  have H' := Aside0.mk H
                  clear H
                  go_wp2_with (first | ((with_reducible refine gate_callee (f := 14) rfl ?_); refine goesL_ (some 22) rfl rfl Try.func14 (by kernel_rfl) rfl #[.int .u8 t201] rfl (by (try simp only [List.map_toArray, List.map_cons, List.map_nil]); first | done | rfl | (simp only [List.length_drop, List.length_take]; rfl)) ?_; (with_reducible refine (attr_Modified.calls t201 true _ A15.out).mono ?_); rintro e w' ⟨rfl, ⟨nd, rfl⟩⟩; refine ⟨_, rfl, ?_⟩) | (go_at_call 14; (with_reducible refine (attr_Modified.calls t202 false _ A17.out).mono ?_); rintro e w' ⟨rfl, ⟨nd, rfl⟩⟩) | (go_at_call 9; (with_reducible refine (attr_Protected.calls t201 t205 _ A20.out).mono ?_); rintro e w' ⟨rfl, ⟨nd, rfl⟩⟩) | (go_at_call 9; (with_reducible refine (attr_Protected.calls a0 t206 _ A21.out).mono ?_); rintro e w' ⟨rfl, ⟨nd, rfl⟩⟩) | (go_at_call 10; (with_reducible refine (attr_Numeric.calls t202 t207 _ A23.out).mono ?_); rintro e w' ⟨rfl, ⟨nd, rfl⟩⟩) | (go_at_call 10; (with_reducible refine (attr_Numeric.calls a0 t208 _ A24.out).mono ?_); rintro e w' ⟨rfl, ⟨nd, rfl⟩⟩) | (go_at_call 14; (with_reducible refine (attr_Modified.calls t201 true _ A15.out).mono ?_); rintro e w' ⟨rfl, ⟨nd, rfl⟩⟩))
                  go_meet
                  case rel => exact ⟨_, (true), (by first | rfl | (simp; done) | (simp [*]; done)), H', ⟨by first | omega | exact Nat.le_refl _⟩, ⟨by (with_reducible repeat (first | refine blk_drewN ?_ _ | refine blk_drew ?_ | refine blk_alloc ?_ _)); exact BK199.out⟩, ⟨by repeat (first | (with_reducible first | exact HB.out | apply below_alloc | apply pw_below_drewN | apply below_drew1 | refine below_set ?_ GE199.out) | exact HB.out)⟩⟩
                · rw [if_neg c25] at H
                  have c25b0 : (t207 != t208) = false := by simpa using c25
                  (try (have c25b1 : decide (t207 = t208) = true := by simpa using c25))
                  (try (have c25b2 : (t207 == t208) = true := by simpa using c25))
                  clear c25
                  replace H := Option.bind_eq_some_iff.mp H
                  obtain ⟨t209, A260, H⟩ := H
                  replace H : ((attr_Shown.f t202).bind fun t210 => (if t209 = t210 then ((attr_Byte.f a0).bind fun t211 => ((attr_Same.f t211 a0).bind fun t212 => (if t212 = true then ((attr_Same.f t201 t202).bind fun t213 => (greenscreenlaw11_AttrTurns.j0 k l2 a3 t213 a1_0 a1_1 a1_2 a1_3 a1_4)) else (greenscreenlaw11_AttrTurns.j0 k l2 a3 true a1_0 a1_1 a1_2 a1_3 a1_4)))) else (greenscreenlaw11_AttrTurns.j0 k l2 a3 true a1_0 a1_1 a1_2 a1_3 a1_4))) = some r := H
                  have A26 := Aside0.mk A260
                  clear A260
                  replace H := Option.bind_eq_some_iff.mp H
                  obtain ⟨t210, A270, H⟩ := H
                  replace H : (if t209 = t210 then ((attr_Byte.f a0).bind fun t211 => ((attr_Same.f t211 a0).bind fun t212 => (if t212 = true then ((attr_Same.f t201 t202).bind fun t213 => (greenscreenlaw11_AttrTurns.j0 k l2 a3 t213 a1_0 a1_1 a1_2 a1_3 a1_4)) else (greenscreenlaw11_AttrTurns.j0 k l2 a3 true a1_0 a1_1 a1_2 a1_3 a1_4)))) else (greenscreenlaw11_AttrTurns.j0 k l2 a3 true a1_0 a1_1 a1_2 a1_3 a1_4)) = some r := H
                  have A27 := Aside0.mk A270
                  clear A270
                  by_cases c28 : t209 = t210
                  · rw [if_pos c28] at H
                    have c28b0 : (t209 == t210) = true := beq_iff_eq.mpr c28
                    have c28b1 : (t209 != t210) = false := bne_eq_false_iff_eq.mpr c28
                    clear c28
                    replace H := Option.bind_eq_some_iff.mp H
                    obtain ⟨t211, A290, H⟩ := H
                    replace H : ((attr_Same.f t211 a0).bind fun t212 => (if t212 = true then ((attr_Same.f t201 t202).bind fun t213 => (greenscreenlaw11_AttrTurns.j0 k l2 a3 t213 a1_0 a1_1 a1_2 a1_3 a1_4)) else (greenscreenlaw11_AttrTurns.j0 k l2 a3 true a1_0 a1_1 a1_2 a1_3 a1_4))) = some r := H
                    have A29 := Aside0.mk A290
                    clear A290
                    replace H := Option.bind_eq_some_iff.mp H
                    obtain ⟨t212, A300, H⟩ := H
                    replace H : (if t212 = true then ((attr_Same.f t201 t202).bind fun t213 => (greenscreenlaw11_AttrTurns.j0 k l2 a3 t213 a1_0 a1_1 a1_2 a1_3 a1_4)) else (greenscreenlaw11_AttrTurns.j0 k l2 a3 true a1_0 a1_1 a1_2 a1_3 a1_4)) = some r := H
                    have A30 := Aside0.mk A300
                    clear A300
                    by_cases c31 : t212 = true
                    · subst c31
                      have H1 : ((attr_Same.f t201 t202).bind fun t213 => (greenscreenlaw11_AttrTurns.j0 k l2 a3 t213 a1_0 a1_1 a1_2 a1_3 a1_4)) = some r := by rw [if_pos rfl] at H; exact H
                      clear H
                      have H := H1
                      clear H1
                      replace H := Option.bind_eq_some_iff.mp H
                      obtain ⟨t213, A320, H⟩ := H
                      replace H : (greenscreenlaw11_AttrTurns.j0 k l2 a3 t213 a1_0 a1_1 a1_2 a1_3 a1_4) = some r := H
                      have A32 := Aside0.mk A320
                      clear A320
                      have H' := Aside0.mk H
                      clear H
                      go_wp2_with (first | ((with_reducible refine gate_callee (f := 14) rfl ?_); refine goesL_ (some 22) rfl rfl Try.func14 (by kernel_rfl) rfl #[.int .u8 t201] rfl (by (try simp only [List.map_toArray, List.map_cons, List.map_nil]); first | done | rfl | (simp only [List.length_drop, List.length_take]; rfl)) ?_; (with_reducible refine (attr_Modified.calls t201 true _ A15.out).mono ?_); rintro e w' ⟨rfl, ⟨nd, rfl⟩⟩; refine ⟨_, rfl, ?_⟩) | (go_at_call 14; (with_reducible refine (attr_Modified.calls t202 false _ A17.out).mono ?_); rintro e w' ⟨rfl, ⟨nd, rfl⟩⟩) | (go_at_call 9; (with_reducible refine (attr_Protected.calls t201 t205 _ A20.out).mono ?_); rintro e w' ⟨rfl, ⟨nd, rfl⟩⟩) | (go_at_call 9; (with_reducible refine (attr_Protected.calls a0 t206 _ A21.out).mono ?_); rintro e w' ⟨rfl, ⟨nd, rfl⟩⟩) | (go_at_call 10; (with_reducible refine (attr_Numeric.calls t202 t207 _ A23.out).mono ?_); rintro e w' ⟨rfl, ⟨nd, rfl⟩⟩) | (go_at_call 10; (with_reducible refine (attr_Numeric.calls a0 t208 _ A24.out).mono ?_); rintro e w' ⟨rfl, ⟨nd, rfl⟩⟩) | (go_at_call 12; (with_reducible refine (attr_Shown.calls t201 t209 _ A26.out).mono ?_); rintro e w' ⟨rfl, ⟨nd, rfl⟩⟩) | (go_at_call 12; (with_reducible refine (attr_Shown.calls t202 t210 _ A27.out).mono ?_); rintro e w' ⟨rfl, ⟨nd, rfl⟩⟩) | (go_at_call 17; (with_reducible refine (attr_Byte.calls a0 t211 _ A29.out).mono ?_); rintro e w' ⟨rfl, ⟨nd, rfl⟩⟩) | (go_at_call 19; (with_reducible refine (attr_Same.calls t211 a0 true _ A30.out).mono ?_); rintro e w' ⟨rfl, ⟨nd, rfl⟩⟩) | (go_at_call 19; (with_reducible refine (attr_Same.calls t201 t202 t213 _ A32.out).mono ?_); rintro e w' ⟨rfl, ⟨nd, rfl⟩⟩) | (go_at_call 14; (with_reducible refine (attr_Modified.calls t201 true _ A15.out).mono ?_); rintro e w' ⟨rfl, ⟨nd, rfl⟩⟩))
                      go_meet
                      case rel => exact ⟨_, (t213), (by first | rfl | (simp; done) | (simp [*]; done)), H', ⟨by first | omega | exact Nat.le_refl _⟩, ⟨by (with_reducible repeat (first | refine blk_drewN ?_ _ | refine blk_drew ?_ | refine blk_alloc ?_ _)); exact BK199.out⟩, ⟨by repeat (first | (with_reducible first | exact HB.out | apply below_alloc | apply pw_below_drewN | apply below_drew1 | refine below_set ?_ GE199.out) | exact HB.out)⟩⟩
                    · replace c31 := Bool.eq_false_iff.mpr c31
                      subst c31
                      have H1 : (greenscreenlaw11_AttrTurns.j0 k l2 a3 true a1_0 a1_1 a1_2 a1_3 a1_4) = some r := by rw [if_neg (show ¬ (false = true) by decide)] at H; exact H
                      clear H
                      have H := H1
                      clear H1
                      have H' := Aside0.mk H
                      clear H
                      go_wp2_with (first | ((with_reducible refine gate_callee (f := 14) rfl ?_); refine goesL_ (some 22) rfl rfl Try.func14 (by kernel_rfl) rfl #[.int .u8 t201] rfl (by (try simp only [List.map_toArray, List.map_cons, List.map_nil]); first | done | rfl | (simp only [List.length_drop, List.length_take]; rfl)) ?_; (with_reducible refine (attr_Modified.calls t201 true _ A15.out).mono ?_); rintro e w' ⟨rfl, ⟨nd, rfl⟩⟩; refine ⟨_, rfl, ?_⟩) | (go_at_call 14; (with_reducible refine (attr_Modified.calls t202 false _ A17.out).mono ?_); rintro e w' ⟨rfl, ⟨nd, rfl⟩⟩) | (go_at_call 9; (with_reducible refine (attr_Protected.calls t201 t205 _ A20.out).mono ?_); rintro e w' ⟨rfl, ⟨nd, rfl⟩⟩) | (go_at_call 9; (with_reducible refine (attr_Protected.calls a0 t206 _ A21.out).mono ?_); rintro e w' ⟨rfl, ⟨nd, rfl⟩⟩) | (go_at_call 10; (with_reducible refine (attr_Numeric.calls t202 t207 _ A23.out).mono ?_); rintro e w' ⟨rfl, ⟨nd, rfl⟩⟩) | (go_at_call 10; (with_reducible refine (attr_Numeric.calls a0 t208 _ A24.out).mono ?_); rintro e w' ⟨rfl, ⟨nd, rfl⟩⟩) | (go_at_call 12; (with_reducible refine (attr_Shown.calls t201 t209 _ A26.out).mono ?_); rintro e w' ⟨rfl, ⟨nd, rfl⟩⟩) | (go_at_call 12; (with_reducible refine (attr_Shown.calls t202 t210 _ A27.out).mono ?_); rintro e w' ⟨rfl, ⟨nd, rfl⟩⟩) | (go_at_call 17; (with_reducible refine (attr_Byte.calls a0 t211 _ A29.out).mono ?_); rintro e w' ⟨rfl, ⟨nd, rfl⟩⟩) | (go_at_call 19; (with_reducible refine (attr_Same.calls t211 a0 false _ A30.out).mono ?_); rintro e w' ⟨rfl, ⟨nd, rfl⟩⟩) | (go_at_call 14; (with_reducible refine (attr_Modified.calls t201 true _ A15.out).mono ?_); rintro e w' ⟨rfl, ⟨nd, rfl⟩⟩))
                      go_meet
                      case rel => exact ⟨_, (true), (by first | rfl | (simp; done) | (simp [*]; done)), H', ⟨by first | omega | exact Nat.le_refl _⟩, ⟨by (with_reducible repeat (first | refine blk_drewN ?_ _ | refine blk_drew ?_ | refine blk_alloc ?_ _)); exact BK199.out⟩, ⟨by repeat (first | (with_reducible first | exact HB.out | apply below_alloc | apply pw_below_drewN | apply below_drew1 | refine below_set ?_ GE199.out) | exact HB.out)⟩⟩
                  · rw [if_neg c28] at H
                    have c28b0 : (t209 == t210) = false := beq_eq_false_iff_ne.mpr c28
                    have c28b1 : (t209 != t210) = true := bne_iff_ne.mpr c28
                    have H' := Aside0.mk H
                    clear H
                    go_wp2_with (first | ((with_reducible refine gate_callee (f := 14) rfl ?_); refine goesL_ (some 22) rfl rfl Try.func14 (by kernel_rfl) rfl #[.int .u8 t201] rfl (by (try simp only [List.map_toArray, List.map_cons, List.map_nil]); first | done | rfl | (simp only [List.length_drop, List.length_take]; rfl)) ?_; (with_reducible refine (attr_Modified.calls t201 true _ A15.out).mono ?_); rintro e w' ⟨rfl, ⟨nd, rfl⟩⟩; refine ⟨_, rfl, ?_⟩) | (go_at_call 14; (with_reducible refine (attr_Modified.calls t202 false _ A17.out).mono ?_); rintro e w' ⟨rfl, ⟨nd, rfl⟩⟩) | (go_at_call 9; (with_reducible refine (attr_Protected.calls t201 t205 _ A20.out).mono ?_); rintro e w' ⟨rfl, ⟨nd, rfl⟩⟩) | (go_at_call 9; (with_reducible refine (attr_Protected.calls a0 t206 _ A21.out).mono ?_); rintro e w' ⟨rfl, ⟨nd, rfl⟩⟩) | (go_at_call 10; (with_reducible refine (attr_Numeric.calls t202 t207 _ A23.out).mono ?_); rintro e w' ⟨rfl, ⟨nd, rfl⟩⟩) | (go_at_call 10; (with_reducible refine (attr_Numeric.calls a0 t208 _ A24.out).mono ?_); rintro e w' ⟨rfl, ⟨nd, rfl⟩⟩) | (go_at_call 12; (with_reducible refine (attr_Shown.calls t201 t209 _ A26.out).mono ?_); rintro e w' ⟨rfl, ⟨nd, rfl⟩⟩) | (go_at_call 12; (with_reducible refine (attr_Shown.calls t202 t210 _ A27.out).mono ?_); rintro e w' ⟨rfl, ⟨nd, rfl⟩⟩) | (go_at_call 14; (with_reducible refine (attr_Modified.calls t201 true _ A15.out).mono ?_); rintro e w' ⟨rfl, ⟨nd, rfl⟩⟩))
                    go_meet
                    case rel => exact ⟨_, (true), (by first | rfl | (simp; done) | (simp [*]; done)), H', ⟨by first | omega | exact Nat.le_refl _⟩, ⟨by (with_reducible repeat (first | refine blk_drewN ?_ _ | refine blk_drew ?_ | refine blk_alloc ?_ _)); exact BK199.out⟩, ⟨by repeat (first | (with_reducible first | exact HB.out | apply below_alloc | apply pw_below_drewN | apply below_drew1 | refine below_set ?_ GE199.out) | exact HB.out)⟩⟩
            · rw [if_neg c19] at H
              have c19b0 : ((Go.bits .xor .u8 t201 t202) == 1) = false := beq_eq_false_iff_ne.mpr c19
              have c19b1 : ((Go.bits .xor .u8 t201 t202) != 1) = true := bne_iff_ne.mpr c19
              (first | rw [c19b0] | (simp only [i64_w, i32_w]; rw [c19b0]) | skip)
              have H' := Aside0.mk H
              clear H
              go_wp2_with (first | ((with_reducible refine gate_callee (f := 14) rfl ?_); refine goesL_ (some 22) rfl rfl Try.func14 (by kernel_rfl) rfl #[.int .u8 t201] rfl (by (try simp only [List.map_toArray, List.map_cons, List.map_nil]); first | done | rfl | (simp only [List.length_drop, List.length_take]; rfl)) ?_; (with_reducible refine (attr_Modified.calls t201 true _ A15.out).mono ?_); rintro e w' ⟨rfl, ⟨nd, rfl⟩⟩; refine ⟨_, rfl, ?_⟩) | (go_at_call 14; (with_reducible refine (attr_Modified.calls t202 false _ A17.out).mono ?_); rintro e w' ⟨rfl, ⟨nd, rfl⟩⟩) | (go_at_call 14; (with_reducible refine (attr_Modified.calls t201 true _ A15.out).mono ?_); rintro e w' ⟨rfl, ⟨nd, rfl⟩⟩))
              go_meet
              case rel => exact ⟨_, (true), (by first | rfl | (simp; done) | (simp [*]; done)), H', ⟨by first | omega | exact Nat.le_refl _⟩, ⟨by (with_reducible repeat (first | refine blk_drewN ?_ _ | refine blk_drew ?_ | refine blk_alloc ?_ _)); exact BK199.out⟩, ⟨by repeat (first | (with_reducible first | exact HB.out | apply below_alloc | apply pw_below_drewN | apply below_drew1 | refine below_set ?_ GE199.out) | exact HB.out)⟩⟩
        · replace c16 := Bool.eq_false_iff.mpr c16
          subst c16
          have H1 : (greenscreenlaw11_AttrTurns.j0 k l2 a3 true a1_0 a1_1 a1_2 a1_3 a1_4) = some r := by rw [if_neg (show ¬ (false = true) by decide)] at H; exact H
          clear H
          have H := H1
          clear H1
          have H' := Aside0.mk H
          clear H
          go_wp2_with (first | ((with_reducible refine gate_callee (f := 14) rfl ?_); refine goesL_ (some 22) rfl rfl Try.func14 (by kernel_rfl) rfl #[.int .u8 t201] rfl (by (try simp only [List.map_toArray, List.map_cons, List.map_nil]); first | done | rfl | (simp only [List.length_drop, List.length_take]; rfl)) ?_; (with_reducible refine (attr_Modified.calls t201 false _ A15.out).mono ?_); rintro e w' ⟨rfl, ⟨nd, rfl⟩⟩; refine ⟨_, rfl, ?_⟩) | (go_at_call 14; (with_reducible refine (attr_Modified.calls t201 false _ A15.out).mono ?_); rintro e w' ⟨rfl, ⟨nd, rfl⟩⟩))
          go_meet
          case rel => exact ⟨_, (true), (by first | rfl | (simp; done) | (simp [*]; done)), H', ⟨by first | omega | exact Nat.le_refl _⟩, ⟨by (with_reducible repeat (first | refine blk_drewN ?_ _ | refine blk_drew ?_ | refine blk_alloc ?_ _)); exact BK199.out⟩, ⟨by repeat (first | (with_reducible first | exact HB.out | apply below_alloc | apply pw_below_drewN | apply below_drew1 | refine below_set ?_ GE199.out) | exact HB.out)⟩⟩
      case rest =>
        clear HC12
        try clear c1
        try clear c2
        try clear p2
        try clear c3
        try clear c5
        try clear c6
        try clear c7
        try clear c7b0
        try clear c7b1
        try clear c14
        try clear c15
        try clear c16
        try clear c18
        try clear c19
        try clear c19b0
        try clear c19b1
        try clear c22
        try clear c22b0
        try clear c22b1
        try clear c22b2
        try clear c25
        try clear c25b0
        try clear c25b1
        try clear c25b2
        try clear c28
        try clear c28b0
        try clear c28b1
        try clear c31
        obtain ⟨kq, x66_11, rfl, HA, HJ11, BK199, HB⟩ := hcut
        cases kq with
        | zero => exact absurd HA.out (by simp [greenscreenlaw11_AttrTurns.j0])
        | succ kj11 =>
          have H := HA.out
          clear HA
          simp only [greenscreenlaw11_AttrTurns.j0] at H
          by_cases c33 : x66_11 = true
          · subst c33
            have H1 : (some false) = some r := by rw [if_pos rfl] at H; exact H
            clear H
            have H := H1
            clear H1
            obtain rfl := Option.some.inj H
            exact absurd hr_ (by decide)
          · replace c33 := Bool.eq_false_iff.mpr c33
            subst c33
            have H1 : (if (wrap64 ((l2.length : Int) + 1)) = 0 then (none) else ((attr_Dress.f kj11 a1_0 a1_1 a1_2 a1_3 a1_4 l2).bind fun bt214 => (if 0 ≤ (Int.tmod (Go.bits .and .i64 a3 1023) (wrap64 ((l2.length : Int) + 1))) then (if (Int.tmod (Go.bits .and .i64 a3 1023) (wrap64 ((l2.length : Int) + 1))) ≤ (l2.length : Int) then ((attr_Dress.f kj11 a1_0 a1_1 a1_2 a1_3 a1_4 (l2.take ((Int.tmod (Go.bits .and .i64 a3 1023) (wrap64 ((l2.length : Int) + 1))) : Int).toNat)).bind fun bt224 => ((attr_Dress.f kj11 bt224.1 bt224.2.1 bt224.2.2.1 bt224.2.2.2.1 bt224.2.2.2.2 (l2.drop ((Int.tmod (Go.bits .and .i64 a3 1023) (wrap64 ((l2.length : Int) + 1))) : Int).toNat)).bind fun bt233 => (if (bt233.1 == bt214.1 && (bt233.2.1 == bt214.2.1 && (bt233.2.2.1 == bt214.2.2.1 && (bt233.2.2.2.1 == bt214.2.2.2.1 && (bt233.2.2.2.2 == bt214.2.2.2.2))))) = true then (if (bt214.2.2.1 == a1_2) = true then (some (bt214.2.1 == a1_1)) else (some false)) else (some false)))) else (none)) else (none)))) = some r := by rw [if_neg (show ¬ (false = true) by decide)] at H; exact H
            clear H
            have H := H1
            clear H1
            by_cases c34 : (wrap64 ((l2.length : Int) + 1)) = 0
            · rw [if_pos c34] at H
              exact absurd H (by simp)
            · rw [if_neg c34] at H
              have c34b0 : ((wrap64 ((l2.length : Int) + 1)) == 0) = false := beq_eq_false_iff_ne.mpr c34
              have c34b1 : ((wrap64 ((l2.length : Int) + 1)) != 0) = true := bne_iff_ne.mpr c34
              replace H := Option.bind_eq_some_iff.mp H
              obtain ⟨⟨t214, t215, t216, t217, t218⟩, A350, H⟩ := H
              replace H : (if 0 ≤ (Int.tmod (Go.bits .and .i64 a3 1023) (wrap64 ((l2.length : Int) + 1))) then (if (Int.tmod (Go.bits .and .i64 a3 1023) (wrap64 ((l2.length : Int) + 1))) ≤ (l2.length : Int) then ((attr_Dress.f kj11 a1_0 a1_1 a1_2 a1_3 a1_4 (l2.take ((Int.tmod (Go.bits .and .i64 a3 1023) (wrap64 ((l2.length : Int) + 1))) : Int).toNat)).bind fun bt224 => ((attr_Dress.f kj11 bt224.1 bt224.2.1 bt224.2.2.1 bt224.2.2.2.1 bt224.2.2.2.2 (l2.drop ((Int.tmod (Go.bits .and .i64 a3 1023) (wrap64 ((l2.length : Int) + 1))) : Int).toNat)).bind fun bt233 => (if (bt233.1 == t214 && (bt233.2.1 == t215 && (bt233.2.2.1 == t216 && (bt233.2.2.2.1 == t217 && (bt233.2.2.2.2 == t218))))) = true then (if (t216 == a1_2) = true then (some (t215 == a1_1)) else (some false)) else (some false)))) else (none)) else (none)) = some r := H
              have A35 := Aside0.mk A350
              clear A350
              obtain ⟨ji36, hji36⟩ : ∃ j_ : Int, (Int.tmod (Go.bits .and .i64 a3 1023) (wrap64 ((l2.length : Int) + 1))) = j_ := ⟨_, rfl⟩
              replace H : (if 0 ≤ (ji36) then (if (ji36) ≤ (l2.length : Int) then ((attr_Dress.f kj11 a1_0 a1_1 a1_2 a1_3 a1_4 (l2.take ((ji36) : Int).toNat)).bind fun bt224 => ((attr_Dress.f kj11 bt224.1 bt224.2.1 bt224.2.2.1 bt224.2.2.2.1 bt224.2.2.2.2 (l2.drop ((ji36) : Int).toNat)).bind fun bt233 => (if (bt233.1 == t214 && (bt233.2.1 == t215 && (bt233.2.2.1 == t216 && (bt233.2.2.2.1 == t217 && (bt233.2.2.2.2 == t218))))) = true then (if (t216 == a1_2) = true then (some (t215 == a1_1)) else (some false)) else (some false)))) else (none)) else (none)) = some r := by first | (rw [hji36] at H; exact H) | (simp only [hji36] at H ⊢; exact H)
              (try rw [hji36] at A35)
              by_cases c37 : 0 ≤ (ji36)
              · rw [if_pos c37] at H
                have c37b0 := eq_true c37
                have c37b1 : decide (0 ≤ (ji36)) = true := decide_eq_true c37
                clear c37
                by_cases c38 : (ji36) ≤ (l2.length : Int)
                · rw [if_pos c38] at H
                  have c38b0 := eq_true c38
                  have c38b1 : decide ((ji36) ≤ (l2.length : Int)) = true := decide_eq_true c38
                  clear c38
                  obtain ⟨y220, hy220⟩ : ∃ y_ : List (S36), y_ = (l2.take ((ji36) : Int).toNat) := ⟨_, rfl⟩
                  replace H : ((attr_Dress.f kj11 a1_0 a1_1 a1_2 a1_3 a1_4 y220).bind fun bt224 => ((attr_Dress.f kj11 bt224.1 bt224.2.1 bt224.2.2.1 bt224.2.2.2.1 bt224.2.2.2.2 (l2.drop ((ji36) : Int).toNat)).bind fun bt233 => (if (bt233.1 == t214 && (bt233.2.1 == t215 && (bt233.2.2.1 == t216 && (bt233.2.2.2.1 == t217 && (bt233.2.2.2.2 == t218))))) = true then (if (t216 == a1_2) = true then (some (t215 == a1_1)) else (some false)) else (some false)))) = some r := by first | (rw [hy220]; with_reducible exact H) | (have H2_ := (Option.bind_some _ _).symm.trans H; rw [hy220]; with_reducible exact H2_) | (have H2_ := (Option.bind_some _ _).symm.trans H; with_reducible exact H2_) | with_reducible exact H | (rw [hy220]; exact H) | exact H
                  have Ny220 := Aside0.mk hy220
                  clear hy220
                  replace H := Option.bind_eq_some_iff.mp H
                  obtain ⟨⟨t224, t225, t226, t227, t228⟩, A390, H⟩ := H
                  replace H : ((attr_Dress.f kj11 t224 t225 t226 t227 t228 (l2.drop ((ji36) : Int).toNat)).bind fun bt233 => (if (bt233.1 == t214 && (bt233.2.1 == t215 && (bt233.2.2.1 == t216 && (bt233.2.2.2.1 == t217 && (bt233.2.2.2.2 == t218))))) = true then (if (t216 == a1_2) = true then (some (t215 == a1_1)) else (some false)) else (some false))) = some r := H
                  have A39 := Aside0.mk A390
                  clear A390
                  have c40b0 := eq_true (of_decide_eq_true (by first | (with_reducible assumption) | assumption) : 0 ≤ (ji36))
                  have c41b0 := eq_true (of_decide_eq_true (by first | (with_reducible assumption) | assumption) : (ji36) ≤ (l2.length : Int))
                  obtain ⟨y229, hy229⟩ : ∃ y_ : List (S36), y_ = (l2.drop ((ji36) : Int).toNat) := ⟨_, rfl⟩
                  replace H : ((attr_Dress.f kj11 t224 t225 t226 t227 t228 y229).bind fun bt233 => (if (bt233.1 == t214 && (bt233.2.1 == t215 && (bt233.2.2.1 == t216 && (bt233.2.2.2.1 == t217 && (bt233.2.2.2.2 == t218))))) = true then (if (t216 == a1_2) = true then (some (t215 == a1_1)) else (some false)) else (some false))) = some r := by first | (rw [hy229]; with_reducible exact H) | (have H2_ := (Option.bind_some _ _).symm.trans H; rw [hy229]; with_reducible exact H2_) | (have H2_ := (Option.bind_some _ _).symm.trans H; with_reducible exact H2_) | with_reducible exact H | (rw [hy229]; exact H) | exact H
                  have Ny229 := Aside0.mk hy229
                  clear hy229
                  replace H := Option.bind_eq_some_iff.mp H
                  obtain ⟨⟨t233, t234, t235, t236, t237⟩, A420, H⟩ := H
                  replace H : (if (t233 == t214 && (t234 == t215 && (t235 == t216 && (t236 == t217 && (t237 == t218))))) = true then (if (t216 == a1_2) = true then (some (t215 == a1_1)) else (some false)) else (some false)) = some r := H
                  have A42 := Aside0.mk A420
                  clear A420
                  by_cases c43 : (t233 == t214 && (t234 == t215 && (t235 == t216 && (t236 == t217 && (t237 == t218))))) = true
                  · rw [if_pos c43] at H
                    have c43b0 : (t233 == t214 && (t234 == t215 && (t235 == t216 && (t236 == t217 && (t237 == t218))))) = true := c43
                    (try (have c43b1 : decide (t233 = t214 && (t234 == t215 && (t235 == t216 && (t236 == t217 && (t237 == t218))))) = true := by simpa using c43))
                    (try (have c43b2 : (t233 == t214 && (t234 == t215 && (t235 == t216 && (t236 == t217 && (t237 == t218))))) = true := by simpa using c43))
                    clear c43
                    by_cases c44 : (t216 == a1_2) = true
                    · rw [if_pos c44] at H
                      have c44b0 : (t216 == a1_2) = true := c44
                      (try (have c44b1 : decide (t216 = a1_2) = true := by simpa using c44))
                      (try (have c44b2 : (t216 == a1_2) = true := by simpa using c44))
                      clear c44
                      obtain rfl := Option.some.inj H
                      have hcz45_0 : wc.cell? ⟨gb199, 0, none⟩ = some (.int .u8 a1_0) := (blk_cell BK199.out 0).trans rfl
                      have hcz45_1 : wc.cell? ⟨gb199, 1, none⟩ = some (.bool a1_1) := (blk_cell BK199.out 1).trans rfl
                      have hcz45_2 : wc.cell? ⟨gb199, 2, none⟩ = some (.bool a1_2) := (blk_cell BK199.out 2).trans rfl
                      have hcz45_3 : wc.cell? ⟨gb199, 3, none⟩ = some (.int .u8 a1_3) := (blk_cell BK199.out 3).trans rfl
                      have hcz45_4 : wc.cell? ⟨gb199, 4, none⟩ = some (.int .u8 a1_4) := (blk_cell BK199.out 4).trans rfl
                      have hfz45_0 := blk_frozen BK199.out 0
                      have hfz45_1 := blk_frozen BK199.out 1
                      have hfz45_2 := blk_frozen BK199.out 2
                      have hfz45_3 := blk_frozen BK199.out 3
                      have hfz45_4 := blk_frozen BK199.out 4
                      try go_wp2_with (first | ((with_reducible refine gate_callee (f := 24) rfl ?_); refine goesL_ (some 75) rfl rfl Try.func24 (by kernel_rfl) rfl #[.agg #[.int .u8 a1_0, .bool a1_1, .bool a1_2, .int .u8 a1_3, .int .u8 a1_4], .slice A2 l2.length c2] rfl (by (try simp only [List.map_toArray, List.map_cons, List.map_nil]); first | done | rfl | (simp only [List.length_drop, List.length_take]; rfl)) ?_; (with_reducible refine (attr_Dress.calls kj11 a1_0 a1_1 a1_2 a1_3 a1_4 _ _ l2 t214 t215 t216 t217 t218 _ ?side1 ?side2 A35.out).mono ?_); (case side1 => repeat (first | exact (Kd.C_below HR2.out HB.out) | (with_reducible refine Kd.C_alloc ?_ _) | (with_reducible refine Kd.C_drewN ?_ _) | (with_reducible refine Kd.C_drew ?_))); (case side2 => exact HC2.out); rintro e w46 ⟨rfl, hb⟩; refine ⟨_, rfl, ?_⟩; have n0_ := Aside0.mk (blk_below (g := gb199) (o := .cells #[.int .u8 a1_0, .bool a1_1, .bool a1_2, .int .u8 a1_3, .int .u8 a1_4] 33 (0, 0)) (by (with_reducible repeat (first | refine blk_drewN ?_ _ | refine blk_drew ?_ | refine blk_alloc ?_ _)); exact BK199.out) hb); have n1_ := Aside0.mk (below_step (by repeat (first | (with_reducible first | exact HB.out | apply below_alloc | apply pw_below_drewN | apply below_drew1 | refine below_set ?_ GE199.out) | exact HB.out)) hb); clear BK199; clear HB; have BK199 := n0_; have HB := n1_; clear n0_ n1_; (try clear hb); (try clear hb2); (try clear hk); (try clear hi)) | ((with_reducible refine gate_dst (N := 11) rfl ?_); refine box_event ?hg (N := 11) ?hd (cs := #[.int .u8 0, .bool false, .bool false, .int .u8 0, .int .u8 0]) (t := 33) ?hr ?_; (case hd => rfl); (case hg => rfl); (case hr => first | (go_simp; done) | (go_simp; rfl)); intro gb219 hg w47 hbox hb; have n0_ := Aside0.mk (blk_below (g := gb199) (o := .cells #[.int .u8 a1_0, .bool a1_1, .bool a1_2, .int .u8 a1_3, .int .u8 a1_4] 33 (0, 0)) (by (with_reducible repeat (first | refine blk_drewN ?_ _ | refine blk_drew ?_ | refine blk_alloc ?_ _)); exact BK199.out) hb); have n1_ := Aside0.mk (below_step (by repeat (first | (with_reducible first | exact HB.out | apply below_alloc | apply pw_below_drewN | apply below_drew1 | refine below_set ?_ GE199.out) | exact HB.out)) hb); have n2_ := Aside0.mk (hbox); have n3_ := Aside0.mk ((by rw [hg]; exact (below_size (by repeat (first | (with_reducible first | exact HB.out | apply below_alloc | apply pw_below_drewN | apply below_drew1 | refine below_set ?_ GE199.out) | exact HB.out))) : w.heap.size ≤ gb219)); have n4_ := Aside0.mk ((by rw [hg]; exact (below_size (by repeat (first | (with_reducible first | exact HB.out | apply below_alloc | apply pw_below_drewN | apply below_drew1 | refine below_set ?_ GE199.out) | exact HB.out))) : w.heap.size ≤ gb219)); have n5_ := Aside0.mk ((by rw [hg]; exact Nat.ne_of_lt (blk_lt (g := gb199) (o := .cells #[.int .u8 a1_0, .bool a1_1, .bool a1_2, .int .u8 a1_3, .int .u8 a1_4] 33 (0, 0)) (by (with_reducible repeat (first | refine blk_drewN ?_ _ | refine blk_drew ?_ | refine blk_alloc ?_ _)); exact BK199.out)) : gb199 ≠ gb219)); have n6_ := Aside0.mk ((by rw [hg]; exact Nat.ne_of_gt (blk_lt (g := gb199) (o := .cells #[.int .u8 a1_0, .bool a1_1, .bool a1_2, .int .u8 a1_3, .int .u8 a1_4] 33 (0, 0)) (by (with_reducible repeat (first | refine blk_drewN ?_ _ | refine blk_drew ?_ | refine blk_alloc ?_ _)); exact BK199.out)) : gb219 ≠ gb199)); clear BK199; clear HB; have BK199 := n0_; have HB := n1_; have BK219 := n2_; have GW219 := n3_; have GE219 := n4_; have NB199_219 := n5_; have NB219_199 := n6_; clear n0_ n1_ n2_ n3_ n4_ n5_ n6_; clear hb hbox hg; have hnb48 := NB219_199.out; have hnc48 := NB199_219.out; have hcz49_0 : w47.cell? ⟨gb219, 0, none⟩ = some (.int .u8 0) := (blk_cell BK219.out 0).trans rfl; have hcz49_1 : w47.cell? ⟨gb219, 1, none⟩ = some (.bool false) := (blk_cell BK219.out 1).trans rfl; have hcz49_2 : w47.cell? ⟨gb219, 2, none⟩ = some (.bool false) := (blk_cell BK219.out 2).trans rfl; have hcz49_3 : w47.cell? ⟨gb219, 3, none⟩ = some (.int .u8 0) := (blk_cell BK219.out 3).trans rfl; have hcz49_4 : w47.cell? ⟨gb219, 4, none⟩ = some (.int .u8 0) := (blk_cell BK219.out 4).trans rfl; have hfz49_0 := blk_frozen BK219.out 0; have hfz49_1 := blk_frozen BK219.out 1; have hfz49_2 := blk_frozen BK219.out 2; have hfz49_3 := blk_frozen BK219.out 3; have hfz49_4 := blk_frozen BK219.out 4))
                      have n0_ : Aside0 ((((((w47.setCell ⟨gb219, 0, none⟩ (.int .u8 t214)).setCell ⟨gb219, 1, none⟩ (.bool t215)).setCell ⟨gb219, 2, none⟩ (.bool t216)).setCell ⟨gb219, 3, none⟩ (.int .u8 t217)).setCell ⟨gb219, 4, none⟩ (.int .u8 t218)).heap[gb199]? = some (.cells #[.int .u8 a1_0, .bool a1_1, .bool a1_2, .int .u8 a1_3, .int .u8 a1_4] 33 (0, 0))) := ⟨by (with_reducible repeat (first | refine blk_drewN ?_ _ | refine blk_drew ?_ | refine blk_alloc ?_ _)); refine blk_far ?_ NB199_219.out _; (with_reducible repeat (first | refine blk_drewN ?_ _ | refine blk_drew ?_ | refine blk_alloc ?_ _)); refine blk_far ?_ NB199_219.out _; (with_reducible repeat (first | refine blk_drewN ?_ _ | refine blk_drew ?_ | refine blk_alloc ?_ _)); refine blk_far ?_ NB199_219.out _; (with_reducible repeat (first | refine blk_drewN ?_ _ | refine blk_drew ?_ | refine blk_alloc ?_ _)); refine blk_far ?_ NB199_219.out _; (with_reducible repeat (first | refine blk_drewN ?_ _ | refine blk_drew ?_ | refine blk_alloc ?_ _)); refine blk_far ?_ NB199_219.out _; (with_reducible repeat (first | refine blk_drewN ?_ _ | refine blk_drew ?_ | refine blk_alloc ?_ _)); exact BK199.out⟩
                      have n1_ : Aside0 ((((((w47.setCell ⟨gb219, 0, none⟩ (.int .u8 t214)).setCell ⟨gb219, 1, none⟩ (.bool t215)).setCell ⟨gb219, 2, none⟩ (.bool t216)).setCell ⟨gb219, 3, none⟩ (.int .u8 t217)).setCell ⟨gb219, 4, none⟩ (.int .u8 t218)).heap[gb219]? = some (.cells #[.int .u8 t214, .bool t215, .bool t216, .int .u8 t217, .int .u8 t218] 33 (0, 0))) := ⟨by (with_reducible repeat (first | refine blk_drewN ?_ _ | refine blk_drew ?_ | refine blk_alloc ?_ _)); refine blk_put (cs := #[.int .u8 t214, .bool t215, .bool t216, .int .u8 t217, .int .u8 0]) ?_ 4 _ rfl; (with_reducible repeat (first | refine blk_drewN ?_ _ | refine blk_drew ?_ | refine blk_alloc ?_ _)); refine blk_put (cs := #[.int .u8 t214, .bool t215, .bool t216, .int .u8 0, .int .u8 0]) ?_ 3 _ rfl; (with_reducible repeat (first | refine blk_drewN ?_ _ | refine blk_drew ?_ | refine blk_alloc ?_ _)); refine blk_put (cs := #[.int .u8 t214, .bool t215, .bool false, .int .u8 0, .int .u8 0]) ?_ 2 _ rfl; (with_reducible repeat (first | refine blk_drewN ?_ _ | refine blk_drew ?_ | refine blk_alloc ?_ _)); refine blk_put (cs := #[.int .u8 t214, .bool false, .bool false, .int .u8 0, .int .u8 0]) ?_ 1 _ rfl; (with_reducible repeat (first | refine blk_drewN ?_ _ | refine blk_drew ?_ | refine blk_alloc ?_ _)); refine blk_put (cs := #[.int .u8 0, .bool false, .bool false, .int .u8 0, .int .u8 0]) ?_ 0 _ rfl; (with_reducible repeat (first | refine blk_drewN ?_ _ | refine blk_drew ?_ | refine blk_alloc ?_ _)); exact BK219.out⟩
                      have n2_ : Aside0 (Below w.heap.size w (((((w47.setCell ⟨gb219, 0, none⟩ (.int .u8 t214)).setCell ⟨gb219, 1, none⟩ (.bool t215)).setCell ⟨gb219, 2, none⟩ (.bool t216)).setCell ⟨gb219, 3, none⟩ (.int .u8 t217)).setCell ⟨gb219, 4, none⟩ (.int .u8 t218))) := ⟨by repeat (first | (with_reducible first | exact HB.out | apply below_alloc | apply pw_below_drewN | apply below_drew1 | refine below_set ?_ GE199.out | refine below_set ?_ GE219.out) | exact HB.out)⟩
                      (try clear BK199)
                      (try clear BK219)
                      (try clear HB)
                      generalize (((((w47.setCell ⟨gb219, 0, none⟩ (.int .u8 t214)).setCell ⟨gb219, 1, none⟩ (.bool t215)).setCell ⟨gb219, 2, none⟩ (.bool t216)).setCell ⟨gb219, 3, none⟩ (.int .u8 t217)).setCell ⟨gb219, 4, none⟩ (.int .u8 t218)) = w50 at n0_ n1_ n2_ ⊢
                      have BK199 := n0_
                      have BK219 := n1_
                      have HB := n2_
                      clear n0_ n1_ n2_
                      have n0_ := Aside0.mk (blk_drew BK199.out)
                      have n1_ := Aside0.mk (blk_drew BK219.out)
                      have n2_ := Aside0.mk (below_drew1 HB.out)
                      clear BK199
                      clear BK219
                      clear HB
                      have BK199 := n0_
                      have BK219 := n1_
                      have HB := n2_
                      clear n0_ n1_ n2_
                      have q52 : ((ji36) : Int) ≤ ((l2.length : Int) : Int) := of_decide_eq_true (by first | (with_reducible assumption) | assumption)
                      obtain ⟨i052, hi052, _, hsz52, _⟩ := info_parts info36
                      have hroom52 : l2.length ≤ c2 := HC2.out
                      have hC52 : Kd.C k36 _ A2 l2.length l2 := HR2.out
                      have hcut52 := cut_to (P := Try.prog) 34 36 .i64 Try.underlying34 hi052 A2 l2.length c2 (ji36) (of_decide_eq_true (by first | (with_reducible assumption) | assumption)) q52 hroom52
                      have hr52 := Kd.C_take (m := ((ji36) : Int).toNat) hC52 (by omega)
                      have hy52 : y220.length = ((ji36) : Int).toNat := (by rw [Ny220.out, List.length_take]; omega)
                      rw [← Ny220.out] at hr52
                      rw [← hy52] at hcut52
                      have HR223 := Aside0.mk hr52
                      have HC223 := Aside0.mk (show y220.length ≤ c2 from by omega)
                      clear hr52 hC52 hroom52 hi052 hsz52
                      have KY52 := Aside0.mk hy52
                      clear hy52
                      replace q52 := eq_true q52
                      have q53 : ((ji36) : Int) ≤ ((l2.length : Int) : Int) := of_decide_eq_true (by first | (with_reducible assumption) | assumption)
                      obtain ⟨i053, hi053, _, hsz53, _⟩ := info_parts info36
                      have hroom53 : l2.length ≤ c2 := HC2.out
                      have hC53 : Kd.C k36 _ A2 l2.length l2 := HR2.out
                      have q053 : (0 : Int) ≤ ((ji36) : Int) := of_decide_eq_true (by first | (with_reducible assumption) | assumption)
                      have hcut53 := cut_from (P := Try.prog) 34 36 .i64 Try.underlying34 hi053 2 hsz53 A2 l2.length c2 (ji36) q053 q53
                      have hr53 := Kd.C_drop (m := ((ji36) : Int).toNat) (c := c2) hC53 (by omega) hroom53
                      obtain ⟨A53, hA53⟩ : ∃ A1, A1 = (if c2 = ((ji36) : Int).toNat then A2 else (A2 : Option Addr).map (·.add (((ji36) : Int).toNat * 2))) := ⟨_, rfl⟩
                      obtain ⟨c53, hc53⟩ : ∃ c1, c1 = c2 - ((ji36) : Int).toNat := ⟨_, rfl⟩
                      have hy53 : y229.length = l2.length - ((ji36) : Int).toNat := (by rw [Ny229.out, List.length_drop] <;> omega)
                      rw [show (l2).drop ((ji36) : Int).toNat = y229 from Ny229.out.symm] at hr53
                      replace hr53 : Kd.C k36 _ A53 y229.length y229 := (by rw [hA53]; exact hr53)
                      rw [← hy53, ← hA53, ← hc53] at hcut53
                      have HR232 := Aside0.mk hr53
                      have HC232 := Aside0.mk (show y229.length ≤ c53 from by rw [hy53, hc53]; exact Nat.sub_le_sub_right hroom53 _)
                      clear hr53 hC53 hroom53 hi053 hsz53 hc53
                      have KY53 := Aside0.mk hy53
                      have KA53 := Aside0.mk hA53
                      clear hy53 hA53
                      replace q53 := eq_true q53
                      refine start_ (n := 26) (S := fun w' => w'.cell? ⟨gb199, 0, none⟩ = some (.int .u8 a1_0) ∧ w'.cell? ⟨gb199, 1, none⟩ = some (.bool a1_1) ∧ w'.cell? ⟨gb199, 2, none⟩ = some (.bool a1_2) ∧ w'.cell? ⟨gb199, 3, none⟩ = some (.int .u8 a1_3) ∧ w'.cell? ⟨gb199, 4, none⟩ = some (.int .u8 a1_4) ∧ w'.cell? ⟨gb219, 0, none⟩ = some (.int .u8 t214) ∧ w'.cell? ⟨gb219, 1, none⟩ = some (.bool t215) ∧ w'.cell? ⟨gb219, 2, none⟩ = some (.bool t216) ∧ w'.cell? ⟨gb219, 3, none⟩ = some (.int .u8 t217) ∧ w'.cell? ⟨gb219, 4, none⟩ = some (.int .u8 t218)) (ds := []) #[false, false, false, false, false, false, false, false, false, false, false, false, false, false, false, false, false, false, false, false, false, false, false, false, false, false] (by kernel_rfl) rfl rfl ⟨(blk_cell BK199.out 0).trans rfl, (blk_cell BK199.out 1).trans rfl, (blk_cell BK199.out 2).trans rfl, (blk_cell BK199.out 3).trans rfl, (blk_cell BK199.out 4).trans rfl, (blk_cell BK219.out 0).trans rfl, (blk_cell BK219.out 1).trans rfl, (blk_cell BK219.out 2).trans rfl, (blk_cell BK219.out 3).trans rfl, (blk_cell BK219.out 4).trans rfl⟩ (fun hHeld => ?_); refine with_tabW greenscreenlaw11_AttrTurns.tab10 greenscreenlaw11_AttrTurns.bits10 (fun HT_ HW_ => ?_)
                      generalize w50.drew = w51 at BK199 BK219 HB HR223 HR232 hHeld ⊢
                      refine pure_ (i := 1) (N := some 77) (v := ?_) (a' := ?_) #[false, true, false, false, false, false, false, false, false, false, false, false, false, false, false, false, false, false, false, false, false, false, false, false, false, false] rfl rfl (any_of HT_.out (by kernel_rfl)) (fun _ _ _ h => h) (Or.inl ⟨by rfl, ?_⟩) ?_ ?_
                      rotate_left
                      · intro w'
                        go_simp
                        with_reducible rfl
                      rotate_left
                      · simp only [Act.put, List.setIfInBounds_toArray, List.set_cons_zero, List.set_cons_succ, i64_w, i32_w]
                        rfl
                      refine pure_ (i := 2) (N := some 78) (v := ?_) (a' := ?_) #[false, true, true, false, false, false, false, false, false, false, false, false, false, false, false, false, false, false, false, false, false, false, false, false, false, false] rfl rfl (any_of HT_.out (by kernel_rfl)) (fun _ _ _ h => h) (Or.inl ⟨by rfl, ?_⟩) ?_ ?_
                      rotate_left
                      · intro w'
                        go_simp
                        with_reducible rfl
                      rotate_left
                      · simp only [Act.put, List.setIfInBounds_toArray, List.set_cons_zero, List.set_cons_succ, i64_w, i32_w]
                        rfl
                      refine pure_ (i := 3) (N := some 79) (v := ?_) (a' := ?_) #[false, true, true, true, false, false, false, false, false, false, false, false, false, false, false, false, false, false, false, false, false, false, false, false, false, false] rfl rfl (any_of HT_.out (by kernel_rfl)) (fun _ _ _ h => h) (Or.inl ⟨by rfl, ?_⟩) ?_ ?_
                      rotate_left
                      · intro w'
                        go_simp
                        with_reducible rfl
                      rotate_left
                      · simp only [Act.put, List.setIfInBounds_toArray, List.set_cons_zero, List.set_cons_succ, i64_w, i32_w]
                        rfl
                      refine pure_ (i := 5) (N := some 81) (v := ?_) (a' := ?_) #[false, true, true, true, false, true, false, false, false, false, false, false, false, false, false, false, false, false, false, false, false, false, false, false, false, false] rfl rfl (any_of HT_.out (by kernel_rfl)) (fun _ _ _ h => h) (Or.inl ⟨by rfl, ?_⟩) ?_ ?_
                      rotate_left
                      · intro w'
                        go_simp
                        with_reducible rfl
                      rotate_left
                      · simp only [Act.put, List.setIfInBounds_toArray, List.set_cons_zero, List.set_cons_succ, i64_w, i32_w]
                        rfl
                      refine pure_ (i := 6) (N := some 82) (v := ?_) (a' := ?_) #[false, true, true, true, false, true, true, false, false, false, false, false, false, false, false, false, false, false, false, false, false, false, false, false, false, false] rfl rfl (any_of HT_.out (by kernel_rfl)) (fun _ _ _ h => h) (Or.inl ⟨by rfl, ?_⟩) ?_ ?_
                      rotate_left
                      · intro w'
                        go_simp
                        with_reducible rfl
                      rotate_left
                      · simp only [Act.put, List.setIfInBounds_toArray, List.set_cons_zero, List.set_cons_succ, i64_w, i32_w]
                        rfl
                      refine pure_ (i := 7) (N := some 83) (v := ?_) (a' := ?_) #[false, true, true, true, false, true, true, true, false, false, false, false, false, false, false, false, false, false, false, false, false, false, false, false, false, false] rfl rfl (any_of HT_.out (by kernel_rfl)) (fun _ _ _ h => h) (Or.inl ⟨by rfl, ?_⟩) ?_ ?_
                      rotate_left
                      · intro w'
                        go_simp
                        with_reducible rfl
                      rotate_left
                      · simp only [Act.put, List.setIfInBounds_toArray, List.set_cons_zero, List.set_cons_succ, i64_w, i32_w]
                        rfl
                      refine take_ (i := 0) (N := some 76) (v := ?_) (a' := ?_) #[true, true, true, true, false, true, true, true, false, false, false, false, false, false, false, false, false, false, false, false, false, false, false, false, false, false] rfl rfl (take_ofW HT_.out HW_.out (by kernel_rfl)) (fun _ _ _ h => h) (Or.inl ⟨by rfl, ?_⟩) hHeld ?_ ?_
                      rotate_left
                      · rintro w' ⟨s0, s1, s2, s3, s4, s5, s6, s7, s8, s9⟩
                        go_simp
                        with_reducible rfl
                      rotate_left
                      · simp only [Act.put, List.setIfInBounds_toArray, List.set_cons_zero, List.set_cons_succ, i64_w, i32_w]
                        rfl
                      refine take_ (i := 9) (N := some 85) (v := ?_) (a' := ?_) #[true, true, true, true, false, true, true, true, false, true, false, false, false, false, false, false, false, false, false, false, false, false, false, false, false, false] rfl rfl (take_ofW HT_.out HW_.out (by kernel_rfl)) (fun _ _ _ h => h) (Or.inl ⟨by rfl, ?_⟩) hHeld ?_ ?_
                      rotate_left
                      · rintro w' ⟨s0, s1, s2, s3, s4, s5, s6, s7, s8, s9⟩
                        go_simp
                        with_reducible rfl
                      rotate_left
                      · simp only [Act.put, List.setIfInBounds_toArray, List.set_cons_zero, List.set_cons_succ, i64_w, i32_w]
                        rfl
                      refine one_ (i := 4) (N := some 80) #[true, true, true, true, true, true, true, true, false, true, false, false, false, false, false, false, false, false, false, false, false, false, false, false, false, false] rfl rfl (one_of HT_.out (by kernel_rfl)) (by decide) (fun K hK => ?_)
                      refine goes_ Try.func24 (by kernel_rfl) rfl #[.agg #[.int .u8 a1_0, .bool a1_1, .bool a1_2, .int .u8 a1_3, .int .u8 a1_4], .slice A2 y220.length c2] (by rfl) rfl rfl (by (try simp only [List.map_toArray, List.map_cons, List.map_nil]); first | done | rfl | (simp only [List.length_drop, List.length_take]; rfl)) ?_
                      with_reducible refine (attr_Dress.calls kj11 a1_0 a1_1 a1_2 a1_3 a1_4 _ _ y220 t224 t225 t226 t227 t228 _ ?side1 ?side2 A39.out).mono ?_
                      (case side1 => repeat (first | exact (Kd.C_below HR223.out HB.out) | (with_reducible refine Kd.C_alloc ?_ _) | (with_reducible refine Kd.C_drewN ?_ _) | (with_reducible refine Kd.C_drew ?_)))
                      (case side2 => exact HC223.out)
                      rintro e w54 ⟨rfl, hb⟩
                      refine ⟨_, rfl, ?_⟩
                      have n0_ := Aside0.mk (blk_below (g := gb199) (o := .cells #[.int .u8 a1_0, .bool a1_1, .bool a1_2, .int .u8 a1_3, .int .u8 a1_4] 33 (0, 0)) (by (with_reducible repeat (first | refine blk_drewN ?_ _ | refine blk_drew ?_ | refine blk_alloc ?_ _)); exact BK199.out) hb)
                      have n1_ := Aside0.mk (blk_below (g := gb219) (o := .cells #[.int .u8 t214, .bool t215, .bool t216, .int .u8 t217, .int .u8 t218] 33 (0, 0)) (by (with_reducible repeat (first | refine blk_drewN ?_ _ | refine blk_drew ?_ | refine blk_alloc ?_ _)); exact BK219.out) hb)
                      have n2_ := Aside0.mk (below_step (by repeat (first | (with_reducible first | exact HB.out | apply below_alloc | apply pw_below_drewN | apply below_drew1 | refine below_set ?_ GE199.out | refine below_set ?_ GE219.out) | exact HB.out)) hb)
                      clear BK199
                      clear BK219
                      clear HB
                      have BK199 := n0_
                      have BK219 := n1_
                      have HB := n2_
                      clear n0_ n1_ n2_
                      (try clear hb)
                      (try clear hb2)
                      (try clear hk)
                      (try clear hi)
                      refine hK.out _ _ ⟨(blk_cell BK199.out 0).trans rfl, (blk_cell BK199.out 1).trans rfl, (blk_cell BK199.out 2).trans rfl, (blk_cell BK199.out 3).trans rfl, (blk_cell BK199.out 4).trans rfl, (blk_cell BK219.out 0).trans rfl, (blk_cell BK219.out 1).trans rfl, (blk_cell BK219.out 2).trans rfl, (blk_cell BK219.out 3).trans rfl, (blk_cell BK219.out 4).trans rfl⟩ (fun hHeld => ?_)
                      clear hK K
                      refine norm_ (a' := ?_) ?_ ?_
                      rotate_left
                      · show Act.put _ (some 80) _ = _
                        simp only [Act.put, List.setIfInBounds_toArray, List.set_cons_zero, List.set_cons_succ, i64_w, i32_w]
                        rfl
                      refine one_ (i := 8) (N := some 84) #[true, true, true, true, true, true, true, true, true, true, false, false, false, false, false, false, false, false, false, false, false, false, false, false, false, false] rfl rfl (one_of HT_.out (by kernel_rfl)) (by decide) (fun K hK => ?_)
                      refine goes_ Try.func24 (by kernel_rfl) rfl #[.agg #[.int .u8 t224, .bool t225, .bool t226, .int .u8 t227, .int .u8 t228], .slice A53 y229.length c53] (by rfl) rfl rfl (by (try simp only [List.map_toArray, List.map_cons, List.map_nil]); first | done | rfl | (simp only [List.length_drop, List.length_take]; rfl)) ?_
                      with_reducible refine (attr_Dress.calls kj11 t224 t225 t226 t227 t228 _ _ y229 t233 t234 t235 t236 t237 _ ?side1 ?side2 A42.out).mono ?_
                      (case side1 => repeat (first | exact (Kd.C_below HR232.out HB.out) | (with_reducible refine Kd.C_alloc ?_ _) | (with_reducible refine Kd.C_drewN ?_ _) | (with_reducible refine Kd.C_drew ?_)))
                      (case side2 => exact HC232.out)
                      rintro e w55 ⟨rfl, hb⟩
                      refine ⟨_, rfl, ?_⟩
                      have n0_ := Aside0.mk (blk_below (g := gb199) (o := .cells #[.int .u8 a1_0, .bool a1_1, .bool a1_2, .int .u8 a1_3, .int .u8 a1_4] 33 (0, 0)) (by (with_reducible repeat (first | refine blk_drewN ?_ _ | refine blk_drew ?_ | refine blk_alloc ?_ _)); exact BK199.out) hb)
                      have n1_ := Aside0.mk (blk_below (g := gb219) (o := .cells #[.int .u8 t214, .bool t215, .bool t216, .int .u8 t217, .int .u8 t218] 33 (0, 0)) (by (with_reducible repeat (first | refine blk_drewN ?_ _ | refine blk_drew ?_ | refine blk_alloc ?_ _)); exact BK219.out) hb)
                      have n2_ := Aside0.mk (below_step (by repeat (first | (with_reducible first | exact HB.out | apply below_alloc | apply pw_below_drewN | apply below_drew1 | refine below_set ?_ GE199.out | refine below_set ?_ GE219.out) | exact HB.out)) hb)
                      clear BK199
                      clear BK219
                      clear HB
                      have BK199 := n0_
                      have BK219 := n1_
                      have HB := n2_
                      clear n0_ n1_ n2_
                      (try clear hb)
                      (try clear hb2)
                      (try clear hk)
                      (try clear hi)
                      refine hK.out _ _ ⟨(blk_cell BK199.out 0).trans rfl, (blk_cell BK199.out 1).trans rfl, (blk_cell BK199.out 2).trans rfl, (blk_cell BK199.out 3).trans rfl, (blk_cell BK199.out 4).trans rfl, (blk_cell BK219.out 0).trans rfl, (blk_cell BK219.out 1).trans rfl, (blk_cell BK219.out 2).trans rfl, (blk_cell BK219.out 3).trans rfl, (blk_cell BK219.out 4).trans rfl⟩ (fun hHeld => ?_)
                      clear hK K
                      refine norm_ (a' := ?_) ?_ ?_
                      rotate_left
                      · show Act.put _ (some 84) _ = _
                        simp only [Act.put, List.setIfInBounds_toArray, List.set_cons_zero, List.set_cons_succ, i64_w, i32_w]
                        rfl
                      refine pure_ (i := 10) (N := some 86) (v := ?_) (a' := ?_) #[true, true, true, true, true, true, true, true, true, true, true, false, false, false, false, false, false, false, false, false, false, false, false, false, false, false] rfl rfl (any_of HT_.out (by kernel_rfl)) (fun _ _ _ h => h) (Or.inl ⟨by rfl, ?_⟩) ?_ ?_
                      rotate_left
                      · intro w'
                        go_simp
                        with_reducible rfl
                      rotate_left
                      · simp only [Act.put, List.setIfInBounds_toArray, List.set_cons_zero, List.set_cons_succ, i64_w, i32_w]
                        rfl
                      refine pure_ (i := 11) (N := some 87) (v := ?_) (a' := ?_) #[true, true, true, true, true, true, true, true, true, true, true, true, false, false, false, false, false, false, false, false, false, false, false, false, false, false] rfl rfl (any_of HT_.out (by kernel_rfl)) (fun _ _ _ h => h) (Or.inl ⟨by rfl, ?_⟩) ?_ ?_
                      rotate_left
                      · intro w'
                        go_simp
                        with_reducible rfl
                      rotate_left
                      · simp only [Act.put, List.setIfInBounds_toArray, List.set_cons_zero, List.set_cons_succ, i64_w, i32_w]
                        rfl
                      refine pure_ (i := 12) (N := some 88) (v := ?_) (a' := ?_) #[true, true, true, true, true, true, true, true, true, true, true, true, true, false, false, false, false, false, false, false, false, false, false, false, false, false] rfl rfl (any_of HT_.out (by kernel_rfl)) (fun _ _ _ h => h) (Or.inl ⟨by rfl, ?_⟩) ?_ ?_
                      rotate_left
                      · intro w'
                        go_simp
                        with_reducible rfl
                      rotate_left
                      · simp only [Act.put, List.setIfInBounds_toArray, List.set_cons_zero, List.set_cons_succ, i64_w, i32_w]
                        rfl
                      refine pure_ (i := 14) (N := some 90) (v := ?_) (a' := ?_) #[true, true, true, true, true, true, true, true, true, true, true, true, true, false, true, false, false, false, false, false, false, false, false, false, false, false] rfl rfl (any_of HT_.out (by kernel_rfl)) (fun _ _ _ h => h) (Or.inl ⟨by rfl, ?_⟩) ?_ ?_
                      rotate_left
                      · intro w'
                        go_simp
                        with_reducible rfl
                      rotate_left
                      · simp only [Act.put, List.setIfInBounds_toArray, List.set_cons_zero, List.set_cons_succ, i64_w, i32_w]
                        rfl
                      refine take_ (i := 13) (N := some 89) (v := ?_) (a' := ?_) #[true, true, true, true, true, true, true, true, true, true, true, true, true, true, true, false, false, false, false, false, false, false, false, false, false, false] rfl rfl (take_ofW HT_.out HW_.out (by kernel_rfl)) (fun _ _ _ h => h) (Or.inl ⟨by rfl, ?_⟩) hHeld ?_ ?_
                      rotate_left
                      · rintro w' ⟨s0, s1, s2, s3, s4, s5, s6, s7, s8, s9⟩
                        go_simp
                        with_reducible rfl
                      rotate_left
                      · simp only [Act.put, List.setIfInBounds_toArray, List.set_cons_zero, List.set_cons_succ, i64_w, i32_w]
                        rfl
                      refine take_ (i := 15) (N := some 91) (v := ?_) (a' := ?_) #[true, true, true, true, true, true, true, true, true, true, true, true, true, true, true, true, false, false, false, false, false, false, false, false, false, false] rfl rfl (take_ofW HT_.out HW_.out (by kernel_rfl)) (fun _ _ _ h => h) (Or.inl ⟨by rfl, ?_⟩) hHeld ?_ ?_
                      rotate_left
                      · rintro w' ⟨s0, s1, s2, s3, s4, s5, s6, s7, s8, s9⟩
                        go_simp
                        with_reducible rfl
                      rotate_left
                      · simp only [Act.put, List.setIfInBounds_toArray, List.set_cons_zero, List.set_cons_succ, i64_w, i32_w]
                        rfl
                      refine pure_ (i := 16) (N := some 92) (v := ?_) (a' := ?_) #[true, true, true, true, true, true, true, true, true, true, true, true, true, true, true, true, true, false, false, false, false, false, false, false, false, false] rfl rfl (any_of HT_.out (by kernel_rfl)) (fun _ _ _ h => h) (Or.inl ⟨by rfl, ?_⟩) ?_ ?_
                      rotate_left
                      · intro w'
                        go_simp
                        with_reducible rfl
                      rotate_left
                      · simp only [Act.put, List.setIfInBounds_toArray, List.set_cons_zero, List.set_cons_succ, i64_w, i32_w]
                        rfl
                      refine pure_ (i := 17) (N := some 93) (v := ?_) (a' := ?_) #[true, true, true, true, true, true, true, true, true, true, true, true, true, true, true, true, true, true, false, false, false, false, false, false, false, false] rfl rfl (any_of HT_.out (by kernel_rfl)) (fun _ _ _ h => h) (Or.inl ⟨by rfl, ?_⟩) ?_ ?_
                      rotate_left
                      · intro w'
                        go_simp
                        with_reducible rfl
                      rotate_left
                      · simp only [Act.put, List.setIfInBounds_toArray, List.set_cons_zero, List.set_cons_succ, i64_w, i32_w]
                        rfl
                      refine pure_ (i := 18) (N := some 94) (v := ?_) (a' := ?_) #[true, true, true, true, true, true, true, true, true, true, true, true, true, true, true, true, true, true, true, false, false, false, false, false, false, false] rfl rfl (any_of HT_.out (by kernel_rfl)) (fun _ _ _ h => h) (Or.inl ⟨by rfl, ?_⟩) ?_ ?_
                      rotate_left
                      · intro w'
                        go_simp
                        with_reducible rfl
                      rotate_left
                      · simp only [Act.put, List.setIfInBounds_toArray, List.set_cons_zero, List.set_cons_succ, i64_w, i32_w]
                        rfl
                      refine pure_ (i := 19) (N := some 95) (v := ?_) (a' := ?_) #[true, true, true, true, true, true, true, true, true, true, true, true, true, true, true, true, true, true, true, true, false, false, false, false, false, false] rfl rfl (any_of HT_.out (by kernel_rfl)) (fun _ _ _ h => h) (Or.inl ⟨by rfl, ?_⟩) ?_ ?_
                      rotate_left
                      · intro w'
                        go_simp
                        with_reducible rfl
                      rotate_left
                      · simp only [Act.put, List.setIfInBounds_toArray, List.set_cons_zero, List.set_cons_succ, i64_w, i32_w]
                        rfl
                      refine pure_ (i := 21) (N := some 97) (v := ?_) (a' := ?_) #[true, true, true, true, true, true, true, true, true, true, true, true, true, true, true, true, true, true, true, true, false, true, false, false, false, false] rfl rfl (any_of HT_.out (by kernel_rfl)) (fun _ _ _ h => h) (Or.inl ⟨by rfl, ?_⟩) ?_ ?_
                      rotate_left
                      · intro w'
                        go_simp
                        with_reducible rfl
                      rotate_left
                      · simp only [Act.put, List.setIfInBounds_toArray, List.set_cons_zero, List.set_cons_succ, i64_w, i32_w]
                        rfl
                      refine take_ (i := 20) (N := some 96) (v := ?_) (a' := ?_) #[true, true, true, true, true, true, true, true, true, true, true, true, true, true, true, true, true, true, true, true, true, true, false, false, false, false] rfl rfl (take_ofW HT_.out HW_.out (by kernel_rfl)) (fun _ _ _ h => h) (Or.inl ⟨by rfl, ?_⟩) hHeld ?_ ?_
                      rotate_left
                      · rintro w' ⟨s0, s1, s2, s3, s4, s5, s6, s7, s8, s9⟩
                        go_simp
                        with_reducible rfl
                      rotate_left
                      · simp only [Act.put, List.setIfInBounds_toArray, List.set_cons_zero, List.set_cons_succ, i64_w, i32_w]
                        rfl
                      refine take_ (i := 22) (N := some 98) (v := ?_) (a' := ?_) #[true, true, true, true, true, true, true, true, true, true, true, true, true, true, true, true, true, true, true, true, true, true, true, false, false, false] rfl rfl (take_ofW HT_.out HW_.out (by kernel_rfl)) (fun _ _ _ h => h) (Or.inl ⟨by rfl, ?_⟩) hHeld ?_ ?_
                      rotate_left
                      · rintro w' ⟨s0, s1, s2, s3, s4, s5, s6, s7, s8, s9⟩
                        go_simp
                        with_reducible rfl
                      rotate_left
                      · simp only [Act.put, List.setIfInBounds_toArray, List.set_cons_zero, List.set_cons_succ, i64_w, i32_w]
                        rfl
                      refine pure_ (i := 23) (N := some 99) (v := ?_) (a' := ?_) #[true, true, true, true, true, true, true, true, true, true, true, true, true, true, true, true, true, true, true, true, true, true, true, true, false, false] rfl rfl (any_of HT_.out (by kernel_rfl)) (fun _ _ _ h => h) (Or.inl ⟨by rfl, ?_⟩) ?_ ?_
                      rotate_left
                      · intro w'
                        go_simp
                        with_reducible rfl
                      rotate_left
                      · simp only [Act.put, List.setIfInBounds_toArray, List.set_cons_zero, List.set_cons_succ, i64_w, i32_w]
                        rfl
                      refine pure_ (i := 24) (N := some 100) (v := ?_) (a' := ?_) #[true, true, true, true, true, true, true, true, true, true, true, true, true, true, true, true, true, true, true, true, true, true, true, true, true, false] rfl rfl (any_of HT_.out (by kernel_rfl)) (fun _ _ _ h => h) (Or.inl ⟨by rfl, ?_⟩) ?_ ?_
                      rotate_left
                      · intro w'
                        go_simp
                        with_reducible rfl
                      rotate_left
                      · simp only [Act.put, List.setIfInBounds_toArray, List.set_cons_zero, List.set_cons_succ, i64_w, i32_w]
                        rfl
                      refine pure_ (i := 25) (N := some 8) (v := ?_) (a' := ?_) #[true, true, true, true, true, true, true, true, true, true, true, true, true, true, true, true, true, true, true, true, true, true, true, true, true, true] rfl rfl (any_of HT_.out (by kernel_rfl)) (fun _ _ _ h => h) (Or.inl ⟨by rfl, ?_⟩) ?_ ?_
                      rotate_left
                      · intro w'
                        go_simp
                        with_reducible rfl
                      rotate_left
                      · simp only [Act.put, List.setIfInBounds_toArray, List.set_cons_zero, List.set_cons_succ, i64_w, i32_w]
                        rfl
                      refine done_ (done_of HT_.out (by kernel_rfl)) ?_
                      try go_wp2
                      go_ret
                      exact ⟨by first | rfl | (simp [errW_none, errW_some] <;> rfl) | (simp only [← hji36]; first | rfl | (simp [errW_none, errW_some] <;> rfl)) | (simp [*, errW_none, errW_some] <;> rfl), by repeat (first | (with_reducible first | exact HB.out | apply below_alloc | apply pw_below_drewN | apply below_drew1 | refine below_set ?_ GE199.out | refine below_set ?_ GE219.out) | exact HB.out)⟩
                    · rw [if_neg c44] at H
                      have c44b0 : (t216 == a1_2) = false := by simpa using c44
                      (try (have c44b1 : decide (t216 = a1_2) = false := by simpa using c44))
                      (try (have c44b2 : (t216 == a1_2) = false := by simpa using c44))
                      (try (have c44b3 : ¬ (t216 = a1_2) := by simpa using c44))
                      clear c44
                      obtain rfl := Option.some.inj H
                      exact absurd hr_ (by decide)
                  · rw [if_neg c43] at H
                    have c43b0 : (t233 == t214 && (t234 == t215 && (t235 == t216 && (t236 == t217 && (t237 == t218))))) = false := by simpa using c43
                    (try (have c43b1 : decide (t233 = t214 && (t234 == t215 && (t235 == t216 && (t236 == t217 && (t237 == t218))))) = false := by simpa using c43))
                    (try (have c43b2 : (t233 == t214 && (t234 == t215 && (t235 == t216 && (t236 == t217 && (t237 == t218))))) = false := by simpa using c43))
                    (try (have c43b3 : ¬ (t233 = t214 && (t234 == t215 && (t235 == t216 && (t236 == t217 && (t237 == t218))))) := by simpa using c43))
                    clear c43
                    obtain rfl := Option.some.inj H
                    exact absurd hr_ (by decide)
                · rw [if_neg c38] at H
                  exact absurd H (by simp)
              · rw [if_neg c37] at H
                exact absurd H (by simp)
  · replace c6 := Bool.eq_false_iff.mpr c6
    subst c6
    have H1 : (some false) = some r := by rw [if_neg (show ¬ (false = true) by decide)] at H; exact H
    clear H
    have H := H1
    clear H1
    obtain rfl := Option.some.inj H
    exact absurd hr_ (by decide)

end Go.Proofs.Ythimdjdnpfaamaa.P
