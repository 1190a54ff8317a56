-- Laid by program out of the translation, some functions' texts by hand (a session's own run, not print.sh's). Lean checks it.
import Derived.Test.YtpdihhfeekoplaaBx4
namespace Go.Proofs.Ytpdihhfeekoplaa.B
open Go.RowKit Go.Proofs.YtpdihhfeekoplaaW.PrintWords Go.Proofs.YtpdihhfeekoplaaW.PrintLast Go.Proofs.YtpdihhfeekoplaaW.PrintMore
attribute [local go_sem] max2_int min2_int max_two min_two max_three min_three max_four min_four   -- for this text's walks alone
set_option linter.unusedVariables false
set_option linter.unusedSimpArgs false
set_option maxHeartbeats 8000000 in
set_option maxRecDepth 100000 in
theorem greenscreenref24_Write.calls (k : Nat) (a0_0 : Int) (a0_1 : Int) (a0_2 : Int) (a0_3 : Int) (P0_4_ : Nat → Prop) (A0_4 : Option Addr) (c0_4 : Nat) (l0_4 : List Int) (P0_5_ : Nat → Prop) (A0_5 : Option Addr) (c0_5 : Nat) (l0_5 : List Int) (r1 : List Int) (r2 : Int) (w : World) (hs0_4 : Kd.V (Kd.int .u8) 5 w w.heap.size (fun k_ => P0_4_ k_) (.slice A0_4 l0_4.length c0_4) l0_4) (hs0_5 : Kd.V (Kd.int .u8) 5 w w.heap.size (fun k_ => P0_5_ k_) (.slice A0_5 l0_5.length c0_5) l0_5) (h : greenscreenref24_Write.f k a0_0 a0_1 a0_2 a0_3 l0_4 l0_5 = some (r1, r2)) :
  Calls Try.prog 9 #[.agg #[.int .i64 a0_0, .int .i64 a0_1, .int .i64 a0_2, .int .i64 a0_3, .slice A0_4 l0_4.length c0_4, .slice A0_5 l0_5.length c0_5]] w fun e w' => ∃ v0_ : Value, e = .returned (.tuple #[v0_, .int .i64 r2]) ∧ Kd.R (Kd.int .u8) 5 w' w.heap.size (fun k_ => (w.heap.size ≤ k_)) v0_ r1 ∧ Below w.heap.size w w' := by
 have hu34 := Try.underlying34
 have hu23 := Try.underlying23
 have HO0_4 := Aside0.mk (show Kd.V (Kd.int .u8) 5 w w.heap.size (fun k_ => ((P0_4_ k_ ∨ P0_5_ k_) ∨ w.heap.size ≤ k_)) (.slice A0_4 l0_4.length c0_4) l0_4 from Kd.V_mono hs0_4 (fun k_ hk => .inl (.inl hk)))
 have HO0_5 := Aside0.mk (show Kd.V (Kd.int .u8) 5 w w.heap.size (fun k_ => ((P0_4_ k_ ∨ P0_5_ k_) ∨ w.heap.size ≤ k_)) (.slice A0_5 l0_5.length c0_5) l0_5 from Kd.V_mono hs0_5 (fun k_ hk => .inl (.inr hk)))
 have HB := Aside0.mk (Below.refl w.heap.size w)
 have H : ((greenscreenref02_Cells.f a0_0 a0_1).bind fun t140 => ((greenscreenref02_Cells.f a0_2 a0_3).bind fun t141 => (if t140 = 0 then (greenscreenref24_Write.j0 k t140 t141 true a0_0 a0_1 a0_2 a0_3 l0_4 l0_5) else (greenscreenref24_Write.j0 k t140 t141 (t141 == 0) a0_0 a0_1 a0_2 a0_3 l0_4 l0_5)))) = some (r1, r2) := h
 clear h
 replace H := Option.bind_eq_some_iff.mp H
 obtain ⟨t140, A20, H⟩ := H
 replace H : ((greenscreenref02_Cells.f a0_2 a0_3).bind fun t141 => (if t140 = 0 then (greenscreenref24_Write.j0 k t140 t141 true a0_0 a0_1 a0_2 a0_3 l0_4 l0_5) else (greenscreenref24_Write.j0 k t140 t141 (t141 == 0) a0_0 a0_1 a0_2 a0_3 l0_4 l0_5))) = some (r1, r2) := H
 have A2 := Aside0.mk A20
 clear A20
 replace H := Option.bind_eq_some_iff.mp H
 obtain ⟨t141, A30, H⟩ := H
 replace H : (if t140 = 0 then (greenscreenref24_Write.j0 k t140 t141 true a0_0 a0_1 a0_2 a0_3 l0_4 l0_5) else (greenscreenref24_Write.j0 k t140 t141 (t141 == 0) a0_0 a0_1 a0_2 a0_3 l0_4 l0_5)) = some (r1, r2) := H
 have A3 := Aside0.mk A30
 clear A30
 have HC4 := Aside0.mk H
 clear H
 go_enter Try.func9, Try.ntmps9
 try go_wp2_with (first | ((with_reducible refine gate_dst (N := 1) rfl ?_); (try (refine gate_guard (by rfl) ?_; dsimp only)); refine box_event ?hg (N := 1) ?hd (cs := #[.int .i64 a0_0, .int .i64 a0_1, .int .i64 a0_2, .int .i64 a0_3, .slice A0_4 l0_4.length c0_4, .slice A0_5 l0_5.length c0_5]) (t := 34) ?hr ?_; (case hd => rfl); (case hg => rfl); (case hr => first | (go_simp; done) | (go_simp; rfl)); intro gb139 hg w5 hbox hb; have n0_ := Aside0.mk (Kd.V_below (Kd.V_elderB (by (with_reducible repeat (first | apply Kd.V_alloc | apply Kd.V_drewN | apply Kd.V_drew)); exact HO0_4.out) gb139 (Nat.le_of_eq hg.symm)) hb); have n1_ := Aside0.mk (Kd.V_below (Kd.V_elderB (by (with_reducible repeat (first | apply Kd.V_alloc | apply Kd.V_drewN | apply Kd.V_drew)); exact HO0_5.out) gb139 (Nat.le_of_eq hg.symm)) hb); have n2_ := Aside0.mk (below_step (by repeat (first | (with_reducible first | exact HB.out | apply below_alloc | apply pw_below_drewN | apply below_drew1) | exact HB.out)) hb); have n3_ := Aside0.mk (hbox); have n4_ := Aside0.mk ((by rw [hg]; exact (below_size (by repeat (first | (with_reducible first | exact HB.out | apply below_alloc | apply pw_below_drewN | apply below_drew1) | exact HB.out))) : w.heap.size ≤ gb139)); have n5_ := Aside0.mk ((by rw [hg]; exact (below_size (by repeat (first | (with_reducible first | exact HB.out | apply below_alloc | apply pw_below_drewN | apply below_drew1) | exact HB.out))) : w.heap.size ≤ gb139)); clear HO0_4; clear HO0_5; clear HB; have HO0_4 := n0_; have HO0_5 := n1_; have HB := n2_; have BK139 := n3_; have GW139 := n4_; have GE139 := n5_; clear n0_ n1_ n2_ n3_ n4_ n5_; clear hb hbox hg))
 have n0_ := Aside0.mk (Kd.V_drew HO0_4.out)
 have n1_ := Aside0.mk (Kd.V_drew HO0_5.out)
 have n2_ := Aside0.mk (blk_drew BK139.out)
 have n3_ := Aside0.mk (below_drew1 HB.out)
 clear HO0_4
 clear HO0_5
 clear BK139
 clear HB
 have HO0_4 := n0_
 have HO0_5 := n1_
 have BK139 := n2_
 have HB := n3_
 clear n0_ n1_ n2_ n3_
 refine start_ (n := 8) (S := fun w' => w'.cell? ⟨gb139, 0, none⟩ = some (.int .i64 a0_0) ∧ w'.cell? ⟨gb139, 1, none⟩ = some (.int .i64 a0_1) ∧ w'.cell? ⟨gb139, 2, none⟩ = some (.int .i64 a0_2) ∧ w'.cell? ⟨gb139, 3, none⟩ = some (.int .i64 a0_3) ∧ w'.cell? ⟨gb139, 4, none⟩ = some (.slice A0_4 l0_4.length c0_4) ∧ w'.cell? ⟨gb139, 5, none⟩ = some (.slice A0_5 l0_5.length c0_5)) (ds := []) #[F_,F_,F_,F_,F_,F_,F_,F_] (by kernel_rfl) rfl rfl ⟨(blk_cell BK139.out 0).trans rfl, (blk_cell BK139.out 1).trans rfl, (blk_cell BK139.out 2).trans rfl, (blk_cell BK139.out 3).trans rfl, (blk_cell BK139.out 4).trans rfl, (blk_cell BK139.out 5).trans rfl⟩ (fun hHeld => ?_); refine with_tabW greenscreenref24_Write.tab1 greenscreenref24_Write.bits1 (fun HT_ HW_ => ?_)
 generalize w5.drew = w6 at HO0_4 HO0_5 BK139 HB hHeld ⊢
 refine pure_ (i := 0) (N := some 7) (v := ?_) (a' := ?_) #[T_,F_,F_,F_,F_,F_,F_,F_] rfl rfl (any_of HT_.out (by kernel_rfl)) (fun _ _ _ h => h) (Or.inl ⟨by rfl, ?_⟩) ?_ ?_
 rotate_left
 ·intro w'
  go_simp
  with_reducible rfl
 rotate_left
 ·simp only [Act.put, zA_, zB_, zC_, i64_w, i32_w]
  rfl
 refine pure_ (i := 3) (N := some 10) (v := ?_) (a' := ?_) #[T_,F_,F_,T_,F_,F_,F_,F_] rfl rfl (any_of HT_.out (by kernel_rfl)) (fun _ _ _ h => h) (Or.inl ⟨by rfl, ?_⟩) ?_ ?_
 rotate_left
 ·intro w'
  go_simp
  with_reducible rfl
 rotate_left
 ·simp only [Act.put, zA_, zB_, zC_, i64_w, i32_w]
  rfl
 refine take_ (i := 1) (N := some 8) (v := ?_) (a' := ?_) #[T_,T_,F_,T_,F_,F_,F_,F_] rfl rfl (take_ofW HT_.out HW_.out (by kernel_rfl)) (fun _ _ _ h => h) (Or.inl ⟨by rfl, ?_⟩) hHeld ?_ ?_
 rotate_left
 ·rintro w' ⟨s0, s1, s2, s3, s4, s5⟩
  go_simp
  with_reducible rfl
 rotate_left
 ·simp only [Act.put, zA_, zB_, zC_, i64_w, i32_w]
  rfl
 refine take_ (i := 4) (N := some 11) (v := ?_) (a' := ?_) #[T_,T_,F_,T_,T_,F_,F_,F_] rfl rfl (take_ofW HT_.out HW_.out (by kernel_rfl)) (fun _ _ _ h => h) (Or.inl ⟨by rfl, ?_⟩) hHeld ?_ ?_
 rotate_left
 ·rintro w' ⟨s0, s1, s2, s3, s4, s5⟩
  go_simp
  with_reducible rfl
 rotate_left
 ·simp only [Act.put, zA_, zB_, zC_, i64_w, i32_w]
  rfl
 refine one_ (i := 2) (N := some 9) #[T_,T_,T_,T_,T_,F_,F_,F_] rfl rfl (one_of HT_.out (by kernel_rfl)) (by decide) (fun K hK => ?_)
 refine goes_ Try.func21 (by kernel_rfl) rfl #[.agg #[.int .i64 a0_0, .int .i64 a0_1]] (by rfl) rfl rfl (by (try simp only [List.map_toArray, List.map_cons, List.map_nil]); first | done | rfl | (simp only [List.length_drop, List.length_take]; rfl)) ?_
 with_reducible refine (greenscreenref02_Cells.calls a0_0 a0_1 t140 _ A2.out).mono ?_
 rintro e w7 ⟨rfl, hb⟩
 refine ⟨_, rfl, ?_⟩
 have n0_ := Aside0.mk (Kd.V_below (by (with_reducible repeat (first | apply Kd.V_alloc | apply Kd.V_drewN | apply Kd.V_drew)); exact HO0_4.out) hb)
 have n1_ := Aside0.mk (Kd.V_below (by (with_reducible repeat (first | apply Kd.V_alloc | apply Kd.V_drewN | apply Kd.V_drew)); exact HO0_5.out) hb)
 have n2_ := Aside0.mk (blk_below (g := gb139) (o := .cells #[.int .i64 a0_0, .int .i64 a0_1, .int .i64 a0_2, .int .i64 a0_3, .slice A0_4 l0_4.length c0_4, .slice A0_5 l0_5.length c0_5] 34 (0, 0)) (by (with_reducible repeat (first | refine blk_drewN ?_ _ | refine blk_drew ?_ | refine blk_alloc ?_ _)); exact BK139.out) hb)
 have n3_ := Aside0.mk (below_step (by repeat (first | (with_reducible first | exact HB.out | apply below_alloc | apply pw_below_drewN | apply below_drew1 | refine below_set ?_ GE139.out) | exact HB.out)) hb)
 clear HO0_4
 clear HO0_5
 clear BK139
 clear HB
 have HO0_4 := n0_
 have HO0_5 := n1_
 have BK139 := n2_
 have HB := n3_
 clear n0_ n1_ n2_ n3_
 (try clear hb)
 (try clear hb2)
 (try clear hk)
 (try clear hi)
 refine hK.out _ _ ⟨(blk_cell BK139.out 0).trans rfl, (blk_cell BK139.out 1).trans rfl, (blk_cell BK139.out 2).trans rfl, (blk_cell BK139.out 3).trans rfl, (blk_cell BK139.out 4).trans rfl, (blk_cell BK139.out 5).trans rfl⟩ (fun hHeld => ?_)
 clear hK K
 refine norm_ (a' := ?_) ?_ ?_
 rotate_left
 ·show Act.put _ (some 9) _ = _
  simp only [Act.put, zA_, zB_, zC_, i64_w, i32_w]
  rfl
 refine one_ (i := 5) (N := some 12) #[T_,T_,T_,T_,T_,T_,F_,F_] rfl rfl (one_of HT_.out (by kernel_rfl)) (by decide) (fun K hK => ?_)
 refine goes_ Try.func21 (by kernel_rfl) rfl #[.agg #[.int .i64 a0_2, .int .i64 a0_3]] (by rfl) rfl rfl (by (try simp only [List.map_toArray, List.map_cons, List.map_nil]); first | done | rfl | (simp only [List.length_drop, List.length_take]; rfl)) ?_
 with_reducible refine (greenscreenref02_Cells.calls a0_2 a0_3 t141 _ A3.out).mono ?_
 rintro e w8 ⟨rfl, hb⟩
 refine ⟨_, rfl, ?_⟩
 have n0_ := Aside0.mk (Kd.V_below (by (with_reducible repeat (first | apply Kd.V_alloc | apply Kd.V_drewN | apply Kd.V_drew)); exact HO0_4.out) hb)
 have n1_ := Aside0.mk (Kd.V_below (by (with_reducible repeat (first | apply Kd.V_alloc | apply Kd.V_drewN | apply Kd.V_drew)); exact HO0_5.out) hb)
 have n2_ := Aside0.mk (blk_below (g := gb139) (o := .cells #[.int .i64 a0_0, .int .i64 a0_1, .int .i64 a0_2, .int .i64 a0_3, .slice A0_4 l0_4.length c0_4, .slice A0_5 l0_5.length c0_5] 34 (0, 0)) (by (with_reducible repeat (first | refine blk_drewN ?_ _ | refine blk_drew ?_ | refine blk_alloc ?_ _)); exact BK139.out) hb)
 have n3_ := Aside0.mk (below_step (by repeat (first | (with_reducible first | exact HB.out | apply below_alloc | apply pw_below_drewN | apply below_drew1 | refine below_set ?_ GE139.out) | exact HB.out)) hb)
 clear HO0_4
 clear HO0_5
 clear BK139
 clear HB
 have HO0_4 := n0_
 have HO0_5 := n1_
 have BK139 := n2_
 have HB := n3_
 clear n0_ n1_ n2_ n3_
 (try clear hb)
 (try clear hb2)
 (try clear hk)
 (try clear hi)
 refine hK.out _ _ ⟨(blk_cell BK139.out 0).trans rfl, (blk_cell BK139.out 1).trans rfl, (blk_cell BK139.out 2).trans rfl, (blk_cell BK139.out 3).trans rfl, (blk_cell BK139.out 4).trans rfl, (blk_cell BK139.out 5).trans rfl⟩ (fun hHeld => ?_)
 clear hK K
 refine norm_ (a' := ?_) ?_ ?_
 rotate_left
 ·show Act.put _ (some 12) _ = _
  simp only [Act.put, zA_, zB_, zC_, i64_w, i32_w]
  rfl
 refine pure_ (i := 6) (N := some 4) (v := ?_) (a' := ?_) #[T_,T_,T_,T_,T_,T_,T_,F_] rfl rfl (any_of HT_.out (by kernel_rfl)) (fun _ _ _ h => h) (Or.inl ⟨by rfl, ?_⟩) ?_ ?_
 rotate_left
 ·intro w'
  go_simp
  with_reducible rfl
 rotate_left
 ·simp only [Act.put, zA_, zB_, zC_, i64_w, i32_w]
  rfl
 refine pure_ (i := 7) (N := some 5) (v := ?_) (a' := ?_) #[T_,T_,T_,T_,T_,T_,T_,T_] rfl rfl (any_of HT_.out (by kernel_rfl)) (fun _ _ _ h => h) (Or.inl ⟨by rfl, ?_⟩) ?_ ?_
 rotate_left
 ·intro w'
  go_simp
  with_reducible rfl
 rotate_left
 ·simp only [Act.put, zA_, zB_, zC_, i64_w, i32_w]
  rfl
 refine done_ (done_of HT_.out (by kernel_rfl)) ?_
 go_upto_region 2 with (fail)
 go_cut [18] (fun v18 wc => ∃ (kq : Nat) (x18_3 : Bool), v18 = .bool x18_3 ∧ Aside0 (greenscreenref24_Write.j0 kq t140 t141 x18_3 a0_0 a0_1 a0_2 a0_3 l0_4 l0_5 = some (r1, r2)) ∧ Aside0 (kq ≤ k) ∧ Aside0 (Kd.V (Kd.int .u8) 5 wc w.heap.size (fun k_ => ((P0_4_ k_ ∨ P0_5_ k_) ∨ w.heap.size ≤ k_) ∧ k_ ≠ gb139) (.slice A0_4 l0_4.length c0_4) l0_4) ∧ Aside0 (Kd.V (Kd.int .u8) 5 wc w.heap.size (fun k_ => ((P0_4_ k_ ∨ P0_5_ k_) ∨ w.heap.size ≤ k_) ∧ k_ ≠ gb139) (.slice A0_5 l0_5.length c0_5) l0_5) ∧ Aside0 (wc.heap[gb139]? = some (.cells #[.int .i64 a0_0, .int .i64 a0_1, .int .i64 a0_2, .int .i64 a0_3, (.slice A0_4 l0_4.length c0_4), (.slice A0_5 l0_5.length c0_5)] 34 (0, 0))) ∧ Aside0 (Below w.heap.size w wc))
 case first =>
  have H := HC4.out
  clear HC4
  by_cases c9 : t140 = 0
  ·rw [if_pos c9] at H
   have c9b0 : (t140 == 0) = true := beq_iff_eq.mpr c9
   have c9b1 : (t140 != 0) = false := bne_eq_false_iff_eq.mpr c9
   clear c9
   (first | rw [c9b0] | (simp only [i64_w, i32_w]; rw [c9b0]) | skip)
   have H' := Aside0.mk H
   clear H
   go_wp2
   go_meet
   case rel => exact ⟨_, (true), (by first | rfl | (simp; done) | (simp [*]; done)), H', ⟨by first | omega | exact Nat.le_refl _⟩, ⟨by (with_reducible repeat (first | apply Kd.V_alloc | apply Kd.V_drewN | apply Kd.V_drew)); exact HO0_4.out⟩, ⟨by (with_reducible repeat (first | apply Kd.V_alloc | apply Kd.V_drewN | apply Kd.V_drew)); exact HO0_5.out⟩, ⟨by (with_reducible repeat (first | refine blk_drewN ?_ _ | refine blk_drew ?_ | refine blk_alloc ?_ _)); exact BK139.out⟩, ⟨by repeat (first | (with_reducible first | exact HB.out | apply below_alloc | apply pw_below_drewN | apply below_drew1 | refine below_set ?_ GE139.out) | exact HB.out)⟩⟩
  ·rw [if_neg c9] at H
   have c9b0 : (t140 == 0) = false := beq_eq_false_iff_ne.mpr c9
   have c9b1 : (t140 != 0) = true := bne_iff_ne.mpr c9
   (first | rw [c9b0] | (simp only [i64_w, i32_w]; rw [c9b0]) | skip)
   have H' := Aside0.mk H
   clear H
   go_wp2
   go_meet
   case rel => exact ⟨_, ((t141 == 0)), (by first | rfl | (simp; done) | (simp [*]; done)), H', ⟨by first | omega | exact Nat.le_refl _⟩, ⟨by (with_reducible repeat (first | apply Kd.V_alloc | apply Kd.V_drewN | apply Kd.V_drew)); exact HO0_4.out⟩, ⟨by (with_reducible repeat (first | apply Kd.V_alloc | apply Kd.V_drewN | apply Kd.V_drew)); exact HO0_5.out⟩, ⟨by (with_reducible repeat (first | refine blk_drewN ?_ _ | refine blk_drew ?_ | refine blk_alloc ?_ _)); exact BK139.out⟩, ⟨by repeat (first | (with_reducible first | exact HB.out | apply below_alloc | apply pw_below_drewN | apply below_drew1 | refine below_set ?_ GE139.out) | exact HB.out)⟩⟩
 case rest =>
  clear HC4
  try clear c2
  try clear p2
  try clear c9
  try clear c9b0
  try clear c9b1
  obtain ⟨kq, x18_3, rfl, HA, HJ3, HO_140004, HO_140005, BK139, HB⟩ := hcut
  cases kq with
  | zero => exact absurd HA.out (by simp [greenscreenref24_Write.j0])
  | succ kj3 =>
   have H := HA.out
   clear HA
   simp only [greenscreenref24_Write.j0] at H
   by_cases c10 : x18_3 = true
   ·subst c10
    have H1 : (some (([] : List Int), 1)) = some (r1, r2) := by rw [if_pos rfl] at H; exact H
    clear H
    have H := H1
    clear H1
    simp only [Option.some.injEq, Prod.mk.injEq] at H
    obtain ⟨rfl, rfl⟩ := H
    go_wp2
    go_ret2
    exact ⟨_, by first | rfl | (simp [errW_none, errW_some] <;> rfl) | (simp [*, errW_none, errW_some] <;> rfl), by first | exact Kd.R_nil _ _ _ _ _ | exact Kd.N_nil _ _ _ _ _ | exact Kd.V_nil _ _ _ _ _ | exact Kd.Q_nil _ _ _ _ _ | exact Kd.S_nil _ _ _ _ _, by repeat (first | (with_reducible first | exact HB.out | apply below_alloc | apply pw_below_drewN | apply below_drew1 | refine below_set ?_ GE139.out) | exact HB.out)⟩
   ·replace c10 := Bool.eq_false_iff.mpr c10
    subst c10
    have H1 : (if (l0_4.length : Int) > 64 then (greenscreenref24_Write.j1 kj3 t140 t141 true a0_0 a0_1 a0_2 a0_3 l0_4 l0_5) else (greenscreenref24_Write.j1 kj3 t140 t141 (decide ((l0_5.length : Int) > 64)) a0_0 a0_1 a0_2 a0_3 l0_4 l0_5)) = some (r1, r2) := by rw [if_neg (show ¬ (false = true) by decide)] at H; exact H
    clear H
    have H := H1
    clear H1
    have HC11 := Aside0.mk H
    clear H
    go_upto_region 4 with (fail)
    go_cut [28] (fun v28 wc => ∃ (kq : Nat) (x28_10 : Bool), v28 = .bool x28_10 ∧ Aside0 (greenscreenref24_Write.j1 kq t140 t141 x28_10 a0_0 a0_1 a0_2 a0_3 l0_4 l0_5 = some (r1, r2)) ∧ Aside0 (kq ≤ kj3) ∧ Aside0 (Kd.V (Kd.int .u8) 5 wc w.heap.size (fun k_ => ((P0_4_ k_ ∨ P0_5_ k_) ∨ w.heap.size ≤ k_) ∧ k_ ≠ gb139) (.slice A0_4 l0_4.length c0_4) l0_4) ∧ Aside0 (Kd.V (Kd.int .u8) 5 wc w.heap.size (fun k_ => ((P0_4_ k_ ∨ P0_5_ k_) ∨ w.heap.size ≤ k_) ∧ k_ ≠ gb139) (.slice A0_5 l0_5.length c0_5) l0_5) ∧ Aside0 (wc.heap[gb139]? = some (.cells #[.int .i64 a0_0, .int .i64 a0_1, .int .i64 a0_2, .int .i64 a0_3, (.slice A0_4 l0_4.length c0_4), (.slice A0_5 l0_5.length c0_5)] 34 (0, 0))) ∧ Aside0 (Below w.heap.size w wc))
    case first =>
     have H := HC11.out
     clear HC11
     by_cases c12 : (l0_4.length : Int) > 64
     ·rw [if_pos c12] at H
      have c12b0 : decide (64 < (l0_4.length : Int)) = true := decide_eq_true c12
      have c12b1 : decide (64 < l0_4.length) = true := decide_eq_true (by omega)
      clear c12
      (first | rw [c12b0] | (simp only [i64_w, i32_w]; rw [c12b0]) | skip)
      have H' := Aside0.mk H
      clear H
      have hcz13_0 : wc.cell? ⟨gb139, 0, none⟩ = some (.int .i64 a0_0) := (blk_cell BK139.out 0).trans rfl
      have hcz13_1 : wc.cell? ⟨gb139, 1, none⟩ = some (.int .i64 a0_1) := (blk_cell BK139.out 1).trans rfl
      have hcz13_2 : wc.cell? ⟨gb139, 2, none⟩ = some (.int .i64 a0_2) := (blk_cell BK139.out 2).trans rfl
      have hcz13_3 : wc.cell? ⟨gb139, 3, none⟩ = some (.int .i64 a0_3) := (blk_cell BK139.out 3).trans rfl
      have hcz13_4 : wc.cell? ⟨gb139, 4, none⟩ = some (.slice A0_4 l0_4.length c0_4) := (blk_cell BK139.out 4).trans rfl
      have hcz13_5 : wc.cell? ⟨gb139, 5, none⟩ = some (.slice A0_5 l0_5.length c0_5) := (blk_cell BK139.out 5).trans rfl
      have hfz13_0 := blk_frozen BK139.out 0
      have hfz13_1 := blk_frozen BK139.out 1
      have hfz13_2 := blk_frozen BK139.out 2
      have hfz13_3 := blk_frozen BK139.out 3
      have hfz13_4 := blk_frozen BK139.out 4
      have hfz13_5 := blk_frozen BK139.out 5
      go_wp2
      go_meet
      case rel => exact ⟨_, (true), (by first | rfl | (simp; done) | (simp [*]; done)), H', ⟨by have := HJ3.out; first | omega | exact Nat.le_refl _⟩, ⟨by (with_reducible repeat (first | apply Kd.V_alloc | apply Kd.V_drewN | apply Kd.V_drew)); exact HO_140004.out⟩, ⟨by (with_reducible repeat (first | apply Kd.V_alloc | apply Kd.V_drewN | apply Kd.V_drew)); exact HO_140005.out⟩, ⟨by (with_reducible repeat (first | refine blk_drewN ?_ _ | refine blk_drew ?_ | refine blk_alloc ?_ _)); exact BK139.out⟩, ⟨by repeat (first | (with_reducible first | exact HB.out | apply below_alloc | apply pw_below_drewN | apply below_drew1 | refine below_set ?_ GE139.out) | exact HB.out)⟩⟩
     ·rw [if_neg c12] at H
      have c12b0 : decide (64 < (l0_4.length : Int)) = false := decide_eq_false c12
      have c12b1 : decide (64 < l0_4.length) = false := decide_eq_false (by omega)
      clear c12
      (first | rw [c12b0] | (simp only [i64_w, i32_w]; rw [c12b0]) | skip)
      have H' := Aside0.mk H
      clear H
      have hcz14_0 : wc.cell? ⟨gb139, 0, none⟩ = some (.int .i64 a0_0) := (blk_cell BK139.out 0).trans rfl
      have hcz14_1 : wc.cell? ⟨gb139, 1, none⟩ = some (.int .i64 a0_1) := (blk_cell BK139.out 1).trans rfl
      have hcz14_2 : wc.cell? ⟨gb139, 2, none⟩ = some (.int .i64 a0_2) := (blk_cell BK139.out 2).trans rfl
      have hcz14_3 : wc.cell? ⟨gb139, 3, none⟩ = some (.int .i64 a0_3) := (blk_cell BK139.out 3).trans rfl
      have hcz14_4 : wc.cell? ⟨gb139, 4, none⟩ = some (.slice A0_4 l0_4.length c0_4) := (blk_cell BK139.out 4).trans rfl
      have hcz14_5 : wc.cell? ⟨gb139, 5, none⟩ = some (.slice A0_5 l0_5.length c0_5) := (blk_cell BK139.out 5).trans rfl
      have hfz14_0 := blk_frozen BK139.out 0
      have hfz14_1 := blk_frozen BK139.out 1
      have hfz14_2 := blk_frozen BK139.out 2
      have hfz14_3 := blk_frozen BK139.out 3
      have hfz14_4 := blk_frozen BK139.out 4
      have hfz14_5 := blk_frozen BK139.out 5
      go_wp2
      go_meet
      case rel => exact ⟨_, (decide ((l0_5.length : Int) > 64)), (by first | rfl | (simp; done) | (simp [*]; done)), H', ⟨by have := HJ3.out; first | omega | exact Nat.le_refl _⟩, ⟨by (with_reducible repeat (first | apply Kd.V_alloc | apply Kd.V_drewN | apply Kd.V_drew)); exact HO_140004.out⟩, ⟨by (with_reducible repeat (first | apply Kd.V_alloc | apply Kd.V_drewN | apply Kd.V_drew)); exact HO_140005.out⟩, ⟨by (with_reducible repeat (first | refine blk_drewN ?_ _ | refine blk_drew ?_ | refine blk_alloc ?_ _)); exact BK139.out⟩, ⟨by repeat (first | (with_reducible first | exact HB.out | apply below_alloc | apply pw_below_drewN | apply below_drew1 | refine below_set ?_ GE139.out) | exact HB.out)⟩⟩
    case rest =>
     clear HC11
     try clear c1
     try clear c2
     try clear p2
     try clear c9
     try clear c9b0
     try clear c9b1
     try clear c10
     try clear c12
     try clear c12b0
     try clear c12b1
     try clear hcz13_0
     try clear hcz13_1
     try clear hcz13_2
     try clear hcz13_3
     try clear hcz13_4
     try clear hcz13_5
     try clear hcz14_0
     try clear hcz14_1
     try clear hcz14_2
     try clear hcz14_3
     try clear hcz14_4
     try clear hcz14_5
     try clear hfz13_0
     try clear hfz13_1
     try clear hfz13_2
     try clear hfz13_3
     try clear hfz13_4
     try clear hfz13_5
     try clear hfz14_0
     try clear hfz14_1
     try clear hfz14_2
     try clear hfz14_3
     try clear hfz14_4
     try clear hfz14_5
     try clear p2
     obtain ⟨kq, x28_10, rfl, HA, HJ10, HO_140004, HO_140005, BK139, HB⟩ := hcut
     cases kq with
     | zero => exact absurd HA.out (by simp [greenscreenref24_Write.j1])
     | succ kj10 =>
      have H := HA.out
      clear HA
      simp only [greenscreenref24_Write.j1] at H
      by_cases c15 : x28_10 = true
      ·subst c15
       have H1 : (some (([] : List Int), 3)) = some (r1, r2) := by rw [if_pos rfl] at H; exact H
       clear H
       have H := H1
       clear H1
       simp only [Option.some.injEq, Prod.mk.injEq] at H
       obtain ⟨rfl, rfl⟩ := H
       go_wp2
       go_ret2
       exact ⟨_, by first | rfl | (simp [errW_none, errW_some] <;> rfl) | (simp [*, errW_none, errW_some] <;> rfl), by first | exact Kd.R_nil _ _ _ _ _ | exact Kd.N_nil _ _ _ _ _ | exact Kd.V_nil _ _ _ _ _ | exact Kd.Q_nil _ _ _ _ _ | exact Kd.S_nil _ _ _ _ _, by repeat (first | (with_reducible first | exact HB.out | apply below_alloc | apply pw_below_drewN | apply below_drew1 | refine below_set ?_ GE139.out) | exact HB.out)⟩
      ·replace c15 := Bool.eq_false_iff.mpr c15
       subst c15
       have H1 : (if t141 > t140 then (greenscreenref24_Write.j2 kj10 a0_0 a0_1 a0_2 a0_3 l0_4 l0_5 a0_2 a0_3) else (greenscreenref24_Write.j2 kj10 a0_0 a0_1 a0_2 a0_3 l0_4 l0_5 a0_0 a0_1)) = some (r1, r2) := by rw [if_neg (show ¬ (false = true) by decide)] at H; exact H
       clear H
       have H := H1
       clear H1
       have HC16 := Aside0.mk H
       clear H
       have hcz17_0 : wc.cell? ⟨gb139, 0, none⟩ = some (.int .i64 a0_0) := (blk_cell BK139.out 0).trans rfl
       have hcz17_1 : wc.cell? ⟨gb139, 1, none⟩ = some (.int .i64 a0_1) := (blk_cell BK139.out 1).trans rfl
       have hcz17_2 : wc.cell? ⟨gb139, 2, none⟩ = some (.int .i64 a0_2) := (blk_cell BK139.out 2).trans rfl
       have hcz17_3 : wc.cell? ⟨gb139, 3, none⟩ = some (.int .i64 a0_3) := (blk_cell BK139.out 3).trans rfl
       have hcz17_4 : wc.cell? ⟨gb139, 4, none⟩ = some (.slice A0_4 l0_4.length c0_4) := (blk_cell BK139.out 4).trans rfl
       have hcz17_5 : wc.cell? ⟨gb139, 5, none⟩ = some (.slice A0_5 l0_5.length c0_5) := (blk_cell BK139.out 5).trans rfl
       have hfz17_0 := blk_frozen BK139.out 0
       have hfz17_1 := blk_frozen BK139.out 1
       have hfz17_2 := blk_frozen BK139.out 2
       have hfz17_3 := blk_frozen BK139.out 3
       have hfz17_4 := blk_frozen BK139.out 4
       have hfz17_5 := blk_frozen BK139.out 5
       go_upto_if 33 with (first | ((with_reducible refine gate_dst (N := 6) rfl ?_); (try (refine gate_guard (by rfl) ?_; dsimp only)); refine box_event ?hg (N := 6) ?hd (cs := #[.int .i64 0, .int .i64 0]) (t := 23) ?hr ?_; (case hd => rfl); (case hg => rfl); (case hr => first | (go_simp; done) | (go_simp; rfl)); intro gb142 hg w18 hbox hb; have n0_ := Aside0.mk (Kd.V_below (Kd.V_elderB (by (with_reducible repeat (first | apply Kd.V_alloc | apply Kd.V_drewN | apply Kd.V_drew)); exact HO_140004.out) gb142 (Nat.le_of_eq hg.symm)) hb); have n1_ := Aside0.mk (Kd.V_below (Kd.V_elderB (by (with_reducible repeat (first | apply Kd.V_alloc | apply Kd.V_drewN | apply Kd.V_drew)); exact HO_140005.out) gb142 (Nat.le_of_eq hg.symm)) hb); have n2_ := Aside0.mk (blk_below (g := gb139) (o := .cells #[.int .i64 a0_0, .int .i64 a0_1, .int .i64 a0_2, .int .i64 a0_3, .slice A0_4 l0_4.length c0_4, .slice A0_5 l0_5.length c0_5] 34 (0, 0)) (by (with_reducible repeat (first | refine blk_drewN ?_ _ | refine blk_drew ?_ | refine blk_alloc ?_ _)); exact BK139.out) hb); have n3_ := Aside0.mk (below_step (by repeat (first | (with_reducible first | exact HB.out | apply below_alloc | apply pw_below_drewN | apply below_drew1 | refine below_set ?_ GE139.out) | exact HB.out)) hb); have n4_ := Aside0.mk (hbox); have n5_ := Aside0.mk ((by rw [hg]; exact (below_size (by repeat (first | (with_reducible first | exact HB.out | apply below_alloc | apply pw_below_drewN | apply below_drew1 | refine below_set ?_ GE139.out) | exact HB.out))) : w.heap.size ≤ gb142)); have n6_ := Aside0.mk ((by rw [hg]; exact (below_size (by repeat (first | (with_reducible first | exact HB.out | apply below_alloc | apply pw_below_drewN | apply below_drew1 | refine below_set ?_ GE139.out) | exact HB.out))) : w.heap.size ≤ gb142)); have n7_ := Aside0.mk ((by rw [hg]; exact Nat.ne_of_lt (blk_lt (g := gb139) (o := .cells #[.int .i64 a0_0, .int .i64 a0_1, .int .i64 a0_2, .int .i64 a0_3, .slice A0_4 l0_4.length c0_4, .slice A0_5 l0_5.length c0_5] 34 (0, 0)) (by (with_reducible repeat (first | refine blk_drewN ?_ _ | refine blk_drew ?_ | refine blk_alloc ?_ _)); exact BK139.out)) : gb139 ≠ gb142)); have n8_ := Aside0.mk ((by rw [hg]; exact Nat.ne_of_gt (blk_lt (g := gb139) (o := .cells #[.int .i64 a0_0, .int .i64 a0_1, .int .i64 a0_2, .int .i64 a0_3, .slice A0_4 l0_4.length c0_4, .slice A0_5 l0_5.length c0_5] 34 (0, 0)) (by (with_reducible repeat (first | refine blk_drewN ?_ _ | refine blk_drew ?_ | refine blk_alloc ?_ _)); exact BK139.out)) : gb142 ≠ gb139)); clear HO_140004; clear HO_140005; clear BK139; clear HB; have HO_140004 := n0_; have HO_140005 := n1_; have BK139 := n2_; have HB := n3_; have BK142 := n4_; have GW142 := n5_; have GE142 := n6_; have NB139_142 := n7_; have NB142_139 := n8_; clear n0_ n1_ n2_ n3_ n4_ n5_ n6_ n7_ n8_; clear hb hbox hg; have hnb19 := NB142_139.out; have hnc19 := NB139_142.out; have hcz20_0 : w18.cell? ⟨gb142, 0, none⟩ = some (.int .i64 0) := (blk_cell BK142.out 0).trans rfl; have hcz20_1 : w18.cell? ⟨gb142, 1, none⟩ = some (.int .i64 0) := (blk_cell BK142.out 1).trans rfl; have hfz20_0 := blk_frozen BK142.out 0; have hfz20_1 := blk_frozen BK142.out 1))
       (try simp only [Act.put, zA_, zB_, zC_])
       go_cut [] (fun wc => ∃ (kq : Nat) (x143000_15 : Int) (x143001_15 : Int), Aside0 (greenscreenref24_Write.j2 kq a0_0 a0_1 a0_2 a0_3 l0_4 l0_5 x143000_15 x143001_15 = some (r1, r2)) ∧ Aside0 (kq ≤ kj10) ∧ Aside0 (Kd.V (Kd.int .u8) 5 wc w.heap.size (fun k_ => ((P0_4_ k_ ∨ P0_5_ k_) ∨ w.heap.size ≤ k_) ∧ k_ ≠ gb139 ∧ k_ ≠ gb142) (.slice A0_4 l0_4.length c0_4) l0_4) ∧ Aside0 (Kd.V (Kd.int .u8) 5 wc w.heap.size (fun k_ => ((P0_4_ k_ ∨ P0_5_ k_) ∨ w.heap.size ≤ k_) ∧ k_ ≠ gb139 ∧ k_ ≠ gb142) (.slice A0_5 l0_5.length c0_5) l0_5) ∧ Aside0 (wc.heap[gb139]? = some (.cells #[.int .i64 a0_0, .int .i64 a0_1, .int .i64 a0_2, .int .i64 a0_3, (.slice A0_4 l0_4.length c0_4), (.slice A0_5 l0_5.length c0_5)] 34 (0, 0))) ∧ Aside0 (wc.heap[gb142]? = some (.cells #[.int .i64 x143000_15, .int .i64 x143001_15] 23 (0, 0))) ∧ Aside0 (Below w.heap.size w wc))
       case first =>
        have H := HC16.out
        clear HC16
        by_cases c21 : t141 > t140
        ·rw [if_pos c21] at H
         have c21b0 : decide (t140 < t141) = true := decide_eq_true c21
         clear c21
         (first | rw [c21b0] | (simp only [i64_w, i32_w]; rw [c21b0]) | skip)
         have H' := Aside0.mk H
         clear H
         have hnb22 := NB139_142.out
         have hnc22 := NB142_139.out
         have hcz23_0 : w18.cell? ⟨gb139, 0, none⟩ = some (.int .i64 a0_0) := (blk_cell BK139.out 0).trans rfl
         have hcz23_1 : w18.cell? ⟨gb139, 1, none⟩ = some (.int .i64 a0_1) := (blk_cell BK139.out 1).trans rfl
         have hcz23_2 : w18.cell? ⟨gb139, 2, none⟩ = some (.int .i64 a0_2) := (blk_cell BK139.out 2).trans rfl
         have hcz23_3 : w18.cell? ⟨gb139, 3, none⟩ = some (.int .i64 a0_3) := (blk_cell BK139.out 3).trans rfl
         have hcz23_4 : w18.cell? ⟨gb139, 4, none⟩ = some (.slice A0_4 l0_4.length c0_4) := (blk_cell BK139.out 4).trans rfl
         have hcz23_5 : w18.cell? ⟨gb139, 5, none⟩ = some (.slice A0_5 l0_5.length c0_5) := (blk_cell BK139.out 5).trans rfl
         have hfz23_0 := blk_frozen BK139.out 0
         have hfz23_1 := blk_frozen BK139.out 1
         have hfz23_2 := blk_frozen BK139.out 2
         have hfz23_3 := blk_frozen BK139.out 3
         have hfz23_4 := blk_frozen BK139.out 4
         have hfz23_5 := blk_frozen BK139.out 5
         have hcz24_0 : w18.cell? ⟨gb142, 0, none⟩ = some (.int .i64 0) := (blk_cell BK142.out 0).trans rfl
         have hcz24_1 : w18.cell? ⟨gb142, 1, none⟩ = some (.int .i64 0) := (blk_cell BK142.out 1).trans rfl
         have hfz24_0 := blk_frozen BK142.out 0
         have hfz24_1 := blk_frozen BK142.out 1
         go_wp2
         go_meet
         case rel => exact ⟨_, (a0_2), (a0_3), H', ⟨by have := HJ3.out; have := HJ10.out; first | omega | exact Nat.le_refl _⟩, ⟨by (with_reducible repeat (first | apply Kd.V_alloc | apply Kd.V_drewN | apply Kd.V_drew)); exact Kd.V_mono (Kd.V_far (p := ⟨gb142, 1, none⟩) (Kd.V_far (p := ⟨gb142, 0, none⟩) (Kd.V_far (p := ⟨gb142, 1, none⟩) (Kd.V_far (p := ⟨gb142, 0, none⟩) (Kd.V_mono HO_140004.out (fun k_ hk => (⟨hk, hk.2⟩ : _ ∧ k_ ≠ gb142))) (fun _ hk => (by first | exact hk.2 | exact hk | exact hk.1 | exact hk.1.1 | exact hk.1.1.1 | exact hk.1.1.1.1 | exact hk.1.1.1.1.1 | omega)) (.int .i64 a0_0)) (fun _ hk => (by first | exact hk.2 | exact hk | exact hk.1 | exact hk.1.1 | exact hk.1.1.1 | exact hk.1.1.1.1 | exact hk.1.1.1.1.1 | omega)) (.int .i64 a0_1)) (fun _ hk => (by first | exact hk.2 | exact hk | exact hk.1 | exact hk.1.1 | exact hk.1.1.1 | exact hk.1.1.1.1 | exact hk.1.1.1.1.1 | omega)) (.int .i64 a0_2)) (fun _ hk => (by first | exact hk.2 | exact hk | exact hk.1 | exact hk.1.1 | exact hk.1.1.1 | exact hk.1.1.1.1 | exact hk.1.1.1.1.1 | omega)) (.int .i64 a0_3)) (fun _ hk => (by first | exact ⟨hk.1.1.1, ⟨hk.1.1.2, hk.1.2⟩⟩ | exact hk | exact hk.1 | exact hk.1.1 | exact hk.1.1.1 | exact hk.1.1.1.1 | exact hk.1.1.1.1.1 | omega))⟩, ⟨by (with_reducible repeat (first | apply Kd.V_alloc | apply Kd.V_drewN | apply Kd.V_drew)); exact Kd.V_mono (Kd.V_far (p := ⟨gb142, 1, none⟩) (Kd.V_far (p := ⟨gb142, 0, none⟩) (Kd.V_far (p := ⟨gb142, 1, none⟩) (Kd.V_far (p := ⟨gb142, 0, none⟩) (Kd.V_mono HO_140005.out (fun k_ hk => (⟨hk, hk.2⟩ : _ ∧ k_ ≠ gb142))) (fun _ hk => (by first | exact hk.2 | exact hk | exact hk.1 | exact hk.1.1 | exact hk.1.1.1 | exact hk.1.1.1.1 | exact hk.1.1.1.1.1 | omega)) (.int .i64 a0_0)) (fun _ hk => (by first | exact hk.2 | exact hk | exact hk.1 | exact hk.1.1 | exact hk.1.1.1 | exact hk.1.1.1.1 | exact hk.1.1.1.1.1 | omega)) (.int .i64 a0_1)) (fun _ hk => (by first | exact hk.2 | exact hk | exact hk.1 | exact hk.1.1 | exact hk.1.1.1 | exact hk.1.1.1.1 | exact hk.1.1.1.1.1 | omega)) (.int .i64 a0_2)) (fun _ hk => (by first | exact hk.2 | exact hk | exact hk.1 | exact hk.1.1 | exact hk.1.1.1 | exact hk.1.1.1.1 | exact hk.1.1.1.1.1 | omega)) (.int .i64 a0_3)) (fun _ hk => (by first | exact ⟨hk.1.1.1, ⟨hk.1.1.2, hk.1.2⟩⟩ | exact hk | exact hk.1 | exact hk.1.1 | exact hk.1.1.1 | exact hk.1.1.1.1 | exact hk.1.1.1.1.1 | omega))⟩, ⟨by (with_reducible repeat (first | refine blk_drewN ?_ _ | refine blk_drew ?_ | refine blk_alloc ?_ _)); refine blk_far ?_ NB139_142.out _; (with_reducible repeat (first | refine blk_drewN ?_ _ | refine blk_drew ?_ | refine blk_alloc ?_ _)); refine blk_far ?_ NB139_142.out _; (with_reducible repeat (first | refine blk_drewN ?_ _ | refine blk_drew ?_ | refine blk_alloc ?_ _)); refine blk_far ?_ NB139_142.out _; (with_reducible repeat (first | refine blk_drewN ?_ _ | refine blk_drew ?_ | refine blk_alloc ?_ _)); refine blk_far ?_ NB139_142.out _; (with_reducible repeat (first | refine blk_drewN ?_ _ | refine blk_drew ?_ | refine blk_alloc ?_ _)); exact BK139.out⟩, ⟨by (with_reducible repeat (first | refine blk_drewN ?_ _ | refine blk_drew ?_ | refine blk_alloc ?_ _)); refine blk_put (cs := #[.int .i64 a0_2, .int .i64 a0_1]) ?_ 1 _ rfl; (with_reducible repeat (first | refine blk_drewN ?_ _ | refine blk_drew ?_ | refine blk_alloc ?_ _)); refine blk_put (cs := #[.int .i64 a0_0, .int .i64 a0_1]) ?_ 0 _ rfl; (with_reducible repeat (first | refine blk_drewN ?_ _ | refine blk_drew ?_ | refine blk_alloc ?_ _)); refine blk_put (cs := #[.int .i64 a0_0, .int .i64 0]) ?_ 1 _ rfl; (with_reducible repeat (first | refine blk_drewN ?_ _ | refine blk_drew ?_ | refine blk_alloc ?_ _)); refine blk_put (cs := #[.int .i64 0, .int .i64 0]) ?_ 0 _ rfl; (with_reducible repeat (first | refine blk_drewN ?_ _ | refine blk_drew ?_ | refine blk_alloc ?_ _)); exact BK142.out⟩, ⟨by repeat (first | (with_reducible first | exact HB.out | apply below_alloc | apply pw_below_drewN | apply below_drew1 | refine below_set ?_ GE139.out | refine below_set ?_ GE142.out) | exact HB.out)⟩⟩
        ·rw [if_neg c21] at H
         have c21b0 : decide (t140 < t141) = false := decide_eq_false c21
         clear c21
         (first | rw [c21b0] | (simp only [i64_w, i32_w]; rw [c21b0]) | skip)
         have H' := Aside0.mk H
         clear H
         go_wp2
         go_meet
         case rel => exact ⟨_, (a0_0), (a0_1), H', ⟨by have := HJ3.out; have := HJ10.out; first | omega | exact Nat.le_refl _⟩, ⟨by (with_reducible repeat (first | apply Kd.V_alloc | apply Kd.V_drewN | apply Kd.V_drew)); exact Kd.V_mono (Kd.V_far (p := ⟨gb142, 1, none⟩) (Kd.V_far (p := ⟨gb142, 0, none⟩) (Kd.V_mono HO_140004.out (fun k_ hk => (⟨hk, hk.2⟩ : _ ∧ k_ ≠ gb142))) (fun _ hk => (by first | exact hk.2 | exact hk | exact hk.1 | exact hk.1.1 | exact hk.1.1.1 | exact hk.1.1.1.1 | exact hk.1.1.1.1.1 | omega)) (.int .i64 a0_0)) (fun _ hk => (by first | exact hk.2 | exact hk | exact hk.1 | exact hk.1.1 | exact hk.1.1.1 | exact hk.1.1.1.1 | exact hk.1.1.1.1.1 | omega)) (.int .i64 a0_1)) (fun _ hk => (by first | exact ⟨hk.1.1.1, ⟨hk.1.1.2, hk.1.2⟩⟩ | exact hk | exact hk.1 | exact hk.1.1 | exact hk.1.1.1 | exact hk.1.1.1.1 | exact hk.1.1.1.1.1 | omega))⟩, ⟨by (with_reducible repeat (first | apply Kd.V_alloc | apply Kd.V_drewN | apply Kd.V_drew)); exact Kd.V_mono (Kd.V_far (p := ⟨gb142, 1, none⟩) (Kd.V_far (p := ⟨gb142, 0, none⟩) (Kd.V_mono HO_140005.out (fun k_ hk => (⟨hk, hk.2⟩ : _ ∧ k_ ≠ gb142))) (fun _ hk => (by first | exact hk.2 | exact hk | exact hk.1 | exact hk.1.1 | exact hk.1.1.1 | exact hk.1.1.1.1 | exact hk.1.1.1.1.1 | omega)) (.int .i64 a0_0)) (fun _ hk => (by first | exact hk.2 | exact hk | exact hk.1 | exact hk.1.1 | exact hk.1.1.1 | exact hk.1.1.1.1 | exact hk.1.1.1.1.1 | omega)) (.int .i64 a0_1)) (fun _ hk => (by first | exact ⟨hk.1.1.1, ⟨hk.1.1.2, hk.1.2⟩⟩ | exact hk | exact hk.1 | exact hk.1.1 | exact hk.1.1.1 | exact hk.1.1.1.1 | exact hk.1.1.1.1.1 | omega))⟩, ⟨by (with_reducible repeat (first | refine blk_drewN ?_ _ | refine blk_drew ?_ | refine blk_alloc ?_ _)); refine blk_far ?_ NB139_142.out _; (with_reducible repeat (first | refine blk_drewN ?_ _ | refine blk_drew ?_ | refine blk_alloc ?_ _)); refine blk_far ?_ NB139_142.out _; (with_reducible repeat (first | refine blk_drewN ?_ _ | refine blk_drew ?_ | refine blk_alloc ?_ _)); exact BK139.out⟩, ⟨by (with_reducible repeat (first | refine blk_drewN ?_ _ | refine blk_drew ?_ | refine blk_alloc ?_ _)); refine blk_put (cs := #[.int .i64 a0_0, .int .i64 0]) ?_ 1 _ rfl; (with_reducible repeat (first | refine blk_drewN ?_ _ | refine blk_drew ?_ | refine blk_alloc ?_ _)); refine blk_put (cs := #[.int .i64 0, .int .i64 0]) ?_ 0 _ rfl; (with_reducible repeat (first | refine blk_drewN ?_ _ | refine blk_drew ?_ | refine blk_alloc ?_ _)); exact BK142.out⟩, ⟨by repeat (first | (with_reducible first | exact HB.out | apply below_alloc | apply pw_below_drewN | apply below_drew1 | refine below_set ?_ GE139.out | refine below_set ?_ GE142.out) | exact HB.out)⟩⟩
       case rest =>
        clear HC16
        try clear c1
        try clear c2
        try clear p2
        try clear c9
        try clear c9b0
        try clear c9b1
        try clear c10
        try clear c12
        try clear c12b0
        try clear c12b1
        try clear c15
        try clear c19
        try clear c21
        try clear c21b0
        try clear c22
        try clear hcz13_0
        try clear hcz13_1
        try clear hcz13_2
        try clear hcz13_3
        try clear hcz13_4
        try clear hcz13_5
        try clear hcz14_0
        try clear hcz14_1
        try clear hcz14_2
        try clear hcz14_3
        try clear hcz14_4
        try clear hcz14_5
        try clear hcz17_0
        try clear hcz17_1
        try clear hcz17_2
        try clear hcz17_3
        try clear hcz17_4
        try clear hcz17_5
        try clear hcz20_0
        try clear hcz20_1
        try clear hcz23_0
        try clear hcz23_1
        try clear hcz23_2
        try clear hcz23_3
        try clear hcz23_4
        try clear hcz23_5
        try clear hcz24_0
        try clear hcz24_1
        try clear hfz13_0
        try clear hfz13_1
        try clear hfz13_2
        try clear hfz13_3
        try clear hfz13_4
        try clear hfz13_5
        try clear hfz14_0
        try clear hfz14_1
        try clear hfz14_2
        try clear hfz14_3
        try clear hfz14_4
        try clear hfz14_5
        try clear hfz17_0
        try clear hfz17_1
        try clear hfz17_2
        try clear hfz17_3
        try clear hfz17_4
        try clear hfz17_5
        try clear hfz20_0
        try clear hfz20_1
        try clear hfz23_0
        try clear hfz23_1
        try clear hfz23_2
        try clear hfz23_3
        try clear hfz23_4
        try clear hfz23_5
        try clear hfz24_0
        try clear hfz24_1
        try clear p2
        obtain ⟨kq, x143000_15, x143001_15, HA, HJ15, HO_140004, HO_140005, BK139, BK142, HB⟩ := hcut
        cases kq with
        | zero => exact absurd HA.out (by simp [greenscreenref24_Write.j2])
        | succ kj15 =>
         have H := HA.out
         clear HA
         simp only [greenscreenref24_Write.j2] at H
         obtain ⟨y143, hy143⟩ : ∃ y_ : List Int, y_ = (([136] : List Int)) := ⟨_, rfl⟩
         replace H : ((greenscreenref24_field.f kj15 128 (([128, 129, 134, 135, 166] : List Int))).bind fun t149 => ((greenscreenref24_size.f kj15 x143000_15 x143001_15).bind fun t152 => ((greenscreenref24_field.f kj15 129 t152).bind fun t155 => ((greenscreenref01_Join.f kj15 (([(([((l0_4.length : Int)) % 256] : List Int)), l0_4] : List (List Int)))).bind fun t164 => ((greenscreenref24_field.f kj15 134 t164).bind fun t167 => ((greenscreenref01_Join.f kj15 (([(([((l0_5.length : Int)) % 256] : List Int)), l0_5] : List (List Int)))).bind fun t176 => ((greenscreenref24_field.f kj15 135 t176).bind fun t179 => ((greenscreenref24_size.f kj15 a0_0 a0_1).bind fun t182 => ((greenscreenref24_size.f kj15 a0_2 a0_3).bind fun t185 => ((greenscreenref01_Join.f kj15 (([t182, t185] : List (List Int)))).bind fun t191 => ((greenscreenref24_field.f kj15 166 t191).bind fun t194 => ((greenscreenref01_Join.f kj15 (([y143, t149, t155, t167, t179, t194] : List (List Int)))).bind fun t200 => (some (t200, 0)))))))))))))) = some (r1, r2) := by first | (rw [hy143]; with_reducible exact H) | (have H2_ := (Option.bind_some _ _).symm.trans H; rw [hy143]; with_reducible exact H2_) | (have H2_ := (Option.bind_some _ _).symm.trans H; with_reducible exact H2_) | with_reducible exact H | (rw [hy143]; exact H) | exact H
         have Ny143 := Aside0.mk hy143
         clear hy143
         obtain ⟨y146, hy146⟩ : ∃ y_ : List Int, y_ = (([128, 129, 134, 135, 166] : List Int)) := ⟨_, rfl⟩
         replace H : ((greenscreenref24_field.f kj15 128 y146).bind fun t149 => ((greenscreenref24_size.f kj15 x143000_15 x143001_15).bind fun t152 => ((greenscreenref24_field.f kj15 129 t152).bind fun t155 => ((greenscreenref01_Join.f kj15 (([(([((l0_4.length : Int)) % 256] : List Int)), l0_4] : List (List Int)))).bind fun t164 => ((greenscreenref24_field.f kj15 134 t164).bind fun t167 => ((greenscreenref01_Join.f kj15 (([(([((l0_5.length : Int)) % 256] : List Int)), l0_5] : List (List Int)))).bind fun t176 => ((greenscreenref24_field.f kj15 135 t176).bind fun t179 => ((greenscreenref24_size.f kj15 a0_0 a0_1).bind fun t182 => ((greenscreenref24_size.f kj15 a0_2 a0_3).bind fun t185 => ((greenscreenref01_Join.f kj15 (([t182, t185] : List (List Int)))).bind fun t191 => ((greenscreenref24_field.f kj15 166 t191).bind fun t194 => ((greenscreenref01_Join.f kj15 (([y143, t149, t155, t167, t179, t194] : List (List Int)))).bind fun t200 => (some (t200, 0)))))))))))))) = some (r1, r2) := by first | (rw [hy146]; with_reducible exact H) | (have H2_ := (Option.bind_some _ _).symm.trans H; rw [hy146]; with_reducible exact H2_) | (have H2_ := (Option.bind_some _ _).symm.trans H; with_reducible exact H2_) | with_reducible exact H | (rw [hy146]; exact H) | exact H
         have Ny146 := Aside0.mk hy146
         clear hy146
         replace H := Option.bind_eq_some_iff.mp H
         obtain ⟨t149, A250, H⟩ := H
         replace H : ((greenscreenref24_size.f kj15 x143000_15 x143001_15).bind fun t152 => ((greenscreenref24_field.f kj15 129 t152).bind fun t155 => ((greenscreenref01_Join.f kj15 (([(([((l0_4.length : Int)) % 256] : List Int)), l0_4] : List (List Int)))).bind fun t164 => ((greenscreenref24_field.f kj15 134 t164).bind fun t167 => ((greenscreenref01_Join.f kj15 (([(([((l0_5.length : Int)) % 256] : List Int)), l0_5] : List (List Int)))).bind fun t176 => ((greenscreenref24_field.f kj15 135 t176).bind fun t179 => ((greenscreenref24_size.f kj15 a0_0 a0_1).bind fun t182 => ((greenscreenref24_size.f kj15 a0_2 a0_3).bind fun t185 => ((greenscreenref01_Join.f kj15 (([t182, t185] : List (List Int)))).bind fun t191 => ((greenscreenref24_field.f kj15 166 t191).bind fun t194 => ((greenscreenref01_Join.f kj15 (([y143, t149, t155, t167, t179, t194] : List (List Int)))).bind fun t200 => (some (t200, 0))))))))))))) = some (r1, r2) := H
         have A25 := Aside0.mk A250
         clear A250
         replace H := Option.bind_eq_some_iff.mp H
         obtain ⟨t152, A260, H⟩ := H
         replace H : ((greenscreenref24_field.f kj15 129 t152).bind fun t155 => ((greenscreenref01_Join.f kj15 (([(([((l0_4.length : Int)) % 256] : List Int)), l0_4] : List (List Int)))).bind fun t164 => ((greenscreenref24_field.f kj15 134 t164).bind fun t167 => ((greenscreenref01_Join.f kj15 (([(([((l0_5.length : Int)) % 256] : List Int)), l0_5] : List (List Int)))).bind fun t176 => ((greenscreenref24_field.f kj15 135 t176).bind fun t179 => ((greenscreenref24_size.f kj15 a0_0 a0_1).bind fun t182 => ((greenscreenref24_size.f kj15 a0_2 a0_3).bind fun t185 => ((greenscreenref01_Join.f kj15 (([t182, t185] : List (List Int)))).bind fun t191 => ((greenscreenref24_field.f kj15 166 t191).bind fun t194 => ((greenscreenref01_Join.f kj15 (([y143, t149, t155, t167, t179, t194] : List (List Int)))).bind fun t200 => (some (t200, 0)))))))))))) = some (r1, r2) := H
         have A26 := Aside0.mk A260
         clear A260
         replace H := Option.bind_eq_some_iff.mp H
         obtain ⟨t155, A270, H⟩ := H
         replace H : ((greenscreenref01_Join.f kj15 (([(([((l0_4.length : Int)) % 256] : List Int)), l0_4] : List (List Int)))).bind fun t164 => ((greenscreenref24_field.f kj15 134 t164).bind fun t167 => ((greenscreenref01_Join.f kj15 (([(([((l0_5.length : Int)) % 256] : List Int)), l0_5] : List (List Int)))).bind fun t176 => ((greenscreenref24_field.f kj15 135 t176).bind fun t179 => ((greenscreenref24_size.f kj15 a0_0 a0_1).bind fun t182 => ((greenscreenref24_size.f kj15 a0_2 a0_3).bind fun t185 => ((greenscreenref01_Join.f kj15 (([t182, t185] : List (List Int)))).bind fun t191 => ((greenscreenref24_field.f kj15 166 t191).bind fun t194 => ((greenscreenref01_Join.f kj15 (([y143, t149, t155, t167, t179, t194] : List (List Int)))).bind fun t200 => (some (t200, 0))))))))))) = some (r1, r2) := H
         have A27 := Aside0.mk A270
         clear A270
         obtain ⟨y158, hy158⟩ : ∃ y_ : List Int, y_ = (([((l0_4.length : Int)) % 256] : List Int)) := ⟨_, rfl⟩
         replace H : ((greenscreenref01_Join.f kj15 (([y158, l0_4] : List (List Int)))).bind fun t164 => ((greenscreenref24_field.f kj15 134 t164).bind fun t167 => ((greenscreenref01_Join.f kj15 (([(([((l0_5.length : Int)) % 256] : List Int)), l0_5] : List (List Int)))).bind fun t176 => ((greenscreenref24_field.f kj15 135 t176).bind fun t179 => ((greenscreenref24_size.f kj15 a0_0 a0_1).bind fun t182 => ((greenscreenref24_size.f kj15 a0_2 a0_3).bind fun t185 => ((greenscreenref01_Join.f kj15 (([t182, t185] : List (List Int)))).bind fun t191 => ((greenscreenref24_field.f kj15 166 t191).bind fun t194 => ((greenscreenref01_Join.f kj15 (([y143, t149, t155, t167, t179, t194] : List (List Int)))).bind fun t200 => (some (t200, 0))))))))))) = some (r1, r2) := by first | (rw [hy158]; with_reducible exact H) | (have H2_ := (Option.bind_some _ _).symm.trans H; rw [hy158]; with_reducible exact H2_) | (have H2_ := (Option.bind_some _ _).symm.trans H; with_reducible exact H2_) | with_reducible exact H | (rw [hy158]; exact H) | exact H
         have Ny158 := Aside0.mk hy158
         clear hy158
         obtain ⟨y161, hy161⟩ : ∃ y_ : List (List Int), y_ = (([y158, l0_4] : List (List Int))) := ⟨_, rfl⟩
         replace H : ((greenscreenref01_Join.f kj15 y161).bind fun t164 => ((greenscreenref24_field.f kj15 134 t164).bind fun t167 => ((greenscreenref01_Join.f kj15 (([(([((l0_5.length : Int)) % 256] : List Int)), l0_5] : List (List Int)))).bind fun t176 => ((greenscreenref24_field.f kj15 135 t176).bind fun t179 => ((greenscreenref24_size.f kj15 a0_0 a0_1).bind fun t182 => ((greenscreenref24_size.f kj15 a0_2 a0_3).bind fun t185 => ((greenscreenref01_Join.f kj15 (([t182, t185] : List (List Int)))).bind fun t191 => ((greenscreenref24_field.f kj15 166 t191).bind fun t194 => ((greenscreenref01_Join.f kj15 (([y143, t149, t155, t167, t179, t194] : List (List Int)))).bind fun t200 => (some (t200, 0))))))))))) = some (r1, r2) := by first | (rw [hy161]; with_reducible exact H) | (have H2_ := (Option.bind_some _ _).symm.trans H; rw [hy161]; with_reducible exact H2_) | (have H2_ := (Option.bind_some _ _).symm.trans H; with_reducible exact H2_) | with_reducible exact H | (rw [hy161]; exact H) | exact H
         have Ny161 := Aside0.mk hy161
         clear hy161
         replace H := Option.bind_eq_some_iff.mp H
         obtain ⟨t164, A280, H⟩ := H
         replace H : ((greenscreenref24_field.f kj15 134 t164).bind fun t167 => ((greenscreenref01_Join.f kj15 (([(([((l0_5.length : Int)) % 256] : List Int)), l0_5] : List (List Int)))).bind fun t176 => ((greenscreenref24_field.f kj15 135 t176).bind fun t179 => ((greenscreenref24_size.f kj15 a0_0 a0_1).bind fun t182 => ((greenscreenref24_size.f kj15 a0_2 a0_3).bind fun t185 => ((greenscreenref01_Join.f kj15 (([t182, t185] : List (List Int)))).bind fun t191 => ((greenscreenref24_field.f kj15 166 t191).bind fun t194 => ((greenscreenref01_Join.f kj15 (([y143, t149, t155, t167, t179, t194] : List (List Int)))).bind fun t200 => (some (t200, 0)))))))))) = some (r1, r2) := H
         have A28 := Aside0.mk A280
         clear A280
         replace H := Option.bind_eq_some_iff.mp H
         obtain ⟨t167, A290, H⟩ := H
         replace H : ((greenscreenref01_Join.f kj15 (([(([((l0_5.length : Int)) % 256] : List Int)), l0_5] : List (List Int)))).bind fun t176 => ((greenscreenref24_field.f kj15 135 t176).bind fun t179 => ((greenscreenref24_size.f kj15 a0_0 a0_1).bind fun t182 => ((greenscreenref24_size.f kj15 a0_2 a0_3).bind fun t185 => ((greenscreenref01_Join.f kj15 (([t182, t185] : List (List Int)))).bind fun t191 => ((greenscreenref24_field.f kj15 166 t191).bind fun t194 => ((greenscreenref01_Join.f kj15 (([y143, t149, t155, t167, t179, t194] : List (List Int)))).bind fun t200 => (some (t200, 0))))))))) = some (r1, r2) := H
         have A29 := Aside0.mk A290
         clear A290
         obtain ⟨y170, hy170⟩ : ∃ y_ : List Int, y_ = (([((l0_5.length : Int)) % 256] : List Int)) := ⟨_, rfl⟩
         replace H : ((greenscreenref01_Join.f kj15 (([y170, l0_5] : List (List Int)))).bind fun t176 => ((greenscreenref24_field.f kj15 135 t176).bind fun t179 => ((greenscreenref24_size.f kj15 a0_0 a0_1).bind fun t182 => ((greenscreenref24_size.f kj15 a0_2 a0_3).bind fun t185 => ((greenscreenref01_Join.f kj15 (([t182, t185] : List (List Int)))).bind fun t191 => ((greenscreenref24_field.f kj15 166 t191).bind fun t194 => ((greenscreenref01_Join.f kj15 (([y143, t149, t155, t167, t179, t194] : List (List Int)))).bind fun t200 => (some (t200, 0))))))))) = some (r1, r2) := by first | (rw [hy170]; with_reducible exact H) | (have H2_ := (Option.bind_some _ _).symm.trans H; rw [hy170]; with_reducible exact H2_) | (have H2_ := (Option.bind_some _ _).symm.trans H; with_reducible exact H2_) | with_reducible exact H | (rw [hy170]; exact H) | exact H
         have Ny170 := Aside0.mk hy170
         clear hy170
         obtain ⟨y173, hy173⟩ : ∃ y_ : List (List Int), y_ = (([y170, l0_5] : List (List Int))) := ⟨_, rfl⟩
         replace H : ((greenscreenref01_Join.f kj15 y173).bind fun t176 => ((greenscreenref24_field.f kj15 135 t176).bind fun t179 => ((greenscreenref24_size.f kj15 a0_0 a0_1).bind fun t182 => ((greenscreenref24_size.f kj15 a0_2 a0_3).bind fun t185 => ((greenscreenref01_Join.f kj15 (([t182, t185] : List (List Int)))).bind fun t191 => ((greenscreenref24_field.f kj15 166 t191).bind fun t194 => ((greenscreenref01_Join.f kj15 (([y143, t149, t155, t167, t179, t194] : List (List Int)))).bind fun t200 => (some (t200, 0))))))))) = some (r1, r2) := by first | (rw [hy173]; with_reducible exact H) | (have H2_ := (Option.bind_some _ _).symm.trans H; rw [hy173]; with_reducible exact H2_) | (have H2_ := (Option.bind_some _ _).symm.trans H; with_reducible exact H2_) | with_reducible exact H | (rw [hy173]; exact H) | exact H
         have Ny173 := Aside0.mk hy173
         clear hy173
         replace H := Option.bind_eq_some_iff.mp H
         obtain ⟨t176, A300, H⟩ := H
         replace H : ((greenscreenref24_field.f kj15 135 t176).bind fun t179 => ((greenscreenref24_size.f kj15 a0_0 a0_1).bind fun t182 => ((greenscreenref24_size.f kj15 a0_2 a0_3).bind fun t185 => ((greenscreenref01_Join.f kj15 (([t182, t185] : List (List Int)))).bind fun t191 => ((greenscreenref24_field.f kj15 166 t191).bind fun t194 => ((greenscreenref01_Join.f kj15 (([y143, t149, t155, t167, t179, t194] : List (List Int)))).bind fun t200 => (some (t200, 0)))))))) = some (r1, r2) := H
         have A30 := Aside0.mk A300
         clear A300
         replace H := Option.bind_eq_some_iff.mp H
         obtain ⟨t179, A310, H⟩ := H
         replace H : ((greenscreenref24_size.f kj15 a0_0 a0_1).bind fun t182 => ((greenscreenref24_size.f kj15 a0_2 a0_3).bind fun t185 => ((greenscreenref01_Join.f kj15 (([t182, t185] : List (List Int)))).bind fun t191 => ((greenscreenref24_field.f kj15 166 t191).bind fun t194 => ((greenscreenref01_Join.f kj15 (([y143, t149, t155, t167, t179, t194] : List (List Int)))).bind fun t200 => (some (t200, 0))))))) = some (r1, r2) := H
         have A31 := Aside0.mk A310
         clear A310
         replace H := Option.bind_eq_some_iff.mp H
         obtain ⟨t182, A320, H⟩ := H
         replace H : ((greenscreenref24_size.f kj15 a0_2 a0_3).bind fun t185 => ((greenscreenref01_Join.f kj15 (([t182, t185] : List (List Int)))).bind fun t191 => ((greenscreenref24_field.f kj15 166 t191).bind fun t194 => ((greenscreenref01_Join.f kj15 (([y143, t149, t155, t167, t179, t194] : List (List Int)))).bind fun t200 => (some (t200, 0)))))) = some (r1, r2) := H
         have A32 := Aside0.mk A320
         clear A320
         replace H := Option.bind_eq_some_iff.mp H
         obtain ⟨t185, A330, H⟩ := H
         replace H : ((greenscreenref01_Join.f kj15 (([t182, t185] : List (List Int)))).bind fun t191 => ((greenscreenref24_field.f kj15 166 t191).bind fun t194 => ((greenscreenref01_Join.f kj15 (([y143, t149, t155, t167, t179, t194] : List (List Int)))).bind fun t200 => (some (t200, 0))))) = some (r1, r2) := H
         have A33 := Aside0.mk A330
         clear A330
         obtain ⟨y188, hy188⟩ : ∃ y_ : List (List Int), y_ = (([t182, t185] : List (List Int))) := ⟨_, rfl⟩
         replace H : ((greenscreenref01_Join.f kj15 y188).bind fun t191 => ((greenscreenref24_field.f kj15 166 t191).bind fun t194 => ((greenscreenref01_Join.f kj15 (([y143, t149, t155, t167, t179, t194] : List (List Int)))).bind fun t200 => (some (t200, 0))))) = some (r1, r2) := by first | (rw [hy188]; with_reducible exact H) | (have H2_ := (Option.bind_some _ _).symm.trans H; rw [hy188]; with_reducible exact H2_) | (have H2_ := (Option.bind_some _ _).symm.trans H; with_reducible exact H2_) | with_reducible exact H | (rw [hy188]; exact H) | exact H
         have Ny188 := Aside0.mk hy188
         clear hy188
         replace H := Option.bind_eq_some_iff.mp H
         obtain ⟨t191, A340, H⟩ := H
         replace H : ((greenscreenref24_field.f kj15 166 t191).bind fun t194 => ((greenscreenref01_Join.f kj15 (([y143, t149, t155, t167, t179, t194] : List (List Int)))).bind fun t200 => (some (t200, 0)))) = some (r1, r2) := H
         have A34 := Aside0.mk A340
         clear A340
         replace H := Option.bind_eq_some_iff.mp H
         obtain ⟨t194, A350, H⟩ := H
         replace H : ((greenscreenref01_Join.f kj15 (([y143, t149, t155, t167, t179, t194] : List (List Int)))).bind fun t200 => (some (t200, 0))) = some (r1, r2) := H
         have A35 := Aside0.mk A350
         clear A350
         obtain ⟨y197, hy197⟩ : ∃ y_ : List (List Int), y_ = (([y143, t149, t155, t167, t179, t194] : List (List Int))) := ⟨_, rfl⟩
         replace H : ((greenscreenref01_Join.f kj15 y197).bind fun t200 => (some (t200, 0))) = some (r1, r2) := by first | (rw [hy197]; with_reducible exact H) | (have H2_ := (Option.bind_some _ _).symm.trans H; rw [hy197]; with_reducible exact H2_) | (have H2_ := (Option.bind_some _ _).symm.trans H; with_reducible exact H2_) | with_reducible exact H | (rw [hy197]; exact H) | exact H
         have Ny197 := Aside0.mk hy197
         clear hy197
         replace H := Option.bind_eq_some_iff.mp H
         obtain ⟨t200, A360, H⟩ := H
         replace H : (some (t200, 0)) = some (r1, r2) := H
         have A36 := Aside0.mk A360
         clear A360
         simp only [Option.some.injEq, Prod.mk.injEq] at H
         obtain ⟨rfl, rfl⟩ := H
         try go_wp2
         have n0_ := Aside0.mk (Kd.V_drew HO_140004.out)
         have n1_ := Aside0.mk (Kd.V_drew HO_140005.out)
         have n2_ := Aside0.mk (blk_drew BK139.out)
         have n3_ := Aside0.mk (blk_drew BK142.out)
         have n4_ := Aside0.mk (below_drew1 HB.out)
         clear HO_140004
         clear HO_140005
         clear BK139
         clear BK142
         clear HB
         have HO_140004 := n0_
         have HO_140005 := n1_
         have BK139 := n2_
         have BK142 := n3_
         have HB := n4_
         clear n0_ n1_ n2_ n3_ n4_
         refine start_ (n := 39) (S := fun w' => True) (ds := []) #[F_,F_,F_,F_,F_,F_,F_,F_,F_,F_,F_,F_,F_,F_,F_,F_,F_,F_,F_,F_,F_,F_,F_,F_,F_,F_,F_,F_,F_,F_,F_,F_,F_,F_,F_,F_,F_,F_,F_] (by kernel_rfl) rfl rfl trivial (fun hHeld => ?_); refine with_tabW greenscreenref24_Write.tab9 greenscreenref24_Write.bits9 (fun HT_ HW_ => ?_)
         generalize wc.drew = w37 at HO_140004 HO_140005 BK139 BK142 HB hHeld ⊢
         refine pure_ (i := 6) (N := some 42) (v := ?_) (a' := ?_) #[F_,F_,F_,F_,F_,F_,T_,F_,F_,F_,F_,F_,F_,F_,F_,F_,F_,F_,F_,F_,F_,F_,F_,F_,F_,F_,F_,F_,F_,F_,F_,F_,F_,F_,F_,F_,F_,F_,F_] rfl rfl (any_of HT_.out (by kernel_rfl)) (fun _ _ _ h => h) (Or.inl ⟨by rfl, ?_⟩) ?_ ?_
         rotate_left
         ·intro w'
          go_simp
          with_reducible rfl
         rotate_left
         ·simp only [Act.put, zA_, zB_, zC_, i64_w, i32_w]
          rfl
         refine pure_ (i := 11) (N := some 47) (v := ?_) (a' := ?_) #[F_,F_,F_,F_,F_,F_,T_,F_,F_,F_,F_,T_,F_,F_,F_,F_,F_,F_,F_,F_,F_,F_,F_,F_,F_,F_,F_,F_,F_,F_,F_,F_,F_,F_,F_,F_,F_,F_,F_] rfl rfl (any_of HT_.out (by kernel_rfl)) (fun _ _ _ h => h) (Or.inl ⟨by rfl, ?_⟩) ?_ ?_
         rotate_left
         ·intro w'
          go_simp
          with_reducible rfl
         rotate_left
         ·simp only [Act.put, zA_, zB_, zC_, i64_w, i32_w]
          rfl
         refine pure_ (i := 16) (N := some 52) (v := ?_) (a' := ?_) #[F_,F_,F_,F_,F_,F_,T_,F_,F_,F_,F_,T_,F_,F_,F_,F_,T_,F_,F_,F_,F_,F_,F_,F_,F_,F_,F_,F_,F_,F_,F_,F_,F_,F_,F_,F_,F_,F_,F_] rfl rfl (any_of HT_.out (by kernel_rfl)) (fun _ _ _ h => h) (Or.inl ⟨by rfl, ?_⟩) ?_ ?_
         rotate_left
         ·intro w'
          go_simp
          with_reducible rfl
         rotate_left
         ·simp only [Act.put, zA_, zB_, zC_, i64_w, i32_w]
          rfl
         refine pure_ (i := 21) (N := some 57) (v := ?_) (a' := ?_) #[F_,F_,F_,F_,F_,F_,T_,F_,F_,F_,F_,T_,F_,F_,F_,F_,T_,F_,F_,F_,F_,T_,F_,F_,F_,F_,F_,F_,F_,F_,F_,F_,F_,F_,F_,F_,F_,F_,F_] rfl rfl (any_of HT_.out (by kernel_rfl)) (fun _ _ _ h => h) (Or.inl ⟨by rfl, ?_⟩) ?_ ?_
         rotate_left
         ·intro w'
          go_simp
          with_reducible rfl
         rotate_left
         ·simp only [Act.put, zA_, zB_, zC_, i64_w, i32_w]
          rfl
         refine pure_ (i := 26) (N := some 62) (v := ?_) (a' := ?_) #[F_,F_,F_,F_,F_,F_,T_,F_,F_,F_,F_,T_,F_,F_,F_,F_,T_,F_,F_,F_,F_,T_,F_,F_,F_,F_,T_,F_,F_,F_,F_,F_,F_,F_,F_,F_,F_,F_,F_] rfl rfl (any_of HT_.out (by kernel_rfl)) (fun _ _ _ h => h) (Or.inl ⟨by rfl, ?_⟩) ?_ ?_
         rotate_left
         ·intro w'
          go_simp
          with_reducible rfl
         rotate_left
         ·simp only [Act.put, zA_, zB_, zC_, i64_w, i32_w]
          rfl
         refine pure_ (i := 29) (N := some 65) (v := ?_) (a' := ?_) #[F_,F_,F_,F_,F_,F_,T_,F_,F_,F_,F_,T_,F_,F_,F_,F_,T_,F_,F_,F_,F_,T_,F_,F_,F_,F_,T_,F_,F_,T_,F_,F_,F_,F_,F_,F_,F_,F_,F_] rfl rfl (any_of HT_.out (by kernel_rfl)) (fun _ _ _ h => h) (Or.inl ⟨by rfl, ?_⟩) ?_ ?_
         rotate_left
         ·intro w'
          go_simp
          with_reducible rfl
         rotate_left
         ·simp only [Act.put, zA_, zB_, zC_, i64_w, i32_w]
          rfl
         refine inv_at [0, 1, 2, 3, 4, 5, 7, 8, 9, 10, 12, 13, 14, 15, 17, 18, 19, 20, 22, 23, 24, 25, 27, 28, 30, 31, 32, 33, 34, 35, 36, 37, 38] (fun a0_ b a w' => ∃ (v144 : Value) (v147 : Value) (v150 : Value) (v153 : Value) (v156 : Value) (v159 : Value) (v162 : Value) (v165 : Value) (v168 : Value) (v171 : Value) (v174 : Value) (v177 : Value) (v180 : Value) (v183 : Value) (v186 : Value) (v189 : Value) (v192 : Value) (v195 : Value) (v198 : Value) (v201 : Value) (m37_ : Value), a = putSel a0_ b [(0, 36, v144), (1, 37, v147), (2, 38, v150), (3, 39, .agg #[.int .i64 x143000_15, .int .i64 x143001_15]), (4, 40, v153), (5, 41, v156), (7, 43, .slice A0_4 l0_4.length c0_4), (8, 44, .int .i64 (l0_4.length : Int)), (9, 45, .int .u8 (((l0_4.length : Int)) % 256)), (10, 46, v159), (12, 48, .slice A0_4 l0_4.length c0_4), (13, 49, v162), (14, 50, v165), (15, 51, v168), (17, 53, .slice A0_5 l0_5.length c0_5), (18, 54, .int .i64 (l0_5.length : Int)), (19, 55, .int .u8 (((l0_5.length : Int)) % 256)), (20, 56, v171), (22, 58, .slice A0_5 l0_5.length c0_5), (23, 59, v174), (24, 60, v177), (25, 61, v180), (27, 63, .agg #[.int .i64 a0_0, .int .i64 a0_1]), (28, 64, v183), (30, 66, .agg #[.int .i64 a0_2, .int .i64 a0_3]), (31, 67, v186), (32, 68, v189), (33, 69, v192), (34, 70, v195), (35, 71, v198), (36, 72, v201), (37, 2, m37_), (38, 3, .int .i64 0)] ∧ (Kd.V (Kd.int .u8) 5 w' w.heap.size (fun k_ => ((P0_4_ k_ ∨ P0_5_ k_) ∨ w.heap.size ≤ k_) ∧ k_ ≠ gb139 ∧ k_ ≠ gb142) (.slice A0_4 l0_4.length c0_4) l0_4) ∧ (Kd.V (Kd.int .u8) 5 w' w.heap.size (fun k_ => ((P0_4_ k_ ∨ P0_5_ k_) ∨ w.heap.size ≤ k_) ∧ k_ ≠ gb139 ∧ k_ ≠ gb142) (.slice A0_5 l0_5.length c0_5) l0_5) ∧ (w'.heap[gb139]? = some (.cells #[.int .i64 a0_0, .int .i64 a0_1, .int .i64 a0_2, .int .i64 a0_3, .slice A0_4 l0_4.length c0_4, .slice A0_5 l0_5.length c0_5] 34 (0, 0))) ∧ (w'.heap[gb142]? = some (.cells #[.int .i64 x143000_15, .int .i64 x143001_15] 23 (0, 0))) ∧ (Below w.heap.size w w') ∧ (b 0 = true → b 35 = false → Kd.R (Kd.int .u8) 5 w' w.heap.size (fun k_ => (w.heap.size ≤ k_)) v144 y143) ∧ (b 1 = true → Kd.R (Kd.int .u8) 5 w' w.heap.size (fun k_ => (w.heap.size ≤ k_)) v147 y146) ∧ (b 2 = true → b 35 = false → Kd.R (Kd.int .u8) 5 w' w.heap.size (fun k_ => (w.heap.size ≤ k_)) v150 t149) ∧ (b 4 = true → Kd.R (Kd.int .u8) 5 w' w.heap.size (fun k_ => (w.heap.size ≤ k_)) v153 t152) ∧ (b 5 = true → b 35 = false → Kd.R (Kd.int .u8) 5 w' w.heap.size (fun k_ => (w.heap.size ≤ k_)) v156 t155) ∧ (b 10 = true → b 13 = false → Kd.R (Kd.int .u8) 5 w' w.heap.size (fun k_ => (w.heap.size ≤ k_)) v159 y158) ∧ (b 13 = true → Kd.N (Kd.slice 5 (Kd.int .u8)) 24 w' w.heap.size (fun k_ => ((P0_4_ k_ ∨ P0_5_ k_) ∨ w.heap.size ≤ k_) ∧ k_ ≠ gb139 ∧ k_ ≠ gb142) v162 y161) ∧ (b 14 = true → Kd.R (Kd.int .u8) 5 w' w.heap.size (fun k_ => (w.heap.size ≤ k_)) v165 t164) ∧ (b 15 = true → b 35 = false → Kd.R (Kd.int .u8) 5 w' w.heap.size (fun k_ => (w.heap.size ≤ k_)) v168 t167) ∧ (b 20 = true → b 23 = false → Kd.R (Kd.int .u8) 5 w' w.heap.size (fun k_ => (w.heap.size ≤ k_)) v171 y170) ∧ (b 23 = true → Kd.N (Kd.slice 5 (Kd.int .u8)) 24 w' w.heap.size (fun k_ => ((P0_4_ k_ ∨ P0_5_ k_) ∨ w.heap.size ≤ k_) ∧ k_ ≠ gb139 ∧ k_ ≠ gb142) v174 y173) ∧ (b 24 = true → Kd.R (Kd.int .u8) 5 w' w.heap.size (fun k_ => (w.heap.size ≤ k_)) v177 t176) ∧ (b 25 = true → b 35 = false → Kd.R (Kd.int .u8) 5 w' w.heap.size (fun k_ => (w.heap.size ≤ k_)) v180 t179) ∧ (b 28 = true → b 32 = false → Kd.R (Kd.int .u8) 5 w' w.heap.size (fun k_ => (w.heap.size ≤ k_)) v183 t182) ∧ (b 31 = true → b 32 = false → Kd.R (Kd.int .u8) 5 w' w.heap.size (fun k_ => (w.heap.size ≤ k_)) v186 t185) ∧ (b 32 = true → Kd.N (Kd.slice 5 (Kd.int .u8)) 24 w' w.heap.size (fun k_ => ((P0_4_ k_ ∨ P0_5_ k_) ∨ w.heap.size ≤ k_) ∧ k_ ≠ gb139 ∧ k_ ≠ gb142) v189 y188) ∧ (b 33 = true → Kd.R (Kd.int .u8) 5 w' w.heap.size (fun k_ => (w.heap.size ≤ k_)) v192 t191) ∧ (b 34 = true → b 35 = false → Kd.R (Kd.int .u8) 5 w' w.heap.size (fun k_ => (w.heap.size ≤ k_)) v195 t194) ∧ (b 35 = true → Kd.N (Kd.slice 5 (Kd.int .u8)) 24 w' w.heap.size (fun k_ => ((P0_4_ k_ ∨ P0_5_ k_) ∨ w.heap.size ≤ k_) ∧ k_ ≠ gb139 ∧ k_ ≠ gb142) v198 y197) ∧ (b 36 = true → Kd.R (Kd.int .u8) 5 w' w.heap.size (fun k_ => (w.heap.size ≤ k_)) v201 t200) ∧ (b 37 = true → (m37_ : Value) = v201)) HT_.out HW_.out (by kernel_rfl) (by kernel_rfl) ?_ ?_ ?_
         ·exact ⟨.bool false, .bool false, .bool false, .bool false, .bool false, .bool false, .bool false, .bool false, .bool false, .bool false, .bool false, .bool false, .bool false, .bool false, .bool false, .bool false, .bool false, .bool false, .bool false, .bool false, .bool false, by simp only [putSel, Bool.false_eq_true, if_false], HO_140004.out, HO_140005.out, BK139.out, BK142.out, HB.out, fun h_ => absurd h_ (by decide), fun h_ => absurd h_ (by decide), fun h_ => absurd h_ (by decide), fun h_ => absurd h_ (by decide), fun h_ => absurd h_ (by decide), fun h_ => absurd h_ (by decide), fun h_ => absurd h_ (by decide), fun h_ => absurd h_ (by decide), fun h_ => absurd h_ (by decide), fun h_ => absurd h_ (by decide), fun h_ => absurd h_ (by decide), fun h_ => absurd h_ (by decide), fun h_ => absurd h_ (by decide), fun h_ => absurd h_ (by decide), fun h_ => absurd h_ (by decide), fun h_ => absurd h_ (by decide), fun h_ => absurd h_ (by decide), fun h_ => absurd h_ (by decide), fun h_ => absurd h_ (by decide), fun h_ => absurd h_ (by decide), fun h_ => absurd h_ (by decide)⟩
         ·skip
          clear BK139 BK142 HB HO_140004 HO_140005
          refine steps_cons ?_ ?_
          ·rintro b a w' ⟨v144, v147, v150, v153, v156, v159, v162, v165, v168, v171, v174, v177, v180, v183, v186, v189, v192, v195, v198, v201, m37_, ha, Q_HO_140004, Q_HO_140005, Q_BK139, Q_BK142, Q_HB, Q_HO145, Q_HO148, Q_HO151, Q_HO154, Q_HO157, Q_HO160, Q_HO163, Q_HO166, Q_HO169, Q_HO172, Q_HO175, Q_HO178, Q_HO181, Q_HO184, Q_HO187, Q_HO190, Q_HO193, Q_HO196, Q_HO199, Q_HO202, Q_X37_⟩ hb_ hon hoff
           refine ⟨_, rfl, fun K hK => ?_⟩
           replace ha := Aside0.mk ha
           have HO_140004 := Aside0.mk Q_HO_140004
           have HO_140005 := Aside0.mk Q_HO_140005
           have BK139 := Aside0.mk Q_BK139
           have BK142 := Aside0.mk Q_BK142
           have HB := Aside0.mk Q_HB
           refine Kd.R_lit_step (Kd.int .u8) _ 5 ?hg (N := 36) ?hd (xs := ([136] : List Int)) (inner := [.int .u8 136]) (ok := fun _ => True) (okp := fun _ => True) ?hr ?hp (fun _ hk => hk) trivial (Below.refl _ _) (Nat.le_refl _) (by simp) ?_; (case hd => rfl); (case hg => rfl); (case hr => first | (go_simp; done) | (go_simp; rfl)); (case hp => exact (Reps.one (show Kd.M (Kd.int .u8) _ _ _ 136 [.int .u8 136] from rfl) (Reps.none _ _)))
           intro v144 w38 ho39 hb hg_ hnew_
           clear hg_ hnew_
           (first | rw [← Ny143.out] at ho39 | (simp only [Int.reduceToNat] at ho39; rw [← Ny143.out] at ho39))
           have n0_ := Aside0.mk (Kd.V_elder' (HO_140004.out) (Kd.R_base ho39) hb)
           have n1_ := Aside0.mk (Kd.V_elder' (HO_140005.out) (Kd.R_base ho39) hb)
           have n2_ := Aside0.mk (Kd.R_lower (Kd.R_newM (M := fun k_ => (w.heap.size ≤ k_)) ho39 (below_size HB.out) (fun k_ h_ => h_)) (below_size HB.out))
           have n3_ := Aside0.mk (blk_below (g := gb139) (o := .cells #[.int .i64 a0_0, .int .i64 a0_1, .int .i64 a0_2, .int .i64 a0_3, .slice A0_4 l0_4.length c0_4, .slice A0_5 l0_5.length c0_5] 34 (0, 0)) BK139.out hb)
           have n4_ := Aside0.mk (blk_below (g := gb142) (o := .cells #[.int .i64 x143000_15, .int .i64 x143001_15] 23 (0, 0)) BK142.out hb)
           have n5_ := Aside0.mk (below_step HB.out hb)
           have z_HO148 := fun (h0_ : b 1 = true) => (show Kd.R (Kd.int .u8) 5 w38 w.heap.size (fun k_ => (w.heap.size ≤ k_)) v147 y146 from by first | exact (Kd.R_elder' ((Q_HO148 h0_)) (Kd.R_base ho39) hb) | exact Kd.R_mono (Kd.R_elder' ((Q_HO148 h0_)) (Kd.R_base ho39) hb) (fun _ h_ => by first | trivial | exact h_ | exact h_.1))
           have z_HO151 := fun (h0_ : b 2 = true) (h1_ : b 35 = false) => (show Kd.R (Kd.int .u8) 5 w38 w.heap.size (fun k_ => (w.heap.size ≤ k_)) v150 t149 from by first | exact (Kd.R_elder' ((Q_HO151 h0_ h1_)) (Kd.R_base ho39) hb) | exact Kd.R_mono (Kd.R_elder' ((Q_HO151 h0_ h1_)) (Kd.R_base ho39) hb) (fun _ h_ => by first | trivial | exact h_ | exact h_.1))
           have z_HO154 := fun (h0_ : b 4 = true) => (show Kd.R (Kd.int .u8) 5 w38 w.heap.size (fun k_ => (w.heap.size ≤ k_)) v153 t152 from by first | exact (Kd.R_elder' ((Q_HO154 h0_)) (Kd.R_base ho39) hb) | exact Kd.R_mono (Kd.R_elder' ((Q_HO154 h0_)) (Kd.R_base ho39) hb) (fun _ h_ => by first | trivial | exact h_ | exact h_.1))
           have z_HO157 := fun (h0_ : b 5 = true) (h1_ : b 35 = false) => (show Kd.R (Kd.int .u8) 5 w38 w.heap.size (fun k_ => (w.heap.size ≤ k_)) v156 t155 from by first | exact (Kd.R_elder' ((Q_HO157 h0_ h1_)) (Kd.R_base ho39) hb) | exact Kd.R_mono (Kd.R_elder' ((Q_HO157 h0_ h1_)) (Kd.R_base ho39) hb) (fun _ h_ => by first | trivial | exact h_ | exact h_.1))
           have z_HO160 := fun (h0_ : b 10 = true) (h1_ : b 13 = false) => (show Kd.R (Kd.int .u8) 5 w38 w.heap.size (fun k_ => (w.heap.size ≤ k_)) v159 y158 from by first | exact (Kd.R_elder' ((Q_HO160 h0_ h1_)) (Kd.R_base ho39) hb) | exact Kd.R_mono (Kd.R_elder' ((Q_HO160 h0_ h1_)) (Kd.R_base ho39) hb) (fun _ h_ => by first | trivial | exact h_ | exact h_.1))
           have z_HO163 := fun (h0_ : b 13 = true) => (show Kd.N (Kd.slice 5 (Kd.int .u8)) 24 w38 w.heap.size (fun k_ => ((P0_4_ k_ ∨ P0_5_ k_) ∨ w.heap.size ≤ k_) ∧ k_ ≠ gb139 ∧ k_ ≠ gb142) v162 y161 from by first | exact (Kd.N_elder' ((Q_HO163 h0_)) (Kd.R_base ho39) hb) | exact Kd.N_mono (Kd.N_elder' ((Q_HO163 h0_)) (Kd.R_base ho39) hb) (fun _ h_ => by first | trivial | exact h_ | exact h_.1))
           have z_HO166 := fun (h0_ : b 14 = true) => (show Kd.R (Kd.int .u8) 5 w38 w.heap.size (fun k_ => (w.heap.size ≤ k_)) v165 t164 from by first | exact (Kd.R_elder' ((Q_HO166 h0_)) (Kd.R_base ho39) hb) | exact Kd.R_mono (Kd.R_elder' ((Q_HO166 h0_)) (Kd.R_base ho39) hb) (fun _ h_ => by first | trivial | exact h_ | exact h_.1))
           have z_HO169 := fun (h0_ : b 15 = true) (h1_ : b 35 = false) => (show Kd.R (Kd.int .u8) 5 w38 w.heap.size (fun k_ => (w.heap.size ≤ k_)) v168 t167 from by first | exact (Kd.R_elder' ((Q_HO169 h0_ h1_)) (Kd.R_base ho39) hb) | exact Kd.R_mono (Kd.R_elder' ((Q_HO169 h0_ h1_)) (Kd.R_base ho39) hb) (fun _ h_ => by first | trivial | exact h_ | exact h_.1))
           have z_HO172 := fun (h0_ : b 20 = true) (h1_ : b 23 = false) => (show Kd.R (Kd.int .u8) 5 w38 w.heap.size (fun k_ => (w.heap.size ≤ k_)) v171 y170 from by first | exact (Kd.R_elder' ((Q_HO172 h0_ h1_)) (Kd.R_base ho39) hb) | exact Kd.R_mono (Kd.R_elder' ((Q_HO172 h0_ h1_)) (Kd.R_base ho39) hb) (fun _ h_ => by first | trivial | exact h_ | exact h_.1))
           have z_HO175 := fun (h0_ : b 23 = true) => (show Kd.N (Kd.slice 5 (Kd.int .u8)) 24 w38 w.heap.size (fun k_ => ((P0_4_ k_ ∨ P0_5_ k_) ∨ w.heap.size ≤ k_) ∧ k_ ≠ gb139 ∧ k_ ≠ gb142) v174 y173 from by first | exact (Kd.N_elder' ((Q_HO175 h0_)) (Kd.R_base ho39) hb) | exact Kd.N_mono (Kd.N_elder' ((Q_HO175 h0_)) (Kd.R_base ho39) hb) (fun _ h_ => by first | trivial | exact h_ | exact h_.1))
           have z_HO178 := fun (h0_ : b 24 = true) => (show Kd.R (Kd.int .u8) 5 w38 w.heap.size (fun k_ => (w.heap.size ≤ k_)) v177 t176 from by first | exact (Kd.R_elder' ((Q_HO178 h0_)) (Kd.R_base ho39) hb) | exact Kd.R_mono (Kd.R_elder' ((Q_HO178 h0_)) (Kd.R_base ho39) hb) (fun _ h_ => by first | trivial | exact h_ | exact h_.1))
           have z_HO181 := fun (h0_ : b 25 = true) (h1_ : b 35 = false) => (show Kd.R (Kd.int .u8) 5 w38 w.heap.size (fun k_ => (w.heap.size ≤ k_)) v180 t179 from by first | exact (Kd.R_elder' ((Q_HO181 h0_ h1_)) (Kd.R_base ho39) hb) | exact Kd.R_mono (Kd.R_elder' ((Q_HO181 h0_ h1_)) (Kd.R_base ho39) hb) (fun _ h_ => by first | trivial | exact h_ | exact h_.1))
           have z_HO184 := fun (h0_ : b 28 = true) (h1_ : b 32 = false) => (show Kd.R (Kd.int .u8) 5 w38 w.heap.size (fun k_ => (w.heap.size ≤ k_)) v183 t182 from by first | exact (Kd.R_elder' ((Q_HO184 h0_ h1_)) (Kd.R_base ho39) hb) | exact Kd.R_mono (Kd.R_elder' ((Q_HO184 h0_ h1_)) (Kd.R_base ho39) hb) (fun _ h_ => by first | trivial | exact h_ | exact h_.1))
           have z_HO187 := fun (h0_ : b 31 = true) (h1_ : b 32 = false) => (show Kd.R (Kd.int .u8) 5 w38 w.heap.size (fun k_ => (w.heap.size ≤ k_)) v186 t185 from by first | exact (Kd.R_elder' ((Q_HO187 h0_ h1_)) (Kd.R_base ho39) hb) | exact Kd.R_mono (Kd.R_elder' ((Q_HO187 h0_ h1_)) (Kd.R_base ho39) hb) (fun _ h_ => by first | trivial | exact h_ | exact h_.1))
           have z_HO190 := fun (h0_ : b 32 = true) => (show Kd.N (Kd.slice 5 (Kd.int .u8)) 24 w38 w.heap.size (fun k_ => ((P0_4_ k_ ∨ P0_5_ k_) ∨ w.heap.size ≤ k_) ∧ k_ ≠ gb139 ∧ k_ ≠ gb142) v189 y188 from by first | exact (Kd.N_elder' ((Q_HO190 h0_)) (Kd.R_base ho39) hb) | exact Kd.N_mono (Kd.N_elder' ((Q_HO190 h0_)) (Kd.R_base ho39) hb) (fun _ h_ => by first | trivial | exact h_ | exact h_.1))
           have z_HO193 := fun (h0_ : b 33 = true) => (show Kd.R (Kd.int .u8) 5 w38 w.heap.size (fun k_ => (w.heap.size ≤ k_)) v192 t191 from by first | exact (Kd.R_elder' ((Q_HO193 h0_)) (Kd.R_base ho39) hb) | exact Kd.R_mono (Kd.R_elder' ((Q_HO193 h0_)) (Kd.R_base ho39) hb) (fun _ h_ => by first | trivial | exact h_ | exact h_.1))
           have z_HO196 := fun (h0_ : b 34 = true) (h1_ : b 35 = false) => (show Kd.R (Kd.int .u8) 5 w38 w.heap.size (fun k_ => (w.heap.size ≤ k_)) v195 t194 from by first | exact (Kd.R_elder' ((Q_HO196 h0_ h1_)) (Kd.R_base ho39) hb) | exact Kd.R_mono (Kd.R_elder' ((Q_HO196 h0_ h1_)) (Kd.R_base ho39) hb) (fun _ h_ => by first | trivial | exact h_ | exact h_.1))
           clear HO_140004
           clear HO_140005
           clear BK139
           clear BK142
           clear HB
           have HO_140004 := n0_
           have HO_140005 := n1_
           have HO145 := n2_
           have BK139 := n3_
           have BK142 := n4_
           have HB := n5_
           clear n0_ n1_ n2_ n3_ n4_ n5_
           clear hb ho39
           refine hK.out _ _ ⟨v144, v147, v150, v153, v156, v159, v162, v165, v168, v171, v174, v177, v180, v183, v186, v189, v192, v195, v198, v201, m37_, (by rw [ha.out]; exact putSel_upk 0 hb_ rfl rfl rfl), (by exact Kd.V_mono HO_140004.out (fun _ hk => (by first | exact ⟨hk.1.1, ⟨hk.2, ⟨hk.1.2.1, hk.1.2.2⟩⟩⟩ | exact hk | exact hk.1 | exact hk.1.1 | exact hk.1.1.1 | omega))), (by exact Kd.V_mono HO_140005.out (fun _ hk => (by first | exact ⟨hk.1.1, ⟨hk.2, ⟨hk.1.2.1, hk.1.2.2⟩⟩⟩ | exact hk | exact hk.1 | exact hk.1.1 | exact hk.1.1.1 | omega))), BK139.out, BK142.out, HB.out, fun _ _ => (by exact Kd.R_mono HO145.out (fun _ hk => (by first | exact hk.1 | exact hk | exact hk.1 | exact hk.1.1 | exact hk.1.1.1 | omega))), z_HO148, z_HO151, z_HO154, z_HO157, z_HO160, z_HO163, z_HO166, z_HO169, z_HO172, z_HO175, z_HO178, z_HO181, z_HO184, z_HO187, z_HO190, z_HO193, z_HO196, fun h0_ => absurd ((hoff 35 (by kernel_rfl)).symm.trans h0_) (by decide), fun h0_ => absurd ((hoff 36 (by kernel_rfl)).symm.trans h0_) (by decide), fun h0_ => absurd ((hoff 37 (by kernel_rfl)).symm.trans h0_) (by decide)⟩
          refine steps_cons ?_ ?_
          ·rintro b a w' ⟨v144, v147, v150, v153, v156, v159, v162, v165, v168, v171, v174, v177, v180, v183, v186, v189, v192, v195, v198, v201, m37_, ha, Q_HO_140004, Q_HO_140005, Q_BK139, Q_BK142, Q_HB, Q_HO145, Q_HO148, Q_HO151, Q_HO154, Q_HO157, Q_HO160, Q_HO163, Q_HO166, Q_HO169, Q_HO172, Q_HO175, Q_HO178, Q_HO181, Q_HO184, Q_HO187, Q_HO190, Q_HO193, Q_HO196, Q_HO199, Q_HO202, Q_X37_⟩ hb_ hon hoff
           refine ⟨_, rfl, fun K hK => ?_⟩
           replace ha := Aside0.mk ha
           have HO_140004 := Aside0.mk Q_HO_140004
           have HO_140005 := Aside0.mk Q_HO_140005
           have BK139 := Aside0.mk Q_BK139
           have BK142 := Aside0.mk Q_BK142
           have HB := Aside0.mk Q_HB
           refine Kd.R_lit_step (Kd.int .u8) _ 5 ?hg (N := 37) ?hd (xs := ([128, 129, 134, 135, 166] : List Int)) (inner := [.int .u8 128, .int .u8 129, .int .u8 134, .int .u8 135, .int .u8 166]) (ok := fun _ => True) (okp := fun _ => True) ?hr ?hp (fun _ hk => hk) trivial (Below.refl _ _) (Nat.le_refl _) (by simp) ?_; (case hd => rfl); (case hg => rfl); (case hr => first | (go_simp; done) | (go_simp; rfl)); (case hp => exact (Reps.one (show Kd.M (Kd.int .u8) _ _ _ 128 [.int .u8 128] from rfl) (Reps.one (show Kd.M (Kd.int .u8) _ _ _ 129 [.int .u8 129] from rfl) (Reps.one (show Kd.M (Kd.int .u8) _ _ _ 134 [.int .u8 134] from rfl) (Reps.one (show Kd.M (Kd.int .u8) _ _ _ 135 [.int .u8 135] from rfl) (Reps.one (show Kd.M (Kd.int .u8) _ _ _ 166 [.int .u8 166] from rfl) (Reps.none _ _)))))))
           intro v147 w38 ho39 hb hg_ hnew_
           clear hg_ hnew_
           (first | rw [← Ny146.out] at ho39 | (simp only [Int.reduceToNat] at ho39; rw [← Ny146.out] at ho39))
           have n0_ := Aside0.mk (Kd.V_elder' (HO_140004.out) (Kd.R_base ho39) hb)
           have n1_ := Aside0.mk (Kd.V_elder' (HO_140005.out) (Kd.R_base ho39) hb)
           have n2_ := Aside0.mk (Kd.R_lower (Kd.R_newM (M := fun k_ => (w.heap.size ≤ k_)) ho39 (below_size HB.out) (fun k_ h_ => h_)) (below_size HB.out))
           have n3_ := Aside0.mk (blk_below (g := gb139) (o := .cells #[.int .i64 a0_0, .int .i64 a0_1, .int .i64 a0_2, .int .i64 a0_3, .slice A0_4 l0_4.length c0_4, .slice A0_5 l0_5.length c0_5] 34 (0, 0)) BK139.out hb)
           have n4_ := Aside0.mk (blk_below (g := gb142) (o := .cells #[.int .i64 x143000_15, .int .i64 x143001_15] 23 (0, 0)) BK142.out hb)
           have n5_ := Aside0.mk (below_step HB.out hb)
           have z_HO145 := fun (h0_ : b 0 = true) (h1_ : b 35 = false) => (show Kd.R (Kd.int .u8) 5 w38 w.heap.size (fun k_ => (w.heap.size ≤ k_)) v144 y143 from by first | exact (Kd.R_elder' ((Q_HO145 h0_ h1_)) (Kd.R_base ho39) hb) | exact Kd.R_mono (Kd.R_elder' ((Q_HO145 h0_ h1_)) (Kd.R_base ho39) hb) (fun _ h_ => by first | trivial | exact h_ | exact h_.1))
           have z_HO160 := fun (h0_ : b 10 = true) (h1_ : b 13 = false) => (show Kd.R (Kd.int .u8) 5 w38 w.heap.size (fun k_ => (w.heap.size ≤ k_)) v159 y158 from by first | exact (Kd.R_elder' ((Q_HO160 h0_ h1_)) (Kd.R_base ho39) hb) | exact Kd.R_mono (Kd.R_elder' ((Q_HO160 h0_ h1_)) (Kd.R_base ho39) hb) (fun _ h_ => by first | trivial | exact h_ | exact h_.1))
           have z_HO163 := fun (h0_ : b 13 = true) => (show Kd.N (Kd.slice 5 (Kd.int .u8)) 24 w38 w.heap.size (fun k_ => ((P0_4_ k_ ∨ P0_5_ k_) ∨ w.heap.size ≤ k_) ∧ k_ ≠ gb139 ∧ k_ ≠ gb142) v162 y161 from by first | exact (Kd.N_elder' ((Q_HO163 h0_)) (Kd.R_base ho39) hb) | exact Kd.N_mono (Kd.N_elder' ((Q_HO163 h0_)) (Kd.R_base ho39) hb) (fun _ h_ => by first | trivial | exact h_ | exact h_.1))
           have z_HO172 := fun (h0_ : b 20 = true) (h1_ : b 23 = false) => (show Kd.R (Kd.int .u8) 5 w38 w.heap.size (fun k_ => (w.heap.size ≤ k_)) v171 y170 from by first | exact (Kd.R_elder' ((Q_HO172 h0_ h1_)) (Kd.R_base ho39) hb) | exact Kd.R_mono (Kd.R_elder' ((Q_HO172 h0_ h1_)) (Kd.R_base ho39) hb) (fun _ h_ => by first | trivial | exact h_ | exact h_.1))
           have z_HO175 := fun (h0_ : b 23 = true) => (show Kd.N (Kd.slice 5 (Kd.int .u8)) 24 w38 w.heap.size (fun k_ => ((P0_4_ k_ ∨ P0_5_ k_) ∨ w.heap.size ≤ k_) ∧ k_ ≠ gb139 ∧ k_ ≠ gb142) v174 y173 from by first | exact (Kd.N_elder' ((Q_HO175 h0_)) (Kd.R_base ho39) hb) | exact Kd.N_mono (Kd.N_elder' ((Q_HO175 h0_)) (Kd.R_base ho39) hb) (fun _ h_ => by first | trivial | exact h_ | exact h_.1))
           clear HO_140004
           clear HO_140005
           clear BK139
           clear BK142
           clear HB
           have HO_140004 := n0_
           have HO_140005 := n1_
           have HO148 := n2_
           have BK139 := n3_
           have BK142 := n4_
           have HB := n5_
           clear n0_ n1_ n2_ n3_ n4_ n5_
           clear hb ho39
           refine hK.out _ _ ⟨v144, v147, v150, v153, v156, v159, v162, v165, v168, v171, v174, v177, v180, v183, v186, v189, v192, v195, v198, v201, m37_, (by rw [ha.out]; exact putSel_upk 1 hb_ rfl rfl rfl), (by exact Kd.V_mono HO_140004.out (fun _ hk => (by first | exact ⟨hk.1.1, ⟨hk.2, ⟨hk.1.2.1, hk.1.2.2⟩⟩⟩ | exact hk | exact hk.1 | exact hk.1.1 | exact hk.1.1.1 | omega))), (by exact Kd.V_mono HO_140005.out (fun _ hk => (by first | exact ⟨hk.1.1, ⟨hk.2, ⟨hk.1.2.1, hk.1.2.2⟩⟩⟩ | exact hk | exact hk.1 | exact hk.1.1 | exact hk.1.1.1 | omega))), BK139.out, BK142.out, HB.out, z_HO145, fun _ => (by exact Kd.R_mono HO148.out (fun _ hk => (by first | exact hk.1 | exact hk | exact hk.1 | exact hk.1.1 | exact hk.1.1.1 | omega))), fun h0_ _ => absurd ((hoff 2 (by kernel_rfl)).symm.trans h0_) (by decide), fun h0_ => absurd ((hoff 4 (by kernel_rfl)).symm.trans h0_) (by decide), fun h0_ _ => absurd ((hoff 5 (by kernel_rfl)).symm.trans h0_) (by decide), z_HO160, z_HO163, fun h0_ => absurd ((hoff 14 (by kernel_rfl)).symm.trans h0_) (by decide), fun h0_ _ => absurd ((hoff 15 (by kernel_rfl)).symm.trans h0_) (by decide), z_HO172, z_HO175, fun h0_ => absurd ((hoff 24 (by kernel_rfl)).symm.trans h0_) (by decide), fun h0_ _ => absurd ((hoff 25 (by kernel_rfl)).symm.trans h0_) (by decide), fun h0_ _ => absurd ((hoff 28 (by kernel_rfl)).symm.trans h0_) (by decide), fun h0_ _ => absurd ((hoff 31 (by kernel_rfl)).symm.trans h0_) (by decide), fun h0_ => absurd ((hoff 32 (by kernel_rfl)).symm.trans h0_) (by decide), fun h0_ => absurd ((hoff 33 (by kernel_rfl)).symm.trans h0_) (by decide), fun h0_ _ => absurd ((hoff 34 (by kernel_rfl)).symm.trans h0_) (by decide), fun h0_ => absurd ((hoff 35 (by kernel_rfl)).symm.trans h0_) (by decide), fun h0_ => absurd ((hoff 36 (by kernel_rfl)).symm.trans h0_) (by decide), fun h0_ => absurd ((hoff 37 (by kernel_rfl)).symm.trans h0_) (by decide)⟩
          refine steps_cons ?_ ?_
          ·rintro b a w' ⟨v144, v147, v150, v153, v156, v159, v162, v165, v168, v171, v174, v177, v180, v183, v186, v189, v192, v195, v198, v201, m37_, ha, Q_HO_140004, Q_HO_140005, Q_BK139, Q_BK142, Q_HB, Q_HO145, Q_HO148, Q_HO151, Q_HO154, Q_HO157, Q_HO160, Q_HO163, Q_HO166, Q_HO169, Q_HO172, Q_HO175, Q_HO178, Q_HO181, Q_HO184, Q_HO187, Q_HO190, Q_HO193, Q_HO196, Q_HO199, Q_HO202, Q_X37_⟩ hb_ hon hoff
           refine ⟨_, rfl, fun K hK => ?_⟩
           have e37 : a.tmps[37]? = some (v147) := by rw [ha]; exact putSel_on (e := (1, 37, v147)) 1 rfl rfl (hon 1 (by kernel_rfl)) rfl
           replace ha := Aside0.mk ha
           have HO_140004 := Aside0.mk Q_HO_140004
           have HO_140005 := Aside0.mk Q_HO_140005
           have BK139 := Aside0.mk Q_BK139
           have BK142 := Aside0.mk Q_BK142
           have HB := Aside0.mk Q_HB
           have HO148 := Aside0.mk (Q_HO148 (hon 1 (by kernel_rfl)))
           obtain ⟨Ao41, co41, eo41⟩ := Kd.R_slice HO148.out
           (first | subst eo41 | (injection eo41 with f1_ f2_ f3_; have f4_ := f1_.symm; have f5_ := f3_.symm; clear f1_ f2_ f3_; subst f4_; subst f5_))
           refine goes_ Try.func23 (by kernel_rfl) rfl #[.int .u8 128, .slice Ao41 y146.length co41] (by rfl) rfl rfl (by first | (simp only [List.map_toArray, List.map_cons, List.map_nil, Act.eval, Array.getD_eq_getD_getElem?, Option.getD_some, e37]; done) | (simp only [List.map_toArray, List.map_cons, List.map_nil, Act.eval, Array.getD_eq_getD_getElem?, Option.getD_some, e37]; rfl)) ?_
           with_reducible refine (greenscreenref24_field.calls kj15 128 (fun k_ => some k_ = (.slice Ao41 y146.length co41 : Value).ownBlock) _ _ y146 t149 _ ?side1 A25.out).mono ?_
           (case side1 => exact Kd.R_V (Kd.R_tight rfl (Kd.R_types (Kd.R_types (HO148.out) BK139.out (by decide)) BK142.out (by decide))))
           rintro e w42 ⟨v150, rfl, ho0, hb⟩
           refine ⟨_, rfl, ?_⟩
           have n0_ := Aside0.mk (Kd.V_elder' (HO_140004.out) (Kd.R_base ho0) hb)
           have n1_ := Aside0.mk (Kd.V_elder' (HO_140005.out) (Kd.R_base ho0) hb)
           have n2_ := Aside0.mk (Kd.R_elder' (HO148.out) (Kd.R_base ho0) hb)
           have n3_ := Aside0.mk (Kd.R_lower (Kd.R_new' (Kd.R_newM (M := fun k_ => (w.heap.size ≤ k_)) (Kd.R_mono (ok' := fun k_ => True) ho0 (fun _ hk_ => trivial)) (below_size HB.out) (fun k_ h_ => h_)) (Kd.R_lt (HO148.out))) (below_size HB.out))
           have n4_ := Aside0.mk (blk_below (g := gb139) (o := .cells #[.int .i64 a0_0, .int .i64 a0_1, .int .i64 a0_2, .int .i64 a0_3, .slice A0_4 l0_4.length c0_4, .slice A0_5 l0_5.length c0_5] 34 (0, 0)) BK139.out hb)
           have n5_ := Aside0.mk (blk_below (g := gb142) (o := .cells #[.int .i64 x143000_15, .int .i64 x143001_15] 23 (0, 0)) BK142.out hb)
           have n6_ := Aside0.mk (below_step HB.out hb)
           have z_HO145 := fun (h0_ : b 0 = true) (h1_ : b 35 = false) => (show Kd.R (Kd.int .u8) 5 w42 w.heap.size (fun k_ => (w.heap.size ≤ k_)) v144 y143 from by first | exact (Kd.R_elder' ((Q_HO145 h0_ h1_)) (Kd.R_base ho0) hb) | exact Kd.R_mono (Kd.R_elder' ((Q_HO145 h0_ h1_)) (Kd.R_base ho0) hb) (fun _ h_ => by first | trivial | exact h_ | exact h_.1))
           have z_HO160 := fun (h0_ : b 10 = true) (h1_ : b 13 = false) => (show Kd.R (Kd.int .u8) 5 w42 w.heap.size (fun k_ => (w.heap.size ≤ k_)) v159 y158 from by first | exact (Kd.R_elder' ((Q_HO160 h0_ h1_)) (Kd.R_base ho0) hb) | exact Kd.R_mono (Kd.R_elder' ((Q_HO160 h0_ h1_)) (Kd.R_base ho0) hb) (fun _ h_ => by first | trivial | exact h_ | exact h_.1))
           have z_HO163 := fun (h0_ : b 13 = true) => (show Kd.N (Kd.slice 5 (Kd.int .u8)) 24 w42 w.heap.size (fun k_ => ((P0_4_ k_ ∨ P0_5_ k_) ∨ w.heap.size ≤ k_) ∧ k_ ≠ gb139 ∧ k_ ≠ gb142) v162 y161 from by first | exact (Kd.N_elder' ((Q_HO163 h0_)) (Kd.R_base ho0) hb) | exact Kd.N_mono (Kd.N_elder' ((Q_HO163 h0_)) (Kd.R_base ho0) hb) (fun _ h_ => by first | trivial | exact h_ | exact h_.1))
           have z_HO172 := fun (h0_ : b 20 = true) (h1_ : b 23 = false) => (show Kd.R (Kd.int .u8) 5 w42 w.heap.size (fun k_ => (w.heap.size ≤ k_)) v171 y170 from by first | exact (Kd.R_elder' ((Q_HO172 h0_ h1_)) (Kd.R_base ho0) hb) | exact Kd.R_mono (Kd.R_elder' ((Q_HO172 h0_ h1_)) (Kd.R_base ho0) hb) (fun _ h_ => by first | trivial | exact h_ | exact h_.1))
           have z_HO175 := fun (h0_ : b 23 = true) => (show Kd.N (Kd.slice 5 (Kd.int .u8)) 24 w42 w.heap.size (fun k_ => ((P0_4_ k_ ∨ P0_5_ k_) ∨ w.heap.size ≤ k_) ∧ k_ ≠ gb139 ∧ k_ ≠ gb142) v174 y173 from by first | exact (Kd.N_elder' ((Q_HO175 h0_)) (Kd.R_base ho0) hb) | exact Kd.N_mono (Kd.N_elder' ((Q_HO175 h0_)) (Kd.R_base ho0) hb) (fun _ h_ => by first | trivial | exact h_ | exact h_.1))
           clear HO_140004
           clear HO_140005
           clear HO148
           clear BK139
           clear BK142
           clear HB
           have HO_140004 := n0_
           have HO_140005 := n1_
           have HO148 := n2_
           have HO151 := n3_
           have BK139 := n4_
           have BK142 := n5_
           have HB := n6_
           clear n0_ n1_ n2_ n3_ n4_ n5_ n6_
           (try clear hb)
           (try clear hb2)
           (try clear hk)
           (try clear hi)
           (try clear ho0)
           refine hK.out _ _ ⟨v144, .slice Ao41 y146.length co41, v150, v153, v156, v159, v162, v165, v168, v171, v174, v177, v180, v183, v186, v189, v192, v195, v198, v201, m37_, (by rw [ha.out]; exact putSel_upk 2 hb_ rfl rfl rfl), (by exact Kd.V_mono HO_140004.out (fun _ hk => (by first | exact ⟨hk.1.1, ⟨hk.1.2.1, ⟨hk.2, ⟨hk.1.2.2.1, hk.1.2.2.2⟩⟩⟩⟩ | exact hk | exact hk.1 | exact hk.1.1 | exact hk.1.1.1 | omega))), (by exact Kd.V_mono HO_140005.out (fun _ hk => (by first | exact ⟨hk.1.1, ⟨hk.1.2.1, ⟨hk.2, ⟨hk.1.2.2.1, hk.1.2.2.2⟩⟩⟩⟩ | exact hk | exact hk.1 | exact hk.1.1 | exact hk.1.1.1 | omega))), BK139.out, BK142.out, HB.out, z_HO145, fun _ => (by first | exact HO148.out | exact Kd.R_mono HO148.out (fun _ hk => by first | exact hk.1 | omega)), fun _ _ => (by exact Kd.R_mono HO151.out (fun _ hk => (by first | exact ⟨hk.1.1, hk.2⟩ | exact hk | exact hk.1 | exact hk.1.1 | exact hk.1.1.1 | omega))), fun h0_ => absurd ((hoff 4 (by kernel_rfl)).symm.trans h0_) (by decide), fun h0_ _ => absurd ((hoff 5 (by kernel_rfl)).symm.trans h0_) (by decide), z_HO160, z_HO163, fun h0_ => absurd ((hoff 14 (by kernel_rfl)).symm.trans h0_) (by decide), fun h0_ _ => absurd ((hoff 15 (by kernel_rfl)).symm.trans h0_) (by decide), z_HO172, z_HO175, fun h0_ => absurd ((hoff 24 (by kernel_rfl)).symm.trans h0_) (by decide), fun h0_ _ => absurd ((hoff 25 (by kernel_rfl)).symm.trans h0_) (by decide), fun h0_ _ => absurd ((hoff 28 (by kernel_rfl)).symm.trans h0_) (by decide), fun h0_ _ => absurd ((hoff 31 (by kernel_rfl)).symm.trans h0_) (by decide), fun h0_ => absurd ((hoff 32 (by kernel_rfl)).symm.trans h0_) (by decide), fun h0_ => absurd ((hoff 33 (by kernel_rfl)).symm.trans h0_) (by decide), fun h0_ _ => absurd ((hoff 34 (by kernel_rfl)).symm.trans h0_) (by decide), fun h0_ => absurd ((hoff 35 (by kernel_rfl)).symm.trans h0_) (by decide), fun h0_ => absurd ((hoff 36 (by kernel_rfl)).symm.trans h0_) (by decide), fun h0_ => absurd ((hoff 37 (by kernel_rfl)).symm.trans h0_) (by decide)⟩
          refine steps_cons ?_ ?_
          ·rintro b a w' ⟨v144, v147, v150, v153, v156, v159, v162, v165, v168, v171, v174, v177, v180, v183, v186, v189, v192, v195, v198, v201, m37_, ha, Q_HO_140004, Q_HO_140005, Q_BK139, Q_BK142, Q_HB, Q_HO145, Q_HO148, Q_HO151, Q_HO154, Q_HO157, Q_HO160, Q_HO163, Q_HO166, Q_HO169, Q_HO172, Q_HO175, Q_HO178, Q_HO181, Q_HO184, Q_HO187, Q_HO190, Q_HO193, Q_HO196, Q_HO199, Q_HO202, Q_X37_⟩ hb_ hon hoff
           refine ⟨_, rfl, fun K hK => ?_⟩
           have e6 : a.tmps[6]? = some (.pointer (some ⟨gb142, 0, none⟩)) := by rw [ha]; exact (putSel_off rfl).trans rfl
           replace ha := Aside0.mk ha
           have HO_140004 := Aside0.mk Q_HO_140004
           have HO_140005 := Aside0.mk Q_HO_140005
           have BK139 := Aside0.mk Q_BK139
           have BK142 := Aside0.mk Q_BK142
           have HB := Aside0.mk Q_HB
           have hc0_ : w'.cell? ⟨gb142, 0, none⟩ = some (.int .i64 x143000_15) := (blk_cell BK142.out 0).trans rfl
           have hc1_ : w'.cell? ⟨gb142, 1, none⟩ = some (.int .i64 x143001_15) := (blk_cell BK142.out 1).trans rfl
           refine value_ (w1 := w') (v := .agg #[.int .i64 x143000_15, .int .i64 x143001_15]) (by rfl) rfl ?_ ?_
           ·go_simp
            (try simp only [i64_w])
            try rfl
           refine hK.out _ _ ⟨v144, v147, v150, v153, v156, v159, v162, v165, v168, v171, v174, v177, v180, v183, v186, v189, v192, v195, v198, v201, m37_, (by rw [ha.out]; exact putSel_upk 3 hb_ rfl rfl rfl), Q_HO_140004, Q_HO_140005, Q_BK139, Q_BK142, Q_HB, Q_HO145, Q_HO148, Q_HO151, fun h0_ => absurd ((hoff 4 (by kernel_rfl)).symm.trans h0_) (by decide), fun h0_ _ => absurd ((hoff 5 (by kernel_rfl)).symm.trans h0_) (by decide), Q_HO160, Q_HO163, fun h0_ => absurd ((hoff 14 (by kernel_rfl)).symm.trans h0_) (by decide), fun h0_ _ => absurd ((hoff 15 (by kernel_rfl)).symm.trans h0_) (by decide), Q_HO172, Q_HO175, fun h0_ => absurd ((hoff 24 (by kernel_rfl)).symm.trans h0_) (by decide), fun h0_ _ => absurd ((hoff 25 (by kernel_rfl)).symm.trans h0_) (by decide), fun h0_ _ => absurd ((hoff 28 (by kernel_rfl)).symm.trans h0_) (by decide), fun h0_ _ => absurd ((hoff 31 (by kernel_rfl)).symm.trans h0_) (by decide), fun h0_ => absurd ((hoff 32 (by kernel_rfl)).symm.trans h0_) (by decide), fun h0_ => absurd ((hoff 33 (by kernel_rfl)).symm.trans h0_) (by decide), fun h0_ _ => absurd ((hoff 34 (by kernel_rfl)).symm.trans h0_) (by decide), fun h0_ => absurd ((hoff 35 (by kernel_rfl)).symm.trans h0_) (by decide), fun h0_ => absurd ((hoff 36 (by kernel_rfl)).symm.trans h0_) (by decide), fun h0_ => absurd ((hoff 37 (by kernel_rfl)).symm.trans h0_) (by decide)⟩
          refine steps_cons ?_ ?_
          ·rintro b a w' ⟨v144, v147, v150, v153, v156, v159, v162, v165, v168, v171, v174, v177, v180, v183, v186, v189, v192, v195, v198, v201, m37_, ha, Q_HO_140004, Q_HO_140005, Q_BK139, Q_BK142, Q_HB, Q_HO145, Q_HO148, Q_HO151, Q_HO154, Q_HO157, Q_HO160, Q_HO163, Q_HO166, Q_HO169, Q_HO172, Q_HO175, Q_HO178, Q_HO181, Q_HO184, Q_HO187, Q_HO190, Q_HO193, Q_HO196, Q_HO199, Q_HO202, Q_X37_⟩ hb_ hon hoff
           refine ⟨_, rfl, fun K hK => ?_⟩
           have e39 : a.tmps[39]? = some (.agg #[.int .i64 x143000_15, .int .i64 x143001_15]) := by rw [ha]; exact putSel_on (e := (3, 39, .agg #[.int .i64 x143000_15, .int .i64 x143001_15])) 3 rfl rfl (hon 3 (by kernel_rfl)) rfl
           replace ha := Aside0.mk ha
           have HO_140004 := Aside0.mk Q_HO_140004
           have HO_140005 := Aside0.mk Q_HO_140005
           have BK139 := Aside0.mk Q_BK139
           have BK142 := Aside0.mk Q_BK142
           have HB := Aside0.mk Q_HB
           have HO148 := Aside0.mk (Q_HO148 (hon 1 (by kernel_rfl)))
           have HO151 := Aside0.mk (Q_HO151 (hon 2 (by kernel_rfl)) (hoff 35 (by kernel_rfl)))
           refine goes_ Try.func24 (by kernel_rfl) rfl #[.agg #[.int .i64 x143000_15, .int .i64 x143001_15]] (by rfl) rfl rfl (by first | (simp only [List.map_toArray, List.map_cons, List.map_nil, Act.eval, Array.getD_eq_getD_getElem?, Option.getD_some, e39]; done) | (simp only [List.map_toArray, List.map_cons, List.map_nil, Act.eval, Array.getD_eq_getD_getElem?, Option.getD_some, e39]; rfl)) ?_
           with_reducible refine (greenscreenref24_size.calls kj15 x143000_15 x143001_15 t152 _ A26.out).mono ?_
           rintro e w43 ⟨v153, rfl, ho0, hb⟩
           refine ⟨_, rfl, ?_⟩
           have n0_ := Aside0.mk (Kd.V_elder' (HO_140004.out) (Kd.R_base ho0) hb)
           have n1_ := Aside0.mk (Kd.V_elder' (HO_140005.out) (Kd.R_base ho0) hb)
           have n2_ := Aside0.mk (Kd.R_elder' (HO148.out) (Kd.R_base ho0) hb)
           have n3_ := Aside0.mk (Kd.R_elder' (HO151.out) (Kd.R_base ho0) hb)
           have n4_ := Aside0.mk (Kd.R_lower (Kd.R_new' (Kd.R_new' (Kd.R_newM (M := fun k_ => (w.heap.size ≤ k_)) ho0 (below_size HB.out) (fun k_ h_ => h_)) (Kd.R_lt (HO148.out))) (Kd.R_lt (HO151.out))) (below_size HB.out))
           have n5_ := Aside0.mk (blk_below (g := gb139) (o := .cells #[.int .i64 a0_0, .int .i64 a0_1, .int .i64 a0_2, .int .i64 a0_3, .slice A0_4 l0_4.length c0_4, .slice A0_5 l0_5.length c0_5] 34 (0, 0)) BK139.out hb)
           have n6_ := Aside0.mk (blk_below (g := gb142) (o := .cells #[.int .i64 x143000_15, .int .i64 x143001_15] 23 (0, 0)) BK142.out hb)
           have n7_ := Aside0.mk (below_step HB.out hb)
           have z_HO145 := fun (h0_ : b 0 = true) (h1_ : b 35 = false) => (show Kd.R (Kd.int .u8) 5 w43 w.heap.size (fun k_ => (w.heap.size ≤ k_)) v144 y143 from by first | exact (Kd.R_elder' ((Q_HO145 h0_ h1_)) (Kd.R_base ho0) hb) | exact Kd.R_mono (Kd.R_elder' ((Q_HO145 h0_ h1_)) (Kd.R_base ho0) hb) (fun _ h_ => by first | trivial | exact h_ | exact h_.1))
           have z_HO160 := fun (h0_ : b 10 = true) (h1_ : b 13 = false) => (show Kd.R (Kd.int .u8) 5 w43 w.heap.size (fun k_ => (w.heap.size ≤ k_)) v159 y158 from by first | exact (Kd.R_elder' ((Q_HO160 h0_ h1_)) (Kd.R_base ho0) hb) | exact Kd.R_mono (Kd.R_elder' ((Q_HO160 h0_ h1_)) (Kd.R_base ho0) hb) (fun _ h_ => by first | trivial | exact h_ | exact h_.1))
           have z_HO163 := fun (h0_ : b 13 = true) => (show Kd.N (Kd.slice 5 (Kd.int .u8)) 24 w43 w.heap.size (fun k_ => ((P0_4_ k_ ∨ P0_5_ k_) ∨ w.heap.size ≤ k_) ∧ k_ ≠ gb139 ∧ k_ ≠ gb142) v162 y161 from by first | exact (Kd.N_elder' ((Q_HO163 h0_)) (Kd.R_base ho0) hb) | exact Kd.N_mono (Kd.N_elder' ((Q_HO163 h0_)) (Kd.R_base ho0) hb) (fun _ h_ => by first | trivial | exact h_ | exact h_.1))
           have z_HO172 := fun (h0_ : b 20 = true) (h1_ : b 23 = false) => (show Kd.R (Kd.int .u8) 5 w43 w.heap.size (fun k_ => (w.heap.size ≤ k_)) v171 y170 from by first | exact (Kd.R_elder' ((Q_HO172 h0_ h1_)) (Kd.R_base ho0) hb) | exact Kd.R_mono (Kd.R_elder' ((Q_HO172 h0_ h1_)) (Kd.R_base ho0) hb) (fun _ h_ => by first | trivial | exact h_ | exact h_.1))
           have z_HO175 := fun (h0_ : b 23 = true) => (show Kd.N (Kd.slice 5 (Kd.int .u8)) 24 w43 w.heap.size (fun k_ => ((P0_4_ k_ ∨ P0_5_ k_) ∨ w.heap.size ≤ k_) ∧ k_ ≠ gb139 ∧ k_ ≠ gb142) v174 y173 from by first | exact (Kd.N_elder' ((Q_HO175 h0_)) (Kd.R_base ho0) hb) | exact Kd.N_mono (Kd.N_elder' ((Q_HO175 h0_)) (Kd.R_base ho0) hb) (fun _ h_ => by first | trivial | exact h_ | exact h_.1))
           clear HO_140004
           clear HO_140005
           clear HO148
           clear HO151
           clear BK139
           clear BK142
           clear HB
           have HO_140004 := n0_
           have HO_140005 := n1_
           have HO148 := n2_
           have HO151 := n3_
           have HO154 := n4_
           have BK139 := n5_
           have BK142 := n6_
           have HB := n7_
           clear n0_ n1_ n2_ n3_ n4_ n5_ n6_ n7_
           (try clear hb)
           (try clear hb2)
           (try clear hk)
           (try clear hi)
           (try clear ho0)
           refine hK.out _ _ ⟨v144, v147, v150, v153, v156, v159, v162, v165, v168, v171, v174, v177, v180, v183, v186, v189, v192, v195, v198, v201, m37_, (by rw [ha.out]; exact putSel_upk 4 hb_ rfl rfl rfl), (by exact Kd.V_mono HO_140004.out (fun _ hk => (by first | exact hk | exact hk.1 | exact hk.1.1 | exact hk.1.1.1 | omega))), (by exact Kd.V_mono HO_140005.out (fun _ hk => (by first | exact hk | exact hk.1 | exact hk.1.1 | exact hk.1.1.1 | omega))), BK139.out, BK142.out, HB.out, z_HO145, fun _ => (by exact Kd.R_mono HO148.out (fun _ hk => (by first | exact ⟨hk.1.1, ⟨hk.1.2, hk.2⟩⟩ | exact hk | exact hk.1 | exact hk.1.1 | exact hk.1.1.1 | omega))), fun _ _ => (by exact Kd.R_mono HO151.out (fun _ hk => (by first | exact ⟨hk.1.1, ⟨hk.1.2, hk.2⟩⟩ | exact hk | exact hk.1 | exact hk.1.1 | exact hk.1.1.1 | omega))), fun _ => (by exact Kd.R_mono HO154.out (fun _ hk => (by first | exact ⟨hk.1.1.1, ⟨hk.1.2, hk.2⟩⟩ | exact hk | exact hk.1 | exact hk.1.1 | exact hk.1.1.1 | omega))), fun h0_ _ => absurd ((hoff 5 (by kernel_rfl)).symm.trans h0_) (by decide), z_HO160, z_HO163, fun h0_ => absurd ((hoff 14 (by kernel_rfl)).symm.trans h0_) (by decide), fun h0_ _ => absurd ((hoff 15 (by kernel_rfl)).symm.trans h0_) (by decide), z_HO172, z_HO175, fun h0_ => absurd ((hoff 24 (by kernel_rfl)).symm.trans h0_) (by decide), fun h0_ _ => absurd ((hoff 25 (by kernel_rfl)).symm.trans h0_) (by decide), fun h0_ _ => absurd ((hoff 28 (by kernel_rfl)).symm.trans h0_) (by decide), fun h0_ _ => absurd ((hoff 31 (by kernel_rfl)).symm.trans h0_) (by decide), fun h0_ => absurd ((hoff 32 (by kernel_rfl)).symm.trans h0_) (by decide), fun h0_ => absurd ((hoff 33 (by kernel_rfl)).symm.trans h0_) (by decide), fun h0_ _ => absurd ((hoff 34 (by kernel_rfl)).symm.trans h0_) (by decide), fun h0_ => absurd ((hoff 35 (by kernel_rfl)).symm.trans h0_) (by decide), fun h0_ => absurd ((hoff 36 (by kernel_rfl)).symm.trans h0_) (by decide), fun h0_ => absurd ((hoff 37 (by kernel_rfl)).symm.trans h0_) (by decide)⟩
          refine steps_cons ?_ ?_
          ·rintro b a w' ⟨v144, v147, v150, v153, v156, v159, v162, v165, v168, v171, v174, v177, v180, v183, v186, v189, v192, v195, v198, v201, m37_, ha, Q_HO_140004, Q_HO_140005, Q_BK139, Q_BK142, Q_HB, Q_HO145, Q_HO148, Q_HO151, Q_HO154, Q_HO157, Q_HO160, Q_HO163, Q_HO166, Q_HO169, Q_HO172, Q_HO175, Q_HO178, Q_HO181, Q_HO184, Q_HO187, Q_HO190, Q_HO193, Q_HO196, Q_HO199, Q_HO202, Q_X37_⟩ hb_ hon hoff
           refine ⟨_, rfl, fun K hK => ?_⟩
           have e40 : a.tmps[40]? = some (v153) := by rw [ha]; exact putSel_on (e := (4, 40, v153)) 4 rfl rfl (hon 4 (by kernel_rfl)) rfl
           replace ha := Aside0.mk ha
           have HO_140004 := Aside0.mk Q_HO_140004
           have HO_140005 := Aside0.mk Q_HO_140005
           have BK139 := Aside0.mk Q_BK139
           have BK142 := Aside0.mk Q_BK142
           have HB := Aside0.mk Q_HB
           have HO148 := Aside0.mk (Q_HO148 (hon 1 (by kernel_rfl)))
           have HO151 := Aside0.mk (Q_HO151 (hon 2 (by kernel_rfl)) (hoff 35 (by kernel_rfl)))
           have HO154 := Aside0.mk (Q_HO154 (hon 4 (by kernel_rfl)))
           obtain ⟨Ao44, co44, eo44⟩ := Kd.R_slice HO154.out
           (first | subst eo44 | (injection eo44 with f1_ f2_ f3_; have f4_ := f1_.symm; have f5_ := f3_.symm; clear f1_ f2_ f3_; subst f4_; subst f5_))
           refine goes_ Try.func23 (by kernel_rfl) rfl #[.int .u8 129, .slice Ao44 t152.length co44] (by rfl) rfl rfl (by first | (simp only [List.map_toArray, List.map_cons, List.map_nil, Act.eval, Array.getD_eq_getD_getElem?, Option.getD_some, e40]; done) | (simp only [List.map_toArray, List.map_cons, List.map_nil, Act.eval, Array.getD_eq_getD_getElem?, Option.getD_some, e40]; rfl)) ?_
           with_reducible refine (greenscreenref24_field.calls kj15 129 (fun k_ => some k_ = (.slice Ao44 t152.length co44 : Value).ownBlock) _ _ t152 t155 _ ?side1 A27.out).mono ?_
           (case side1 => exact Kd.R_V (Kd.R_tight rfl (Kd.R_types (Kd.R_types (HO154.out) BK139.out (by decide)) BK142.out (by decide))))
           rintro e w45 ⟨v156, rfl, ho0, hb⟩
           refine ⟨_, rfl, ?_⟩
           have n0_ := Aside0.mk (Kd.V_elder' (HO_140004.out) (Kd.R_base ho0) hb)
           have n1_ := Aside0.mk (Kd.V_elder' (HO_140005.out) (Kd.R_base ho0) hb)
           have n2_ := Aside0.mk (Kd.R_elder' (HO148.out) (Kd.R_base ho0) hb)
           have n3_ := Aside0.mk (Kd.R_elder' (HO151.out) (Kd.R_base ho0) hb)
           have n4_ := Aside0.mk (Kd.R_elder' (HO154.out) (Kd.R_base ho0) hb)
           have n5_ := Aside0.mk (Kd.R_lower (Kd.R_new' (Kd.R_new' (Kd.R_new' (Kd.R_newM (M := fun k_ => (w.heap.size ≤ k_)) (Kd.R_mono (ok' := fun k_ => True) ho0 (fun _ hk_ => trivial)) (below_size HB.out) (fun k_ h_ => h_)) (Kd.R_lt (HO148.out))) (Kd.R_lt (HO151.out))) (Kd.R_lt (HO154.out))) (below_size HB.out))
           have n6_ := Aside0.mk (blk_below (g := gb139) (o := .cells #[.int .i64 a0_0, .int .i64 a0_1, .int .i64 a0_2, .int .i64 a0_3, .slice A0_4 l0_4.length c0_4, .slice A0_5 l0_5.length c0_5] 34 (0, 0)) BK139.out hb)
           have n7_ := Aside0.mk (blk_below (g := gb142) (o := .cells #[.int .i64 x143000_15, .int .i64 x143001_15] 23 (0, 0)) BK142.out hb)
           have n8_ := Aside0.mk (below_step HB.out hb)
           have z_HO145 := fun (h0_ : b 0 = true) (h1_ : b 35 = false) => (show Kd.R (Kd.int .u8) 5 w45 w.heap.size (fun k_ => (w.heap.size ≤ k_)) v144 y143 from by first | exact (Kd.R_elder' ((Q_HO145 h0_ h1_)) (Kd.R_base ho0) hb) | exact Kd.R_mono (Kd.R_elder' ((Q_HO145 h0_ h1_)) (Kd.R_base ho0) hb) (fun _ h_ => by first | trivial | exact h_ | exact h_.1))
           have z_HO160 := fun (h0_ : b 10 = true) (h1_ : b 13 = false) => (show Kd.R (Kd.int .u8) 5 w45 w.heap.size (fun k_ => (w.heap.size ≤ k_)) v159 y158 from by first | exact (Kd.R_elder' ((Q_HO160 h0_ h1_)) (Kd.R_base ho0) hb) | exact Kd.R_mono (Kd.R_elder' ((Q_HO160 h0_ h1_)) (Kd.R_base ho0) hb) (fun _ h_ => by first | trivial | exact h_ | exact h_.1))
           have z_HO163 := fun (h0_ : b 13 = true) => (show Kd.N (Kd.slice 5 (Kd.int .u8)) 24 w45 w.heap.size (fun k_ => ((P0_4_ k_ ∨ P0_5_ k_) ∨ w.heap.size ≤ k_) ∧ k_ ≠ gb139 ∧ k_ ≠ gb142) v162 y161 from by first | exact (Kd.N_elder' ((Q_HO163 h0_)) (Kd.R_base ho0) hb) | exact Kd.N_mono (Kd.N_elder' ((Q_HO163 h0_)) (Kd.R_base ho0) hb) (fun _ h_ => by first | trivial | exact h_ | exact h_.1))
           have z_HO172 := fun (h0_ : b 20 = true) (h1_ : b 23 = false) => (show Kd.R (Kd.int .u8) 5 w45 w.heap.size (fun k_ => (w.heap.size ≤ k_)) v171 y170 from by first | exact (Kd.R_elder' ((Q_HO172 h0_ h1_)) (Kd.R_base ho0) hb) | exact Kd.R_mono (Kd.R_elder' ((Q_HO172 h0_ h1_)) (Kd.R_base ho0) hb) (fun _ h_ => by first | trivial | exact h_ | exact h_.1))
           have z_HO175 := fun (h0_ : b 23 = true) => (show Kd.N (Kd.slice 5 (Kd.int .u8)) 24 w45 w.heap.size (fun k_ => ((P0_4_ k_ ∨ P0_5_ k_) ∨ w.heap.size ≤ k_) ∧ k_ ≠ gb139 ∧ k_ ≠ gb142) v174 y173 from by first | exact (Kd.N_elder' ((Q_HO175 h0_)) (Kd.R_base ho0) hb) | exact Kd.N_mono (Kd.N_elder' ((Q_HO175 h0_)) (Kd.R_base ho0) hb) (fun _ h_ => by first | trivial | exact h_ | exact h_.1))
           clear HO_140004
           clear HO_140005
           clear HO148
           clear HO151
           clear HO154
           clear BK139
           clear BK142
           clear HB
           have HO_140004 := n0_
           have HO_140005 := n1_
           have HO148 := n2_
           have HO151 := n3_
           have HO154 := n4_
           have HO157 := n5_
           have BK139 := n6_
           have BK142 := n7_
           have HB := n8_
           clear n0_ n1_ n2_ n3_ n4_ n5_ n6_ n7_ n8_
           (try clear hb)
           (try clear hb2)
           (try clear hk)
           (try clear hi)
           (try clear ho0)
           refine hK.out _ _ ⟨v144, v147, v150, .slice Ao44 t152.length co44, v156, v159, v162, v165, v168, v171, v174, v177, v180, v183, v186, v189, v192, v195, v198, v201, m37_, (by rw [ha.out]; exact putSel_upk 5 hb_ rfl rfl rfl), (by exact Kd.V_mono HO_140004.out (fun _ hk => (by first | exact hk | exact hk.1 | exact hk.1.1 | exact hk.1.1.1 | omega))), (by exact Kd.V_mono HO_140005.out (fun _ hk => (by first | exact hk | exact hk.1 | exact hk.1.1 | exact hk.1.1.1 | omega))), BK139.out, BK142.out, HB.out, z_HO145, fun _ => (by exact Kd.R_mono HO148.out (fun _ hk => (by first | exact ⟨hk.1.1, ⟨hk.1.2.1, ⟨hk.1.2.2, hk.2⟩⟩⟩ | exact hk | exact hk.1 | exact hk.1.1 | exact hk.1.1.1 | omega))), fun _ _ => (by exact Kd.R_mono HO151.out (fun _ hk => (by first | exact ⟨hk.1.1, ⟨hk.1.2.1, ⟨hk.1.2.2, hk.2⟩⟩⟩ | exact hk | exact hk.1 | exact hk.1.1 | exact hk.1.1.1 | omega))), fun _ => (by exact Kd.R_mono HO154.out (fun _ hk => (by first | exact ⟨hk.1.1, ⟨hk.1.2.1, ⟨hk.1.2.2, hk.2⟩⟩⟩ | exact hk | exact hk.1 | exact hk.1.1 | exact hk.1.1.1 | omega))), fun _ _ => (by exact Kd.R_mono HO157.out (fun _ hk => (by first | exact ⟨hk.1.1.1.1, ⟨hk.1.1.2, ⟨hk.1.2, hk.2⟩⟩⟩ | exact hk | exact hk.1 | exact hk.1.1 | exact hk.1.1.1 | omega))), z_HO160, z_HO163, fun h0_ => absurd ((hoff 14 (by kernel_rfl)).symm.trans h0_) (by decide), fun h0_ _ => absurd ((hoff 15 (by kernel_rfl)).symm.trans h0_) (by decide), z_HO172, z_HO175, fun h0_ => absurd ((hoff 24 (by kernel_rfl)).symm.trans h0_) (by decide), fun h0_ _ => absurd ((hoff 25 (by kernel_rfl)).symm.trans h0_) (by decide), fun h0_ _ => absurd ((hoff 28 (by kernel_rfl)).symm.trans h0_) (by decide), fun h0_ _ => absurd ((hoff 31 (by kernel_rfl)).symm.trans h0_) (by decide), fun h0_ => absurd ((hoff 32 (by kernel_rfl)).symm.trans h0_) (by decide), fun h0_ => absurd ((hoff 33 (by kernel_rfl)).symm.trans h0_) (by decide), fun h0_ _ => absurd ((hoff 34 (by kernel_rfl)).symm.trans h0_) (by decide), fun h0_ => absurd ((hoff 35 (by kernel_rfl)).symm.trans h0_) (by decide), fun h0_ => absurd ((hoff 36 (by kernel_rfl)).symm.trans h0_) (by decide), fun h0_ => absurd ((hoff 37 (by kernel_rfl)).symm.trans h0_) (by decide)⟩
          refine steps_cons ?_ ?_
          ·rintro b a w' ⟨v144, v147, v150, v153, v156, v159, v162, v165, v168, v171, v174, v177, v180, v183, v186, v189, v192, v195, v198, v201, m37_, ha, Q_HO_140004, Q_HO_140005, Q_BK139, Q_BK142, Q_HB, Q_HO145, Q_HO148, Q_HO151, Q_HO154, Q_HO157, Q_HO160, Q_HO163, Q_HO166, Q_HO169, Q_HO172, Q_HO175, Q_HO178, Q_HO181, Q_HO184, Q_HO187, Q_HO190, Q_HO193, Q_HO196, Q_HO199, Q_HO202, Q_X37_⟩ hb_ hon hoff
           refine ⟨_, rfl, fun K hK => ?_⟩
           have e42 : a.tmps[42]? = some (.pointer (some ⟨gb139, 4, none⟩)) := by rw [ha]; exact (putSel_off rfl).trans rfl
           replace ha := Aside0.mk ha
           have HO_140004 := Aside0.mk Q_HO_140004
           have HO_140005 := Aside0.mk Q_HO_140005
           have BK139 := Aside0.mk Q_BK139
           have BK142 := Aside0.mk Q_BK142
           have HB := Aside0.mk Q_HB
           have hc0_ : w'.cell? ⟨gb139, 0, none⟩ = some (.int .i64 a0_0) := (blk_cell BK139.out 0).trans rfl
           have hc1_ : w'.cell? ⟨gb139, 1, none⟩ = some (.int .i64 a0_1) := (blk_cell BK139.out 1).trans rfl
           have hc2_ : w'.cell? ⟨gb139, 2, none⟩ = some (.int .i64 a0_2) := (blk_cell BK139.out 2).trans rfl
           have hc3_ : w'.cell? ⟨gb139, 3, none⟩ = some (.int .i64 a0_3) := (blk_cell BK139.out 3).trans rfl
           have hc4_ : w'.cell? ⟨gb139, 4, none⟩ = some (.slice A0_4 l0_4.length c0_4) := (blk_cell BK139.out 4).trans rfl
           have hc5_ : w'.cell? ⟨gb139, 5, none⟩ = some (.slice A0_5 l0_5.length c0_5) := (blk_cell BK139.out 5).trans rfl
           refine value_ (w1 := w') (v := .slice A0_4 l0_4.length c0_4) (by rfl) rfl ?_ ?_
           ·go_simp
            (try simp only [i64_w])
            try rfl
           refine hK.out _ _ ⟨v144, v147, v150, v153, v156, v159, v162, v165, v168, v171, v174, v177, v180, v183, v186, v189, v192, v195, v198, v201, m37_, (by rw [ha.out]; exact putSel_upk 6 hb_ rfl rfl rfl), Q_HO_140004, Q_HO_140005, Q_BK139, Q_BK142, Q_HB, Q_HO145, Q_HO148, Q_HO151, Q_HO154, Q_HO157, fun h0_ _ => absurd ((hoff 10 (by kernel_rfl)).symm.trans h0_) (by decide), fun h0_ => absurd ((hoff 13 (by kernel_rfl)).symm.trans h0_) (by decide), fun h0_ => absurd ((hoff 14 (by kernel_rfl)).symm.trans h0_) (by decide), fun h0_ _ => absurd ((hoff 15 (by kernel_rfl)).symm.trans h0_) (by decide), Q_HO172, Q_HO175, fun h0_ => absurd ((hoff 24 (by kernel_rfl)).symm.trans h0_) (by decide), fun h0_ _ => absurd ((hoff 25 (by kernel_rfl)).symm.trans h0_) (by decide), fun h0_ _ => absurd ((hoff 28 (by kernel_rfl)).symm.trans h0_) (by decide), fun h0_ _ => absurd ((hoff 31 (by kernel_rfl)).symm.trans h0_) (by decide), fun h0_ => absurd ((hoff 32 (by kernel_rfl)).symm.trans h0_) (by decide), fun h0_ => absurd ((hoff 33 (by kernel_rfl)).symm.trans h0_) (by decide), fun h0_ _ => absurd ((hoff 34 (by kernel_rfl)).symm.trans h0_) (by decide), fun h0_ => absurd ((hoff 35 (by kernel_rfl)).symm.trans h0_) (by decide), fun h0_ => absurd ((hoff 36 (by kernel_rfl)).symm.trans h0_) (by decide), fun h0_ => absurd ((hoff 37 (by kernel_rfl)).symm.trans h0_) (by decide)⟩
          refine steps_cons ?_ ?_
          ·rintro b a w' ⟨v144, v147, v150, v153, v156, v159, v162, v165, v168, v171, v174, v177, v180, v183, v186, v189, v192, v195, v198, v201, m37_, ha, Q_HO_140004, Q_HO_140005, Q_BK139, Q_BK142, Q_HB, Q_HO145, Q_HO148, Q_HO151, Q_HO154, Q_HO157, Q_HO160, Q_HO163, Q_HO166, Q_HO169, Q_HO172, Q_HO175, Q_HO178, Q_HO181, Q_HO184, Q_HO187, Q_HO190, Q_HO193, Q_HO196, Q_HO199, Q_HO202, Q_X37_⟩ hb_ hon hoff
           refine ⟨_, rfl, fun K hK => ?_⟩
           have e43 : a.tmps[43]? = some (.slice A0_4 l0_4.length c0_4) := by rw [ha]; exact putSel_on (e := (7, 43, .slice A0_4 l0_4.length c0_4)) 6 rfl rfl (hon 7 (by kernel_rfl)) rfl
           replace ha := Aside0.mk ha
           have HO_140004 := Aside0.mk Q_HO_140004
           have HO_140005 := Aside0.mk Q_HO_140005
           have BK139 := Aside0.mk Q_BK139
           have BK142 := Aside0.mk Q_BK142
           have HB := Aside0.mk Q_HB
           refine value_ (w1 := w') (v := .int .i64 (l0_4.length : Int)) (by rfl) rfl ?_ ?_
           ·go_simp
            (try simp only [i64_w])
            try rfl
           refine hK.out _ _ ⟨v144, v147, v150, v153, v156, v159, v162, v165, v168, v171, v174, v177, v180, v183, v186, v189, v192, v195, v198, v201, m37_, (by rw [ha.out]; exact putSel_upk 7 hb_ rfl rfl rfl), Q_HO_140004, Q_HO_140005, Q_BK139, Q_BK142, Q_HB, Q_HO145, Q_HO148, Q_HO151, Q_HO154, Q_HO157, fun h0_ _ => absurd ((hoff 10 (by kernel_rfl)).symm.trans h0_) (by decide), fun h0_ => absurd ((hoff 13 (by kernel_rfl)).symm.trans h0_) (by decide), fun h0_ => absurd ((hoff 14 (by kernel_rfl)).symm.trans h0_) (by decide), fun h0_ _ => absurd ((hoff 15 (by kernel_rfl)).symm.trans h0_) (by decide), Q_HO172, Q_HO175, fun h0_ => absurd ((hoff 24 (by kernel_rfl)).symm.trans h0_) (by decide), fun h0_ _ => absurd ((hoff 25 (by kernel_rfl)).symm.trans h0_) (by decide), fun h0_ _ => absurd ((hoff 28 (by kernel_rfl)).symm.trans h0_) (by decide), fun h0_ _ => absurd ((hoff 31 (by kernel_rfl)).symm.trans h0_) (by decide), fun h0_ => absurd ((hoff 32 (by kernel_rfl)).symm.trans h0_) (by decide), fun h0_ => absurd ((hoff 33 (by kernel_rfl)).symm.trans h0_) (by decide), fun h0_ _ => absurd ((hoff 34 (by kernel_rfl)).symm.trans h0_) (by decide), fun h0_ => absurd ((hoff 35 (by kernel_rfl)).symm.trans h0_) (by decide), fun h0_ => absurd ((hoff 36 (by kernel_rfl)).symm.trans h0_) (by decide), fun h0_ => absurd ((hoff 37 (by kernel_rfl)).symm.trans h0_) (by decide)⟩
          refine steps_cons ?_ ?_
          ·rintro b a w' ⟨v144, v147, v150, v153, v156, v159, v162, v165, v168, v171, v174, v177, v180, v183, v186, v189, v192, v195, v198, v201, m37_, ha, Q_HO_140004, Q_HO_140005, Q_BK139, Q_BK142, Q_HB, Q_HO145, Q_HO148, Q_HO151, Q_HO154, Q_HO157, Q_HO160, Q_HO163, Q_HO166, Q_HO169, Q_HO172, Q_HO175, Q_HO178, Q_HO181, Q_HO184, Q_HO187, Q_HO190, Q_HO193, Q_HO196, Q_HO199, Q_HO202, Q_X37_⟩ hb_ hon hoff
           refine ⟨_, rfl, fun K hK => ?_⟩
           have e44 : a.tmps[44]? = some (.int .i64 (l0_4.length : Int)) := by rw [ha]; exact putSel_on (e := (8, 44, .int .i64 (l0_4.length : Int))) 7 rfl rfl (hon 8 (by kernel_rfl)) rfl
           replace ha := Aside0.mk ha
           have HO_140004 := Aside0.mk Q_HO_140004
           have HO_140005 := Aside0.mk Q_HO_140005
           have BK139 := Aside0.mk Q_BK139
           have BK142 := Aside0.mk Q_BK142
           have HB := Aside0.mk Q_HB
           refine value_ (w1 := w') (v := .int .u8 (((l0_4.length : Int)) % 256)) (by rfl) rfl ?_ ?_
           ·go_simp
            (try simp only [i64_w])
            try rfl
           refine hK.out _ _ ⟨v144, v147, v150, v153, v156, v159, v162, v165, v168, v171, v174, v177, v180, v183, v186, v189, v192, v195, v198, v201, m37_, (by rw [ha.out]; exact putSel_upk 8 hb_ rfl rfl rfl), Q_HO_140004, Q_HO_140005, Q_BK139, Q_BK142, Q_HB, Q_HO145, Q_HO148, Q_HO151, Q_HO154, Q_HO157, fun h0_ _ => absurd ((hoff 10 (by kernel_rfl)).symm.trans h0_) (by decide), fun h0_ => absurd ((hoff 13 (by kernel_rfl)).symm.trans h0_) (by decide), fun h0_ => absurd ((hoff 14 (by kernel_rfl)).symm.trans h0_) (by decide), fun h0_ _ => absurd ((hoff 15 (by kernel_rfl)).symm.trans h0_) (by decide), Q_HO172, Q_HO175, fun h0_ => absurd ((hoff 24 (by kernel_rfl)).symm.trans h0_) (by decide), fun h0_ _ => absurd ((hoff 25 (by kernel_rfl)).symm.trans h0_) (by decide), fun h0_ _ => absurd ((hoff 28 (by kernel_rfl)).symm.trans h0_) (by decide), fun h0_ _ => absurd ((hoff 31 (by kernel_rfl)).symm.trans h0_) (by decide), fun h0_ => absurd ((hoff 32 (by kernel_rfl)).symm.trans h0_) (by decide), fun h0_ => absurd ((hoff 33 (by kernel_rfl)).symm.trans h0_) (by decide), fun h0_ _ => absurd ((hoff 34 (by kernel_rfl)).symm.trans h0_) (by decide), fun h0_ => absurd ((hoff 35 (by kernel_rfl)).symm.trans h0_) (by decide), fun h0_ => absurd ((hoff 36 (by kernel_rfl)).symm.trans h0_) (by decide), fun h0_ => absurd ((hoff 37 (by kernel_rfl)).symm.trans h0_) (by decide)⟩
          refine steps_cons ?_ ?_
          ·rintro b a w' ⟨v144, v147, v150, v153, v156, v159, v162, v165, v168, v171, v174, v177, v180, v183, v186, v189, v192, v195, v198, v201, m37_, ha, Q_HO_140004, Q_HO_140005, Q_BK139, Q_BK142, Q_HB, Q_HO145, Q_HO148, Q_HO151, Q_HO154, Q_HO157, Q_HO160, Q_HO163, Q_HO166, Q_HO169, Q_HO172, Q_HO175, Q_HO178, Q_HO181, Q_HO184, Q_HO187, Q_HO190, Q_HO193, Q_HO196, Q_HO199, Q_HO202, Q_X37_⟩ hb_ hon hoff
           refine ⟨_, rfl, fun K hK => ?_⟩
           have e45 : a.tmps[45]? = some (.int .u8 (((l0_4.length : Int)) % 256)) := by rw [ha]; exact putSel_on (e := (9, 45, .int .u8 (((l0_4.length : Int)) % 256))) 8 rfl rfl (hon 9 (by kernel_rfl)) rfl
           replace ha := Aside0.mk ha
           have HO_140004 := Aside0.mk Q_HO_140004
           have HO_140005 := Aside0.mk Q_HO_140005
           have BK139 := Aside0.mk Q_BK139
           have BK142 := Aside0.mk Q_BK142
           have HB := Aside0.mk Q_HB
           refine Kd.R_lit_step (Kd.int .u8) _ 5 ?hg (N := 46) ?hd (xs := ([((l0_4.length : Int)) % 256] : List Int)) (inner := [.int .u8 (((l0_4.length : Int)) % 256)]) (ok := fun _ => True) (okp := fun _ => True) ?hr ?hp (fun _ hk => hk) trivial (Below.refl _ _) (Nat.le_refl _) (by simp) ?_; (case hd => rfl); (case hg => rfl); (case hr => first | (go_simp; done) | (go_simp; rfl)); (case hp => exact (Reps.one (show Kd.M (Kd.int .u8) _ _ _ (((l0_4.length : Int)) % 256) [.int .u8 (((l0_4.length : Int)) % 256)] from rfl) (Reps.none _ _)))
           intro v159 w38 ho39 hb hg_ hnew_
           clear hg_ hnew_
           (first | rw [← Ny158.out] at ho39 | (simp only [Int.reduceToNat] at ho39; rw [← Ny158.out] at ho39))
           have n0_ := Aside0.mk (Kd.V_elder' (HO_140004.out) (Kd.R_base ho39) hb)
           have n1_ := Aside0.mk (Kd.V_elder' (HO_140005.out) (Kd.R_base ho39) hb)
           have n2_ := Aside0.mk (Kd.R_lower (Kd.R_newM (M := fun k_ => (w.heap.size ≤ k_)) ho39 (below_size HB.out) (fun k_ h_ => h_)) (below_size HB.out))
           have n3_ := Aside0.mk (blk_below (g := gb139) (o := .cells #[.int .i64 a0_0, .int .i64 a0_1, .int .i64 a0_2, .int .i64 a0_3, .slice A0_4 l0_4.length c0_4, .slice A0_5 l0_5.length c0_5] 34 (0, 0)) BK139.out hb)
           have n4_ := Aside0.mk (blk_below (g := gb142) (o := .cells #[.int .i64 x143000_15, .int .i64 x143001_15] 23 (0, 0)) BK142.out hb)
           have n5_ := Aside0.mk (below_step HB.out hb)
           have z_HO145 := fun (h0_ : b 0 = true) (h1_ : b 35 = false) => (show Kd.R (Kd.int .u8) 5 w38 w.heap.size (fun k_ => (w.heap.size ≤ k_)) v144 y143 from by first | exact (Kd.R_elder' ((Q_HO145 h0_ h1_)) (Kd.R_base ho39) hb) | exact Kd.R_mono (Kd.R_elder' ((Q_HO145 h0_ h1_)) (Kd.R_base ho39) hb) (fun _ h_ => by first | trivial | exact h_ | exact h_.1))
           have z_HO148 := fun (h0_ : b 1 = true) => (show Kd.R (Kd.int .u8) 5 w38 w.heap.size (fun k_ => (w.heap.size ≤ k_)) v147 y146 from by first | exact (Kd.R_elder' ((Q_HO148 h0_)) (Kd.R_base ho39) hb) | exact Kd.R_mono (Kd.R_elder' ((Q_HO148 h0_)) (Kd.R_base ho39) hb) (fun _ h_ => by first | trivial | exact h_ | exact h_.1))
           have z_HO151 := fun (h0_ : b 2 = true) (h1_ : b 35 = false) => (show Kd.R (Kd.int .u8) 5 w38 w.heap.size (fun k_ => (w.heap.size ≤ k_)) v150 t149 from by first | exact (Kd.R_elder' ((Q_HO151 h0_ h1_)) (Kd.R_base ho39) hb) | exact Kd.R_mono (Kd.R_elder' ((Q_HO151 h0_ h1_)) (Kd.R_base ho39) hb) (fun _ h_ => by first | trivial | exact h_ | exact h_.1))
           have z_HO154 := fun (h0_ : b 4 = true) => (show Kd.R (Kd.int .u8) 5 w38 w.heap.size (fun k_ => (w.heap.size ≤ k_)) v153 t152 from by first | exact (Kd.R_elder' ((Q_HO154 h0_)) (Kd.R_base ho39) hb) | exact Kd.R_mono (Kd.R_elder' ((Q_HO154 h0_)) (Kd.R_base ho39) hb) (fun _ h_ => by first | trivial | exact h_ | exact h_.1))
           have z_HO157 := fun (h0_ : b 5 = true) (h1_ : b 35 = false) => (show Kd.R (Kd.int .u8) 5 w38 w.heap.size (fun k_ => (w.heap.size ≤ k_)) v156 t155 from by first | exact (Kd.R_elder' ((Q_HO157 h0_ h1_)) (Kd.R_base ho39) hb) | exact Kd.R_mono (Kd.R_elder' ((Q_HO157 h0_ h1_)) (Kd.R_base ho39) hb) (fun _ h_ => by first | trivial | exact h_ | exact h_.1))
           have z_HO172 := fun (h0_ : b 20 = true) (h1_ : b 23 = false) => (show Kd.R (Kd.int .u8) 5 w38 w.heap.size (fun k_ => (w.heap.size ≤ k_)) v171 y170 from by first | exact (Kd.R_elder' ((Q_HO172 h0_ h1_)) (Kd.R_base ho39) hb) | exact Kd.R_mono (Kd.R_elder' ((Q_HO172 h0_ h1_)) (Kd.R_base ho39) hb) (fun _ h_ => by first | trivial | exact h_ | exact h_.1))
           have z_HO175 := fun (h0_ : b 23 = true) => (show Kd.N (Kd.slice 5 (Kd.int .u8)) 24 w38 w.heap.size (fun k_ => ((P0_4_ k_ ∨ P0_5_ k_) ∨ w.heap.size ≤ k_) ∧ k_ ≠ gb139 ∧ k_ ≠ gb142) v174 y173 from by first | exact (Kd.N_elder' ((Q_HO175 h0_)) (Kd.R_base ho39) hb) | exact Kd.N_mono (Kd.N_elder' ((Q_HO175 h0_)) (Kd.R_base ho39) hb) (fun _ h_ => by first | trivial | exact h_ | exact h_.1))
           clear HO_140004
           clear HO_140005
           clear BK139
           clear BK142
           clear HB
           have HO_140004 := n0_
           have HO_140005 := n1_
           have HO160 := n2_
           have BK139 := n3_
           have BK142 := n4_
           have HB := n5_
           clear n0_ n1_ n2_ n3_ n4_ n5_
           clear hb ho39
           refine hK.out _ _ ⟨v144, v147, v150, v153, v156, v159, v162, v165, v168, v171, v174, v177, v180, v183, v186, v189, v192, v195, v198, v201, m37_, (by rw [ha.out]; exact putSel_upk 9 hb_ rfl rfl rfl), (by exact Kd.V_mono HO_140004.out (fun _ hk => (by first | exact ⟨hk.1.1, ⟨hk.2, ⟨hk.1.2.1, hk.1.2.2⟩⟩⟩ | exact hk | exact hk.1 | exact hk.1.1 | exact hk.1.1.1 | omega))), (by exact Kd.V_mono HO_140005.out (fun _ hk => (by first | exact ⟨hk.1.1, ⟨hk.2, ⟨hk.1.2.1, hk.1.2.2⟩⟩⟩ | exact hk | exact hk.1 | exact hk.1.1 | exact hk.1.1.1 | omega))), BK139.out, BK142.out, HB.out, z_HO145, z_HO148, z_HO151, z_HO154, z_HO157, fun _ _ => (by exact Kd.R_mono HO160.out (fun _ hk => (by first | exact hk.1 | exact hk | exact hk.1 | exact hk.1.1 | exact hk.1.1.1 | omega))), fun h0_ => absurd ((hoff 13 (by kernel_rfl)).symm.trans h0_) (by decide), fun h0_ => absurd ((hoff 14 (by kernel_rfl)).symm.trans h0_) (by decide), fun h0_ _ => absurd ((hoff 15 (by kernel_rfl)).symm.trans h0_) (by decide), z_HO172, z_HO175, fun h0_ => absurd ((hoff 24 (by kernel_rfl)).symm.trans h0_) (by decide), fun h0_ _ => absurd ((hoff 25 (by kernel_rfl)).symm.trans h0_) (by decide), fun h0_ _ => absurd ((hoff 28 (by kernel_rfl)).symm.trans h0_) (by decide), fun h0_ _ => absurd ((hoff 31 (by kernel_rfl)).symm.trans h0_) (by decide), fun h0_ => absurd ((hoff 32 (by kernel_rfl)).symm.trans h0_) (by decide), fun h0_ => absurd ((hoff 33 (by kernel_rfl)).symm.trans h0_) (by decide), fun h0_ _ => absurd ((hoff 34 (by kernel_rfl)).symm.trans h0_) (by decide), fun h0_ => absurd ((hoff 35 (by kernel_rfl)).symm.trans h0_) (by decide), fun h0_ => absurd ((hoff 36 (by kernel_rfl)).symm.trans h0_) (by decide), fun h0_ => absurd ((hoff 37 (by kernel_rfl)).symm.trans h0_) (by decide)⟩
          refine steps_cons ?_ ?_
          ·rintro b a w' ⟨v144, v147, v150, v153, v156, v159, v162, v165, v168, v171, v174, v177, v180, v183, v186, v189, v192, v195, v198, v201, m37_, ha, Q_HO_140004, Q_HO_140005, Q_BK139, Q_BK142, Q_HB, Q_HO145, Q_HO148, Q_HO151, Q_HO154, Q_HO157, Q_HO160, Q_HO163, Q_HO166, Q_HO169, Q_HO172, Q_HO175, Q_HO178, Q_HO181, Q_HO184, Q_HO187, Q_HO190, Q_HO193, Q_HO196, Q_HO199, Q_HO202, Q_X37_⟩ hb_ hon hoff
           refine ⟨_, rfl, fun K hK => ?_⟩
           have e47 : a.tmps[47]? = some (.pointer (some ⟨gb139, 4, none⟩)) := by rw [ha]; exact (putSel_off rfl).trans rfl
           replace ha := Aside0.mk ha
           have HO_140004 := Aside0.mk Q_HO_140004
           have HO_140005 := Aside0.mk Q_HO_140005
           have BK139 := Aside0.mk Q_BK139
           have BK142 := Aside0.mk Q_BK142
           have HB := Aside0.mk Q_HB
           have hc0_ : w'.cell? ⟨gb139, 0, none⟩ = some (.int .i64 a0_0) := (blk_cell BK139.out 0).trans rfl
           have hc1_ : w'.cell? ⟨gb139, 1, none⟩ = some (.int .i64 a0_1) := (blk_cell BK139.out 1).trans rfl
           have hc2_ : w'.cell? ⟨gb139, 2, none⟩ = some (.int .i64 a0_2) := (blk_cell BK139.out 2).trans rfl
           have hc3_ : w'.cell? ⟨gb139, 3, none⟩ = some (.int .i64 a0_3) := (blk_cell BK139.out 3).trans rfl
           have hc4_ : w'.cell? ⟨gb139, 4, none⟩ = some (.slice A0_4 l0_4.length c0_4) := (blk_cell BK139.out 4).trans rfl
           have hc5_ : w'.cell? ⟨gb139, 5, none⟩ = some (.slice A0_5 l0_5.length c0_5) := (blk_cell BK139.out 5).trans rfl
           refine value_ (w1 := w') (v := .slice A0_4 l0_4.length c0_4) (by rfl) rfl ?_ ?_
           ·go_simp
            (try simp only [i64_w])
            try rfl
           refine hK.out _ _ ⟨v144, v147, v150, v153, v156, v159, v162, v165, v168, v171, v174, v177, v180, v183, v186, v189, v192, v195, v198, v201, m37_, (by rw [ha.out]; exact putSel_upk 10 hb_ rfl rfl rfl), Q_HO_140004, Q_HO_140005, Q_BK139, Q_BK142, Q_HB, Q_HO145, Q_HO148, Q_HO151, Q_HO154, Q_HO157, Q_HO160, fun h0_ => absurd ((hoff 13 (by kernel_rfl)).symm.trans h0_) (by decide), fun h0_ => absurd ((hoff 14 (by kernel_rfl)).symm.trans h0_) (by decide), fun h0_ _ => absurd ((hoff 15 (by kernel_rfl)).symm.trans h0_) (by decide), Q_HO172, Q_HO175, fun h0_ => absurd ((hoff 24 (by kernel_rfl)).symm.trans h0_) (by decide), fun h0_ _ => absurd ((hoff 25 (by kernel_rfl)).symm.trans h0_) (by decide), fun h0_ _ => absurd ((hoff 28 (by kernel_rfl)).symm.trans h0_) (by decide), fun h0_ _ => absurd ((hoff 31 (by kernel_rfl)).symm.trans h0_) (by decide), fun h0_ => absurd ((hoff 32 (by kernel_rfl)).symm.trans h0_) (by decide), fun h0_ => absurd ((hoff 33 (by kernel_rfl)).symm.trans h0_) (by decide), fun h0_ _ => absurd ((hoff 34 (by kernel_rfl)).symm.trans h0_) (by decide), fun h0_ => absurd ((hoff 35 (by kernel_rfl)).symm.trans h0_) (by decide), fun h0_ => absurd ((hoff 36 (by kernel_rfl)).symm.trans h0_) (by decide), fun h0_ => absurd ((hoff 37 (by kernel_rfl)).symm.trans h0_) (by decide)⟩
          refine steps_cons ?_ ?_
          ·rintro b a w' ⟨v144, v147, v150, v153, v156, v159, v162, v165, v168, v171, v174, v177, v180, v183, v186, v189, v192, v195, v198, v201, m37_, ha, Q_HO_140004, Q_HO_140005, Q_BK139, Q_BK142, Q_HB, Q_HO145, Q_HO148, Q_HO151, Q_HO154, Q_HO157, Q_HO160, Q_HO163, Q_HO166, Q_HO169, Q_HO172, Q_HO175, Q_HO178, Q_HO181, Q_HO184, Q_HO187, Q_HO190, Q_HO193, Q_HO196, Q_HO199, Q_HO202, Q_X37_⟩ hb_ hon hoff
           refine ⟨_, rfl, fun K hK => ?_⟩
           have e46 : a.tmps[46]? = some (v159) := by rw [ha]; exact putSel_on (e := (10, 46, v159)) 9 rfl rfl (hon 10 (by kernel_rfl)) rfl
           have e48 : a.tmps[48]? = some (.slice A0_4 l0_4.length c0_4) := by rw [ha]; exact putSel_on (e := (12, 48, .slice A0_4 l0_4.length c0_4)) 10 rfl rfl (hon 12 (by kernel_rfl)) rfl
           replace ha := Aside0.mk ha
           have HO_140004 := Aside0.mk Q_HO_140004
           have HO_140005 := Aside0.mk Q_HO_140005
           have BK139 := Aside0.mk Q_BK139
           have BK142 := Aside0.mk Q_BK142
           have HB := Aside0.mk Q_HB
           have HO160 := Aside0.mk (Q_HO160 (hon 10 (by kernel_rfl)) hb_)
           obtain ⟨Ao41, co41, eo41⟩ := Kd.R_slice HO160.out
           (first | subst eo41 | (injection eo41 with f1_ f2_ f3_; have f4_ := f1_.symm; have f5_ := f3_.symm; clear f1_ f2_ f3_; subst f4_; subst f5_))
           refine Kd.N_lit_step (Kd.slice 5 (Kd.int .u8)) _ 24 ?hg (N' := 49) ?hd (xs := ([y158, l0_4] : List (List Int))) (inner := [.slice Ao41 y158.length co41, .slice A0_4 l0_4.length c0_4]) (ok := (fun k_ => ((P0_4_ k_ ∨ P0_5_ k_) ∨ w.heap.size ≤ k_) ∧ k_ ≠ gb139 ∧ k_ ≠ gb142)) (okp := (fun k_ => ((P0_4_ k_ ∨ P0_5_ k_) ∨ w.heap.size ≤ k_) ∧ k_ ≠ gb139 ∧ k_ ≠ gb142)) ?hr ?hp (fun _ hk => hk) ((show ∀ k_, w'.heap.size ≤ k_ → (fun k_ => ((P0_4_ k_ ∨ P0_5_ k_) ∨ w.heap.size ≤ k_) ∧ k_ ≠ gb139 ∧ k_ ≠ gb142) k_ from fun k_ hk => ⟨(.inr (Nat.le_trans (below_size HB.out) hk)), Kd.freshB (g := gb139) (o := .cells #[.int .i64 a0_0, .int .i64 a0_1, .int .i64 a0_2, .int .i64 a0_3, .slice A0_4 l0_4.length c0_4, .slice A0_5 l0_5.length c0_5] 34 (0, 0)) BK139.out k_ hk, Kd.freshB (g := gb142) (o := .cells #[.int .i64 x143000_15, .int .i64 x143001_15] 23 (0, 0)) BK142.out k_ hk⟩) _ (Nat.le_refl _)) (Below.refl _ _) (Nat.le_refl _) (by simp) ?_; (case hd => rfl); (case hg => rfl); (case hr => first | (go_simp; done) | (go_simp; rfl)); (case hp => exact (Reps.one (show Kd.FK (Kd.slice 5 (Kd.int .u8)) _ _ y158 [.slice Ao41 y158.length co41] from (Kd.FK_slice_mk (Kd.R_reads' (Kd.R_mono (ok' := (fun k_ => ((P0_4_ k_ ∨ P0_5_ k_) ∨ w.heap.size ≤ k_) ∧ k_ ≠ gb139 ∧ k_ ≠ gb142)) (Kd.R_types (Kd.R_types (HO160.out) BK139.out (by decide)) BK142.out (by decide)) (fun k_ hk => ⟨.inr (by omega), by omega, by omega⟩))).2.1 (Kd.R_F (Kd.R_mono (ok' := (fun k_ => ((P0_4_ k_ ∨ P0_5_ k_) ∨ w.heap.size ≤ k_) ∧ k_ ≠ gb139 ∧ k_ ≠ gb142)) (Kd.R_types (Kd.R_types (HO160.out) BK139.out (by decide)) BK142.out (by decide)) (fun k_ hk => ⟨.inr (by omega), by omega, by omega⟩))))) (Reps.one (show Kd.FK (Kd.slice 5 (Kd.int .u8)) _ _ l0_4 [.slice A0_4 l0_4.length c0_4] from (Kd.FK_slice_mk (Kd.V_reads' (Kd.V_mono (ok' := (fun k_ => ((P0_4_ k_ ∨ P0_5_ k_) ∨ w.heap.size ≤ k_) ∧ k_ ≠ gb139 ∧ k_ ≠ gb142)) (HO_140004.out) (fun k_ hk => (by first | exact ⟨hk.1, ⟨hk.2.2.1, hk.2.2.2⟩⟩ | exact hk | exact hk.1 | exact hk.1.1 | exact hk.1.1.1 | omega)))).2.1 (Kd.V_F (Kd.V_mono (ok' := (fun k_ => ((P0_4_ k_ ∨ P0_5_ k_) ∨ w.heap.size ≤ k_) ∧ k_ ≠ gb139 ∧ k_ ≠ gb142)) (HO_140004.out) (fun k_ hk => (by first | exact ⟨hk.1, ⟨hk.2.2.1, hk.2.2.2⟩⟩ | exact hk | exact hk.1 | exact hk.1.1 | exact hk.1.1.1 | omega)))))) (Reps.none _ _))))
           intro v162 w42 ho43 hb hg_ hnew_
           clear hg_ hnew_
           (first | rw [← Ny161.out] at ho43 | (simp only [Int.reduceToNat] at ho43; rw [← Ny161.out] at ho43))
           have n0_ := Aside0.mk (Kd.V_elder' (HO_140004.out) (Kd.N_base ho43) hb)
           have n1_ := Aside0.mk (Kd.V_elder' (HO_140005.out) (Kd.N_base ho43) hb)
           have n2_ := Aside0.mk (Kd.N_lower ho43 (below_size HB.out))
           have n3_ := Aside0.mk (blk_below (g := gb139) (o := .cells #[.int .i64 a0_0, .int .i64 a0_1, .int .i64 a0_2, .int .i64 a0_3, .slice A0_4 l0_4.length c0_4, .slice A0_5 l0_5.length c0_5] 34 (0, 0)) BK139.out hb)
           have n4_ := Aside0.mk (blk_below (g := gb142) (o := .cells #[.int .i64 x143000_15, .int .i64 x143001_15] 23 (0, 0)) BK142.out hb)
           have n5_ := Aside0.mk (below_step HB.out hb)
           have z_HO145 := fun (h0_ : b 0 = true) (h1_ : b 35 = false) => (show Kd.R (Kd.int .u8) 5 w42 w.heap.size (fun k_ => (w.heap.size ≤ k_)) v144 y143 from by first | exact (Kd.R_below ((Q_HO145 h0_ h1_)) hb) | exact Kd.R_mono (Kd.R_below ((Q_HO145 h0_ h1_)) hb) (fun _ h_ => by first | trivial | exact h_ | exact h_.1))
           have z_HO148 := fun (h0_ : b 1 = true) => (show Kd.R (Kd.int .u8) 5 w42 w.heap.size (fun k_ => (w.heap.size ≤ k_)) v147 y146 from by first | exact (Kd.R_below ((Q_HO148 h0_)) hb) | exact Kd.R_mono (Kd.R_below ((Q_HO148 h0_)) hb) (fun _ h_ => by first | trivial | exact h_ | exact h_.1))
           have z_HO151 := fun (h0_ : b 2 = true) (h1_ : b 35 = false) => (show Kd.R (Kd.int .u8) 5 w42 w.heap.size (fun k_ => (w.heap.size ≤ k_)) v150 t149 from by first | exact (Kd.R_below ((Q_HO151 h0_ h1_)) hb) | exact Kd.R_mono (Kd.R_below ((Q_HO151 h0_ h1_)) hb) (fun _ h_ => by first | trivial | exact h_ | exact h_.1))
           have z_HO154 := fun (h0_ : b 4 = true) => (show Kd.R (Kd.int .u8) 5 w42 w.heap.size (fun k_ => (w.heap.size ≤ k_)) v153 t152 from by first | exact (Kd.R_below ((Q_HO154 h0_)) hb) | exact Kd.R_mono (Kd.R_below ((Q_HO154 h0_)) hb) (fun _ h_ => by first | trivial | exact h_ | exact h_.1))
           have z_HO157 := fun (h0_ : b 5 = true) (h1_ : b 35 = false) => (show Kd.R (Kd.int .u8) 5 w42 w.heap.size (fun k_ => (w.heap.size ≤ k_)) v156 t155 from by first | exact (Kd.R_below ((Q_HO157 h0_ h1_)) hb) | exact Kd.R_mono (Kd.R_below ((Q_HO157 h0_ h1_)) hb) (fun _ h_ => by first | trivial | exact h_ | exact h_.1))
           have z_HO172 := fun (h0_ : b 20 = true) (h1_ : b 23 = false) => (show Kd.R (Kd.int .u8) 5 w42 w.heap.size (fun k_ => (w.heap.size ≤ k_)) v171 y170 from by first | exact (Kd.R_below ((Q_HO172 h0_ h1_)) hb) | exact Kd.R_mono (Kd.R_below ((Q_HO172 h0_ h1_)) hb) (fun _ h_ => by first | trivial | exact h_ | exact h_.1))
           have z_HO175 := fun (h0_ : b 23 = true) => (show Kd.N (Kd.slice 5 (Kd.int .u8)) 24 w42 w.heap.size (fun k_ => ((P0_4_ k_ ∨ P0_5_ k_) ∨ w.heap.size ≤ k_) ∧ k_ ≠ gb139 ∧ k_ ≠ gb142) v174 y173 from by first | exact (Kd.N_elder' ((Q_HO175 h0_)) (Kd.N_base ho43) hb) | exact Kd.N_mono (Kd.N_elder' ((Q_HO175 h0_)) (Kd.N_base ho43) hb) (fun _ h_ => by first | trivial | exact h_ | exact h_.1))
           clear HO_140004
           clear HO_140005
           clear BK139
           clear BK142
           clear HB
           clear HO160
           have HO_140004 := n0_
           have HO_140005 := n1_
           have HO163 := n2_
           have BK139 := n3_
           have BK142 := n4_
           have HB := n5_
           clear n0_ n1_ n2_ n3_ n4_ n5_
           clear hb ho43
           refine hK.out _ _ ⟨v144, v147, v150, v153, v156, .slice Ao41 y158.length co41, v162, v165, v168, v171, v174, v177, v180, v183, v186, v189, v192, v195, v198, v201, m37_, (by rw [ha.out]; exact putSel_upk 11 hb_ rfl rfl rfl), (by exact Kd.V_mono HO_140004.out (fun _ hk => (by first | exact ⟨hk.1.1, ⟨hk.2, ⟨hk.1.2.2.1, hk.1.2.2.2⟩⟩⟩ | exact hk | exact hk.1 | exact hk.1.1 | exact hk.1.1.1 | omega))), (by exact Kd.V_mono HO_140005.out (fun _ hk => (by first | exact ⟨hk.1.1, ⟨hk.2, ⟨hk.1.2.2.1, hk.1.2.2.2⟩⟩⟩ | exact hk | exact hk.1 | exact hk.1.1 | exact hk.1.1.1 | omega))), BK139.out, BK142.out, HB.out, z_HO145, z_HO148, z_HO151, z_HO154, z_HO157, fun _ h1_ => absurd ((up_self b 13).symm.trans h1_) (by decide), fun _ => (HO163.out), fun h0_ => absurd ((hoff 14 (by kernel_rfl)).symm.trans h0_) (by decide), fun h0_ _ => absurd ((hoff 15 (by kernel_rfl)).symm.trans h0_) (by decide), z_HO172, z_HO175, fun h0_ => absurd ((hoff 24 (by kernel_rfl)).symm.trans h0_) (by decide), fun h0_ _ => absurd ((hoff 25 (by kernel_rfl)).symm.trans h0_) (by decide), fun h0_ _ => absurd ((hoff 28 (by kernel_rfl)).symm.trans h0_) (by decide), fun h0_ _ => absurd ((hoff 31 (by kernel_rfl)).symm.trans h0_) (by decide), fun h0_ => absurd ((hoff 32 (by kernel_rfl)).symm.trans h0_) (by decide), fun h0_ => absurd ((hoff 33 (by kernel_rfl)).symm.trans h0_) (by decide), fun h0_ _ => absurd ((hoff 34 (by kernel_rfl)).symm.trans h0_) (by decide), fun h0_ => absurd ((hoff 35 (by kernel_rfl)).symm.trans h0_) (by decide), fun h0_ => absurd ((hoff 36 (by kernel_rfl)).symm.trans h0_) (by decide), fun h0_ => absurd ((hoff 37 (by kernel_rfl)).symm.trans h0_) (by decide)⟩
          refine steps_cons ?_ ?_
          ·rintro b a w' ⟨v144, v147, v150, v153, v156, v159, v162, v165, v168, v171, v174, v177, v180, v183, v186, v189, v192, v195, v198, v201, m37_, ha, Q_HO_140004, Q_HO_140005, Q_BK139, Q_BK142, Q_HB, Q_HO145, Q_HO148, Q_HO151, Q_HO154, Q_HO157, Q_HO160, Q_HO163, Q_HO166, Q_HO169, Q_HO172, Q_HO175, Q_HO178, Q_HO181, Q_HO184, Q_HO187, Q_HO190, Q_HO193, Q_HO196, Q_HO199, Q_HO202, Q_X37_⟩ hb_ hon hoff
           refine ⟨_, rfl, fun K hK => ?_⟩
           have e49 : a.tmps[49]? = some (v162) := by rw [ha]; exact putSel_on (e := (13, 49, v162)) 11 rfl rfl (hon 13 (by kernel_rfl)) rfl
           replace ha := Aside0.mk ha
           have HO_140004 := Aside0.mk Q_HO_140004
           have HO_140005 := Aside0.mk Q_HO_140005
           have BK139 := Aside0.mk Q_BK139
           have BK142 := Aside0.mk Q_BK142
           have HB := Aside0.mk Q_HB
           have HO148 := Aside0.mk (Q_HO148 (hon 1 (by kernel_rfl)))
           have HO151 := Aside0.mk (Q_HO151 (hon 2 (by kernel_rfl)) (hoff 35 (by kernel_rfl)))
           have HO154 := Aside0.mk (Q_HO154 (hon 4 (by kernel_rfl)))
           have HO157 := Aside0.mk (Q_HO157 (hon 5 (by kernel_rfl)) (hoff 35 (by kernel_rfl)))
           have HO163 := Aside0.mk (Q_HO163 (hon 13 (by kernel_rfl)))
           obtain ⟨Ao51, co51, eo51⟩ := Kd.N_slice HO163.out
           (first | subst eo51 | (injection eo51 with f1_ f2_ f3_; have f4_ := f1_.symm; have f5_ := f3_.symm; clear f1_ f2_ f3_; subst f4_; subst f5_))
           refine goes_ Try.func22 (by kernel_rfl) rfl #[.slice Ao51 y161.length co51] (by rfl) rfl rfl (by first | (simp only [List.map_toArray, List.map_cons, List.map_nil, Act.eval, Array.getD_eq_getD_getElem?, Option.getD_some, e49]; done) | (simp only [List.map_toArray, List.map_cons, List.map_nil, Act.eval, Array.getD_eq_getD_getElem?, Option.getD_some, e49]; rfl)) ?_
           with_reducible refine (greenscreenref01_Join.calls kj15 _ _ y161 t164 _ ?side1 ?side2 A28.out).mono ?_
           (case side1 => repeat (first | exact (Kd.N_reads' HO163.out).2.2 | (with_reducible refine Kd.C_alloc ?_ _) | (with_reducible refine Kd.C_drewN ?_ _) | (with_reducible refine Kd.C_drew ?_)))
           (case side2 => exact (Kd.N_reads' HO163.out).2.1)
           rintro e w52 ⟨v165, rfl, ho0, hb⟩
           refine ⟨_, rfl, ?_⟩
           have n0_ := Aside0.mk (Kd.V_elder' (HO_140004.out) (Kd.R_base ho0) hb)
           have n1_ := Aside0.mk (Kd.V_elder' (HO_140005.out) (Kd.R_base ho0) hb)
           have n2_ := Aside0.mk (Kd.R_elder' (HO148.out) (Kd.R_base ho0) hb)
           have n3_ := Aside0.mk (Kd.R_elder' (HO151.out) (Kd.R_base ho0) hb)
           have n4_ := Aside0.mk (Kd.R_elder' (HO154.out) (Kd.R_base ho0) hb)
           have n5_ := Aside0.mk (Kd.R_elder' (HO157.out) (Kd.R_base ho0) hb)
           have n6_ := Aside0.mk (Kd.N_elder' (HO163.out) (Kd.R_base ho0) hb)
           have n7_ := Aside0.mk (Kd.R_lower (Kd.R_new' (Kd.R_new' (Kd.R_new' (Kd.R_new' (Kd.R_newM (M := fun k_ => (w.heap.size ≤ k_)) ho0 (below_size HB.out) (fun k_ h_ => h_)) (Kd.R_lt (HO148.out))) (Kd.R_lt (HO151.out))) (Kd.R_lt (HO154.out))) (Kd.R_lt (HO157.out))) (below_size HB.out))
           have n8_ := Aside0.mk (blk_below (g := gb139) (o := .cells #[.int .i64 a0_0, .int .i64 a0_1, .int .i64 a0_2, .int .i64 a0_3, .slice A0_4 l0_4.length c0_4, .slice A0_5 l0_5.length c0_5] 34 (0, 0)) BK139.out hb)
           have n9_ := Aside0.mk (blk_below (g := gb142) (o := .cells #[.int .i64 x143000_15, .int .i64 x143001_15] 23 (0, 0)) BK142.out hb)
           have n10_ := Aside0.mk (below_step HB.out hb)
           have z_HO145 := fun (h0_ : b 0 = true) (h1_ : b 35 = false) => (show Kd.R (Kd.int .u8) 5 w52 w.heap.size (fun k_ => (w.heap.size ≤ k_)) v144 y143 from by first | exact (Kd.R_elder' ((Q_HO145 h0_ h1_)) (Kd.R_base ho0) hb) | exact Kd.R_mono (Kd.R_elder' ((Q_HO145 h0_ h1_)) (Kd.R_base ho0) hb) (fun _ h_ => by first | trivial | exact h_ | exact h_.1))
           have z_HO172 := fun (h0_ : b 20 = true) (h1_ : b 23 = false) => (show Kd.R (Kd.int .u8) 5 w52 w.heap.size (fun k_ => (w.heap.size ≤ k_)) v171 y170 from by first | exact (Kd.R_elder' ((Q_HO172 h0_ h1_)) (Kd.R_base ho0) hb) | exact Kd.R_mono (Kd.R_elder' ((Q_HO172 h0_ h1_)) (Kd.R_base ho0) hb) (fun _ h_ => by first | trivial | exact h_ | exact h_.1))
           have z_HO175 := fun (h0_ : b 23 = true) => (show Kd.N (Kd.slice 5 (Kd.int .u8)) 24 w52 w.heap.size (fun k_ => ((P0_4_ k_ ∨ P0_5_ k_) ∨ w.heap.size ≤ k_) ∧ k_ ≠ gb139 ∧ k_ ≠ gb142) v174 y173 from by first | exact (Kd.N_elder' ((Q_HO175 h0_)) (Kd.R_base ho0) hb) | exact Kd.N_mono (Kd.N_elder' ((Q_HO175 h0_)) (Kd.R_base ho0) hb) (fun _ h_ => by first | trivial | exact h_ | exact h_.1))
           clear HO_140004
           clear HO_140005
           clear HO148
           clear HO151
           clear HO154
           clear HO157
           clear HO163
           clear BK139
           clear BK142
           clear HB
           have HO_140004 := n0_
           have HO_140005 := n1_
           have HO148 := n2_
           have HO151 := n3_
           have HO154 := n4_
           have HO157 := n5_
           have HO163 := n6_
           have HO166 := n7_
           have BK139 := n8_
           have BK142 := n9_
           have HB := n10_
           clear n0_ n1_ n2_ n3_ n4_ n5_ n6_ n7_ n8_ n9_ n10_
           (try clear hb)
           (try clear hb2)
           (try clear hk)
           (try clear hi)
           (try clear ho0)
           refine hK.out _ _ ⟨v144, v147, v150, v153, v156, v159, .slice Ao51 y161.length co51, v165, v168, v171, v174, v177, v180, v183, v186, v189, v192, v195, v198, v201, m37_, (by rw [ha.out]; exact putSel_upk 12 hb_ rfl rfl rfl), (by exact Kd.V_mono HO_140004.out (fun _ hk => (by first | exact hk | exact hk.1 | exact hk.1.1 | exact hk.1.1.1 | omega))), (by exact Kd.V_mono HO_140005.out (fun _ hk => (by first | exact hk | exact hk.1 | exact hk.1.1 | exact hk.1.1.1 | omega))), BK139.out, BK142.out, HB.out, z_HO145, fun _ => (by exact Kd.R_mono HO148.out (fun _ hk => (by first | exact ⟨hk.1.1, ⟨hk.1.2.1, ⟨hk.1.2.2.1, ⟨hk.1.2.2.2, hk.2⟩⟩⟩⟩ | exact hk | exact hk.1 | exact hk.1.1 | exact hk.1.1.1 | omega))), fun _ _ => (by exact Kd.R_mono HO151.out (fun _ hk => (by first | exact ⟨hk.1.1, ⟨hk.1.2.1, ⟨hk.1.2.2.1, ⟨hk.1.2.2.2, hk.2⟩⟩⟩⟩ | exact hk | exact hk.1 | exact hk.1.1 | exact hk.1.1.1 | omega))), fun _ => (by exact Kd.R_mono HO154.out (fun _ hk => (by first | exact ⟨hk.1.1, ⟨hk.1.2.1, ⟨hk.1.2.2.1, ⟨hk.1.2.2.2, hk.2⟩⟩⟩⟩ | exact hk | exact hk.1 | exact hk.1.1 | exact hk.1.1.1 | omega))), fun _ _ => (by exact Kd.R_mono HO157.out (fun _ hk => (by first | exact ⟨hk.1.1, ⟨hk.1.2.1, ⟨hk.1.2.2.1, ⟨hk.1.2.2.2, hk.2⟩⟩⟩⟩ | exact hk | exact hk.1 | exact hk.1.1 | exact hk.1.1.1 | omega))), fun _ h1_ => absurd ((hon 13 (by kernel_rfl)).symm.trans h1_) (by decide), fun _ => (by exact Kd.N_mono HO163.out (fun _ hk => (by first | exact hk | exact hk.1 | exact hk.1.1 | exact hk.1.1.1 | omega))), fun _ => (by exact Kd.R_mono HO166.out (fun _ hk => (by first | exact ⟨hk.1.1.1.1.1, ⟨hk.1.1.1.2, ⟨hk.1.1.2, ⟨hk.1.2, hk.2⟩⟩⟩⟩ | exact hk | exact hk.1 | exact hk.1.1 | exact hk.1.1.1 | omega))), fun h0_ _ => absurd ((hoff 15 (by kernel_rfl)).symm.trans h0_) (by decide), z_HO172, z_HO175, fun h0_ => absurd ((hoff 24 (by kernel_rfl)).symm.trans h0_) (by decide), fun h0_ _ => absurd ((hoff 25 (by kernel_rfl)).symm.trans h0_) (by decide), fun h0_ _ => absurd ((hoff 28 (by kernel_rfl)).symm.trans h0_) (by decide), fun h0_ _ => absurd ((hoff 31 (by kernel_rfl)).symm.trans h0_) (by decide), fun h0_ => absurd ((hoff 32 (by kernel_rfl)).symm.trans h0_) (by decide), fun h0_ => absurd ((hoff 33 (by kernel_rfl)).symm.trans h0_) (by decide), fun h0_ _ => absurd ((hoff 34 (by kernel_rfl)).symm.trans h0_) (by decide), fun h0_ => absurd ((hoff 35 (by kernel_rfl)).symm.trans h0_) (by decide), fun h0_ => absurd ((hoff 36 (by kernel_rfl)).symm.trans h0_) (by decide), fun h0_ => absurd ((hoff 37 (by kernel_rfl)).symm.trans h0_) (by decide)⟩
          refine steps_cons ?_ ?_
          ·rintro b a w' ⟨v144, v147, v150, v153, v156, v159, v162, v165, v168, v171, v174, v177, v180, v183, v186, v189, v192, v195, v198, v201, m37_, ha, Q_HO_140004, Q_HO_140005, Q_BK139, Q_BK142, Q_HB, Q_HO145, Q_HO148, Q_HO151, Q_HO154, Q_HO157, Q_HO160, Q_HO163, Q_HO166, Q_HO169, Q_HO172, Q_HO175, Q_HO178, Q_HO181, Q_HO184, Q_HO187, Q_HO190, Q_HO193, Q_HO196, Q_HO199, Q_HO202, Q_X37_⟩ hb_ hon hoff
           refine ⟨_, rfl, fun K hK => ?_⟩
           have e50 : a.tmps[50]? = some (v165) := by rw [ha]; exact putSel_on (e := (14, 50, v165)) 12 rfl rfl (hon 14 (by kernel_rfl)) rfl
           replace ha := Aside0.mk ha
           have HO_140004 := Aside0.mk Q_HO_140004
           have HO_140005 := Aside0.mk Q_HO_140005
           have BK139 := Aside0.mk Q_BK139
           have BK142 := Aside0.mk Q_BK142
           have HB := Aside0.mk Q_HB
           have HO148 := Aside0.mk (Q_HO148 (hon 1 (by kernel_rfl)))
           have HO151 := Aside0.mk (Q_HO151 (hon 2 (by kernel_rfl)) (hoff 35 (by kernel_rfl)))
           have HO154 := Aside0.mk (Q_HO154 (hon 4 (by kernel_rfl)))
           have HO157 := Aside0.mk (Q_HO157 (hon 5 (by kernel_rfl)) (hoff 35 (by kernel_rfl)))
           have HO163 := Aside0.mk (Q_HO163 (hon 13 (by kernel_rfl)))
           have HO166 := Aside0.mk (Q_HO166 (hon 14 (by kernel_rfl)))
           obtain ⟨Ao53, co53, eo53⟩ := Kd.R_slice HO166.out
           (first | subst eo53 | (injection eo53 with f1_ f2_ f3_; have f4_ := f1_.symm; have f5_ := f3_.symm; clear f1_ f2_ f3_; subst f4_; subst f5_))
           refine goes_ Try.func23 (by kernel_rfl) rfl #[.int .u8 134, .slice Ao53 t164.length co53] (by rfl) rfl rfl (by first | (simp only [List.map_toArray, List.map_cons, List.map_nil, Act.eval, Array.getD_eq_getD_getElem?, Option.getD_some, e50]; done) | (simp only [List.map_toArray, List.map_cons, List.map_nil, Act.eval, Array.getD_eq_getD_getElem?, Option.getD_some, e50]; rfl)) ?_
           with_reducible refine (greenscreenref24_field.calls kj15 134 (fun k_ => some k_ = (.slice Ao53 t164.length co53 : Value).ownBlock) _ _ t164 t167 _ ?side1 A29.out).mono ?_
           (case side1 => exact Kd.R_V (Kd.R_tight rfl (Kd.R_types (Kd.R_types (Kd.R_apart' (HO166.out) (Kd.N_typed HO163.out) (by decide)) BK139.out (by decide)) BK142.out (by decide))))
           rintro e w54 ⟨v168, rfl, ho0, hb⟩
           refine ⟨_, rfl, ?_⟩
           have n0_ := Aside0.mk (Kd.V_elder' (HO_140004.out) (Kd.R_base ho0) hb)
           have n1_ := Aside0.mk (Kd.V_elder' (HO_140005.out) (Kd.R_base ho0) hb)
           have n2_ := Aside0.mk (Kd.R_elder' (HO148.out) (Kd.R_base ho0) hb)
           have n3_ := Aside0.mk (Kd.R_elder' (HO151.out) (Kd.R_base ho0) hb)
           have n4_ := Aside0.mk (Kd.R_elder' (HO154.out) (Kd.R_base ho0) hb)
           have n5_ := Aside0.mk (Kd.R_elder' (HO157.out) (Kd.R_base ho0) hb)
           have n6_ := Aside0.mk (Kd.N_elder' (HO163.out) (Kd.R_base ho0) hb)
           have n7_ := Aside0.mk (Kd.R_elder' (HO166.out) (Kd.R_base ho0) hb)
           have n8_ := Aside0.mk (Kd.R_lower (Kd.R_new' (Kd.R_new' (Kd.R_new' (Kd.R_new' (Kd.R_new' (Kd.R_newM (M := fun k_ => (w.heap.size ≤ k_)) (Kd.R_mono (ok' := fun k_ => True) ho0 (fun _ hk_ => trivial)) (below_size HB.out) (fun k_ h_ => h_)) (Kd.R_lt (HO148.out))) (Kd.R_lt (HO151.out))) (Kd.R_lt (HO154.out))) (Kd.R_lt (HO157.out))) (Kd.R_lt (HO166.out))) (below_size HB.out))
           have n9_ := Aside0.mk (blk_below (g := gb139) (o := .cells #[.int .i64 a0_0, .int .i64 a0_1, .int .i64 a0_2, .int .i64 a0_3, .slice A0_4 l0_4.length c0_4, .slice A0_5 l0_5.length c0_5] 34 (0, 0)) BK139.out hb)
           have n10_ := Aside0.mk (blk_below (g := gb142) (o := .cells #[.int .i64 x143000_15, .int .i64 x143001_15] 23 (0, 0)) BK142.out hb)
           have n11_ := Aside0.mk (below_step HB.out hb)
           have z_HO145 := fun (h0_ : b 0 = true) (h1_ : b 35 = false) => (show Kd.R (Kd.int .u8) 5 w54 w.heap.size (fun k_ => (w.heap.size ≤ k_)) v144 y143 from by first | exact (Kd.R_elder' ((Q_HO145 h0_ h1_)) (Kd.R_base ho0) hb) | exact Kd.R_mono (Kd.R_elder' ((Q_HO145 h0_ h1_)) (Kd.R_base ho0) hb) (fun _ h_ => by first | trivial | exact h_ | exact h_.1))
           have z_HO172 := fun (h0_ : b 20 = true) (h1_ : b 23 = false) => (show Kd.R (Kd.int .u8) 5 w54 w.heap.size (fun k_ => (w.heap.size ≤ k_)) v171 y170 from by first | exact (Kd.R_elder' ((Q_HO172 h0_ h1_)) (Kd.R_base ho0) hb) | exact Kd.R_mono (Kd.R_elder' ((Q_HO172 h0_ h1_)) (Kd.R_base ho0) hb) (fun _ h_ => by first | trivial | exact h_ | exact h_.1))
           have z_HO175 := fun (h0_ : b 23 = true) => (show Kd.N (Kd.slice 5 (Kd.int .u8)) 24 w54 w.heap.size (fun k_ => ((P0_4_ k_ ∨ P0_5_ k_) ∨ w.heap.size ≤ k_) ∧ k_ ≠ gb139 ∧ k_ ≠ gb142) v174 y173 from by first | exact (Kd.N_elder' ((Q_HO175 h0_)) (Kd.R_base ho0) hb) | exact Kd.N_mono (Kd.N_elder' ((Q_HO175 h0_)) (Kd.R_base ho0) hb) (fun _ h_ => by first | trivial | exact h_ | exact h_.1))
           clear HO_140004
           clear HO_140005
           clear HO148
           clear HO151
           clear HO154
           clear HO157
           clear HO163
           clear HO166
           clear BK139
           clear BK142
           clear HB
           have HO_140004 := n0_
           have HO_140005 := n1_
           have HO148 := n2_
           have HO151 := n3_
           have HO154 := n4_
           have HO157 := n5_
           have HO163 := n6_
           have HO166 := n7_
           have HO169 := n8_
           have BK139 := n9_
           have BK142 := n10_
           have HB := n11_
           clear n0_ n1_ n2_ n3_ n4_ n5_ n6_ n7_ n8_ n9_ n10_ n11_
           (try clear hb)
           (try clear hb2)
           (try clear hk)
           (try clear hi)
           (try clear ho0)
           refine hK.out _ _ ⟨v144, v147, v150, v153, v156, v159, v162, .slice Ao53 t164.length co53, v168, v171, v174, v177, v180, v183, v186, v189, v192, v195, v198, v201, m37_, (by rw [ha.out]; exact putSel_upk 13 hb_ rfl rfl rfl), (by exact Kd.V_mono HO_140004.out (fun _ hk => (by first | exact hk | exact hk.1 | exact hk.1.1 | exact hk.1.1.1 | omega))), (by exact Kd.V_mono HO_140005.out (fun _ hk => (by first | exact hk | exact hk.1 | exact hk.1.1 | exact hk.1.1.1 | omega))), BK139.out, BK142.out, HB.out, z_HO145, fun _ => (by exact Kd.R_mono HO148.out (fun _ hk => (by first | exact hk | exact hk.1 | exact hk.1.1 | exact hk.1.1.1 | omega))), fun _ _ => (by exact Kd.R_mono HO151.out (fun _ hk => (by first | exact hk | exact hk.1 | exact hk.1.1 | exact hk.1.1.1 | omega))), fun _ => (by exact Kd.R_mono HO154.out (fun _ hk => (by first | exact hk | exact hk.1 | exact hk.1.1 | exact hk.1.1.1 | omega))), fun _ _ => (by exact Kd.R_mono HO157.out (fun _ hk => (by first | exact hk | exact hk.1 | exact hk.1.1 | exact hk.1.1.1 | omega))), fun _ h1_ => absurd ((hon 13 (by kernel_rfl)).symm.trans h1_) (by decide), fun _ => (by exact Kd.N_mono HO163.out (fun _ hk => (by first | exact hk | exact hk.1 | exact hk.1.1 | exact hk.1.1.1 | omega))), fun _ => (by exact Kd.R_mono HO166.out (fun _ hk => (by first | exact hk | exact hk.1 | exact hk.1.1 | exact hk.1.1.1 | omega))), fun _ _ => (by exact Kd.R_mono HO169.out (fun _ hk => (by first | exact hk | exact hk.1 | exact hk.1.1 | exact hk.1.1.1 | omega))), z_HO172, z_HO175, fun h0_ => absurd ((hoff 24 (by kernel_rfl)).symm.trans h0_) (by decide), fun h0_ _ => absurd ((hoff 25 (by kernel_rfl)).symm.trans h0_) (by decide), fun h0_ _ => absurd ((hoff 28 (by kernel_rfl)).symm.trans h0_) (by decide), fun h0_ _ => absurd ((hoff 31 (by kernel_rfl)).symm.trans h0_) (by decide), fun h0_ => absurd ((hoff 32 (by kernel_rfl)).symm.trans h0_) (by decide), fun h0_ => absurd ((hoff 33 (by kernel_rfl)).symm.trans h0_) (by decide), fun h0_ _ => absurd ((hoff 34 (by kernel_rfl)).symm.trans h0_) (by decide), fun h0_ => absurd ((hoff 35 (by kernel_rfl)).symm.trans h0_) (by decide), fun h0_ => absurd ((hoff 36 (by kernel_rfl)).symm.trans h0_) (by decide), fun h0_ => absurd ((hoff 37 (by kernel_rfl)).symm.trans h0_) (by decide)⟩
          refine steps_cons ?_ ?_
          ·rintro b a w' ⟨v144, v147, v150, v153, v156, v159, v162, v165, v168, v171, v174, v177, v180, v183, v186, v189, v192, v195, v198, v201, m37_, ha, Q_HO_140004, Q_HO_140005, Q_BK139, Q_BK142, Q_HB, Q_HO145, Q_HO148, Q_HO151, Q_HO154, Q_HO157, Q_HO160, Q_HO163, Q_HO166, Q_HO169, Q_HO172, Q_HO175, Q_HO178, Q_HO181, Q_HO184, Q_HO187, Q_HO190, Q_HO193, Q_HO196, Q_HO199, Q_HO202, Q_X37_⟩ hb_ hon hoff
           refine ⟨_, rfl, fun K hK => ?_⟩
           have e52 : a.tmps[52]? = some (.pointer (some ⟨gb139, 5, none⟩)) := by rw [ha]; exact (putSel_off rfl).trans rfl
           replace ha := Aside0.mk ha
           have HO_140004 := Aside0.mk Q_HO_140004
           have HO_140005 := Aside0.mk Q_HO_140005
           have BK139 := Aside0.mk Q_BK139
           have BK142 := Aside0.mk Q_BK142
           have HB := Aside0.mk Q_HB
           have hc0_ : w'.cell? ⟨gb139, 0, none⟩ = some (.int .i64 a0_0) := (blk_cell BK139.out 0).trans rfl
           have hc1_ : w'.cell? ⟨gb139, 1, none⟩ = some (.int .i64 a0_1) := (blk_cell BK139.out 1).trans rfl
           have hc2_ : w'.cell? ⟨gb139, 2, none⟩ = some (.int .i64 a0_2) := (blk_cell BK139.out 2).trans rfl
           have hc3_ : w'.cell? ⟨gb139, 3, none⟩ = some (.int .i64 a0_3) := (blk_cell BK139.out 3).trans rfl
           have hc4_ : w'.cell? ⟨gb139, 4, none⟩ = some (.slice A0_4 l0_4.length c0_4) := (blk_cell BK139.out 4).trans rfl
           have hc5_ : w'.cell? ⟨gb139, 5, none⟩ = some (.slice A0_5 l0_5.length c0_5) := (blk_cell BK139.out 5).trans rfl
           refine value_ (w1 := w') (v := .slice A0_5 l0_5.length c0_5) (by rfl) rfl ?_ ?_
           ·go_simp
            (try simp only [i64_w])
            try rfl
           refine hK.out _ _ ⟨v144, v147, v150, v153, v156, v159, v162, v165, v168, v171, v174, v177, v180, v183, v186, v189, v192, v195, v198, v201, m37_, (by rw [ha.out]; exact putSel_upk 14 hb_ rfl rfl rfl), Q_HO_140004, Q_HO_140005, Q_BK139, Q_BK142, Q_HB, Q_HO145, Q_HO148, Q_HO151, Q_HO154, Q_HO157, Q_HO160, Q_HO163, Q_HO166, Q_HO169, fun h0_ _ => absurd ((hoff 20 (by kernel_rfl)).symm.trans h0_) (by decide), fun h0_ => absurd ((hoff 23 (by kernel_rfl)).symm.trans h0_) (by decide), fun h0_ => absurd ((hoff 24 (by kernel_rfl)).symm.trans h0_) (by decide), fun h0_ _ => absurd ((hoff 25 (by kernel_rfl)).symm.trans h0_) (by decide), fun h0_ _ => absurd ((hoff 28 (by kernel_rfl)).symm.trans h0_) (by decide), fun h0_ _ => absurd ((hoff 31 (by kernel_rfl)).symm.trans h0_) (by decide), fun h0_ => absurd ((hoff 32 (by kernel_rfl)).symm.trans h0_) (by decide), fun h0_ => absurd ((hoff 33 (by kernel_rfl)).symm.trans h0_) (by decide), fun h0_ _ => absurd ((hoff 34 (by kernel_rfl)).symm.trans h0_) (by decide), fun h0_ => absurd ((hoff 35 (by kernel_rfl)).symm.trans h0_) (by decide), fun h0_ => absurd ((hoff 36 (by kernel_rfl)).symm.trans h0_) (by decide), fun h0_ => absurd ((hoff 37 (by kernel_rfl)).symm.trans h0_) (by decide)⟩
          refine steps_cons ?_ ?_
          ·rintro b a w' ⟨v144, v147, v150, v153, v156, v159, v162, v165, v168, v171, v174, v177, v180, v183, v186, v189, v192, v195, v198, v201, m37_, ha, Q_HO_140004, Q_HO_140005, Q_BK139, Q_BK142, Q_HB, Q_HO145, Q_HO148, Q_HO151, Q_HO154, Q_HO157, Q_HO160, Q_HO163, Q_HO166, Q_HO169, Q_HO172, Q_HO175, Q_HO178, Q_HO181, Q_HO184, Q_HO187, Q_HO190, Q_HO193, Q_HO196, Q_HO199, Q_HO202, Q_X37_⟩ hb_ hon hoff
           refine ⟨_, rfl, fun K hK => ?_⟩
           have e53 : a.tmps[53]? = some (.slice A0_5 l0_5.length c0_5) := by rw [ha]; exact putSel_on (e := (17, 53, .slice A0_5 l0_5.length c0_5)) 14 rfl rfl (hon 17 (by kernel_rfl)) rfl
           replace ha := Aside0.mk ha
           have HO_140004 := Aside0.mk Q_HO_140004
           have HO_140005 := Aside0.mk Q_HO_140005
           have BK139 := Aside0.mk Q_BK139
           have BK142 := Aside0.mk Q_BK142
           have HB := Aside0.mk Q_HB
           refine value_ (w1 := w') (v := .int .i64 (l0_5.length : Int)) (by rfl) rfl ?_ ?_
           ·go_simp
            (try simp only [i64_w])
            try rfl
           refine hK.out _ _ ⟨v144, v147, v150, v153, v156, v159, v162, v165, v168, v171, v174, v177, v180, v183, v186, v189, v192, v195, v198, v201, m37_, (by rw [ha.out]; exact putSel_upk 15 hb_ rfl rfl rfl), Q_HO_140004, Q_HO_140005, Q_BK139, Q_BK142, Q_HB, Q_HO145, Q_HO148, Q_HO151, Q_HO154, Q_HO157, Q_HO160, Q_HO163, Q_HO166, Q_HO169, fun h0_ _ => absurd ((hoff 20 (by kernel_rfl)).symm.trans h0_) (by decide), fun h0_ => absurd ((hoff 23 (by kernel_rfl)).symm.trans h0_) (by decide), fun h0_ => absurd ((hoff 24 (by kernel_rfl)).symm.trans h0_) (by decide), fun h0_ _ => absurd ((hoff 25 (by kernel_rfl)).symm.trans h0_) (by decide), fun h0_ _ => absurd ((hoff 28 (by kernel_rfl)).symm.trans h0_) (by decide), fun h0_ _ => absurd ((hoff 31 (by kernel_rfl)).symm.trans h0_) (by decide), fun h0_ => absurd ((hoff 32 (by kernel_rfl)).symm.trans h0_) (by decide), fun h0_ => absurd ((hoff 33 (by kernel_rfl)).symm.trans h0_) (by decide), fun h0_ _ => absurd ((hoff 34 (by kernel_rfl)).symm.trans h0_) (by decide), fun h0_ => absurd ((hoff 35 (by kernel_rfl)).symm.trans h0_) (by decide), fun h0_ => absurd ((hoff 36 (by kernel_rfl)).symm.trans h0_) (by decide), fun h0_ => absurd ((hoff 37 (by kernel_rfl)).symm.trans h0_) (by decide)⟩
          refine steps_cons ?_ ?_
          ·rintro b a w' ⟨v144, v147, v150, v153, v156, v159, v162, v165, v168, v171, v174, v177, v180, v183, v186, v189, v192, v195, v198, v201, m37_, ha, Q_HO_140004, Q_HO_140005, Q_BK139, Q_BK142, Q_HB, Q_HO145, Q_HO148, Q_HO151, Q_HO154, Q_HO157, Q_HO160, Q_HO163, Q_HO166, Q_HO169, Q_HO172, Q_HO175, Q_HO178, Q_HO181, Q_HO184, Q_HO187, Q_HO190, Q_HO193, Q_HO196, Q_HO199, Q_HO202, Q_X37_⟩ hb_ hon hoff
           refine ⟨_, rfl, fun K hK => ?_⟩
           have e54 : a.tmps[54]? = some (.int .i64 (l0_5.length : Int)) := by rw [ha]; exact putSel_on (e := (18, 54, .int .i64 (l0_5.length : Int))) 15 rfl rfl (hon 18 (by kernel_rfl)) rfl
           replace ha := Aside0.mk ha
           have HO_140004 := Aside0.mk Q_HO_140004
           have HO_140005 := Aside0.mk Q_HO_140005
           have BK139 := Aside0.mk Q_BK139
           have BK142 := Aside0.mk Q_BK142
           have HB := Aside0.mk Q_HB
           refine value_ (w1 := w') (v := .int .u8 (((l0_5.length : Int)) % 256)) (by rfl) rfl ?_ ?_
           ·go_simp
            (try simp only [i64_w])
            try rfl
           refine hK.out _ _ ⟨v144, v147, v150, v153, v156, v159, v162, v165, v168, v171, v174, v177, v180, v183, v186, v189, v192, v195, v198, v201, m37_, (by rw [ha.out]; exact putSel_upk 16 hb_ rfl rfl rfl), Q_HO_140004, Q_HO_140005, Q_BK139, Q_BK142, Q_HB, Q_HO145, Q_HO148, Q_HO151, Q_HO154, Q_HO157, Q_HO160, Q_HO163, Q_HO166, Q_HO169, fun h0_ _ => absurd ((hoff 20 (by kernel_rfl)).symm.trans h0_) (by decide), fun h0_ => absurd ((hoff 23 (by kernel_rfl)).symm.trans h0_) (by decide), fun h0_ => absurd ((hoff 24 (by kernel_rfl)).symm.trans h0_) (by decide), fun h0_ _ => absurd ((hoff 25 (by kernel_rfl)).symm.trans h0_) (by decide), fun h0_ _ => absurd ((hoff 28 (by kernel_rfl)).symm.trans h0_) (by decide), fun h0_ _ => absurd ((hoff 31 (by kernel_rfl)).symm.trans h0_) (by decide), fun h0_ => absurd ((hoff 32 (by kernel_rfl)).symm.trans h0_) (by decide), fun h0_ => absurd ((hoff 33 (by kernel_rfl)).symm.trans h0_) (by decide), fun h0_ _ => absurd ((hoff 34 (by kernel_rfl)).symm.trans h0_) (by decide), fun h0_ => absurd ((hoff 35 (by kernel_rfl)).symm.trans h0_) (by decide), fun h0_ => absurd ((hoff 36 (by kernel_rfl)).symm.trans h0_) (by decide), fun h0_ => absurd ((hoff 37 (by kernel_rfl)).symm.trans h0_) (by decide)⟩
          refine steps_cons ?_ ?_
          ·rintro b a w' ⟨v144, v147, v150, v153, v156, v159, v162, v165, v168, v171, v174, v177, v180, v183, v186, v189, v192, v195, v198, v201, m37_, ha, Q_HO_140004, Q_HO_140005, Q_BK139, Q_BK142, Q_HB, Q_HO145, Q_HO148, Q_HO151, Q_HO154, Q_HO157, Q_HO160, Q_HO163, Q_HO166, Q_HO169, Q_HO172, Q_HO175, Q_HO178, Q_HO181, Q_HO184, Q_HO187, Q_HO190, Q_HO193, Q_HO196, Q_HO199, Q_HO202, Q_X37_⟩ hb_ hon hoff
           refine ⟨_, rfl, fun K hK => ?_⟩
           have e55 : a.tmps[55]? = some (.int .u8 (((l0_5.length : Int)) % 256)) := by rw [ha]; exact putSel_on (e := (19, 55, .int .u8 (((l0_5.length : Int)) % 256))) 16 rfl rfl (hon 19 (by kernel_rfl)) rfl
           replace ha := Aside0.mk ha
           have HO_140004 := Aside0.mk Q_HO_140004
           have HO_140005 := Aside0.mk Q_HO_140005
           have BK139 := Aside0.mk Q_BK139
           have BK142 := Aside0.mk Q_BK142
           have HB := Aside0.mk Q_HB
           refine Kd.R_lit_step (Kd.int .u8) _ 5 ?hg (N := 56) ?hd (xs := ([((l0_5.length : Int)) % 256] : List Int)) (inner := [.int .u8 (((l0_5.length : Int)) % 256)]) (ok := fun _ => True) (okp := fun _ => True) ?hr ?hp (fun _ hk => hk) trivial (Below.refl _ _) (Nat.le_refl _) (by simp) ?_; (case hd => rfl); (case hg => rfl); (case hr => first | (go_simp; done) | (go_simp; rfl)); (case hp => exact (Reps.one (show Kd.M (Kd.int .u8) _ _ _ (((l0_5.length : Int)) % 256) [.int .u8 (((l0_5.length : Int)) % 256)] from rfl) (Reps.none _ _)))
           intro v171 w38 ho39 hb hg_ hnew_
           clear hg_ hnew_
           (first | rw [← Ny170.out] at ho39 | (simp only [Int.reduceToNat] at ho39; rw [← Ny170.out] at ho39))
           have n0_ := Aside0.mk (Kd.V_elder' (HO_140004.out) (Kd.R_base ho39) hb)
           have n1_ := Aside0.mk (Kd.V_elder' (HO_140005.out) (Kd.R_base ho39) hb)
           have n2_ := Aside0.mk (Kd.R_lower (Kd.R_newM (M := fun k_ => (w.heap.size ≤ k_)) ho39 (below_size HB.out) (fun k_ h_ => h_)) (below_size HB.out))
           have n3_ := Aside0.mk (blk_below (g := gb139) (o := .cells #[.int .i64 a0_0, .int .i64 a0_1, .int .i64 a0_2, .int .i64 a0_3, .slice A0_4 l0_4.length c0_4, .slice A0_5 l0_5.length c0_5] 34 (0, 0)) BK139.out hb)
           have n4_ := Aside0.mk (blk_below (g := gb142) (o := .cells #[.int .i64 x143000_15, .int .i64 x143001_15] 23 (0, 0)) BK142.out hb)
           have n5_ := Aside0.mk (below_step HB.out hb)
           have z_HO145 := fun (h0_ : b 0 = true) (h1_ : b 35 = false) => (show Kd.R (Kd.int .u8) 5 w38 w.heap.size (fun k_ => (w.heap.size ≤ k_)) v144 y143 from by first | exact (Kd.R_elder' ((Q_HO145 h0_ h1_)) (Kd.R_base ho39) hb) | exact Kd.R_mono (Kd.R_elder' ((Q_HO145 h0_ h1_)) (Kd.R_base ho39) hb) (fun _ h_ => by first | trivial | exact h_ | exact h_.1))
           have z_HO148 := fun (h0_ : b 1 = true) => (show Kd.R (Kd.int .u8) 5 w38 w.heap.size (fun k_ => (w.heap.size ≤ k_)) v147 y146 from by first | exact (Kd.R_elder' ((Q_HO148 h0_)) (Kd.R_base ho39) hb) | exact Kd.R_mono (Kd.R_elder' ((Q_HO148 h0_)) (Kd.R_base ho39) hb) (fun _ h_ => by first | trivial | exact h_ | exact h_.1))
           have z_HO151 := fun (h0_ : b 2 = true) (h1_ : b 35 = false) => (show Kd.R (Kd.int .u8) 5 w38 w.heap.size (fun k_ => (w.heap.size ≤ k_)) v150 t149 from by first | exact (Kd.R_elder' ((Q_HO151 h0_ h1_)) (Kd.R_base ho39) hb) | exact Kd.R_mono (Kd.R_elder' ((Q_HO151 h0_ h1_)) (Kd.R_base ho39) hb) (fun _ h_ => by first | trivial | exact h_ | exact h_.1))
           have z_HO154 := fun (h0_ : b 4 = true) => (show Kd.R (Kd.int .u8) 5 w38 w.heap.size (fun k_ => (w.heap.size ≤ k_)) v153 t152 from by first | exact (Kd.R_elder' ((Q_HO154 h0_)) (Kd.R_base ho39) hb) | exact Kd.R_mono (Kd.R_elder' ((Q_HO154 h0_)) (Kd.R_base ho39) hb) (fun _ h_ => by first | trivial | exact h_ | exact h_.1))
           have z_HO157 := fun (h0_ : b 5 = true) (h1_ : b 35 = false) => (show Kd.R (Kd.int .u8) 5 w38 w.heap.size (fun k_ => (w.heap.size ≤ k_)) v156 t155 from by first | exact (Kd.R_elder' ((Q_HO157 h0_ h1_)) (Kd.R_base ho39) hb) | exact Kd.R_mono (Kd.R_elder' ((Q_HO157 h0_ h1_)) (Kd.R_base ho39) hb) (fun _ h_ => by first | trivial | exact h_ | exact h_.1))
           have z_HO160 := fun (h0_ : b 10 = true) (h1_ : b 13 = false) => (show Kd.R (Kd.int .u8) 5 w38 w.heap.size (fun k_ => (w.heap.size ≤ k_)) v159 y158 from by first | exact (Kd.R_elder' ((Q_HO160 h0_ h1_)) (Kd.R_base ho39) hb) | exact Kd.R_mono (Kd.R_elder' ((Q_HO160 h0_ h1_)) (Kd.R_base ho39) hb) (fun _ h_ => by first | trivial | exact h_ | exact h_.1))
           have z_HO163 := fun (h0_ : b 13 = true) => (show Kd.N (Kd.slice 5 (Kd.int .u8)) 24 w38 w.heap.size (fun k_ => ((P0_4_ k_ ∨ P0_5_ k_) ∨ w.heap.size ≤ k_) ∧ k_ ≠ gb139 ∧ k_ ≠ gb142) v162 y161 from by first | exact (Kd.N_elder' ((Q_HO163 h0_)) (Kd.R_base ho39) hb) | exact Kd.N_mono (Kd.N_elder' ((Q_HO163 h0_)) (Kd.R_base ho39) hb) (fun _ h_ => by first | trivial | exact h_ | exact h_.1))
           have z_HO166 := fun (h0_ : b 14 = true) => (show Kd.R (Kd.int .u8) 5 w38 w.heap.size (fun k_ => (w.heap.size ≤ k_)) v165 t164 from by first | exact (Kd.R_elder' ((Q_HO166 h0_)) (Kd.R_base ho39) hb) | exact Kd.R_mono (Kd.R_elder' ((Q_HO166 h0_)) (Kd.R_base ho39) hb) (fun _ h_ => by first | trivial | exact h_ | exact h_.1))
           have z_HO169 := fun (h0_ : b 15 = true) (h1_ : b 35 = false) => (show Kd.R (Kd.int .u8) 5 w38 w.heap.size (fun k_ => (w.heap.size ≤ k_)) v168 t167 from by first | exact (Kd.R_elder' ((Q_HO169 h0_ h1_)) (Kd.R_base ho39) hb) | exact Kd.R_mono (Kd.R_elder' ((Q_HO169 h0_ h1_)) (Kd.R_base ho39) hb) (fun _ h_ => by first | trivial | exact h_ | exact h_.1))
           clear HO_140004
           clear HO_140005
           clear BK139
           clear BK142
           clear HB
           have HO_140004 := n0_
           have HO_140005 := n1_
           have HO172 := n2_
           have BK139 := n3_
           have BK142 := n4_
           have HB := n5_
           clear n0_ n1_ n2_ n3_ n4_ n5_
           clear hb ho39
           refine hK.out _ _ ⟨v144, v147, v150, v153, v156, v159, v162, v165, v168, v171, v174, v177, v180, v183, v186, v189, v192, v195, v198, v201, m37_, (by rw [ha.out]; exact putSel_upk 17 hb_ rfl rfl rfl), (by exact Kd.V_mono HO_140004.out (fun _ hk => (by first | exact ⟨hk.1.1, ⟨hk.2, ⟨hk.1.2.1, hk.1.2.2⟩⟩⟩ | exact hk | exact hk.1 | exact hk.1.1 | exact hk.1.1.1 | omega))), (by exact Kd.V_mono HO_140005.out (fun _ hk => (by first | exact ⟨hk.1.1, ⟨hk.2, ⟨hk.1.2.1, hk.1.2.2⟩⟩⟩ | exact hk | exact hk.1 | exact hk.1.1 | exact hk.1.1.1 | omega))), BK139.out, BK142.out, HB.out, z_HO145, z_HO148, z_HO151, z_HO154, z_HO157, z_HO160, z_HO163, z_HO166, z_HO169, fun _ _ => (by exact Kd.R_mono HO172.out (fun _ hk => (by first | exact hk.1 | exact hk | exact hk.1 | exact hk.1.1 | exact hk.1.1.1 | omega))), fun h0_ => absurd ((hoff 23 (by kernel_rfl)).symm.trans h0_) (by decide), fun h0_ => absurd ((hoff 24 (by kernel_rfl)).symm.trans h0_) (by decide), fun h0_ _ => absurd ((hoff 25 (by kernel_rfl)).symm.trans h0_) (by decide), fun h0_ _ => absurd ((hoff 28 (by kernel_rfl)).symm.trans h0_) (by decide), fun h0_ _ => absurd ((hoff 31 (by kernel_rfl)).symm.trans h0_) (by decide), fun h0_ => absurd ((hoff 32 (by kernel_rfl)).symm.trans h0_) (by decide), fun h0_ => absurd ((hoff 33 (by kernel_rfl)).symm.trans h0_) (by decide), fun h0_ _ => absurd ((hoff 34 (by kernel_rfl)).symm.trans h0_) (by decide), fun h0_ => absurd ((hoff 35 (by kernel_rfl)).symm.trans h0_) (by decide), fun h0_ => absurd ((hoff 36 (by kernel_rfl)).symm.trans h0_) (by decide), fun h0_ => absurd ((hoff 37 (by kernel_rfl)).symm.trans h0_) (by decide)⟩
          refine steps_cons ?_ ?_
          ·rintro b a w' ⟨v144, v147, v150, v153, v156, v159, v162, v165, v168, v171, v174, v177, v180, v183, v186, v189, v192, v195, v198, v201, m37_, ha, Q_HO_140004, Q_HO_140005, Q_BK139, Q_BK142, Q_HB, Q_HO145, Q_HO148, Q_HO151, Q_HO154, Q_HO157, Q_HO160, Q_HO163, Q_HO166, Q_HO169, Q_HO172, Q_HO175, Q_HO178, Q_HO181, Q_HO184, Q_HO187, Q_HO190, Q_HO193, Q_HO196, Q_HO199, Q_HO202, Q_X37_⟩ hb_ hon hoff
           refine ⟨_, rfl, fun K hK => ?_⟩
           have e57 : a.tmps[57]? = some (.pointer (some ⟨gb139, 5, none⟩)) := by rw [ha]; exact (putSel_off rfl).trans rfl
           replace ha := Aside0.mk ha
           have HO_140004 := Aside0.mk Q_HO_140004
           have HO_140005 := Aside0.mk Q_HO_140005
           have BK139 := Aside0.mk Q_BK139
           have BK142 := Aside0.mk Q_BK142
           have HB := Aside0.mk Q_HB
           have hc0_ : w'.cell? ⟨gb139, 0, none⟩ = some (.int .i64 a0_0) := (blk_cell BK139.out 0).trans rfl
           have hc1_ : w'.cell? ⟨gb139, 1, none⟩ = some (.int .i64 a0_1) := (blk_cell BK139.out 1).trans rfl
           have hc2_ : w'.cell? ⟨gb139, 2, none⟩ = some (.int .i64 a0_2) := (blk_cell BK139.out 2).trans rfl
           have hc3_ : w'.cell? ⟨gb139, 3, none⟩ = some (.int .i64 a0_3) := (blk_cell BK139.out 3).trans rfl
           have hc4_ : w'.cell? ⟨gb139, 4, none⟩ = some (.slice A0_4 l0_4.length c0_4) := (blk_cell BK139.out 4).trans rfl
           have hc5_ : w'.cell? ⟨gb139, 5, none⟩ = some (.slice A0_5 l0_5.length c0_5) := (blk_cell BK139.out 5).trans rfl
           refine value_ (w1 := w') (v := .slice A0_5 l0_5.length c0_5) (by rfl) rfl ?_ ?_
           ·go_simp
            (try simp only [i64_w])
            try rfl
           refine hK.out _ _ ⟨v144, v147, v150, v153, v156, v159, v162, v165, v168, v171, v174, v177, v180, v183, v186, v189, v192, v195, v198, v201, m37_, (by rw [ha.out]; exact putSel_upk 18 hb_ rfl rfl rfl), Q_HO_140004, Q_HO_140005, Q_BK139, Q_BK142, Q_HB, Q_HO145, Q_HO148, Q_HO151, Q_HO154, Q_HO157, Q_HO160, Q_HO163, Q_HO166, Q_HO169, Q_HO172, fun h0_ => absurd ((hoff 23 (by kernel_rfl)).symm.trans h0_) (by decide), fun h0_ => absurd ((hoff 24 (by kernel_rfl)).symm.trans h0_) (by decide), fun h0_ _ => absurd ((hoff 25 (by kernel_rfl)).symm.trans h0_) (by decide), fun h0_ _ => absurd ((hoff 28 (by kernel_rfl)).symm.trans h0_) (by decide), fun h0_ _ => absurd ((hoff 31 (by kernel_rfl)).symm.trans h0_) (by decide), fun h0_ => absurd ((hoff 32 (by kernel_rfl)).symm.trans h0_) (by decide), fun h0_ => absurd ((hoff 33 (by kernel_rfl)).symm.trans h0_) (by decide), fun h0_ _ => absurd ((hoff 34 (by kernel_rfl)).symm.trans h0_) (by decide), fun h0_ => absurd ((hoff 35 (by kernel_rfl)).symm.trans h0_) (by decide), fun h0_ => absurd ((hoff 36 (by kernel_rfl)).symm.trans h0_) (by decide), fun h0_ => absurd ((hoff 37 (by kernel_rfl)).symm.trans h0_) (by decide)⟩
          refine steps_cons ?_ ?_
          ·rintro b a w' ⟨v144, v147, v150, v153, v156, v159, v162, v165, v168, v171, v174, v177, v180, v183, v186, v189, v192, v195, v198, v201, m37_, ha, Q_HO_140004, Q_HO_140005, Q_BK139, Q_BK142, Q_HB, Q_HO145, Q_HO148, Q_HO151, Q_HO154, Q_HO157, Q_HO160, Q_HO163, Q_HO166, Q_HO169, Q_HO172, Q_HO175, Q_HO178, Q_HO181, Q_HO184, Q_HO187, Q_HO190, Q_HO193, Q_HO196, Q_HO199, Q_HO202, Q_X37_⟩ hb_ hon hoff
           refine ⟨_, rfl, fun K hK => ?_⟩
           have e56 : a.tmps[56]? = some (v171) := by rw [ha]; exact putSel_on (e := (20, 56, v171)) 17 rfl rfl (hon 20 (by kernel_rfl)) rfl
           have e58 : a.tmps[58]? = some (.slice A0_5 l0_5.length c0_5) := by rw [ha]; exact putSel_on (e := (22, 58, .slice A0_5 l0_5.length c0_5)) 18 rfl rfl (hon 22 (by kernel_rfl)) rfl
           replace ha := Aside0.mk ha
           have HO_140004 := Aside0.mk Q_HO_140004
           have HO_140005 := Aside0.mk Q_HO_140005
           have BK139 := Aside0.mk Q_BK139
           have BK142 := Aside0.mk Q_BK142
           have HB := Aside0.mk Q_HB
           have HO172 := Aside0.mk (Q_HO172 (hon 20 (by kernel_rfl)) hb_)
           obtain ⟨Ao41, co41, eo41⟩ := Kd.R_slice HO172.out
           (first | subst eo41 | (injection eo41 with f1_ f2_ f3_; have f4_ := f1_.symm; have f5_ := f3_.symm; clear f1_ f2_ f3_; subst f4_; subst f5_))
           refine Kd.N_lit_step (Kd.slice 5 (Kd.int .u8)) _ 24 ?hg (N' := 59) ?hd (xs := ([y170, l0_5] : List (List Int))) (inner := [.slice Ao41 y170.length co41, .slice A0_5 l0_5.length c0_5]) (ok := (fun k_ => ((P0_4_ k_ ∨ P0_5_ k_) ∨ w.heap.size ≤ k_) ∧ k_ ≠ gb139 ∧ k_ ≠ gb142)) (okp := (fun k_ => ((P0_4_ k_ ∨ P0_5_ k_) ∨ w.heap.size ≤ k_) ∧ k_ ≠ gb139 ∧ k_ ≠ gb142)) ?hr ?hp (fun _ hk => hk) ((show ∀ k_, w'.heap.size ≤ k_ → (fun k_ => ((P0_4_ k_ ∨ P0_5_ k_) ∨ w.heap.size ≤ k_) ∧ k_ ≠ gb139 ∧ k_ ≠ gb142) k_ from fun k_ hk => ⟨(.inr (Nat.le_trans (below_size HB.out) hk)), Kd.freshB (g := gb139) (o := .cells #[.int .i64 a0_0, .int .i64 a0_1, .int .i64 a0_2, .int .i64 a0_3, .slice A0_4 l0_4.length c0_4, .slice A0_5 l0_5.length c0_5] 34 (0, 0)) BK139.out k_ hk, Kd.freshB (g := gb142) (o := .cells #[.int .i64 x143000_15, .int .i64 x143001_15] 23 (0, 0)) BK142.out k_ hk⟩) _ (Nat.le_refl _)) (Below.refl _ _) (Nat.le_refl _) (by simp) ?_; (case hd => rfl); (case hg => rfl); (case hr => first | (go_simp; done) | (go_simp; rfl)); (case hp => exact (Reps.one (show Kd.FK (Kd.slice 5 (Kd.int .u8)) _ _ y170 [.slice Ao41 y170.length co41] from (Kd.FK_slice_mk (Kd.R_reads' (Kd.R_mono (ok' := (fun k_ => ((P0_4_ k_ ∨ P0_5_ k_) ∨ w.heap.size ≤ k_) ∧ k_ ≠ gb139 ∧ k_ ≠ gb142)) (Kd.R_types (Kd.R_types (HO172.out) BK139.out (by decide)) BK142.out (by decide)) (fun k_ hk => ⟨.inr (by omega), by omega, by omega⟩))).2.1 (Kd.R_F (Kd.R_mono (ok' := (fun k_ => ((P0_4_ k_ ∨ P0_5_ k_) ∨ w.heap.size ≤ k_) ∧ k_ ≠ gb139 ∧ k_ ≠ gb142)) (Kd.R_types (Kd.R_types (HO172.out) BK139.out (by decide)) BK142.out (by decide)) (fun k_ hk => ⟨.inr (by omega), by omega, by omega⟩))))) (Reps.one (show Kd.FK (Kd.slice 5 (Kd.int .u8)) _ _ l0_5 [.slice A0_5 l0_5.length c0_5] from (Kd.FK_slice_mk (Kd.V_reads' (Kd.V_mono (ok' := (fun k_ => ((P0_4_ k_ ∨ P0_5_ k_) ∨ w.heap.size ≤ k_) ∧ k_ ≠ gb139 ∧ k_ ≠ gb142)) (HO_140005.out) (fun k_ hk => (by first | exact ⟨hk.1, ⟨hk.2.2.1, hk.2.2.2⟩⟩ | exact hk | exact hk.1 | exact hk.1.1 | exact hk.1.1.1 | omega)))).2.1 (Kd.V_F (Kd.V_mono (ok' := (fun k_ => ((P0_4_ k_ ∨ P0_5_ k_) ∨ w.heap.size ≤ k_) ∧ k_ ≠ gb139 ∧ k_ ≠ gb142)) (HO_140005.out) (fun k_ hk => (by first | exact ⟨hk.1, ⟨hk.2.2.1, hk.2.2.2⟩⟩ | exact hk | exact hk.1 | exact hk.1.1 | exact hk.1.1.1 | omega)))))) (Reps.none _ _))))
           intro v174 w42 ho43 hb hg_ hnew_
           clear hg_ hnew_
           (first | rw [← Ny173.out] at ho43 | (simp only [Int.reduceToNat] at ho43; rw [← Ny173.out] at ho43))
           have n0_ := Aside0.mk (Kd.V_elder' (HO_140004.out) (Kd.N_base ho43) hb)
           have n1_ := Aside0.mk (Kd.V_elder' (HO_140005.out) (Kd.N_base ho43) hb)
           have n2_ := Aside0.mk (Kd.N_lower ho43 (below_size HB.out))
           have n3_ := Aside0.mk (blk_below (g := gb139) (o := .cells #[.int .i64 a0_0, .int .i64 a0_1, .int .i64 a0_2, .int .i64 a0_3, .slice A0_4 l0_4.length c0_4, .slice A0_5 l0_5.length c0_5] 34 (0, 0)) BK139.out hb)
           have n4_ := Aside0.mk (blk_below (g := gb142) (o := .cells #[.int .i64 x143000_15, .int .i64 x143001_15] 23 (0, 0)) BK142.out hb)
           have n5_ := Aside0.mk (below_step HB.out hb)
           have z_HO145 := fun (h0_ : b 0 = true) (h1_ : b 35 = false) => (show Kd.R (Kd.int .u8) 5 w42 w.heap.size (fun k_ => (w.heap.size ≤ k_)) v144 y143 from by first | exact (Kd.R_below ((Q_HO145 h0_ h1_)) hb) | exact Kd.R_mono (Kd.R_below ((Q_HO145 h0_ h1_)) hb) (fun _ h_ => by first | trivial | exact h_ | exact h_.1))
           have z_HO148 := fun (h0_ : b 1 = true) => (show Kd.R (Kd.int .u8) 5 w42 w.heap.size (fun k_ => (w.heap.size ≤ k_)) v147 y146 from by first | exact (Kd.R_below ((Q_HO148 h0_)) hb) | exact Kd.R_mono (Kd.R_below ((Q_HO148 h0_)) hb) (fun _ h_ => by first | trivial | exact h_ | exact h_.1))
           have z_HO151 := fun (h0_ : b 2 = true) (h1_ : b 35 = false) => (show Kd.R (Kd.int .u8) 5 w42 w.heap.size (fun k_ => (w.heap.size ≤ k_)) v150 t149 from by first | exact (Kd.R_below ((Q_HO151 h0_ h1_)) hb) | exact Kd.R_mono (Kd.R_below ((Q_HO151 h0_ h1_)) hb) (fun _ h_ => by first | trivial | exact h_ | exact h_.1))
           have z_HO154 := fun (h0_ : b 4 = true) => (show Kd.R (Kd.int .u8) 5 w42 w.heap.size (fun k_ => (w.heap.size ≤ k_)) v153 t152 from by first | exact (Kd.R_below ((Q_HO154 h0_)) hb) | exact Kd.R_mono (Kd.R_below ((Q_HO154 h0_)) hb) (fun _ h_ => by first | trivial | exact h_ | exact h_.1))
           have z_HO157 := fun (h0_ : b 5 = true) (h1_ : b 35 = false) => (show Kd.R (Kd.int .u8) 5 w42 w.heap.size (fun k_ => (w.heap.size ≤ k_)) v156 t155 from by first | exact (Kd.R_below ((Q_HO157 h0_ h1_)) hb) | exact Kd.R_mono (Kd.R_below ((Q_HO157 h0_ h1_)) hb) (fun _ h_ => by first | trivial | exact h_ | exact h_.1))
           have z_HO160 := fun (h0_ : b 10 = true) (h1_ : b 13 = false) => (show Kd.R (Kd.int .u8) 5 w42 w.heap.size (fun k_ => (w.heap.size ≤ k_)) v159 y158 from by first | exact (Kd.R_below ((Q_HO160 h0_ h1_)) hb) | exact Kd.R_mono (Kd.R_below ((Q_HO160 h0_ h1_)) hb) (fun _ h_ => by first | trivial | exact h_ | exact h_.1))
           have z_HO163 := fun (h0_ : b 13 = true) => (show Kd.N (Kd.slice 5 (Kd.int .u8)) 24 w42 w.heap.size (fun k_ => ((P0_4_ k_ ∨ P0_5_ k_) ∨ w.heap.size ≤ k_) ∧ k_ ≠ gb139 ∧ k_ ≠ gb142) v162 y161 from by first | exact (Kd.N_elder' ((Q_HO163 h0_)) (Kd.N_base ho43) hb) | exact Kd.N_mono (Kd.N_elder' ((Q_HO163 h0_)) (Kd.N_base ho43) hb) (fun _ h_ => by first | trivial | exact h_ | exact h_.1))
           have z_HO166 := fun (h0_ : b 14 = true) => (show Kd.R (Kd.int .u8) 5 w42 w.heap.size (fun k_ => (w.heap.size ≤ k_)) v165 t164 from by first | exact (Kd.R_below ((Q_HO166 h0_)) hb) | exact Kd.R_mono (Kd.R_below ((Q_HO166 h0_)) hb) (fun _ h_ => by first | trivial | exact h_ | exact h_.1))
           have z_HO169 := fun (h0_ : b 15 = true) (h1_ : b 35 = false) => (show Kd.R (Kd.int .u8) 5 w42 w.heap.size (fun k_ => (w.heap.size ≤ k_)) v168 t167 from by first | exact (Kd.R_below ((Q_HO169 h0_ h1_)) hb) | exact Kd.R_mono (Kd.R_below ((Q_HO169 h0_ h1_)) hb) (fun _ h_ => by first | trivial | exact h_ | exact h_.1))
           clear HO_140004
           clear HO_140005
           clear BK139
           clear BK142
           clear HB
           clear HO172
           have HO_140004 := n0_
           have HO_140005 := n1_
           have HO175 := n2_
           have BK139 := n3_
           have BK142 := n4_
           have HB := n5_
           clear n0_ n1_ n2_ n3_ n4_ n5_
           clear hb ho43
           refine hK.out _ _ ⟨v144, v147, v150, v153, v156, v159, v162, v165, v168, .slice Ao41 y170.length co41, v174, v177, v180, v183, v186, v189, v192, v195, v198, v201, m37_, (by rw [ha.out]; exact putSel_upk 19 hb_ rfl rfl rfl), (by exact Kd.V_mono HO_140004.out (fun _ hk => (by first | exact ⟨hk.1.1, ⟨hk.2, ⟨hk.1.2.2.1, hk.1.2.2.2⟩⟩⟩ | exact hk | exact hk.1 | exact hk.1.1 | exact hk.1.1.1 | omega))), (by exact Kd.V_mono HO_140005.out (fun _ hk => (by first | exact ⟨hk.1.1, ⟨hk.2, ⟨hk.1.2.2.1, hk.1.2.2.2⟩⟩⟩ | exact hk | exact hk.1 | exact hk.1.1 | exact hk.1.1.1 | omega))), BK139.out, BK142.out, HB.out, z_HO145, z_HO148, z_HO151, z_HO154, z_HO157, z_HO160, z_HO163, z_HO166, z_HO169, fun _ h1_ => absurd ((up_self b 23).symm.trans h1_) (by decide), fun _ => (HO175.out), fun h0_ => absurd ((hoff 24 (by kernel_rfl)).symm.trans h0_) (by decide), fun h0_ _ => absurd ((hoff 25 (by kernel_rfl)).symm.trans h0_) (by decide), fun h0_ _ => absurd ((hoff 28 (by kernel_rfl)).symm.trans h0_) (by decide), fun h0_ _ => absurd ((hoff 31 (by kernel_rfl)).symm.trans h0_) (by decide), fun h0_ => absurd ((hoff 32 (by kernel_rfl)).symm.trans h0_) (by decide), fun h0_ => absurd ((hoff 33 (by kernel_rfl)).symm.trans h0_) (by decide), fun h0_ _ => absurd ((hoff 34 (by kernel_rfl)).symm.trans h0_) (by decide), fun h0_ => absurd ((hoff 35 (by kernel_rfl)).symm.trans h0_) (by decide), fun h0_ => absurd ((hoff 36 (by kernel_rfl)).symm.trans h0_) (by decide), fun h0_ => absurd ((hoff 37 (by kernel_rfl)).symm.trans h0_) (by decide)⟩
          refine steps_cons ?_ ?_
          ·rintro b a w' ⟨v144, v147, v150, v153, v156, v159, v162, v165, v168, v171, v174, v177, v180, v183, v186, v189, v192, v195, v198, v201, m37_, ha, Q_HO_140004, Q_HO_140005, Q_BK139, Q_BK142, Q_HB, Q_HO145, Q_HO148, Q_HO151, Q_HO154, Q_HO157, Q_HO160, Q_HO163, Q_HO166, Q_HO169, Q_HO172, Q_HO175, Q_HO178, Q_HO181, Q_HO184, Q_HO187, Q_HO190, Q_HO193, Q_HO196, Q_HO199, Q_HO202, Q_X37_⟩ hb_ hon hoff
           refine ⟨_, rfl, fun K hK => ?_⟩
           have e59 : a.tmps[59]? = some (v174) := by rw [ha]; exact putSel_on (e := (23, 59, v174)) 19 rfl rfl (hon 23 (by kernel_rfl)) rfl
           replace ha := Aside0.mk ha
           have HO_140004 := Aside0.mk Q_HO_140004
           have HO_140005 := Aside0.mk Q_HO_140005
           have BK139 := Aside0.mk Q_BK139
           have BK142 := Aside0.mk Q_BK142
           have HB := Aside0.mk Q_HB
           have HO148 := Aside0.mk (Q_HO148 (hon 1 (by kernel_rfl)))
           have HO151 := Aside0.mk (Q_HO151 (hon 2 (by kernel_rfl)) (hoff 35 (by kernel_rfl)))
           have HO154 := Aside0.mk (Q_HO154 (hon 4 (by kernel_rfl)))
           have HO157 := Aside0.mk (Q_HO157 (hon 5 (by kernel_rfl)) (hoff 35 (by kernel_rfl)))
           have HO163 := Aside0.mk (Q_HO163 (hon 13 (by kernel_rfl)))
           have HO166 := Aside0.mk (Q_HO166 (hon 14 (by kernel_rfl)))
           have HO169 := Aside0.mk (Q_HO169 (hon 15 (by kernel_rfl)) (hoff 35 (by kernel_rfl)))
           have HO175 := Aside0.mk (Q_HO175 (hon 23 (by kernel_rfl)))
           obtain ⟨Ao60, co60, eo60⟩ := Kd.N_slice HO175.out
           (first | subst eo60 | (injection eo60 with f1_ f2_ f3_; have f4_ := f1_.symm; have f5_ := f3_.symm; clear f1_ f2_ f3_; subst f4_; subst f5_))
           refine goes_ Try.func22 (by kernel_rfl) rfl #[.slice Ao60 y173.length co60] (by rfl) rfl rfl (by first | (simp only [List.map_toArray, List.map_cons, List.map_nil, Act.eval, Array.getD_eq_getD_getElem?, Option.getD_some, e59]; done) | (simp only [List.map_toArray, List.map_cons, List.map_nil, Act.eval, Array.getD_eq_getD_getElem?, Option.getD_some, e59]; rfl)) ?_
           with_reducible refine (greenscreenref01_Join.calls kj15 _ _ y173 t176 _ ?side1 ?side2 A30.out).mono ?_
           (case side1 => repeat (first | exact (Kd.N_reads' HO175.out).2.2 | (with_reducible refine Kd.C_alloc ?_ _) | (with_reducible refine Kd.C_drewN ?_ _) | (with_reducible refine Kd.C_drew ?_)))
           (case side2 => exact (Kd.N_reads' HO175.out).2.1)
           rintro e w61 ⟨v177, rfl, ho0, hb⟩
           refine ⟨_, rfl, ?_⟩
           have n0_ := Aside0.mk (Kd.V_elder' (HO_140004.out) (Kd.R_base ho0) hb)
           have n1_ := Aside0.mk (Kd.V_elder' (HO_140005.out) (Kd.R_base ho0) hb)
           have n2_ := Aside0.mk (Kd.R_elder' (HO148.out) (Kd.R_base ho0) hb)
           have n3_ := Aside0.mk (Kd.R_elder' (HO151.out) (Kd.R_base ho0) hb)
           have n4_ := Aside0.mk (Kd.R_elder' (HO154.out) (Kd.R_base ho0) hb)
           have n5_ := Aside0.mk (Kd.R_elder' (HO157.out) (Kd.R_base ho0) hb)
           have n6_ := Aside0.mk (Kd.N_elder' (HO163.out) (Kd.R_base ho0) hb)
           have n7_ := Aside0.mk (Kd.R_elder' (HO166.out) (Kd.R_base ho0) hb)
           have n8_ := Aside0.mk (Kd.R_elder' (HO169.out) (Kd.R_base ho0) hb)
           have n9_ := Aside0.mk (Kd.N_elder' (HO175.out) (Kd.R_base ho0) hb)
           have n10_ := Aside0.mk (Kd.R_lower (Kd.R_new' (Kd.R_new' (Kd.R_new' (Kd.R_new' (Kd.R_new' (Kd.R_new' (Kd.R_newM (M := fun k_ => (w.heap.size ≤ k_)) ho0 (below_size HB.out) (fun k_ h_ => h_)) (Kd.R_lt (HO148.out))) (Kd.R_lt (HO151.out))) (Kd.R_lt (HO154.out))) (Kd.R_lt (HO157.out))) (Kd.R_lt (HO166.out))) (Kd.R_lt (HO169.out))) (below_size HB.out))
           have n11_ := Aside0.mk (blk_below (g := gb139) (o := .cells #[.int .i64 a0_0, .int .i64 a0_1, .int .i64 a0_2, .int .i64 a0_3, .slice A0_4 l0_4.length c0_4, .slice A0_5 l0_5.length c0_5] 34 (0, 0)) BK139.out hb)
           have n12_ := Aside0.mk (blk_below (g := gb142) (o := .cells #[.int .i64 x143000_15, .int .i64 x143001_15] 23 (0, 0)) BK142.out hb)
           have n13_ := Aside0.mk (below_step HB.out hb)
           have z_HO145 := fun (h0_ : b 0 = true) (h1_ : b 35 = false) => (show Kd.R (Kd.int .u8) 5 w61 w.heap.size (fun k_ => (w.heap.size ≤ k_)) v144 y143 from by first | exact (Kd.R_elder' ((Q_HO145 h0_ h1_)) (Kd.R_base ho0) hb) | exact Kd.R_mono (Kd.R_elder' ((Q_HO145 h0_ h1_)) (Kd.R_base ho0) hb) (fun _ h_ => by first | trivial | exact h_ | exact h_.1))
           clear HO_140004
           clear HO_140005
           clear HO148
           clear HO151
           clear HO154
           clear HO157
           clear HO163
           clear HO166
           clear HO169
           clear HO175
           clear BK139
           clear BK142
           clear HB
           have HO_140004 := n0_
           have HO_140005 := n1_
           have HO148 := n2_
           have HO151 := n3_
           have HO154 := n4_
           have HO157 := n5_
           have HO163 := n6_
           have HO166 := n7_
           have HO169 := n8_
           have HO175 := n9_
           have HO178 := n10_
           have BK139 := n11_
           have BK142 := n12_
           have HB := n13_
           clear n0_ n1_ n2_ n3_ n4_ n5_ n6_ n7_ n8_ n9_ n10_ n11_ n12_ n13_
           (try clear hb)
           (try clear hb2)
           (try clear hk)
           (try clear hi)
           (try clear ho0)
           refine hK.out _ _ ⟨v144, v147, v150, v153, v156, v159, v162, v165, v168, v171, .slice Ao60 y173.length co60, v177, v180, v183, v186, v189, v192, v195, v198, v201, m37_, (by rw [ha.out]; exact putSel_upk 20 hb_ rfl rfl rfl), (by exact Kd.V_mono HO_140004.out (fun _ hk => (by first | exact hk | exact hk.1 | exact hk.1.1 | exact hk.1.1.1 | omega))), (by exact Kd.V_mono HO_140005.out (fun _ hk => (by first | exact hk | exact hk.1 | exact hk.1.1 | exact hk.1.1.1 | omega))), BK139.out, BK142.out, HB.out, z_HO145, fun _ => (by exact Kd.R_mono HO148.out (fun _ hk => (by first | exact hk | exact hk.1 | exact hk.1.1 | exact hk.1.1.1 | omega))), fun _ _ => (by exact Kd.R_mono HO151.out (fun _ hk => (by first | exact hk | exact hk.1 | exact hk.1.1 | exact hk.1.1.1 | omega))), fun _ => (by exact Kd.R_mono HO154.out (fun _ hk => (by first | exact hk | exact hk.1 | exact hk.1.1 | exact hk.1.1.1 | omega))), fun _ _ => (by exact Kd.R_mono HO157.out (fun _ hk => (by first | exact hk | exact hk.1 | exact hk.1.1 | exact hk.1.1.1 | omega))), fun _ h1_ => absurd ((hon 13 (by kernel_rfl)).symm.trans h1_) (by decide), fun _ => (by exact Kd.N_mono HO163.out (fun _ hk => (by first | exact hk | exact hk.1 | exact hk.1.1 | exact hk.1.1.1 | omega))), fun _ => (by exact Kd.R_mono HO166.out (fun _ hk => (by first | exact hk | exact hk.1 | exact hk.1.1 | exact hk.1.1.1 | omega))), fun _ _ => (by exact Kd.R_mono HO169.out (fun _ hk => (by first | exact hk | exact hk.1 | exact hk.1.1 | exact hk.1.1.1 | omega))), fun _ h1_ => absurd ((hon 23 (by kernel_rfl)).symm.trans h1_) (by decide), fun _ => (by exact Kd.N_mono HO175.out (fun _ hk => (by first | exact hk | exact hk.1 | exact hk.1.1 | exact hk.1.1.1 | omega))), fun _ => (by exact Kd.R_mono HO178.out (fun _ hk => (by first | exact hk | exact hk.1 | exact hk.1.1 | exact hk.1.1.1 | omega))), fun h0_ _ => absurd ((hoff 25 (by kernel_rfl)).symm.trans h0_) (by decide), fun h0_ _ => absurd ((hoff 28 (by kernel_rfl)).symm.trans h0_) (by decide), fun h0_ _ => absurd ((hoff 31 (by kernel_rfl)).symm.trans h0_) (by decide), fun h0_ => absurd ((hoff 32 (by kernel_rfl)).symm.trans h0_) (by decide), fun h0_ => absurd ((hoff 33 (by kernel_rfl)).symm.trans h0_) (by decide), fun h0_ _ => absurd ((hoff 34 (by kernel_rfl)).symm.trans h0_) (by decide), fun h0_ => absurd ((hoff 35 (by kernel_rfl)).symm.trans h0_) (by decide), fun h0_ => absurd ((hoff 36 (by kernel_rfl)).symm.trans h0_) (by decide), fun h0_ => absurd ((hoff 37 (by kernel_rfl)).symm.trans h0_) (by decide)⟩
          refine steps_cons ?_ ?_
          ·rintro b a w' ⟨v144, v147, v150, v153, v156, v159, v162, v165, v168, v171, v174, v177, v180, v183, v186, v189, v192, v195, v198, v201, m37_, ha, Q_HO_140004, Q_HO_140005, Q_BK139, Q_BK142, Q_HB, Q_HO145, Q_HO148, Q_HO151, Q_HO154, Q_HO157, Q_HO160, Q_HO163, Q_HO166, Q_HO169, Q_HO172, Q_HO175, Q_HO178, Q_HO181, Q_HO184, Q_HO187, Q_HO190, Q_HO193, Q_HO196, Q_HO199, Q_HO202, Q_X37_⟩ hb_ hon hoff
           refine ⟨_, rfl, fun K hK => ?_⟩
           have e60 : a.tmps[60]? = some (v177) := by rw [ha]; exact putSel_on (e := (24, 60, v177)) 20 rfl rfl (hon 24 (by kernel_rfl)) rfl
           replace ha := Aside0.mk ha
           have HO_140004 := Aside0.mk Q_HO_140004
           have HO_140005 := Aside0.mk Q_HO_140005
           have BK139 := Aside0.mk Q_BK139
           have BK142 := Aside0.mk Q_BK142
           have HB := Aside0.mk Q_HB
           have HO148 := Aside0.mk (Q_HO148 (hon 1 (by kernel_rfl)))
           have HO151 := Aside0.mk (Q_HO151 (hon 2 (by kernel_rfl)) (hoff 35 (by kernel_rfl)))
           have HO154 := Aside0.mk (Q_HO154 (hon 4 (by kernel_rfl)))
           have HO157 := Aside0.mk (Q_HO157 (hon 5 (by kernel_rfl)) (hoff 35 (by kernel_rfl)))
           have HO163 := Aside0.mk (Q_HO163 (hon 13 (by kernel_rfl)))
           have HO166 := Aside0.mk (Q_HO166 (hon 14 (by kernel_rfl)))
           have HO169 := Aside0.mk (Q_HO169 (hon 15 (by kernel_rfl)) (hoff 35 (by kernel_rfl)))
           have HO175 := Aside0.mk (Q_HO175 (hon 23 (by kernel_rfl)))
           have HO178 := Aside0.mk (Q_HO178 (hon 24 (by kernel_rfl)))
           obtain ⟨Ao62, co62, eo62⟩ := Kd.R_slice HO178.out
           (first | subst eo62 | (injection eo62 with f1_ f2_ f3_; have f4_ := f1_.symm; have f5_ := f3_.symm; clear f1_ f2_ f3_; subst f4_; subst f5_))
           refine goes_ Try.func23 (by kernel_rfl) rfl #[.int .u8 135, .slice Ao62 t176.length co62] (by rfl) rfl rfl (by first | (simp only [List.map_toArray, List.map_cons, List.map_nil, Act.eval, Array.getD_eq_getD_getElem?, Option.getD_some, e60]; done) | (simp only [List.map_toArray, List.map_cons, List.map_nil, Act.eval, Array.getD_eq_getD_getElem?, Option.getD_some, e60]; rfl)) ?_
           with_reducible refine (greenscreenref24_field.calls kj15 135 (fun k_ => some k_ = (.slice Ao62 t176.length co62 : Value).ownBlock) _ _ t176 t179 _ ?side1 A31.out).mono ?_
           (case side1 => exact Kd.R_V (Kd.R_tight rfl (Kd.R_types (Kd.R_types (Kd.R_apart' (Kd.R_apart' (HO178.out) (Kd.N_typed HO163.out) (by decide)) (Kd.N_typed HO175.out) (by decide)) BK139.out (by decide)) BK142.out (by decide))))
           rintro e w63 ⟨v180, rfl, ho0, hb⟩
           refine ⟨_, rfl, ?_⟩
           have n0_ := Aside0.mk (Kd.V_elder' (HO_140004.out) (Kd.R_base ho0) hb)
           have n1_ := Aside0.mk (Kd.V_elder' (HO_140005.out) (Kd.R_base ho0) hb)
           have n2_ := Aside0.mk (Kd.R_elder' (HO148.out) (Kd.R_base ho0) hb)
           have n3_ := Aside0.mk (Kd.R_elder' (HO151.out) (Kd.R_base ho0) hb)
           have n4_ := Aside0.mk (Kd.R_elder' (HO154.out) (Kd.R_base ho0) hb)
           have n5_ := Aside0.mk (Kd.R_elder' (HO157.out) (Kd.R_base ho0) hb)
           have n6_ := Aside0.mk (Kd.N_elder' (HO163.out) (Kd.R_base ho0) hb)
           have n7_ := Aside0.mk (Kd.R_elder' (HO166.out) (Kd.R_base ho0) hb)
           have n8_ := Aside0.mk (Kd.R_elder' (HO169.out) (Kd.R_base ho0) hb)
           have n9_ := Aside0.mk (Kd.N_elder' (HO175.out) (Kd.R_base ho0) hb)
           have n10_ := Aside0.mk (Kd.R_elder' (HO178.out) (Kd.R_base ho0) hb)
           have n11_ := Aside0.mk (Kd.R_lower (Kd.R_new' (Kd.R_new' (Kd.R_new' (Kd.R_new' (Kd.R_new' (Kd.R_new' (Kd.R_new' (Kd.R_newM (M := fun k_ => (w.heap.size ≤ k_)) (Kd.R_mono (ok' := fun k_ => True) ho0 (fun _ hk_ => trivial)) (below_size HB.out) (fun k_ h_ => h_)) (Kd.R_lt (HO148.out))) (Kd.R_lt (HO151.out))) (Kd.R_lt (HO154.out))) (Kd.R_lt (HO157.out))) (Kd.R_lt (HO166.out))) (Kd.R_lt (HO169.out))) (Kd.R_lt (HO178.out))) (below_size HB.out))
           have n12_ := Aside0.mk (blk_below (g := gb139) (o := .cells #[.int .i64 a0_0, .int .i64 a0_1, .int .i64 a0_2, .int .i64 a0_3, .slice A0_4 l0_4.length c0_4, .slice A0_5 l0_5.length c0_5] 34 (0, 0)) BK139.out hb)
           have n13_ := Aside0.mk (blk_below (g := gb142) (o := .cells #[.int .i64 x143000_15, .int .i64 x143001_15] 23 (0, 0)) BK142.out hb)
           have n14_ := Aside0.mk (below_step HB.out hb)
           have z_HO145 := fun (h0_ : b 0 = true) (h1_ : b 35 = false) => (show Kd.R (Kd.int .u8) 5 w63 w.heap.size (fun k_ => (w.heap.size ≤ k_)) v144 y143 from by first | exact (Kd.R_elder' ((Q_HO145 h0_ h1_)) (Kd.R_base ho0) hb) | exact Kd.R_mono (Kd.R_elder' ((Q_HO145 h0_ h1_)) (Kd.R_base ho0) hb) (fun _ h_ => by first | trivial | exact h_ | exact h_.1))
           clear HO_140004
           clear HO_140005
           clear HO148
           clear HO151
           clear HO154
           clear HO157
           clear HO163
           clear HO166
           clear HO169
           clear HO175
           clear HO178
           clear BK139
           clear BK142
           clear HB
           have HO_140004 := n0_
           have HO_140005 := n1_
           have HO148 := n2_
           have HO151 := n3_
           have HO154 := n4_
           have HO157 := n5_
           have HO163 := n6_
           have HO166 := n7_
           have HO169 := n8_
           have HO175 := n9_
           have HO178 := n10_
           have HO181 := n11_
           have BK139 := n12_
           have BK142 := n13_
           have HB := n14_
           clear n0_ n1_ n2_ n3_ n4_ n5_ n6_ n7_ n8_ n9_ n10_ n11_ n12_ n13_ n14_
           (try clear hb)
           (try clear hb2)
           (try clear hk)
           (try clear hi)
           (try clear ho0)
           refine hK.out _ _ ⟨v144, v147, v150, v153, v156, v159, v162, v165, v168, v171, v174, .slice Ao62 t176.length co62, v180, v183, v186, v189, v192, v195, v198, v201, m37_, (by rw [ha.out]; exact putSel_upk 21 hb_ rfl rfl rfl), (by exact Kd.V_mono HO_140004.out (fun _ hk => (by first | exact hk | exact hk.1 | exact hk.1.1 | exact hk.1.1.1 | omega))), (by exact Kd.V_mono HO_140005.out (fun _ hk => (by first | exact hk | exact hk.1 | exact hk.1.1 | exact hk.1.1.1 | omega))), BK139.out, BK142.out, HB.out, z_HO145, fun _ => (by exact Kd.R_mono HO148.out (fun _ hk => (by first | exact hk | exact hk.1 | exact hk.1.1 | exact hk.1.1.1 | omega))), fun _ _ => (by exact Kd.R_mono HO151.out (fun _ hk => (by first | exact hk | exact hk.1 | exact hk.1.1 | exact hk.1.1.1 | omega))), fun _ => (by exact Kd.R_mono HO154.out (fun _ hk => (by first | exact hk | exact hk.1 | exact hk.1.1 | exact hk.1.1.1 | omega))), fun _ _ => (by exact Kd.R_mono HO157.out (fun _ hk => (by first | exact hk | exact hk.1 | exact hk.1.1 | exact hk.1.1.1 | omega))), fun _ h1_ => absurd ((hon 13 (by kernel_rfl)).symm.trans h1_) (by decide), fun _ => (by exact Kd.N_mono HO163.out (fun _ hk => (by first | exact hk | exact hk.1 | exact hk.1.1 | exact hk.1.1.1 | omega))), fun _ => (by exact Kd.R_mono HO166.out (fun _ hk => (by first | exact hk | exact hk.1 | exact hk.1.1 | exact hk.1.1.1 | omega))), fun _ _ => (by exact Kd.R_mono HO169.out (fun _ hk => (by first | exact hk | exact hk.1 | exact hk.1.1 | exact hk.1.1.1 | omega))), fun _ h1_ => absurd ((hon 23 (by kernel_rfl)).symm.trans h1_) (by decide), fun _ => (by exact Kd.N_mono HO175.out (fun _ hk => (by first | exact hk | exact hk.1 | exact hk.1.1 | exact hk.1.1.1 | omega))), fun _ => (by exact Kd.R_mono HO178.out (fun _ hk => (by first | exact hk | exact hk.1 | exact hk.1.1 | exact hk.1.1.1 | omega))), fun _ _ => (by exact Kd.R_mono HO181.out (fun _ hk => (by first | exact hk | exact hk.1 | exact hk.1.1 | exact hk.1.1.1 | omega))), fun h0_ _ => absurd ((hoff 28 (by kernel_rfl)).symm.trans h0_) (by decide), fun h0_ _ => absurd ((hoff 31 (by kernel_rfl)).symm.trans h0_) (by decide), fun h0_ => absurd ((hoff 32 (by kernel_rfl)).symm.trans h0_) (by decide), fun h0_ => absurd ((hoff 33 (by kernel_rfl)).symm.trans h0_) (by decide), fun h0_ _ => absurd ((hoff 34 (by kernel_rfl)).symm.trans h0_) (by decide), fun h0_ => absurd ((hoff 35 (by kernel_rfl)).symm.trans h0_) (by decide), fun h0_ => absurd ((hoff 36 (by kernel_rfl)).symm.trans h0_) (by decide), fun h0_ => absurd ((hoff 37 (by kernel_rfl)).symm.trans h0_) (by decide)⟩
          refine steps_cons ?_ ?_
          ·rintro b a w' ⟨v144, v147, v150, v153, v156, v159, v162, v165, v168, v171, v174, v177, v180, v183, v186, v189, v192, v195, v198, v201, m37_, ha, Q_HO_140004, Q_HO_140005, Q_BK139, Q_BK142, Q_HB, Q_HO145, Q_HO148, Q_HO151, Q_HO154, Q_HO157, Q_HO160, Q_HO163, Q_HO166, Q_HO169, Q_HO172, Q_HO175, Q_HO178, Q_HO181, Q_HO184, Q_HO187, Q_HO190, Q_HO193, Q_HO196, Q_HO199, Q_HO202, Q_X37_⟩ hb_ hon hoff
           refine ⟨_, rfl, fun K hK => ?_⟩
           have e62 : a.tmps[62]? = some (.pointer (some ⟨gb139, 0, none⟩)) := by rw [ha]; exact (putSel_off rfl).trans rfl
           replace ha := Aside0.mk ha
           have HO_140004 := Aside0.mk Q_HO_140004
           have HO_140005 := Aside0.mk Q_HO_140005
           have BK139 := Aside0.mk Q_BK139
           have BK142 := Aside0.mk Q_BK142
           have HB := Aside0.mk Q_HB
           have hc0_ : w'.cell? ⟨gb139, 0, none⟩ = some (.int .i64 a0_0) := (blk_cell BK139.out 0).trans rfl
           have hc1_ : w'.cell? ⟨gb139, 1, none⟩ = some (.int .i64 a0_1) := (blk_cell BK139.out 1).trans rfl
           have hc2_ : w'.cell? ⟨gb139, 2, none⟩ = some (.int .i64 a0_2) := (blk_cell BK139.out 2).trans rfl
           have hc3_ : w'.cell? ⟨gb139, 3, none⟩ = some (.int .i64 a0_3) := (blk_cell BK139.out 3).trans rfl
           have hc4_ : w'.cell? ⟨gb139, 4, none⟩ = some (.slice A0_4 l0_4.length c0_4) := (blk_cell BK139.out 4).trans rfl
           have hc5_ : w'.cell? ⟨gb139, 5, none⟩ = some (.slice A0_5 l0_5.length c0_5) := (blk_cell BK139.out 5).trans rfl
           refine value_ (w1 := w') (v := .agg #[.int .i64 a0_0, .int .i64 a0_1]) (by rfl) rfl ?_ ?_
           ·go_simp
            (try simp only [i64_w])
            try rfl
           refine hK.out _ _ ⟨v144, v147, v150, v153, v156, v159, v162, v165, v168, v171, v174, v177, v180, v183, v186, v189, v192, v195, v198, v201, m37_, (by rw [ha.out]; exact putSel_upk 22 hb_ rfl rfl rfl), Q_HO_140004, Q_HO_140005, Q_BK139, Q_BK142, Q_HB, Q_HO145, Q_HO148, Q_HO151, Q_HO154, Q_HO157, Q_HO160, Q_HO163, Q_HO166, Q_HO169, Q_HO172, Q_HO175, Q_HO178, Q_HO181, fun h0_ _ => absurd ((hoff 28 (by kernel_rfl)).symm.trans h0_) (by decide), fun h0_ _ => absurd ((hoff 31 (by kernel_rfl)).symm.trans h0_) (by decide), fun h0_ => absurd ((hoff 32 (by kernel_rfl)).symm.trans h0_) (by decide), fun h0_ => absurd ((hoff 33 (by kernel_rfl)).symm.trans h0_) (by decide), fun h0_ _ => absurd ((hoff 34 (by kernel_rfl)).symm.trans h0_) (by decide), fun h0_ => absurd ((hoff 35 (by kernel_rfl)).symm.trans h0_) (by decide), fun h0_ => absurd ((hoff 36 (by kernel_rfl)).symm.trans h0_) (by decide), fun h0_ => absurd ((hoff 37 (by kernel_rfl)).symm.trans h0_) (by decide)⟩
          refine steps_cons ?_ ?_
          ·rintro b a w' ⟨v144, v147, v150, v153, v156, v159, v162, v165, v168, v171, v174, v177, v180, v183, v186, v189, v192, v195, v198, v201, m37_, ha, Q_HO_140004, Q_HO_140005, Q_BK139, Q_BK142, Q_HB, Q_HO145, Q_HO148, Q_HO151, Q_HO154, Q_HO157, Q_HO160, Q_HO163, Q_HO166, Q_HO169, Q_HO172, Q_HO175, Q_HO178, Q_HO181, Q_HO184, Q_HO187, Q_HO190, Q_HO193, Q_HO196, Q_HO199, Q_HO202, Q_X37_⟩ hb_ hon hoff
           refine ⟨_, rfl, fun K hK => ?_⟩
           have e63 : a.tmps[63]? = some (.agg #[.int .i64 a0_0, .int .i64 a0_1]) := by rw [ha]; exact putSel_on (e := (27, 63, .agg #[.int .i64 a0_0, .int .i64 a0_1])) 22 rfl rfl (hon 27 (by kernel_rfl)) rfl
           replace ha := Aside0.mk ha
           have HO_140004 := Aside0.mk Q_HO_140004
           have HO_140005 := Aside0.mk Q_HO_140005
           have BK139 := Aside0.mk Q_BK139
           have BK142 := Aside0.mk Q_BK142
           have HB := Aside0.mk Q_HB
           have HO148 := Aside0.mk (Q_HO148 (hon 1 (by kernel_rfl)))
           have HO151 := Aside0.mk (Q_HO151 (hon 2 (by kernel_rfl)) (hoff 35 (by kernel_rfl)))
           have HO154 := Aside0.mk (Q_HO154 (hon 4 (by kernel_rfl)))
           have HO157 := Aside0.mk (Q_HO157 (hon 5 (by kernel_rfl)) (hoff 35 (by kernel_rfl)))
           have HO163 := Aside0.mk (Q_HO163 (hon 13 (by kernel_rfl)))
           have HO166 := Aside0.mk (Q_HO166 (hon 14 (by kernel_rfl)))
           have HO169 := Aside0.mk (Q_HO169 (hon 15 (by kernel_rfl)) (hoff 35 (by kernel_rfl)))
           have HO175 := Aside0.mk (Q_HO175 (hon 23 (by kernel_rfl)))
           have HO178 := Aside0.mk (Q_HO178 (hon 24 (by kernel_rfl)))
           have HO181 := Aside0.mk (Q_HO181 (hon 25 (by kernel_rfl)) (hoff 35 (by kernel_rfl)))
           refine goes_ Try.func24 (by kernel_rfl) rfl #[.agg #[.int .i64 a0_0, .int .i64 a0_1]] (by rfl) rfl rfl (by first | (simp only [List.map_toArray, List.map_cons, List.map_nil, Act.eval, Array.getD_eq_getD_getElem?, Option.getD_some, e63]; done) | (simp only [List.map_toArray, List.map_cons, List.map_nil, Act.eval, Array.getD_eq_getD_getElem?, Option.getD_some, e63]; rfl)) ?_
           with_reducible refine (greenscreenref24_size.calls kj15 a0_0 a0_1 t182 _ A32.out).mono ?_
           rintro e w64 ⟨v183, rfl, ho0, hb⟩
           refine ⟨_, rfl, ?_⟩
           have n0_ := Aside0.mk (Kd.V_elder' (HO_140004.out) (Kd.R_base ho0) hb)
           have n1_ := Aside0.mk (Kd.V_elder' (HO_140005.out) (Kd.R_base ho0) hb)
           have n2_ := Aside0.mk (Kd.R_elder' (HO148.out) (Kd.R_base ho0) hb)
           have n3_ := Aside0.mk (Kd.R_elder' (HO151.out) (Kd.R_base ho0) hb)
           have n4_ := Aside0.mk (Kd.R_elder' (HO154.out) (Kd.R_base ho0) hb)
           have n5_ := Aside0.mk (Kd.R_elder' (HO157.out) (Kd.R_base ho0) hb)
           have n6_ := Aside0.mk (Kd.N_elder' (HO163.out) (Kd.R_base ho0) hb)
           have n7_ := Aside0.mk (Kd.R_elder' (HO166.out) (Kd.R_base ho0) hb)
           have n8_ := Aside0.mk (Kd.R_elder' (HO169.out) (Kd.R_base ho0) hb)
           have n9_ := Aside0.mk (Kd.N_elder' (HO175.out) (Kd.R_base ho0) hb)
           have n10_ := Aside0.mk (Kd.R_elder' (HO178.out) (Kd.R_base ho0) hb)
           have n11_ := Aside0.mk (Kd.R_elder' (HO181.out) (Kd.R_base ho0) hb)
           have n12_ := Aside0.mk (Kd.R_lower (Kd.R_new' (Kd.R_new' (Kd.R_new' (Kd.R_new' (Kd.R_new' (Kd.R_new' (Kd.R_new' (Kd.R_new' (Kd.R_newM (M := fun k_ => (w.heap.size ≤ k_)) ho0 (below_size HB.out) (fun k_ h_ => h_)) (Kd.R_lt (HO148.out))) (Kd.R_lt (HO151.out))) (Kd.R_lt (HO154.out))) (Kd.R_lt (HO157.out))) (Kd.R_lt (HO166.out))) (Kd.R_lt (HO169.out))) (Kd.R_lt (HO178.out))) (Kd.R_lt (HO181.out))) (below_size HB.out))
           have n13_ := Aside0.mk (blk_below (g := gb139) (o := .cells #[.int .i64 a0_0, .int .i64 a0_1, .int .i64 a0_2, .int .i64 a0_3, .slice A0_4 l0_4.length c0_4, .slice A0_5 l0_5.length c0_5] 34 (0, 0)) BK139.out hb)
           have n14_ := Aside0.mk (blk_below (g := gb142) (o := .cells #[.int .i64 x143000_15, .int .i64 x143001_15] 23 (0, 0)) BK142.out hb)
           have n15_ := Aside0.mk (below_step HB.out hb)
           have z_HO145 := fun (h0_ : b 0 = true) (h1_ : b 35 = false) => (show Kd.R (Kd.int .u8) 5 w64 w.heap.size (fun k_ => (w.heap.size ≤ k_)) v144 y143 from by first | exact (Kd.R_elder' ((Q_HO145 h0_ h1_)) (Kd.R_base ho0) hb) | exact Kd.R_mono (Kd.R_elder' ((Q_HO145 h0_ h1_)) (Kd.R_base ho0) hb) (fun _ h_ => by first | trivial | exact h_ | exact h_.1))
           clear HO_140004
           clear HO_140005
           clear HO148
           clear HO151
           clear HO154
           clear HO157
           clear HO163
           clear HO166
           clear HO169
           clear HO175
           clear HO178
           clear HO181
           clear BK139
           clear BK142
           clear HB
           have HO_140004 := n0_
           have HO_140005 := n1_
           have HO148 := n2_
           have HO151 := n3_
           have HO154 := n4_
           have HO157 := n5_
           have HO163 := n6_
           have HO166 := n7_
           have HO169 := n8_
           have HO175 := n9_
           have HO178 := n10_
           have HO181 := n11_
           have HO184 := n12_
           have BK139 := n13_
           have BK142 := n14_
           have HB := n15_
           clear n0_ n1_ n2_ n3_ n4_ n5_ n6_ n7_ n8_ n9_ n10_ n11_ n12_ n13_ n14_ n15_
           (try clear hb)
           (try clear hb2)
           (try clear hk)
           (try clear hi)
           (try clear ho0)
           refine hK.out _ _ ⟨v144, v147, v150, v153, v156, v159, v162, v165, v168, v171, v174, v177, v180, v183, v186, v189, v192, v195, v198, v201, m37_, (by rw [ha.out]; exact putSel_upk 23 hb_ rfl rfl rfl), (by exact Kd.V_mono HO_140004.out (fun _ hk => (by first | exact hk | exact hk.1 | exact hk.1.1 | exact hk.1.1.1 | omega))), (by exact Kd.V_mono HO_140005.out (fun _ hk => (by first | exact hk | exact hk.1 | exact hk.1.1 | exact hk.1.1.1 | omega))), BK139.out, BK142.out, HB.out, z_HO145, fun _ => (by exact Kd.R_mono HO148.out (fun _ hk => (by first | exact hk | exact hk.1 | exact hk.1.1 | exact hk.1.1.1 | omega))), fun _ _ => (by exact Kd.R_mono HO151.out (fun _ hk => (by first | exact hk | exact hk.1 | exact hk.1.1 | exact hk.1.1.1 | omega))), fun _ => (by exact Kd.R_mono HO154.out (fun _ hk => (by first | exact hk | exact hk.1 | exact hk.1.1 | exact hk.1.1.1 | omega))), fun _ _ => (by exact Kd.R_mono HO157.out (fun _ hk => (by first | exact hk | exact hk.1 | exact hk.1.1 | exact hk.1.1.1 | omega))), fun _ h1_ => absurd ((hon 13 (by kernel_rfl)).symm.trans h1_) (by decide), fun _ => (by exact Kd.N_mono HO163.out (fun _ hk => (by first | exact hk | exact hk.1 | exact hk.1.1 | exact hk.1.1.1 | omega))), fun _ => (by exact Kd.R_mono HO166.out (fun _ hk => (by first | exact hk | exact hk.1 | exact hk.1.1 | exact hk.1.1.1 | omega))), fun _ _ => (by exact Kd.R_mono HO169.out (fun _ hk => (by first | exact hk | exact hk.1 | exact hk.1.1 | exact hk.1.1.1 | omega))), fun _ h1_ => absurd ((hon 23 (by kernel_rfl)).symm.trans h1_) (by decide), fun _ => (by exact Kd.N_mono HO175.out (fun _ hk => (by first | exact hk | exact hk.1 | exact hk.1.1 | exact hk.1.1.1 | omega))), fun _ => (by exact Kd.R_mono HO178.out (fun _ hk => (by first | exact hk | exact hk.1 | exact hk.1.1 | exact hk.1.1.1 | omega))), fun _ _ => (by exact Kd.R_mono HO181.out (fun _ hk => (by first | exact hk | exact hk.1 | exact hk.1.1 | exact hk.1.1.1 | omega))), fun _ _ => (by exact Kd.R_mono HO184.out (fun _ hk => (by first | exact hk | exact hk.1 | exact hk.1.1 | exact hk.1.1.1 | omega))), fun h0_ _ => absurd ((hoff 31 (by kernel_rfl)).symm.trans h0_) (by decide), fun h0_ => absurd ((hoff 32 (by kernel_rfl)).symm.trans h0_) (by decide), fun h0_ => absurd ((hoff 33 (by kernel_rfl)).symm.trans h0_) (by decide), fun h0_ _ => absurd ((hoff 34 (by kernel_rfl)).symm.trans h0_) (by decide), fun h0_ => absurd ((hoff 35 (by kernel_rfl)).symm.trans h0_) (by decide), fun h0_ => absurd ((hoff 36 (by kernel_rfl)).symm.trans h0_) (by decide), fun h0_ => absurd ((hoff 37 (by kernel_rfl)).symm.trans h0_) (by decide)⟩
          refine steps_cons ?_ ?_
          ·rintro b a w' ⟨v144, v147, v150, v153, v156, v159, v162, v165, v168, v171, v174, v177, v180, v183, v186, v189, v192, v195, v198, v201, m37_, ha, Q_HO_140004, Q_HO_140005, Q_BK139, Q_BK142, Q_HB, Q_HO145, Q_HO148, Q_HO151, Q_HO154, Q_HO157, Q_HO160, Q_HO163, Q_HO166, Q_HO169, Q_HO172, Q_HO175, Q_HO178, Q_HO181, Q_HO184, Q_HO187, Q_HO190, Q_HO193, Q_HO196, Q_HO199, Q_HO202, Q_X37_⟩ hb_ hon hoff
           refine ⟨_, rfl, fun K hK => ?_⟩
           have e65 : a.tmps[65]? = some (.pointer (some ⟨gb139, 2, none⟩)) := by rw [ha]; exact (putSel_off rfl).trans rfl
           replace ha := Aside0.mk ha
           have HO_140004 := Aside0.mk Q_HO_140004
           have HO_140005 := Aside0.mk Q_HO_140005
           have BK139 := Aside0.mk Q_BK139
           have BK142 := Aside0.mk Q_BK142
           have HB := Aside0.mk Q_HB
           have hc0_ : w'.cell? ⟨gb139, 0, none⟩ = some (.int .i64 a0_0) := (blk_cell BK139.out 0).trans rfl
           have hc1_ : w'.cell? ⟨gb139, 1, none⟩ = some (.int .i64 a0_1) := (blk_cell BK139.out 1).trans rfl
           have hc2_ : w'.cell? ⟨gb139, 2, none⟩ = some (.int .i64 a0_2) := (blk_cell BK139.out 2).trans rfl
           have hc3_ : w'.cell? ⟨gb139, 3, none⟩ = some (.int .i64 a0_3) := (blk_cell BK139.out 3).trans rfl
           have hc4_ : w'.cell? ⟨gb139, 4, none⟩ = some (.slice A0_4 l0_4.length c0_4) := (blk_cell BK139.out 4).trans rfl
           have hc5_ : w'.cell? ⟨gb139, 5, none⟩ = some (.slice A0_5 l0_5.length c0_5) := (blk_cell BK139.out 5).trans rfl
           refine value_ (w1 := w') (v := .agg #[.int .i64 a0_2, .int .i64 a0_3]) (by rfl) rfl ?_ ?_
           ·go_simp
            (try simp only [i64_w])
            try rfl
           refine hK.out _ _ ⟨v144, v147, v150, v153, v156, v159, v162, v165, v168, v171, v174, v177, v180, v183, v186, v189, v192, v195, v198, v201, m37_, (by rw [ha.out]; exact putSel_upk 24 hb_ rfl rfl rfl), Q_HO_140004, Q_HO_140005, Q_BK139, Q_BK142, Q_HB, Q_HO145, Q_HO148, Q_HO151, Q_HO154, Q_HO157, Q_HO160, Q_HO163, Q_HO166, Q_HO169, Q_HO172, Q_HO175, Q_HO178, Q_HO181, Q_HO184, fun h0_ _ => absurd ((hoff 31 (by kernel_rfl)).symm.trans h0_) (by decide), fun h0_ => absurd ((hoff 32 (by kernel_rfl)).symm.trans h0_) (by decide), fun h0_ => absurd ((hoff 33 (by kernel_rfl)).symm.trans h0_) (by decide), fun h0_ _ => absurd ((hoff 34 (by kernel_rfl)).symm.trans h0_) (by decide), fun h0_ => absurd ((hoff 35 (by kernel_rfl)).symm.trans h0_) (by decide), fun h0_ => absurd ((hoff 36 (by kernel_rfl)).symm.trans h0_) (by decide), fun h0_ => absurd ((hoff 37 (by kernel_rfl)).symm.trans h0_) (by decide)⟩
          refine steps_cons ?_ ?_
          ·rintro b a w' ⟨v144, v147, v150, v153, v156, v159, v162, v165, v168, v171, v174, v177, v180, v183, v186, v189, v192, v195, v198, v201, m37_, ha, Q_HO_140004, Q_HO_140005, Q_BK139, Q_BK142, Q_HB, Q_HO145, Q_HO148, Q_HO151, Q_HO154, Q_HO157, Q_HO160, Q_HO163, Q_HO166, Q_HO169, Q_HO172, Q_HO175, Q_HO178, Q_HO181, Q_HO184, Q_HO187, Q_HO190, Q_HO193, Q_HO196, Q_HO199, Q_HO202, Q_X37_⟩ hb_ hon hoff
           refine ⟨_, rfl, fun K hK => ?_⟩
           have e66 : a.tmps[66]? = some (.agg #[.int .i64 a0_2, .int .i64 a0_3]) := by rw [ha]; exact putSel_on (e := (30, 66, .agg #[.int .i64 a0_2, .int .i64 a0_3])) 24 rfl rfl (hon 30 (by kernel_rfl)) rfl
           replace ha := Aside0.mk ha
           have HO_140004 := Aside0.mk Q_HO_140004
           have HO_140005 := Aside0.mk Q_HO_140005
           have BK139 := Aside0.mk Q_BK139
           have BK142 := Aside0.mk Q_BK142
           have HB := Aside0.mk Q_HB
           have HO148 := Aside0.mk (Q_HO148 (hon 1 (by kernel_rfl)))
           have HO151 := Aside0.mk (Q_HO151 (hon 2 (by kernel_rfl)) (hoff 35 (by kernel_rfl)))
           have HO154 := Aside0.mk (Q_HO154 (hon 4 (by kernel_rfl)))
           have HO157 := Aside0.mk (Q_HO157 (hon 5 (by kernel_rfl)) (hoff 35 (by kernel_rfl)))
           have HO163 := Aside0.mk (Q_HO163 (hon 13 (by kernel_rfl)))
           have HO166 := Aside0.mk (Q_HO166 (hon 14 (by kernel_rfl)))
           have HO169 := Aside0.mk (Q_HO169 (hon 15 (by kernel_rfl)) (hoff 35 (by kernel_rfl)))
           have HO175 := Aside0.mk (Q_HO175 (hon 23 (by kernel_rfl)))
           have HO178 := Aside0.mk (Q_HO178 (hon 24 (by kernel_rfl)))
           have HO181 := Aside0.mk (Q_HO181 (hon 25 (by kernel_rfl)) (hoff 35 (by kernel_rfl)))
           have HO184 := Aside0.mk (Q_HO184 (hon 28 (by kernel_rfl)) (hoff 32 (by kernel_rfl)))
           refine goes_ Try.func24 (by kernel_rfl) rfl #[.agg #[.int .i64 a0_2, .int .i64 a0_3]] (by rfl) rfl rfl (by first | (simp only [List.map_toArray, List.map_cons, List.map_nil, Act.eval, Array.getD_eq_getD_getElem?, Option.getD_some, e66]; done) | (simp only [List.map_toArray, List.map_cons, List.map_nil, Act.eval, Array.getD_eq_getD_getElem?, Option.getD_some, e66]; rfl)) ?_
           with_reducible refine (greenscreenref24_size.calls kj15 a0_2 a0_3 t185 _ A33.out).mono ?_
           rintro e w65 ⟨v186, rfl, ho0, hb⟩
           refine ⟨_, rfl, ?_⟩
           have n0_ := Aside0.mk (Kd.V_elder' (HO_140004.out) (Kd.R_base ho0) hb)
           have n1_ := Aside0.mk (Kd.V_elder' (HO_140005.out) (Kd.R_base ho0) hb)
           have n2_ := Aside0.mk (Kd.R_elder' (HO148.out) (Kd.R_base ho0) hb)
           have n3_ := Aside0.mk (Kd.R_elder' (HO151.out) (Kd.R_base ho0) hb)
           have n4_ := Aside0.mk (Kd.R_elder' (HO154.out) (Kd.R_base ho0) hb)
           have n5_ := Aside0.mk (Kd.R_elder' (HO157.out) (Kd.R_base ho0) hb)
           have n6_ := Aside0.mk (Kd.N_elder' (HO163.out) (Kd.R_base ho0) hb)
           have n7_ := Aside0.mk (Kd.R_elder' (HO166.out) (Kd.R_base ho0) hb)
           have n8_ := Aside0.mk (Kd.R_elder' (HO169.out) (Kd.R_base ho0) hb)
           have n9_ := Aside0.mk (Kd.N_elder' (HO175.out) (Kd.R_base ho0) hb)
           have n10_ := Aside0.mk (Kd.R_elder' (HO178.out) (Kd.R_base ho0) hb)
           have n11_ := Aside0.mk (Kd.R_elder' (HO181.out) (Kd.R_base ho0) hb)
           have n12_ := Aside0.mk (Kd.R_elder' (HO184.out) (Kd.R_base ho0) hb)
           have n13_ := Aside0.mk (Kd.R_lower (Kd.R_new' (Kd.R_new' (Kd.R_new' (Kd.R_new' (Kd.R_new' (Kd.R_new' (Kd.R_new' (Kd.R_new' (Kd.R_new' (Kd.R_newM (M := fun k_ => (w.heap.size ≤ k_)) ho0 (below_size HB.out) (fun k_ h_ => h_)) (Kd.R_lt (HO148.out))) (Kd.R_lt (HO151.out))) (Kd.R_lt (HO154.out))) (Kd.R_lt (HO157.out))) (Kd.R_lt (HO166.out))) (Kd.R_lt (HO169.out))) (Kd.R_lt (HO178.out))) (Kd.R_lt (HO181.out))) (Kd.R_lt (HO184.out))) (below_size HB.out))
           have n14_ := Aside0.mk (blk_below (g := gb139) (o := .cells #[.int .i64 a0_0, .int .i64 a0_1, .int .i64 a0_2, .int .i64 a0_3, .slice A0_4 l0_4.length c0_4, .slice A0_5 l0_5.length c0_5] 34 (0, 0)) BK139.out hb)
           have n15_ := Aside0.mk (blk_below (g := gb142) (o := .cells #[.int .i64 x143000_15, .int .i64 x143001_15] 23 (0, 0)) BK142.out hb)
           have n16_ := Aside0.mk (below_step HB.out hb)
           have z_HO145 := fun (h0_ : b 0 = true) (h1_ : b 35 = false) => (show Kd.R (Kd.int .u8) 5 w65 w.heap.size (fun k_ => (w.heap.size ≤ k_)) v144 y143 from by first | exact (Kd.R_elder' ((Q_HO145 h0_ h1_)) (Kd.R_base ho0) hb) | exact Kd.R_mono (Kd.R_elder' ((Q_HO145 h0_ h1_)) (Kd.R_base ho0) hb) (fun _ h_ => by first | trivial | exact h_ | exact h_.1))
           clear HO_140004
           clear HO_140005
           clear HO148
           clear HO151
           clear HO154
           clear HO157
           clear HO163
           clear HO166
           clear HO169
           clear HO175
           clear HO178
           clear HO181
           clear HO184
           clear BK139
           clear BK142
           clear HB
           have HO_140004 := n0_
           have HO_140005 := n1_
           have HO148 := n2_
           have HO151 := n3_
           have HO154 := n4_
           have HO157 := n5_
           have HO163 := n6_
           have HO166 := n7_
           have HO169 := n8_
           have HO175 := n9_
           have HO178 := n10_
           have HO181 := n11_
           have HO184 := n12_
           have HO187 := n13_
           have BK139 := n14_
           have BK142 := n15_
           have HB := n16_
           clear n0_ n1_ n2_ n3_ n4_ n5_ n6_ n7_ n8_ n9_ n10_ n11_ n12_ n13_ n14_ n15_ n16_
           (try clear hb)
           (try clear hb2)
           (try clear hk)
           (try clear hi)
           (try clear ho0)
           refine hK.out _ _ ⟨v144, v147, v150, v153, v156, v159, v162, v165, v168, v171, v174, v177, v180, v183, v186, v189, v192, v195, v198, v201, m37_, (by rw [ha.out]; exact putSel_upk 25 hb_ rfl rfl rfl), (by exact Kd.V_mono HO_140004.out (fun _ hk => (by first | exact hk | exact hk.1 | exact hk.1.1 | exact hk.1.1.1 | omega))), (by exact Kd.V_mono HO_140005.out (fun _ hk => (by first | exact hk | exact hk.1 | exact hk.1.1 | exact hk.1.1.1 | omega))), BK139.out, BK142.out, HB.out, z_HO145, fun _ => (by exact Kd.R_mono HO148.out (fun _ hk => (by first | exact hk | exact hk.1 | exact hk.1.1 | exact hk.1.1.1 | omega))), fun _ _ => (by exact Kd.R_mono HO151.out (fun _ hk => (by first | exact hk | exact hk.1 | exact hk.1.1 | exact hk.1.1.1 | omega))), fun _ => (by exact Kd.R_mono HO154.out (fun _ hk => (by first | exact hk | exact hk.1 | exact hk.1.1 | exact hk.1.1.1 | omega))), fun _ _ => (by exact Kd.R_mono HO157.out (fun _ hk => (by first | exact hk | exact hk.1 | exact hk.1.1 | exact hk.1.1.1 | omega))), fun _ h1_ => absurd ((hon 13 (by kernel_rfl)).symm.trans h1_) (by decide), fun _ => (by exact Kd.N_mono HO163.out (fun _ hk => (by first | exact hk | exact hk.1 | exact hk.1.1 | exact hk.1.1.1 | omega))), fun _ => (by exact Kd.R_mono HO166.out (fun _ hk => (by first | exact hk | exact hk.1 | exact hk.1.1 | exact hk.1.1.1 | omega))), fun _ _ => (by exact Kd.R_mono HO169.out (fun _ hk => (by first | exact hk | exact hk.1 | exact hk.1.1 | exact hk.1.1.1 | omega))), fun _ h1_ => absurd ((hon 23 (by kernel_rfl)).symm.trans h1_) (by decide), fun _ => (by exact Kd.N_mono HO175.out (fun _ hk => (by first | exact hk | exact hk.1 | exact hk.1.1 | exact hk.1.1.1 | omega))), fun _ => (by exact Kd.R_mono HO178.out (fun _ hk => (by first | exact hk | exact hk.1 | exact hk.1.1 | exact hk.1.1.1 | omega))), fun _ _ => (by exact Kd.R_mono HO181.out (fun _ hk => (by first | exact hk | exact hk.1 | exact hk.1.1 | exact hk.1.1.1 | omega))), fun _ _ => (by exact Kd.R_mono HO184.out (fun _ hk => (by first | exact hk | exact hk.1 | exact hk.1.1 | exact hk.1.1.1 | omega))), fun _ _ => (by exact Kd.R_mono HO187.out (fun _ hk => (by first | exact hk | exact hk.1 | exact hk.1.1 | exact hk.1.1.1 | omega))), fun h0_ => absurd ((hoff 32 (by kernel_rfl)).symm.trans h0_) (by decide), fun h0_ => absurd ((hoff 33 (by kernel_rfl)).symm.trans h0_) (by decide), fun h0_ _ => absurd ((hoff 34 (by kernel_rfl)).symm.trans h0_) (by decide), fun h0_ => absurd ((hoff 35 (by kernel_rfl)).symm.trans h0_) (by decide), fun h0_ => absurd ((hoff 36 (by kernel_rfl)).symm.trans h0_) (by decide), fun h0_ => absurd ((hoff 37 (by kernel_rfl)).symm.trans h0_) (by decide)⟩
          refine steps_cons ?_ ?_
          ·rintro b a w' ⟨v144, v147, v150, v153, v156, v159, v162, v165, v168, v171, v174, v177, v180, v183, v186, v189, v192, v195, v198, v201, m37_, ha, Q_HO_140004, Q_HO_140005, Q_BK139, Q_BK142, Q_HB, Q_HO145, Q_HO148, Q_HO151, Q_HO154, Q_HO157, Q_HO160, Q_HO163, Q_HO166, Q_HO169, Q_HO172, Q_HO175, Q_HO178, Q_HO181, Q_HO184, Q_HO187, Q_HO190, Q_HO193, Q_HO196, Q_HO199, Q_HO202, Q_X37_⟩ hb_ hon hoff
           refine ⟨_, rfl, fun K hK => ?_⟩
           have e64 : a.tmps[64]? = some (v183) := by rw [ha]; exact putSel_on (e := (28, 64, v183)) 23 rfl rfl (hon 28 (by kernel_rfl)) rfl
           have e67 : a.tmps[67]? = some (v186) := by rw [ha]; exact putSel_on (e := (31, 67, v186)) 25 rfl rfl (hon 31 (by kernel_rfl)) rfl
           replace ha := Aside0.mk ha
           have HO_140004 := Aside0.mk Q_HO_140004
           have HO_140005 := Aside0.mk Q_HO_140005
           have BK139 := Aside0.mk Q_BK139
           have BK142 := Aside0.mk Q_BK142
           have HB := Aside0.mk Q_HB
           have HO148 := Aside0.mk (Q_HO148 (hon 1 (by kernel_rfl)))
           have HO151 := Aside0.mk (Q_HO151 (hon 2 (by kernel_rfl)) (hoff 35 (by kernel_rfl)))
           have HO154 := Aside0.mk (Q_HO154 (hon 4 (by kernel_rfl)))
           have HO157 := Aside0.mk (Q_HO157 (hon 5 (by kernel_rfl)) (hoff 35 (by kernel_rfl)))
           have HO163 := Aside0.mk (Q_HO163 (hon 13 (by kernel_rfl)))
           have HO166 := Aside0.mk (Q_HO166 (hon 14 (by kernel_rfl)))
           have HO169 := Aside0.mk (Q_HO169 (hon 15 (by kernel_rfl)) (hoff 35 (by kernel_rfl)))
           have HO175 := Aside0.mk (Q_HO175 (hon 23 (by kernel_rfl)))
           have HO178 := Aside0.mk (Q_HO178 (hon 24 (by kernel_rfl)))
           have HO181 := Aside0.mk (Q_HO181 (hon 25 (by kernel_rfl)) (hoff 35 (by kernel_rfl)))
           have HO184 := Aside0.mk (Q_HO184 (hon 28 (by kernel_rfl)) hb_)
           have HO187 := Aside0.mk (Q_HO187 (hon 31 (by kernel_rfl)) hb_)
           obtain ⟨Ao66, co66, eo66⟩ := Kd.R_slice HO184.out
           (first | subst eo66 | (injection eo66 with f1_ f2_ f3_; have f4_ := f1_.symm; have f5_ := f3_.symm; clear f1_ f2_ f3_; subst f4_; subst f5_))
           obtain ⟨Ao67, co67, eo67⟩ := Kd.R_slice HO187.out
           (first | subst eo67 | (injection eo67 with f1_ f2_ f3_; have f4_ := f1_.symm; have f5_ := f3_.symm; clear f1_ f2_ f3_; subst f4_; subst f5_))
           refine Kd.N_lit_step (Kd.slice 5 (Kd.int .u8)) _ 24 ?hg (N' := 68) ?hd (xs := ([t182, t185] : List (List Int))) (inner := [.slice Ao66 t182.length co66, .slice Ao67 t185.length co67]) (ok := (fun k_ => ((P0_4_ k_ ∨ P0_5_ k_) ∨ w.heap.size ≤ k_) ∧ k_ ≠ gb139 ∧ k_ ≠ gb142)) (okp := (fun k_ => ((P0_4_ k_ ∨ P0_5_ k_) ∨ w.heap.size ≤ k_) ∧ k_ ≠ gb139 ∧ k_ ≠ gb142)) ?hr ?hp (fun _ hk => hk) ((show ∀ k_, w'.heap.size ≤ k_ → (fun k_ => ((P0_4_ k_ ∨ P0_5_ k_) ∨ w.heap.size ≤ k_) ∧ k_ ≠ gb139 ∧ k_ ≠ gb142) k_ from fun k_ hk => ⟨(.inr (Nat.le_trans (below_size HB.out) hk)), Kd.freshB (g := gb139) (o := .cells #[.int .i64 a0_0, .int .i64 a0_1, .int .i64 a0_2, .int .i64 a0_3, .slice A0_4 l0_4.length c0_4, .slice A0_5 l0_5.length c0_5] 34 (0, 0)) BK139.out k_ hk, Kd.freshB (g := gb142) (o := .cells #[.int .i64 x143000_15, .int .i64 x143001_15] 23 (0, 0)) BK142.out k_ hk⟩) _ (Nat.le_refl _)) (Below.refl _ _) (Nat.le_refl _) (by simp) ?_; (case hd => rfl); (case hg => rfl); (case hr => first | (go_simp; done) | (go_simp; rfl)); (case hp => exact (Reps.one (show Kd.FK (Kd.slice 5 (Kd.int .u8)) _ _ t182 [.slice Ao66 t182.length co66] from (Kd.FK_slice_mk (Kd.R_reads' (Kd.R_mono (ok' := (fun k_ => ((P0_4_ k_ ∨ P0_5_ k_) ∨ w.heap.size ≤ k_) ∧ k_ ≠ gb139 ∧ k_ ≠ gb142)) (Kd.R_types (Kd.R_types (Kd.R_apart' (Kd.R_apart' (HO184.out) (Kd.N_typed HO163.out) (by decide)) (Kd.N_typed HO175.out) (by decide)) BK139.out (by decide)) BK142.out (by decide)) (fun k_ hk => ⟨.inr (by omega), by omega, by omega⟩))).2.1 (Kd.R_F (Kd.R_mono (ok' := (fun k_ => ((P0_4_ k_ ∨ P0_5_ k_) ∨ w.heap.size ≤ k_) ∧ k_ ≠ gb139 ∧ k_ ≠ gb142)) (Kd.R_types (Kd.R_types (Kd.R_apart' (Kd.R_apart' (HO184.out) (Kd.N_typed HO163.out) (by decide)) (Kd.N_typed HO175.out) (by decide)) BK139.out (by decide)) BK142.out (by decide)) (fun k_ hk => ⟨.inr (by omega), by omega, by omega⟩))))) (Reps.one (show Kd.FK (Kd.slice 5 (Kd.int .u8)) _ _ t185 [.slice Ao67 t185.length co67] from (Kd.FK_slice_mk (Kd.R_reads' (Kd.R_mono (ok' := (fun k_ => ((P0_4_ k_ ∨ P0_5_ k_) ∨ w.heap.size ≤ k_) ∧ k_ ≠ gb139 ∧ k_ ≠ gb142)) (Kd.R_types (Kd.R_types (Kd.R_apart' (Kd.R_apart' (HO187.out) (Kd.N_typed HO163.out) (by decide)) (Kd.N_typed HO175.out) (by decide)) BK139.out (by decide)) BK142.out (by decide)) (fun k_ hk => ⟨.inr (by omega), by omega, by omega⟩))).2.1 (Kd.R_F (Kd.R_mono (ok' := (fun k_ => ((P0_4_ k_ ∨ P0_5_ k_) ∨ w.heap.size ≤ k_) ∧ k_ ≠ gb139 ∧ k_ ≠ gb142)) (Kd.R_types (Kd.R_types (Kd.R_apart' (Kd.R_apart' (HO187.out) (Kd.N_typed HO163.out) (by decide)) (Kd.N_typed HO175.out) (by decide)) BK139.out (by decide)) BK142.out (by decide)) (fun k_ hk => ⟨.inr (by omega), by omega, by omega⟩))))) (Reps.none _ _))))
           intro v189 w68 ho69 hb hg_ hnew_
           clear hg_ hnew_
           (first | rw [← Ny188.out] at ho69 | (simp only [Int.reduceToNat] at ho69; rw [← Ny188.out] at ho69))
           have n0_ := Aside0.mk (Kd.V_elder' (HO_140004.out) (Kd.N_base ho69) hb)
           have n1_ := Aside0.mk (Kd.V_elder' (HO_140005.out) (Kd.N_base ho69) hb)
           have n2_ := Aside0.mk (Kd.R_below (HO148.out) hb)
           have n3_ := Aside0.mk (Kd.R_below (HO151.out) hb)
           have n4_ := Aside0.mk (Kd.R_below (HO154.out) hb)
           have n5_ := Aside0.mk (Kd.R_below (HO157.out) hb)
           have n6_ := Aside0.mk (Kd.N_elder' (HO163.out) (Kd.N_base ho69) hb)
           have n7_ := Aside0.mk (Kd.R_below (HO166.out) hb)
           have n8_ := Aside0.mk (Kd.R_below (HO169.out) hb)
           have n9_ := Aside0.mk (Kd.N_elder' (HO175.out) (Kd.N_base ho69) hb)
           have n10_ := Aside0.mk (Kd.R_below (HO178.out) hb)
           have n11_ := Aside0.mk (Kd.R_below (HO181.out) hb)
           have n12_ := Aside0.mk (Kd.N_lower ho69 (below_size HB.out))
           have n13_ := Aside0.mk (blk_below (g := gb139) (o := .cells #[.int .i64 a0_0, .int .i64 a0_1, .int .i64 a0_2, .int .i64 a0_3, .slice A0_4 l0_4.length c0_4, .slice A0_5 l0_5.length c0_5] 34 (0, 0)) BK139.out hb)
           have n14_ := Aside0.mk (blk_below (g := gb142) (o := .cells #[.int .i64 x143000_15, .int .i64 x143001_15] 23 (0, 0)) BK142.out hb)
           have n15_ := Aside0.mk (below_step HB.out hb)
           have z_HO145 := fun (h0_ : b 0 = true) (h1_ : b 35 = false) => (show Kd.R (Kd.int .u8) 5 w68 w.heap.size (fun k_ => (w.heap.size ≤ k_)) v144 y143 from by first | exact (Kd.R_below ((Q_HO145 h0_ h1_)) hb) | exact Kd.R_mono (Kd.R_below ((Q_HO145 h0_ h1_)) hb) (fun _ h_ => by first | trivial | exact h_ | exact h_.1))
           clear HO_140004
           clear HO_140005
           clear HO148
           clear HO151
           clear HO154
           clear HO157
           clear HO163
           clear HO166
           clear HO169
           clear HO175
           clear HO178
           clear HO181
           clear BK139
           clear BK142
           clear HB
           clear HO184
           clear HO187
           have HO_140004 := n0_
           have HO_140005 := n1_
           have HO148 := n2_
           have HO151 := n3_
           have HO154 := n4_
           have HO157 := n5_
           have HO163 := n6_
           have HO166 := n7_
           have HO169 := n8_
           have HO175 := n9_
           have HO178 := n10_
           have HO181 := n11_
           have HO190 := n12_
           have BK139 := n13_
           have BK142 := n14_
           have HB := n15_
           clear n0_ n1_ n2_ n3_ n4_ n5_ n6_ n7_ n8_ n9_ n10_ n11_ n12_ n13_ n14_ n15_
           clear hb ho69
           refine hK.out _ _ ⟨v144, v147, v150, v153, v156, v159, v162, v165, v168, v171, v174, v177, v180, .slice Ao66 t182.length co66, .slice Ao67 t185.length co67, v189, v192, v195, v198, v201, m37_, (by rw [ha.out]; exact putSel_upk 26 hb_ rfl rfl rfl), (by exact Kd.V_mono HO_140004.out (fun _ hk => (by first | exact hk | exact hk.1 | exact hk.1.1 | exact hk.1.1.1 | omega))), (by exact Kd.V_mono HO_140005.out (fun _ hk => (by first | exact hk | exact hk.1 | exact hk.1.1 | exact hk.1.1.1 | omega))), BK139.out, BK142.out, HB.out, z_HO145, fun _ => (by exact Kd.R_mono HO148.out (fun _ hk => (by first | exact hk | exact hk.1 | exact hk.1.1 | exact hk.1.1.1 | omega))), fun _ _ => (by exact Kd.R_mono HO151.out (fun _ hk => (by first | exact hk | exact hk.1 | exact hk.1.1 | exact hk.1.1.1 | omega))), fun _ => (by exact Kd.R_mono HO154.out (fun _ hk => (by first | exact hk | exact hk.1 | exact hk.1.1 | exact hk.1.1.1 | omega))), fun _ _ => (by exact Kd.R_mono HO157.out (fun _ hk => (by first | exact hk | exact hk.1 | exact hk.1.1 | exact hk.1.1.1 | omega))), fun _ h1_ => absurd ((hon 13 (by kernel_rfl)).symm.trans h1_) (by decide), fun _ => (by exact Kd.N_mono HO163.out (fun _ hk => (by first | exact hk | exact hk.1 | exact hk.1.1 | exact hk.1.1.1 | omega))), fun _ => (by exact Kd.R_mono HO166.out (fun _ hk => (by first | exact hk | exact hk.1 | exact hk.1.1 | exact hk.1.1.1 | omega))), fun _ _ => (by exact Kd.R_mono HO169.out (fun _ hk => (by first | exact hk | exact hk.1 | exact hk.1.1 | exact hk.1.1.1 | omega))), fun _ h1_ => absurd ((hon 23 (by kernel_rfl)).symm.trans h1_) (by decide), fun _ => (by exact Kd.N_mono HO175.out (fun _ hk => (by first | exact hk | exact hk.1 | exact hk.1.1 | exact hk.1.1.1 | omega))), fun _ => (by exact Kd.R_mono HO178.out (fun _ hk => (by first | exact hk | exact hk.1 | exact hk.1.1 | exact hk.1.1.1 | omega))), fun _ _ => (by exact Kd.R_mono HO181.out (fun _ hk => (by first | exact hk | exact hk.1 | exact hk.1.1 | exact hk.1.1.1 | omega))), fun _ h1_ => absurd ((up_self b 32).symm.trans h1_) (by decide), fun _ h1_ => absurd ((up_self b 32).symm.trans h1_) (by decide), fun _ => (HO190.out), fun h0_ => absurd ((hoff 33 (by kernel_rfl)).symm.trans h0_) (by decide), fun h0_ _ => absurd ((hoff 34 (by kernel_rfl)).symm.trans h0_) (by decide), fun h0_ => absurd ((hoff 35 (by kernel_rfl)).symm.trans h0_) (by decide), fun h0_ => absurd ((hoff 36 (by kernel_rfl)).symm.trans h0_) (by decide), fun h0_ => absurd ((hoff 37 (by kernel_rfl)).symm.trans h0_) (by decide)⟩
          refine steps_cons ?_ ?_
          ·rintro b a w' ⟨v144, v147, v150, v153, v156, v159, v162, v165, v168, v171, v174, v177, v180, v183, v186, v189, v192, v195, v198, v201, m37_, ha, Q_HO_140004, Q_HO_140005, Q_BK139, Q_BK142, Q_HB, Q_HO145, Q_HO148, Q_HO151, Q_HO154, Q_HO157, Q_HO160, Q_HO163, Q_HO166, Q_HO169, Q_HO172, Q_HO175, Q_HO178, Q_HO181, Q_HO184, Q_HO187, Q_HO190, Q_HO193, Q_HO196, Q_HO199, Q_HO202, Q_X37_⟩ hb_ hon hoff
           refine ⟨_, rfl, fun K hK => ?_⟩
           have e68 : a.tmps[68]? = some (v189) := by rw [ha]; exact putSel_on (e := (32, 68, v189)) 26 rfl rfl (hon 32 (by kernel_rfl)) rfl
           replace ha := Aside0.mk ha
           have HO_140004 := Aside0.mk Q_HO_140004
           have HO_140005 := Aside0.mk Q_HO_140005
           have BK139 := Aside0.mk Q_BK139
           have BK142 := Aside0.mk Q_BK142
           have HB := Aside0.mk Q_HB
           have HO148 := Aside0.mk (Q_HO148 (hon 1 (by kernel_rfl)))
           have HO151 := Aside0.mk (Q_HO151 (hon 2 (by kernel_rfl)) (hoff 35 (by kernel_rfl)))
           have HO154 := Aside0.mk (Q_HO154 (hon 4 (by kernel_rfl)))
           have HO157 := Aside0.mk (Q_HO157 (hon 5 (by kernel_rfl)) (hoff 35 (by kernel_rfl)))
           have HO163 := Aside0.mk (Q_HO163 (hon 13 (by kernel_rfl)))
           have HO166 := Aside0.mk (Q_HO166 (hon 14 (by kernel_rfl)))
           have HO169 := Aside0.mk (Q_HO169 (hon 15 (by kernel_rfl)) (hoff 35 (by kernel_rfl)))
           have HO175 := Aside0.mk (Q_HO175 (hon 23 (by kernel_rfl)))
           have HO178 := Aside0.mk (Q_HO178 (hon 24 (by kernel_rfl)))
           have HO181 := Aside0.mk (Q_HO181 (hon 25 (by kernel_rfl)) (hoff 35 (by kernel_rfl)))
           have HO190 := Aside0.mk (Q_HO190 (hon 32 (by kernel_rfl)))
           obtain ⟨Ao70, co70, eo70⟩ := Kd.N_slice HO190.out
           (first | subst eo70 | (injection eo70 with f1_ f2_ f3_; have f4_ := f1_.symm; have f5_ := f3_.symm; clear f1_ f2_ f3_; subst f4_; subst f5_))
           refine goes_ Try.func22 (by kernel_rfl) rfl #[.slice Ao70 y188.length co70] (by rfl) rfl rfl (by first | (simp only [List.map_toArray, List.map_cons, List.map_nil, Act.eval, Array.getD_eq_getD_getElem?, Option.getD_some, e68]; done) | (simp only [List.map_toArray, List.map_cons, List.map_nil, Act.eval, Array.getD_eq_getD_getElem?, Option.getD_some, e68]; rfl)) ?_
           with_reducible refine (greenscreenref01_Join.calls kj15 _ _ y188 t191 _ ?side1 ?side2 A34.out).mono ?_
           (case side1 => repeat (first | exact (Kd.N_reads' HO190.out).2.2 | (with_reducible refine Kd.C_alloc ?_ _) | (with_reducible refine Kd.C_drewN ?_ _) | (with_reducible refine Kd.C_drew ?_)))
           (case side2 => exact (Kd.N_reads' HO190.out).2.1)
           rintro e w71 ⟨v192, rfl, ho0, hb⟩
           refine ⟨_, rfl, ?_⟩
           have n0_ := Aside0.mk (Kd.V_elder' (HO_140004.out) (Kd.R_base ho0) hb)
           have n1_ := Aside0.mk (Kd.V_elder' (HO_140005.out) (Kd.R_base ho0) hb)
           have n2_ := Aside0.mk (Kd.R_elder' (HO148.out) (Kd.R_base ho0) hb)
           have n3_ := Aside0.mk (Kd.R_elder' (HO151.out) (Kd.R_base ho0) hb)
           have n4_ := Aside0.mk (Kd.R_elder' (HO154.out) (Kd.R_base ho0) hb)
           have n5_ := Aside0.mk (Kd.R_elder' (HO157.out) (Kd.R_base ho0) hb)
           have n6_ := Aside0.mk (Kd.N_elder' (HO163.out) (Kd.R_base ho0) hb)
           have n7_ := Aside0.mk (Kd.R_elder' (HO166.out) (Kd.R_base ho0) hb)
           have n8_ := Aside0.mk (Kd.R_elder' (HO169.out) (Kd.R_base ho0) hb)
           have n9_ := Aside0.mk (Kd.N_elder' (HO175.out) (Kd.R_base ho0) hb)
           have n10_ := Aside0.mk (Kd.R_elder' (HO178.out) (Kd.R_base ho0) hb)
           have n11_ := Aside0.mk (Kd.R_elder' (HO181.out) (Kd.R_base ho0) hb)
           have n12_ := Aside0.mk (Kd.N_elder' (HO190.out) (Kd.R_base ho0) hb)
           have n13_ := Aside0.mk (Kd.R_lower (Kd.R_new' (Kd.R_new' (Kd.R_new' (Kd.R_new' (Kd.R_new' (Kd.R_new' (Kd.R_new' (Kd.R_new' (Kd.R_newM (M := fun k_ => (w.heap.size ≤ k_)) ho0 (below_size HB.out) (fun k_ h_ => h_)) (Kd.R_lt (HO148.out))) (Kd.R_lt (HO151.out))) (Kd.R_lt (HO154.out))) (Kd.R_lt (HO157.out))) (Kd.R_lt (HO166.out))) (Kd.R_lt (HO169.out))) (Kd.R_lt (HO178.out))) (Kd.R_lt (HO181.out))) (below_size HB.out))
           have n14_ := Aside0.mk (blk_below (g := gb139) (o := .cells #[.int .i64 a0_0, .int .i64 a0_1, .int .i64 a0_2, .int .i64 a0_3, .slice A0_4 l0_4.length c0_4, .slice A0_5 l0_5.length c0_5] 34 (0, 0)) BK139.out hb)
           have n15_ := Aside0.mk (blk_below (g := gb142) (o := .cells #[.int .i64 x143000_15, .int .i64 x143001_15] 23 (0, 0)) BK142.out hb)
           have n16_ := Aside0.mk (below_step HB.out hb)
           have z_HO145 := fun (h0_ : b 0 = true) (h1_ : b 35 = false) => (show Kd.R (Kd.int .u8) 5 w71 w.heap.size (fun k_ => (w.heap.size ≤ k_)) v144 y143 from by first | exact (Kd.R_elder' ((Q_HO145 h0_ h1_)) (Kd.R_base ho0) hb) | exact Kd.R_mono (Kd.R_elder' ((Q_HO145 h0_ h1_)) (Kd.R_base ho0) hb) (fun _ h_ => by first | trivial | exact h_ | exact h_.1))
           clear HO_140004
           clear HO_140005
           clear HO148
           clear HO151
           clear HO154
           clear HO157
           clear HO163
           clear HO166
           clear HO169
           clear HO175
           clear HO178
           clear HO181
           clear HO190
           clear BK139
           clear BK142
           clear HB
           have HO_140004 := n0_
           have HO_140005 := n1_
           have HO148 := n2_
           have HO151 := n3_
           have HO154 := n4_
           have HO157 := n5_
           have HO163 := n6_
           have HO166 := n7_
           have HO169 := n8_
           have HO175 := n9_
           have HO178 := n10_
           have HO181 := n11_
           have HO190 := n12_
           have HO193 := n13_
           have BK139 := n14_
           have BK142 := n15_
           have HB := n16_
           clear n0_ n1_ n2_ n3_ n4_ n5_ n6_ n7_ n8_ n9_ n10_ n11_ n12_ n13_ n14_ n15_ n16_
           (try clear hb)
           (try clear hb2)
           (try clear hk)
           (try clear hi)
           (try clear ho0)
           refine hK.out _ _ ⟨v144, v147, v150, v153, v156, v159, v162, v165, v168, v171, v174, v177, v180, v183, v186, .slice Ao70 y188.length co70, v192, v195, v198, v201, m37_, (by rw [ha.out]; exact putSel_upk 27 hb_ rfl rfl rfl), (by exact Kd.V_mono HO_140004.out (fun _ hk => (by first | exact hk | exact hk.1 | exact hk.1.1 | exact hk.1.1.1 | omega))), (by exact Kd.V_mono HO_140005.out (fun _ hk => (by first | exact hk | exact hk.1 | exact hk.1.1 | exact hk.1.1.1 | omega))), BK139.out, BK142.out, HB.out, z_HO145, fun _ => (by exact Kd.R_mono HO148.out (fun _ hk => (by first | exact hk | exact hk.1 | exact hk.1.1 | exact hk.1.1.1 | omega))), fun _ _ => (by exact Kd.R_mono HO151.out (fun _ hk => (by first | exact hk | exact hk.1 | exact hk.1.1 | exact hk.1.1.1 | omega))), fun _ => (by exact Kd.R_mono HO154.out (fun _ hk => (by first | exact hk | exact hk.1 | exact hk.1.1 | exact hk.1.1.1 | omega))), fun _ _ => (by exact Kd.R_mono HO157.out (fun _ hk => (by first | exact hk | exact hk.1 | exact hk.1.1 | exact hk.1.1.1 | omega))), fun _ h1_ => absurd ((hon 13 (by kernel_rfl)).symm.trans h1_) (by decide), fun _ => (by exact Kd.N_mono HO163.out (fun _ hk => (by first | exact hk | exact hk.1 | exact hk.1.1 | exact hk.1.1.1 | omega))), fun _ => (by exact Kd.R_mono HO166.out (fun _ hk => (by first | exact hk | exact hk.1 | exact hk.1.1 | exact hk.1.1.1 | omega))), fun _ _ => (by exact Kd.R_mono HO169.out (fun _ hk => (by first | exact hk | exact hk.1 | exact hk.1.1 | exact hk.1.1.1 | omega))), fun _ h1_ => absurd ((hon 23 (by kernel_rfl)).symm.trans h1_) (by decide), fun _ => (by exact Kd.N_mono HO175.out (fun _ hk => (by first | exact hk | exact hk.1 | exact hk.1.1 | exact hk.1.1.1 | omega))), fun _ => (by exact Kd.R_mono HO178.out (fun _ hk => (by first | exact hk | exact hk.1 | exact hk.1.1 | exact hk.1.1.1 | omega))), fun _ _ => (by exact Kd.R_mono HO181.out (fun _ hk => (by first | exact hk | exact hk.1 | exact hk.1.1 | exact hk.1.1.1 | omega))), fun _ h1_ => absurd ((hon 32 (by kernel_rfl)).symm.trans h1_) (by decide), fun _ h1_ => absurd ((hon 32 (by kernel_rfl)).symm.trans h1_) (by decide), fun _ => (by exact Kd.N_mono HO190.out (fun _ hk => (by first | exact hk | exact hk.1 | exact hk.1.1 | exact hk.1.1.1 | omega))), fun _ => (by exact Kd.R_mono HO193.out (fun _ hk => (by first | exact hk | exact hk.1 | exact hk.1.1 | exact hk.1.1.1 | omega))), fun h0_ _ => absurd ((hoff 34 (by kernel_rfl)).symm.trans h0_) (by decide), fun h0_ => absurd ((hoff 35 (by kernel_rfl)).symm.trans h0_) (by decide), fun h0_ => absurd ((hoff 36 (by kernel_rfl)).symm.trans h0_) (by decide), fun h0_ => absurd ((hoff 37 (by kernel_rfl)).symm.trans h0_) (by decide)⟩
          refine steps_cons ?_ ?_
          ·rintro b a w' ⟨v144, v147, v150, v153, v156, v159, v162, v165, v168, v171, v174, v177, v180, v183, v186, v189, v192, v195, v198, v201, m37_, ha, Q_HO_140004, Q_HO_140005, Q_BK139, Q_BK142, Q_HB, Q_HO145, Q_HO148, Q_HO151, Q_HO154, Q_HO157, Q_HO160, Q_HO163, Q_HO166, Q_HO169, Q_HO172, Q_HO175, Q_HO178, Q_HO181, Q_HO184, Q_HO187, Q_HO190, Q_HO193, Q_HO196, Q_HO199, Q_HO202, Q_X37_⟩ hb_ hon hoff
           refine ⟨_, rfl, fun K hK => ?_⟩
           have e69 : a.tmps[69]? = some (v192) := by rw [ha]; exact putSel_on (e := (33, 69, v192)) 27 rfl rfl (hon 33 (by kernel_rfl)) rfl
           replace ha := Aside0.mk ha
           have HO_140004 := Aside0.mk Q_HO_140004
           have HO_140005 := Aside0.mk Q_HO_140005
           have BK139 := Aside0.mk Q_BK139
           have BK142 := Aside0.mk Q_BK142
           have HB := Aside0.mk Q_HB
           have HO148 := Aside0.mk (Q_HO148 (hon 1 (by kernel_rfl)))
           have HO151 := Aside0.mk (Q_HO151 (hon 2 (by kernel_rfl)) (hoff 35 (by kernel_rfl)))
           have HO154 := Aside0.mk (Q_HO154 (hon 4 (by kernel_rfl)))
           have HO157 := Aside0.mk (Q_HO157 (hon 5 (by kernel_rfl)) (hoff 35 (by kernel_rfl)))
           have HO163 := Aside0.mk (Q_HO163 (hon 13 (by kernel_rfl)))
           have HO166 := Aside0.mk (Q_HO166 (hon 14 (by kernel_rfl)))
           have HO169 := Aside0.mk (Q_HO169 (hon 15 (by kernel_rfl)) (hoff 35 (by kernel_rfl)))
           have HO175 := Aside0.mk (Q_HO175 (hon 23 (by kernel_rfl)))
           have HO178 := Aside0.mk (Q_HO178 (hon 24 (by kernel_rfl)))
           have HO181 := Aside0.mk (Q_HO181 (hon 25 (by kernel_rfl)) (hoff 35 (by kernel_rfl)))
           have HO190 := Aside0.mk (Q_HO190 (hon 32 (by kernel_rfl)))
           have HO193 := Aside0.mk (Q_HO193 (hon 33 (by kernel_rfl)))
           obtain ⟨Ao72, co72, eo72⟩ := Kd.R_slice HO193.out
           (first | subst eo72 | (injection eo72 with f1_ f2_ f3_; have f4_ := f1_.symm; have f5_ := f3_.symm; clear f1_ f2_ f3_; subst f4_; subst f5_))
           refine goes_ Try.func23 (by kernel_rfl) rfl #[.int .u8 166, .slice Ao72 t191.length co72] (by rfl) rfl rfl (by first | (simp only [List.map_toArray, List.map_cons, List.map_nil, Act.eval, Array.getD_eq_getD_getElem?, Option.getD_some, e69]; done) | (simp only [List.map_toArray, List.map_cons, List.map_nil, Act.eval, Array.getD_eq_getD_getElem?, Option.getD_some, e69]; rfl)) ?_
           with_reducible refine (greenscreenref24_field.calls kj15 166 (fun k_ => some k_ = (.slice Ao72 t191.length co72 : Value).ownBlock) _ _ t191 t194 _ ?side1 A35.out).mono ?_
           (case side1 => exact Kd.R_V (Kd.R_tight rfl (Kd.R_types (Kd.R_types (Kd.R_apart' (Kd.R_apart' (Kd.R_apart' (HO193.out) (Kd.N_typed HO163.out) (by decide)) (Kd.N_typed HO175.out) (by decide)) (Kd.N_typed HO190.out) (by decide)) BK139.out (by decide)) BK142.out (by decide))))
           rintro e w73 ⟨v195, rfl, ho0, hb⟩
           refine ⟨_, rfl, ?_⟩
           have n0_ := Aside0.mk (Kd.V_elder' (HO_140004.out) (Kd.R_base ho0) hb)
           have n1_ := Aside0.mk (Kd.V_elder' (HO_140005.out) (Kd.R_base ho0) hb)
           have n2_ := Aside0.mk (Kd.R_elder' (HO148.out) (Kd.R_base ho0) hb)
           have n3_ := Aside0.mk (Kd.R_elder' (HO151.out) (Kd.R_base ho0) hb)
           have n4_ := Aside0.mk (Kd.R_elder' (HO154.out) (Kd.R_base ho0) hb)
           have n5_ := Aside0.mk (Kd.R_elder' (HO157.out) (Kd.R_base ho0) hb)
           have n6_ := Aside0.mk (Kd.N_elder' (HO163.out) (Kd.R_base ho0) hb)
           have n7_ := Aside0.mk (Kd.R_elder' (HO166.out) (Kd.R_base ho0) hb)
           have n8_ := Aside0.mk (Kd.R_elder' (HO169.out) (Kd.R_base ho0) hb)
           have n9_ := Aside0.mk (Kd.N_elder' (HO175.out) (Kd.R_base ho0) hb)
           have n10_ := Aside0.mk (Kd.R_elder' (HO178.out) (Kd.R_base ho0) hb)
           have n11_ := Aside0.mk (Kd.R_elder' (HO181.out) (Kd.R_base ho0) hb)
           have n12_ := Aside0.mk (Kd.N_elder' (HO190.out) (Kd.R_base ho0) hb)
           have n13_ := Aside0.mk (Kd.R_elder' (HO193.out) (Kd.R_base ho0) hb)
           have n14_ := Aside0.mk (Kd.R_lower (Kd.R_new' (Kd.R_new' (Kd.R_new' (Kd.R_new' (Kd.R_new' (Kd.R_new' (Kd.R_new' (Kd.R_new' (Kd.R_new' (Kd.R_newM (M := fun k_ => (w.heap.size ≤ k_)) (Kd.R_mono (ok' := fun k_ => True) ho0 (fun _ hk_ => trivial)) (below_size HB.out) (fun k_ h_ => h_)) (Kd.R_lt (HO148.out))) (Kd.R_lt (HO151.out))) (Kd.R_lt (HO154.out))) (Kd.R_lt (HO157.out))) (Kd.R_lt (HO166.out))) (Kd.R_lt (HO169.out))) (Kd.R_lt (HO178.out))) (Kd.R_lt (HO181.out))) (Kd.R_lt (HO193.out))) (below_size HB.out))
           have n15_ := Aside0.mk (blk_below (g := gb139) (o := .cells #[.int .i64 a0_0, .int .i64 a0_1, .int .i64 a0_2, .int .i64 a0_3, .slice A0_4 l0_4.length c0_4, .slice A0_5 l0_5.length c0_5] 34 (0, 0)) BK139.out hb)
           have n16_ := Aside0.mk (blk_below (g := gb142) (o := .cells #[.int .i64 x143000_15, .int .i64 x143001_15] 23 (0, 0)) BK142.out hb)
           have n17_ := Aside0.mk (below_step HB.out hb)
           have z_HO145 := fun (h0_ : b 0 = true) (h1_ : b 35 = false) => (show Kd.R (Kd.int .u8) 5 w73 w.heap.size (fun k_ => (w.heap.size ≤ k_)) v144 y143 from by first | exact (Kd.R_elder' ((Q_HO145 h0_ h1_)) (Kd.R_base ho0) hb) | exact Kd.R_mono (Kd.R_elder' ((Q_HO145 h0_ h1_)) (Kd.R_base ho0) hb) (fun _ h_ => by first | trivial | exact h_ | exact h_.1))
           clear HO_140004
           clear HO_140005
           clear HO148
           clear HO151
           clear HO154
           clear HO157
           clear HO163
           clear HO166
           clear HO169
           clear HO175
           clear HO178
           clear HO181
           clear HO190
           clear HO193
           clear BK139
           clear BK142
           clear HB
           have HO_140004 := n0_
           have HO_140005 := n1_
           have HO148 := n2_
           have HO151 := n3_
           have HO154 := n4_
           have HO157 := n5_
           have HO163 := n6_
           have HO166 := n7_
           have HO169 := n8_
           have HO175 := n9_
           have HO178 := n10_
           have HO181 := n11_
           have HO190 := n12_
           have HO193 := n13_
           have HO196 := n14_
           have BK139 := n15_
           have BK142 := n16_
           have HB := n17_
           clear n0_ n1_ n2_ n3_ n4_ n5_ n6_ n7_ n8_ n9_ n10_ n11_ n12_ n13_ n14_ n15_ n16_ n17_
           (try clear hb)
           (try clear hb2)
           (try clear hk)
           (try clear hi)
           (try clear ho0)
           refine hK.out _ _ ⟨v144, v147, v150, v153, v156, v159, v162, v165, v168, v171, v174, v177, v180, v183, v186, v189, .slice Ao72 t191.length co72, v195, v198, v201, m37_, (by rw [ha.out]; exact putSel_upk 28 hb_ rfl rfl rfl), (by exact Kd.V_mono HO_140004.out (fun _ hk => (by first | exact hk | exact hk.1 | exact hk.1.1 | exact hk.1.1.1 | omega))), (by exact Kd.V_mono HO_140005.out (fun _ hk => (by first | exact hk | exact hk.1 | exact hk.1.1 | exact hk.1.1.1 | omega))), BK139.out, BK142.out, HB.out, z_HO145, fun _ => (by exact Kd.R_mono HO148.out (fun _ hk => (by first | exact hk | exact hk.1 | exact hk.1.1 | exact hk.1.1.1 | omega))), fun _ _ => (by exact Kd.R_mono HO151.out (fun _ hk => (by first | exact hk | exact hk.1 | exact hk.1.1 | exact hk.1.1.1 | omega))), fun _ => (by exact Kd.R_mono HO154.out (fun _ hk => (by first | exact hk | exact hk.1 | exact hk.1.1 | exact hk.1.1.1 | omega))), fun _ _ => (by exact Kd.R_mono HO157.out (fun _ hk => (by first | exact hk | exact hk.1 | exact hk.1.1 | exact hk.1.1.1 | omega))), fun _ h1_ => absurd ((hon 13 (by kernel_rfl)).symm.trans h1_) (by decide), fun _ => (by exact Kd.N_mono HO163.out (fun _ hk => (by first | exact hk | exact hk.1 | exact hk.1.1 | exact hk.1.1.1 | omega))), fun _ => (by exact Kd.R_mono HO166.out (fun _ hk => (by first | exact hk | exact hk.1 | exact hk.1.1 | exact hk.1.1.1 | omega))), fun _ _ => (by exact Kd.R_mono HO169.out (fun _ hk => (by first | exact hk | exact hk.1 | exact hk.1.1 | exact hk.1.1.1 | omega))), fun _ h1_ => absurd ((hon 23 (by kernel_rfl)).symm.trans h1_) (by decide), fun _ => (by exact Kd.N_mono HO175.out (fun _ hk => (by first | exact hk | exact hk.1 | exact hk.1.1 | exact hk.1.1.1 | omega))), fun _ => (by exact Kd.R_mono HO178.out (fun _ hk => (by first | exact hk | exact hk.1 | exact hk.1.1 | exact hk.1.1.1 | omega))), fun _ _ => (by exact Kd.R_mono HO181.out (fun _ hk => (by first | exact hk | exact hk.1 | exact hk.1.1 | exact hk.1.1.1 | omega))), fun _ h1_ => absurd ((hon 32 (by kernel_rfl)).symm.trans h1_) (by decide), fun _ h1_ => absurd ((hon 32 (by kernel_rfl)).symm.trans h1_) (by decide), fun _ => (by exact Kd.N_mono HO190.out (fun _ hk => (by first | exact hk | exact hk.1 | exact hk.1.1 | exact hk.1.1.1 | omega))), fun _ => (by exact Kd.R_mono HO193.out (fun _ hk => (by first | exact hk | exact hk.1 | exact hk.1.1 | exact hk.1.1.1 | omega))), fun _ _ => (by exact Kd.R_mono HO196.out (fun _ hk => (by first | exact hk | exact hk.1 | exact hk.1.1 | exact hk.1.1.1 | omega))), fun h0_ => absurd ((hoff 35 (by kernel_rfl)).symm.trans h0_) (by decide), fun h0_ => absurd ((hoff 36 (by kernel_rfl)).symm.trans h0_) (by decide), fun h0_ => absurd ((hoff 37 (by kernel_rfl)).symm.trans h0_) (by decide)⟩
          refine steps_cons ?_ ?_
          ·rintro b a w' ⟨v144, v147, v150, v153, v156, v159, v162, v165, v168, v171, v174, v177, v180, v183, v186, v189, v192, v195, v198, v201, m37_, ha, Q_HO_140004, Q_HO_140005, Q_BK139, Q_BK142, Q_HB, Q_HO145, Q_HO148, Q_HO151, Q_HO154, Q_HO157, Q_HO160, Q_HO163, Q_HO166, Q_HO169, Q_HO172, Q_HO175, Q_HO178, Q_HO181, Q_HO184, Q_HO187, Q_HO190, Q_HO193, Q_HO196, Q_HO199, Q_HO202, Q_X37_⟩ hb_ hon hoff
           refine ⟨_, rfl, fun K hK => ?_⟩
           have e36 : a.tmps[36]? = some (v144) := by rw [ha]; exact putSel_on (e := (0, 36, v144)) 0 rfl rfl (hon 0 (by kernel_rfl)) rfl
           have e38 : a.tmps[38]? = some (v150) := by rw [ha]; exact putSel_on (e := (2, 38, v150)) 2 rfl rfl (hon 2 (by kernel_rfl)) rfl
           have e41 : a.tmps[41]? = some (v156) := by rw [ha]; exact putSel_on (e := (5, 41, v156)) 5 rfl rfl (hon 5 (by kernel_rfl)) rfl
           have e51 : a.tmps[51]? = some (v168) := by rw [ha]; exact putSel_on (e := (15, 51, v168)) 13 rfl rfl (hon 15 (by kernel_rfl)) rfl
           have e61 : a.tmps[61]? = some (v180) := by rw [ha]; exact putSel_on (e := (25, 61, v180)) 21 rfl rfl (hon 25 (by kernel_rfl)) rfl
           have e70 : a.tmps[70]? = some (v195) := by rw [ha]; exact putSel_on (e := (34, 70, v195)) 28 rfl rfl (hon 34 (by kernel_rfl)) rfl
           replace ha := Aside0.mk ha
           have HO_140004 := Aside0.mk Q_HO_140004
           have HO_140005 := Aside0.mk Q_HO_140005
           have BK139 := Aside0.mk Q_BK139
           have BK142 := Aside0.mk Q_BK142
           have HB := Aside0.mk Q_HB
           have HO145 := Aside0.mk (Q_HO145 (hon 0 (by kernel_rfl)) hb_)
           have HO148 := Aside0.mk (Q_HO148 (hon 1 (by kernel_rfl)))
           have HO151 := Aside0.mk (Q_HO151 (hon 2 (by kernel_rfl)) hb_)
           have HO154 := Aside0.mk (Q_HO154 (hon 4 (by kernel_rfl)))
           have HO157 := Aside0.mk (Q_HO157 (hon 5 (by kernel_rfl)) hb_)
           have HO163 := Aside0.mk (Q_HO163 (hon 13 (by kernel_rfl)))
           have HO166 := Aside0.mk (Q_HO166 (hon 14 (by kernel_rfl)))
           have HO169 := Aside0.mk (Q_HO169 (hon 15 (by kernel_rfl)) hb_)
           have HO175 := Aside0.mk (Q_HO175 (hon 23 (by kernel_rfl)))
           have HO178 := Aside0.mk (Q_HO178 (hon 24 (by kernel_rfl)))
           have HO181 := Aside0.mk (Q_HO181 (hon 25 (by kernel_rfl)) hb_)
           have HO190 := Aside0.mk (Q_HO190 (hon 32 (by kernel_rfl)))
           have HO193 := Aside0.mk (Q_HO193 (hon 33 (by kernel_rfl)))
           have HO196 := Aside0.mk (Q_HO196 (hon 34 (by kernel_rfl)) hb_)
           obtain ⟨Ao76, co76, eo76⟩ := Kd.R_slice HO145.out
           (first | subst eo76 | (injection eo76 with f1_ f2_ f3_; have f4_ := f1_.symm; have f5_ := f3_.symm; clear f1_ f2_ f3_; subst f4_; subst f5_))
           obtain ⟨Ao77, co77, eo77⟩ := Kd.R_slice HO151.out
           (first | subst eo77 | (injection eo77 with f1_ f2_ f3_; have f4_ := f1_.symm; have f5_ := f3_.symm; clear f1_ f2_ f3_; subst f4_; subst f5_))
           obtain ⟨Ao78, co78, eo78⟩ := Kd.R_slice HO157.out
           (first | subst eo78 | (injection eo78 with f1_ f2_ f3_; have f4_ := f1_.symm; have f5_ := f3_.symm; clear f1_ f2_ f3_; subst f4_; subst f5_))
           obtain ⟨Ao79, co79, eo79⟩ := Kd.R_slice HO169.out
           (first | subst eo79 | (injection eo79 with f1_ f2_ f3_; have f4_ := f1_.symm; have f5_ := f3_.symm; clear f1_ f2_ f3_; subst f4_; subst f5_))
           obtain ⟨Ao80, co80, eo80⟩ := Kd.R_slice HO181.out
           (first | subst eo80 | (injection eo80 with f1_ f2_ f3_; have f4_ := f1_.symm; have f5_ := f3_.symm; clear f1_ f2_ f3_; subst f4_; subst f5_))
           obtain ⟨Ao81, co81, eo81⟩ := Kd.R_slice HO196.out
           (first | subst eo81 | (injection eo81 with f1_ f2_ f3_; have f4_ := f1_.symm; have f5_ := f3_.symm; clear f1_ f2_ f3_; subst f4_; subst f5_))
           refine Kd.N_lit_step (Kd.slice 5 (Kd.int .u8)) _ 24 ?hg (N' := 71) ?hd (xs := ([y143, t149, t155, t167, t179, t194] : List (List Int))) (inner := [.slice Ao76 y143.length co76, .slice Ao77 t149.length co77, .slice Ao78 t155.length co78, .slice Ao79 t167.length co79, .slice Ao80 t179.length co80, .slice Ao81 t194.length co81]) (ok := (fun k_ => ((P0_4_ k_ ∨ P0_5_ k_) ∨ w.heap.size ≤ k_) ∧ k_ ≠ gb139 ∧ k_ ≠ gb142)) (okp := (fun k_ => ((P0_4_ k_ ∨ P0_5_ k_) ∨ w.heap.size ≤ k_) ∧ k_ ≠ gb139 ∧ k_ ≠ gb142)) ?hr ?hp (fun _ hk => hk) ((show ∀ k_, w'.heap.size ≤ k_ → (fun k_ => ((P0_4_ k_ ∨ P0_5_ k_) ∨ w.heap.size ≤ k_) ∧ k_ ≠ gb139 ∧ k_ ≠ gb142) k_ from fun k_ hk => ⟨(.inr (Nat.le_trans (below_size HB.out) hk)), Kd.freshB (g := gb139) (o := .cells #[.int .i64 a0_0, .int .i64 a0_1, .int .i64 a0_2, .int .i64 a0_3, .slice A0_4 l0_4.length c0_4, .slice A0_5 l0_5.length c0_5] 34 (0, 0)) BK139.out k_ hk, Kd.freshB (g := gb142) (o := .cells #[.int .i64 x143000_15, .int .i64 x143001_15] 23 (0, 0)) BK142.out k_ hk⟩) _ (Nat.le_refl _)) (Below.refl _ _) (Nat.le_refl _) (by simp) ?_; (case hd => rfl); (case hg => rfl); (case hr => first | (go_simp; done) | (go_simp; rfl)); (case hp => exact (Reps.one (show Kd.FK (Kd.slice 5 (Kd.int .u8)) _ _ y143 [.slice Ao76 y143.length co76] from (Kd.FK_slice_mk (Kd.R_reads' (Kd.R_mono (ok' := (fun k_ => ((P0_4_ k_ ∨ P0_5_ k_) ∨ w.heap.size ≤ k_) ∧ k_ ≠ gb139 ∧ k_ ≠ gb142)) (Kd.R_types (Kd.R_types (Kd.R_apart' (Kd.R_apart' (Kd.R_apart' (HO145.out) (Kd.N_typed HO163.out) (by decide)) (Kd.N_typed HO175.out) (by decide)) (Kd.N_typed HO190.out) (by decide)) BK139.out (by decide)) BK142.out (by decide)) (fun k_ hk => ⟨.inr (by omega), by omega, by omega⟩))).2.1 (Kd.R_F (Kd.R_mono (ok' := (fun k_ => ((P0_4_ k_ ∨ P0_5_ k_) ∨ w.heap.size ≤ k_) ∧ k_ ≠ gb139 ∧ k_ ≠ gb142)) (Kd.R_types (Kd.R_types (Kd.R_apart' (Kd.R_apart' (Kd.R_apart' (HO145.out) (Kd.N_typed HO163.out) (by decide)) (Kd.N_typed HO175.out) (by decide)) (Kd.N_typed HO190.out) (by decide)) BK139.out (by decide)) BK142.out (by decide)) (fun k_ hk => ⟨.inr (by omega), by omega, by omega⟩))))) (Reps.one (show Kd.FK (Kd.slice 5 (Kd.int .u8)) _ _ t149 [.slice Ao77 t149.length co77] from (Kd.FK_slice_mk (Kd.R_reads' (Kd.R_mono (ok' := (fun k_ => ((P0_4_ k_ ∨ P0_5_ k_) ∨ w.heap.size ≤ k_) ∧ k_ ≠ gb139 ∧ k_ ≠ gb142)) (Kd.R_types (Kd.R_types (Kd.R_apart' (Kd.R_apart' (Kd.R_apart' (HO151.out) (Kd.N_typed HO163.out) (by decide)) (Kd.N_typed HO175.out) (by decide)) (Kd.N_typed HO190.out) (by decide)) BK139.out (by decide)) BK142.out (by decide)) (fun k_ hk => ⟨.inr (by omega), by omega, by omega⟩))).2.1 (Kd.R_F (Kd.R_mono (ok' := (fun k_ => ((P0_4_ k_ ∨ P0_5_ k_) ∨ w.heap.size ≤ k_) ∧ k_ ≠ gb139 ∧ k_ ≠ gb142)) (Kd.R_types (Kd.R_types (Kd.R_apart' (Kd.R_apart' (Kd.R_apart' (HO151.out) (Kd.N_typed HO163.out) (by decide)) (Kd.N_typed HO175.out) (by decide)) (Kd.N_typed HO190.out) (by decide)) BK139.out (by decide)) BK142.out (by decide)) (fun k_ hk => ⟨.inr (by omega), by omega, by omega⟩))))) (Reps.one (show Kd.FK (Kd.slice 5 (Kd.int .u8)) _ _ t155 [.slice Ao78 t155.length co78] from (Kd.FK_slice_mk (Kd.R_reads' (Kd.R_mono (ok' := (fun k_ => ((P0_4_ k_ ∨ P0_5_ k_) ∨ w.heap.size ≤ k_) ∧ k_ ≠ gb139 ∧ k_ ≠ gb142)) (Kd.R_types (Kd.R_types (Kd.R_apart' (Kd.R_apart' (Kd.R_apart' (HO157.out) (Kd.N_typed HO163.out) (by decide)) (Kd.N_typed HO175.out) (by decide)) (Kd.N_typed HO190.out) (by decide)) BK139.out (by decide)) BK142.out (by decide)) (fun k_ hk => ⟨.inr (by omega), by omega, by omega⟩))).2.1 (Kd.R_F (Kd.R_mono (ok' := (fun k_ => ((P0_4_ k_ ∨ P0_5_ k_) ∨ w.heap.size ≤ k_) ∧ k_ ≠ gb139 ∧ k_ ≠ gb142)) (Kd.R_types (Kd.R_types (Kd.R_apart' (Kd.R_apart' (Kd.R_apart' (HO157.out) (Kd.N_typed HO163.out) (by decide)) (Kd.N_typed HO175.out) (by decide)) (Kd.N_typed HO190.out) (by decide)) BK139.out (by decide)) BK142.out (by decide)) (fun k_ hk => ⟨.inr (by omega), by omega, by omega⟩))))) (Reps.one (show Kd.FK (Kd.slice 5 (Kd.int .u8)) _ _ t167 [.slice Ao79 t167.length co79] from (Kd.FK_slice_mk (Kd.R_reads' (Kd.R_mono (ok' := (fun k_ => ((P0_4_ k_ ∨ P0_5_ k_) ∨ w.heap.size ≤ k_) ∧ k_ ≠ gb139 ∧ k_ ≠ gb142)) (Kd.R_types (Kd.R_types (Kd.R_apart' (Kd.R_apart' (Kd.R_apart' (HO169.out) (Kd.N_typed HO163.out) (by decide)) (Kd.N_typed HO175.out) (by decide)) (Kd.N_typed HO190.out) (by decide)) BK139.out (by decide)) BK142.out (by decide)) (fun k_ hk => ⟨.inr (by omega), by omega, by omega⟩))).2.1 (Kd.R_F (Kd.R_mono (ok' := (fun k_ => ((P0_4_ k_ ∨ P0_5_ k_) ∨ w.heap.size ≤ k_) ∧ k_ ≠ gb139 ∧ k_ ≠ gb142)) (Kd.R_types (Kd.R_types (Kd.R_apart' (Kd.R_apart' (Kd.R_apart' (HO169.out) (Kd.N_typed HO163.out) (by decide)) (Kd.N_typed HO175.out) (by decide)) (Kd.N_typed HO190.out) (by decide)) BK139.out (by decide)) BK142.out (by decide)) (fun k_ hk => ⟨.inr (by omega), by omega, by omega⟩))))) (Reps.one (show Kd.FK (Kd.slice 5 (Kd.int .u8)) _ _ t179 [.slice Ao80 t179.length co80] from (Kd.FK_slice_mk (Kd.R_reads' (Kd.R_mono (ok' := (fun k_ => ((P0_4_ k_ ∨ P0_5_ k_) ∨ w.heap.size ≤ k_) ∧ k_ ≠ gb139 ∧ k_ ≠ gb142)) (Kd.R_types (Kd.R_types (Kd.R_apart' (Kd.R_apart' (Kd.R_apart' (HO181.out) (Kd.N_typed HO163.out) (by decide)) (Kd.N_typed HO175.out) (by decide)) (Kd.N_typed HO190.out) (by decide)) BK139.out (by decide)) BK142.out (by decide)) (fun k_ hk => ⟨.inr (by omega), by omega, by omega⟩))).2.1 (Kd.R_F (Kd.R_mono (ok' := (fun k_ => ((P0_4_ k_ ∨ P0_5_ k_) ∨ w.heap.size ≤ k_) ∧ k_ ≠ gb139 ∧ k_ ≠ gb142)) (Kd.R_types (Kd.R_types (Kd.R_apart' (Kd.R_apart' (Kd.R_apart' (HO181.out) (Kd.N_typed HO163.out) (by decide)) (Kd.N_typed HO175.out) (by decide)) (Kd.N_typed HO190.out) (by decide)) BK139.out (by decide)) BK142.out (by decide)) (fun k_ hk => ⟨.inr (by omega), by omega, by omega⟩))))) (Reps.one (show Kd.FK (Kd.slice 5 (Kd.int .u8)) _ _ t194 [.slice Ao81 t194.length co81] from (Kd.FK_slice_mk (Kd.R_reads' (Kd.R_mono (ok' := (fun k_ => ((P0_4_ k_ ∨ P0_5_ k_) ∨ w.heap.size ≤ k_) ∧ k_ ≠ gb139 ∧ k_ ≠ gb142)) (Kd.R_types (Kd.R_types (Kd.R_apart' (Kd.R_apart' (Kd.R_apart' (HO196.out) (Kd.N_typed HO163.out) (by decide)) (Kd.N_typed HO175.out) (by decide)) (Kd.N_typed HO190.out) (by decide)) BK139.out (by decide)) BK142.out (by decide)) (fun k_ hk => ⟨.inr (by omega), by omega, by omega⟩))).2.1 (Kd.R_F (Kd.R_mono (ok' := (fun k_ => ((P0_4_ k_ ∨ P0_5_ k_) ∨ w.heap.size ≤ k_) ∧ k_ ≠ gb139 ∧ k_ ≠ gb142)) (Kd.R_types (Kd.R_types (Kd.R_apart' (Kd.R_apart' (Kd.R_apart' (HO196.out) (Kd.N_typed HO163.out) (by decide)) (Kd.N_typed HO175.out) (by decide)) (Kd.N_typed HO190.out) (by decide)) BK139.out (by decide)) BK142.out (by decide)) (fun k_ hk => ⟨.inr (by omega), by omega, by omega⟩))))) (Reps.none _ _))))))))
           intro v198 w82 ho83 hb hg_ hnew_
           clear hg_ hnew_
           (first | rw [← Ny197.out] at ho83 | (simp only [Int.reduceToNat] at ho83; rw [← Ny197.out] at ho83))
           have n0_ := Aside0.mk (Kd.V_elder' (HO_140004.out) (Kd.N_base ho83) hb)
           have n1_ := Aside0.mk (Kd.V_elder' (HO_140005.out) (Kd.N_base ho83) hb)
           have n2_ := Aside0.mk (Kd.R_below (HO148.out) hb)
           have n3_ := Aside0.mk (Kd.R_below (HO154.out) hb)
           have n4_ := Aside0.mk (Kd.N_elder' (HO163.out) (Kd.N_base ho83) hb)
           have n5_ := Aside0.mk (Kd.R_below (HO166.out) hb)
           have n6_ := Aside0.mk (Kd.N_elder' (HO175.out) (Kd.N_base ho83) hb)
           have n7_ := Aside0.mk (Kd.R_below (HO178.out) hb)
           have n8_ := Aside0.mk (Kd.N_elder' (HO190.out) (Kd.N_base ho83) hb)
           have n9_ := Aside0.mk (Kd.R_below (HO193.out) hb)
           have n10_ := Aside0.mk (Kd.N_lower ho83 (below_size HB.out))
           have n11_ := Aside0.mk (blk_below (g := gb139) (o := .cells #[.int .i64 a0_0, .int .i64 a0_1, .int .i64 a0_2, .int .i64 a0_3, .slice A0_4 l0_4.length c0_4, .slice A0_5 l0_5.length c0_5] 34 (0, 0)) BK139.out hb)
           have n12_ := Aside0.mk (blk_below (g := gb142) (o := .cells #[.int .i64 x143000_15, .int .i64 x143001_15] 23 (0, 0)) BK142.out hb)
           have n13_ := Aside0.mk (below_step HB.out hb)
           clear HO_140004
           clear HO_140005
           clear HO148
           clear HO154
           clear HO163
           clear HO166
           clear HO175
           clear HO178
           clear HO190
           clear HO193
           clear BK139
           clear BK142
           clear HB
           clear HO145
           clear HO151
           clear HO157
           clear HO169
           clear HO181
           clear HO196
           have HO_140004 := n0_
           have HO_140005 := n1_
           have HO148 := n2_
           have HO154 := n3_
           have HO163 := n4_
           have HO166 := n5_
           have HO175 := n6_
           have HO178 := n7_
           have HO190 := n8_
           have HO193 := n9_
           have HO199 := n10_
           have BK139 := n11_
           have BK142 := n12_
           have HB := n13_
           clear n0_ n1_ n2_ n3_ n4_ n5_ n6_ n7_ n8_ n9_ n10_ n11_ n12_ n13_
           clear hb ho83
           refine hK.out _ _ ⟨.slice Ao76 y143.length co76, v147, .slice Ao77 t149.length co77, v153, .slice Ao78 t155.length co78, v159, v162, v165, .slice Ao79 t167.length co79, v171, v174, v177, .slice Ao80 t179.length co80, v183, v186, v189, v192, .slice Ao81 t194.length co81, v198, v201, m37_, (by rw [ha.out]; exact putSel_upk 29 hb_ rfl rfl rfl), (by exact Kd.V_mono HO_140004.out (fun _ hk => (by first | exact hk | exact hk.1 | exact hk.1.1 | exact hk.1.1.1 | omega))), (by exact Kd.V_mono HO_140005.out (fun _ hk => (by first | exact hk | exact hk.1 | exact hk.1.1 | exact hk.1.1.1 | omega))), BK139.out, BK142.out, HB.out, fun _ h1_ => absurd ((up_self b 35).symm.trans h1_) (by decide), fun _ => (by exact Kd.R_mono HO148.out (fun _ hk => (by first | exact hk | exact hk.1 | exact hk.1.1 | exact hk.1.1.1 | omega))), fun _ h1_ => absurd ((up_self b 35).symm.trans h1_) (by decide), fun _ => (by exact Kd.R_mono HO154.out (fun _ hk => (by first | exact hk | exact hk.1 | exact hk.1.1 | exact hk.1.1.1 | omega))), fun _ h1_ => absurd ((up_self b 35).symm.trans h1_) (by decide), fun _ h1_ => absurd ((hon 13 (by kernel_rfl)).symm.trans h1_) (by decide), fun _ => (by exact Kd.N_mono HO163.out (fun _ hk => (by first | exact hk | exact hk.1 | exact hk.1.1 | exact hk.1.1.1 | omega))), fun _ => (by exact Kd.R_mono HO166.out (fun _ hk => (by first | exact hk | exact hk.1 | exact hk.1.1 | exact hk.1.1.1 | omega))), fun _ h1_ => absurd ((up_self b 35).symm.trans h1_) (by decide), fun _ h1_ => absurd ((hon 23 (by kernel_rfl)).symm.trans h1_) (by decide), fun _ => (by exact Kd.N_mono HO175.out (fun _ hk => (by first | exact hk | exact hk.1 | exact hk.1.1 | exact hk.1.1.1 | omega))), fun _ => (by exact Kd.R_mono HO178.out (fun _ hk => (by first | exact hk | exact hk.1 | exact hk.1.1 | exact hk.1.1.1 | omega))), fun _ h1_ => absurd ((up_self b 35).symm.trans h1_) (by decide), fun _ h1_ => absurd ((hon 32 (by kernel_rfl)).symm.trans h1_) (by decide), fun _ h1_ => absurd ((hon 32 (by kernel_rfl)).symm.trans h1_) (by decide), fun _ => (by exact Kd.N_mono HO190.out (fun _ hk => (by first | exact hk | exact hk.1 | exact hk.1.1 | exact hk.1.1.1 | omega))), fun _ => (by exact Kd.R_mono HO193.out (fun _ hk => (by first | exact hk | exact hk.1 | exact hk.1.1 | exact hk.1.1.1 | omega))), fun _ h1_ => absurd ((up_self b 35).symm.trans h1_) (by decide), fun _ => (HO199.out), fun h0_ => absurd ((hoff 36 (by kernel_rfl)).symm.trans h0_) (by decide), fun h0_ => absurd ((hoff 37 (by kernel_rfl)).symm.trans h0_) (by decide)⟩
          refine steps_cons ?_ ?_
          ·rintro b a w' ⟨v144, v147, v150, v153, v156, v159, v162, v165, v168, v171, v174, v177, v180, v183, v186, v189, v192, v195, v198, v201, m37_, ha, Q_HO_140004, Q_HO_140005, Q_BK139, Q_BK142, Q_HB, Q_HO145, Q_HO148, Q_HO151, Q_HO154, Q_HO157, Q_HO160, Q_HO163, Q_HO166, Q_HO169, Q_HO172, Q_HO175, Q_HO178, Q_HO181, Q_HO184, Q_HO187, Q_HO190, Q_HO193, Q_HO196, Q_HO199, Q_HO202, Q_X37_⟩ hb_ hon hoff
           refine ⟨_, rfl, fun K hK => ?_⟩
           have e71 : a.tmps[71]? = some (v198) := by rw [ha]; exact putSel_on (e := (35, 71, v198)) 29 rfl rfl (hon 35 (by kernel_rfl)) rfl
           replace ha := Aside0.mk ha
           have HO_140004 := Aside0.mk Q_HO_140004
           have HO_140005 := Aside0.mk Q_HO_140005
           have BK139 := Aside0.mk Q_BK139
           have BK142 := Aside0.mk Q_BK142
           have HB := Aside0.mk Q_HB
           have HO148 := Aside0.mk (Q_HO148 (hon 1 (by kernel_rfl)))
           have HO154 := Aside0.mk (Q_HO154 (hon 4 (by kernel_rfl)))
           have HO163 := Aside0.mk (Q_HO163 (hon 13 (by kernel_rfl)))
           have HO166 := Aside0.mk (Q_HO166 (hon 14 (by kernel_rfl)))
           have HO175 := Aside0.mk (Q_HO175 (hon 23 (by kernel_rfl)))
           have HO178 := Aside0.mk (Q_HO178 (hon 24 (by kernel_rfl)))
           have HO190 := Aside0.mk (Q_HO190 (hon 32 (by kernel_rfl)))
           have HO193 := Aside0.mk (Q_HO193 (hon 33 (by kernel_rfl)))
           have HO199 := Aside0.mk (Q_HO199 (hon 35 (by kernel_rfl)))
           obtain ⟨Ao84, co84, eo84⟩ := Kd.N_slice HO199.out
           (first | subst eo84 | (injection eo84 with f1_ f2_ f3_; have f4_ := f1_.symm; have f5_ := f3_.symm; clear f1_ f2_ f3_; subst f4_; subst f5_))
           refine goes_ Try.func22 (by kernel_rfl) rfl #[.slice Ao84 y197.length co84] (by rfl) rfl rfl (by first | (simp only [List.map_toArray, List.map_cons, List.map_nil, Act.eval, Array.getD_eq_getD_getElem?, Option.getD_some, e71]; done) | (simp only [List.map_toArray, List.map_cons, List.map_nil, Act.eval, Array.getD_eq_getD_getElem?, Option.getD_some, e71]; rfl)) ?_
           with_reducible refine (greenscreenref01_Join.calls kj15 _ _ y197 t200 _ ?side1 ?side2 A36.out).mono ?_
           (case side1 => repeat (first | exact (Kd.N_reads' HO199.out).2.2 | (with_reducible refine Kd.C_alloc ?_ _) | (with_reducible refine Kd.C_drewN ?_ _) | (with_reducible refine Kd.C_drew ?_)))
           (case side2 => exact (Kd.N_reads' HO199.out).2.1)
           rintro e w85 ⟨v201, rfl, ho0, hb⟩
           refine ⟨_, rfl, ?_⟩
           have n0_ := Aside0.mk (Kd.V_elder' (HO_140004.out) (Kd.R_base ho0) hb)
           have n1_ := Aside0.mk (Kd.V_elder' (HO_140005.out) (Kd.R_base ho0) hb)
           have n2_ := Aside0.mk (Kd.R_elder' (HO148.out) (Kd.R_base ho0) hb)
           have n3_ := Aside0.mk (Kd.R_elder' (HO154.out) (Kd.R_base ho0) hb)
           have n4_ := Aside0.mk (Kd.N_elder' (HO163.out) (Kd.R_base ho0) hb)
           have n5_ := Aside0.mk (Kd.R_elder' (HO166.out) (Kd.R_base ho0) hb)
           have n6_ := Aside0.mk (Kd.N_elder' (HO175.out) (Kd.R_base ho0) hb)
           have n7_ := Aside0.mk (Kd.R_elder' (HO178.out) (Kd.R_base ho0) hb)
           have n8_ := Aside0.mk (Kd.N_elder' (HO190.out) (Kd.R_base ho0) hb)
           have n9_ := Aside0.mk (Kd.R_elder' (HO193.out) (Kd.R_base ho0) hb)
           have n10_ := Aside0.mk (Kd.N_elder' (HO199.out) (Kd.R_base ho0) hb)
           have n11_ := Aside0.mk (Kd.R_lower (Kd.R_new' (Kd.R_new' (Kd.R_new' (Kd.R_new' (Kd.R_new' (Kd.R_newM (M := fun k_ => (w.heap.size ≤ k_)) ho0 (below_size HB.out) (fun k_ h_ => h_)) (Kd.R_lt (HO148.out))) (Kd.R_lt (HO154.out))) (Kd.R_lt (HO166.out))) (Kd.R_lt (HO178.out))) (Kd.R_lt (HO193.out))) (below_size HB.out))
           have n12_ := Aside0.mk (blk_below (g := gb139) (o := .cells #[.int .i64 a0_0, .int .i64 a0_1, .int .i64 a0_2, .int .i64 a0_3, .slice A0_4 l0_4.length c0_4, .slice A0_5 l0_5.length c0_5] 34 (0, 0)) BK139.out hb)
           have n13_ := Aside0.mk (blk_below (g := gb142) (o := .cells #[.int .i64 x143000_15, .int .i64 x143001_15] 23 (0, 0)) BK142.out hb)
           have n14_ := Aside0.mk (below_step HB.out hb)
           clear HO_140004
           clear HO_140005
           clear HO148
           clear HO154
           clear HO163
           clear HO166
           clear HO175
           clear HO178
           clear HO190
           clear HO193
           clear HO199
           clear BK139
           clear BK142
           clear HB
           have HO_140004 := n0_
           have HO_140005 := n1_
           have HO148 := n2_
           have HO154 := n3_
           have HO163 := n4_
           have HO166 := n5_
           have HO175 := n6_
           have HO178 := n7_
           have HO190 := n8_
           have HO193 := n9_
           have HO199 := n10_
           have HO202 := n11_
           have BK139 := n12_
           have BK142 := n13_
           have HB := n14_
           clear n0_ n1_ n2_ n3_ n4_ n5_ n6_ n7_ n8_ n9_ n10_ n11_ n12_ n13_ n14_
           (try clear hb)
           (try clear hb2)
           (try clear hk)
           (try clear hi)
           (try clear ho0)
           refine hK.out _ _ ⟨v144, v147, v150, v153, v156, v159, v162, v165, v168, v171, v174, v177, v180, v183, v186, v189, v192, v195, .slice Ao84 y197.length co84, v201, m37_, (by rw [ha.out]; exact putSel_upk 30 hb_ rfl rfl rfl), (by exact Kd.V_mono HO_140004.out (fun _ hk => (by first | exact hk | exact hk.1 | exact hk.1.1 | exact hk.1.1.1 | omega))), (by exact Kd.V_mono HO_140005.out (fun _ hk => (by first | exact hk | exact hk.1 | exact hk.1.1 | exact hk.1.1.1 | omega))), BK139.out, BK142.out, HB.out, fun _ h1_ => absurd ((hon 35 (by kernel_rfl)).symm.trans h1_) (by decide), fun _ => (by exact Kd.R_mono HO148.out (fun _ hk => (by first | exact hk | exact hk.1 | exact hk.1.1 | exact hk.1.1.1 | omega))), fun _ h1_ => absurd ((hon 35 (by kernel_rfl)).symm.trans h1_) (by decide), fun _ => (by exact Kd.R_mono HO154.out (fun _ hk => (by first | exact hk | exact hk.1 | exact hk.1.1 | exact hk.1.1.1 | omega))), fun _ h1_ => absurd ((hon 35 (by kernel_rfl)).symm.trans h1_) (by decide), fun _ h1_ => absurd ((hon 13 (by kernel_rfl)).symm.trans h1_) (by decide), fun _ => (by exact Kd.N_mono HO163.out (fun _ hk => (by first | exact hk | exact hk.1 | exact hk.1.1 | exact hk.1.1.1 | omega))), fun _ => (by exact Kd.R_mono HO166.out (fun _ hk => (by first | exact hk | exact hk.1 | exact hk.1.1 | exact hk.1.1.1 | omega))), fun _ h1_ => absurd ((hon 35 (by kernel_rfl)).symm.trans h1_) (by decide), fun _ h1_ => absurd ((hon 23 (by kernel_rfl)).symm.trans h1_) (by decide), fun _ => (by exact Kd.N_mono HO175.out (fun _ hk => (by first | exact hk | exact hk.1 | exact hk.1.1 | exact hk.1.1.1 | omega))), fun _ => (by exact Kd.R_mono HO178.out (fun _ hk => (by first | exact hk | exact hk.1 | exact hk.1.1 | exact hk.1.1.1 | omega))), fun _ h1_ => absurd ((hon 35 (by kernel_rfl)).symm.trans h1_) (by decide), fun _ h1_ => absurd ((hon 32 (by kernel_rfl)).symm.trans h1_) (by decide), fun _ h1_ => absurd ((hon 32 (by kernel_rfl)).symm.trans h1_) (by decide), fun _ => (by exact Kd.N_mono HO190.out (fun _ hk => (by first | exact hk | exact hk.1 | exact hk.1.1 | exact hk.1.1.1 | omega))), fun _ => (by exact Kd.R_mono HO193.out (fun _ hk => (by first | exact hk | exact hk.1 | exact hk.1.1 | exact hk.1.1.1 | omega))), fun _ h1_ => absurd ((hon 35 (by kernel_rfl)).symm.trans h1_) (by decide), fun _ => (by exact Kd.N_mono HO199.out (fun _ hk => (by first | exact hk | exact hk.1 | exact hk.1.1 | exact hk.1.1.1 | omega))), fun _ => (by exact Kd.R_mono HO202.out (fun _ hk => (by first | exact hk | exact hk.1 | exact hk.1.1 | exact hk.1.1.1 | omega))), fun h0_ => absurd ((hoff 37 (by kernel_rfl)).symm.trans h0_) (by decide)⟩
          refine steps_cons ?_ ?_
          ·rintro b a w' ⟨v144, v147, v150, v153, v156, v159, v162, v165, v168, v171, v174, v177, v180, v183, v186, v189, v192, v195, v198, v201, m37_, ha, Q_HO_140004, Q_HO_140005, Q_BK139, Q_BK142, Q_HB, Q_HO145, Q_HO148, Q_HO151, Q_HO154, Q_HO157, Q_HO160, Q_HO163, Q_HO166, Q_HO169, Q_HO172, Q_HO175, Q_HO178, Q_HO181, Q_HO184, Q_HO187, Q_HO190, Q_HO193, Q_HO196, Q_HO199, Q_HO202, Q_X37_⟩ hb_ hon hoff
           refine ⟨_, rfl, fun K hK => ?_⟩
           have e72 : a.tmps[72]? = some (v201) := by rw [ha]; exact putSel_on (e := (36, 72, v201)) 30 rfl rfl (hon 36 (by kernel_rfl)) rfl
           replace ha := Aside0.mk ha
           have HO_140004 := Aside0.mk Q_HO_140004
           have HO_140005 := Aside0.mk Q_HO_140005
           have BK139 := Aside0.mk Q_BK139
           have BK142 := Aside0.mk Q_BK142
           have HB := Aside0.mk Q_HB
           have HO148 := Aside0.mk (Q_HO148 (hon 1 (by kernel_rfl)))
           have HO154 := Aside0.mk (Q_HO154 (hon 4 (by kernel_rfl)))
           have HO163 := Aside0.mk (Q_HO163 (hon 13 (by kernel_rfl)))
           have HO166 := Aside0.mk (Q_HO166 (hon 14 (by kernel_rfl)))
           have HO175 := Aside0.mk (Q_HO175 (hon 23 (by kernel_rfl)))
           have HO178 := Aside0.mk (Q_HO178 (hon 24 (by kernel_rfl)))
           have HO190 := Aside0.mk (Q_HO190 (hon 32 (by kernel_rfl)))
           have HO193 := Aside0.mk (Q_HO193 (hon 33 (by kernel_rfl)))
           have HO199 := Aside0.mk (Q_HO199 (hon 35 (by kernel_rfl)))
           have HO202 := Aside0.mk (Q_HO202 (hon 36 (by kernel_rfl)))
           refine value_ (w1 := w') (v := v201) (by rfl) rfl ?_ ?_
           ·go_simp
            (try simp only [i64_w])
            try rfl
           refine hK.out _ _ ⟨v144, v147, v150, v153, v156, v159, v162, v165, v168, v171, v174, v177, v180, v183, v186, v189, v192, v195, v198, v201, (v201), (by rw [ha.out]; exact putSel_upk 31 hb_ rfl rfl rfl), Q_HO_140004, Q_HO_140005, Q_BK139, Q_BK142, Q_HB, fun _ h1_ => absurd ((hon 35 (by kernel_rfl)).symm.trans h1_) (by decide), Q_HO148, fun _ h1_ => absurd ((hon 35 (by kernel_rfl)).symm.trans h1_) (by decide), Q_HO154, fun _ h1_ => absurd ((hon 35 (by kernel_rfl)).symm.trans h1_) (by decide), fun _ h1_ => absurd ((hon 13 (by kernel_rfl)).symm.trans h1_) (by decide), Q_HO163, Q_HO166, fun _ h1_ => absurd ((hon 35 (by kernel_rfl)).symm.trans h1_) (by decide), fun _ h1_ => absurd ((hon 23 (by kernel_rfl)).symm.trans h1_) (by decide), Q_HO175, Q_HO178, fun _ h1_ => absurd ((hon 35 (by kernel_rfl)).symm.trans h1_) (by decide), fun _ h1_ => absurd ((hon 32 (by kernel_rfl)).symm.trans h1_) (by decide), fun _ h1_ => absurd ((hon 32 (by kernel_rfl)).symm.trans h1_) (by decide), Q_HO190, Q_HO193, fun _ h1_ => absurd ((hon 35 (by kernel_rfl)).symm.trans h1_) (by decide), Q_HO199, Q_HO202, fun _ => rfl⟩
          refine steps_cons ?_ ?_
          ·rintro b a w' ⟨v144, v147, v150, v153, v156, v159, v162, v165, v168, v171, v174, v177, v180, v183, v186, v189, v192, v195, v198, v201, m37_, ha, Q_HO_140004, Q_HO_140005, Q_BK139, Q_BK142, Q_HB, Q_HO145, Q_HO148, Q_HO151, Q_HO154, Q_HO157, Q_HO160, Q_HO163, Q_HO166, Q_HO169, Q_HO172, Q_HO175, Q_HO178, Q_HO181, Q_HO184, Q_HO187, Q_HO190, Q_HO193, Q_HO196, Q_HO199, Q_HO202, Q_X37_⟩ hb_ hon hoff
           refine ⟨_, rfl, fun K hK => ?_⟩
           replace ha := Aside0.mk ha
           have HO_140004 := Aside0.mk Q_HO_140004
           have HO_140005 := Aside0.mk Q_HO_140005
           have BK139 := Aside0.mk Q_BK139
           have BK142 := Aside0.mk Q_BK142
           have HB := Aside0.mk Q_HB
           have HO148 := Aside0.mk (Q_HO148 (hon 1 (by kernel_rfl)))
           have HO154 := Aside0.mk (Q_HO154 (hon 4 (by kernel_rfl)))
           have HO163 := Aside0.mk (Q_HO163 (hon 13 (by kernel_rfl)))
           have HO166 := Aside0.mk (Q_HO166 (hon 14 (by kernel_rfl)))
           have HO175 := Aside0.mk (Q_HO175 (hon 23 (by kernel_rfl)))
           have HO178 := Aside0.mk (Q_HO178 (hon 24 (by kernel_rfl)))
           have HO190 := Aside0.mk (Q_HO190 (hon 32 (by kernel_rfl)))
           have HO193 := Aside0.mk (Q_HO193 (hon 33 (by kernel_rfl)))
           have HO199 := Aside0.mk (Q_HO199 (hon 35 (by kernel_rfl)))
           have HO202 := Aside0.mk (Q_HO202 (hon 36 (by kernel_rfl)))
           refine value_ (w1 := w') (v := .int .i64 0) (by rfl) rfl ?_ ?_
           ·go_simp
            (try simp only [i64_w])
            try rfl
           refine hK.out _ _ ⟨v144, v147, v150, v153, v156, v159, v162, v165, v168, v171, v174, v177, v180, v183, v186, v189, v192, v195, v198, v201, m37_, (by rw [ha.out]; exact putSel_upk 32 hb_ rfl rfl rfl), Q_HO_140004, Q_HO_140005, Q_BK139, Q_BK142, Q_HB, fun _ h1_ => absurd ((hon 35 (by kernel_rfl)).symm.trans h1_) (by decide), Q_HO148, fun _ h1_ => absurd ((hon 35 (by kernel_rfl)).symm.trans h1_) (by decide), Q_HO154, fun _ h1_ => absurd ((hon 35 (by kernel_rfl)).symm.trans h1_) (by decide), fun _ h1_ => absurd ((hon 13 (by kernel_rfl)).symm.trans h1_) (by decide), Q_HO163, Q_HO166, fun _ h1_ => absurd ((hon 35 (by kernel_rfl)).symm.trans h1_) (by decide), fun _ h1_ => absurd ((hon 23 (by kernel_rfl)).symm.trans h1_) (by decide), Q_HO175, Q_HO178, fun _ h1_ => absurd ((hon 35 (by kernel_rfl)).symm.trans h1_) (by decide), fun _ h1_ => absurd ((hon 32 (by kernel_rfl)).symm.trans h1_) (by decide), fun _ h1_ => absurd ((hon 32 (by kernel_rfl)).symm.trans h1_) (by decide), Q_HO190, Q_HO193, fun _ h1_ => absurd ((hon 35 (by kernel_rfl)).symm.trans h1_) (by decide), Q_HO199, Q_HO202, Q_X37_⟩
          exact steps_nil
         rintro b a w85 hall ⟨v144, v147, v150, v153, v156, v159, v162, v165, v168, v171, v174, v177, v180, v183, v186, v189, v192, v195, v198, v201, m37_, ha, Q_HO_140004, Q_HO_140005, Q_BK139, Q_BK142, Q_HB, Q_HO145, Q_HO148, Q_HO151, Q_HO154, Q_HO157, Q_HO160, Q_HO163, Q_HO166, Q_HO169, Q_HO172, Q_HO175, Q_HO178, Q_HO181, Q_HO184, Q_HO187, Q_HO190, Q_HO193, Q_HO196, Q_HO199, Q_HO202, Q_X37_⟩
         clear BK139 BK142 HB HO_140004 HO_140005
         have hb0_ := hall 0 (by kernel_rfl)
         have hb1_ := hall 1 (by kernel_rfl)
         have hb2_ := hall 2 (by kernel_rfl)
         have hb3_ := hall 3 (by kernel_rfl)
         have hb4_ := hall 4 (by kernel_rfl)
         have hb5_ := hall 5 (by kernel_rfl)
         have hb7_ := hall 7 (by kernel_rfl)
         have hb8_ := hall 8 (by kernel_rfl)
         have hb9_ := hall 9 (by kernel_rfl)
         have hb10_ := hall 10 (by kernel_rfl)
         have hb12_ := hall 12 (by kernel_rfl)
         have hb13_ := hall 13 (by kernel_rfl)
         have hb14_ := hall 14 (by kernel_rfl)
         have hb15_ := hall 15 (by kernel_rfl)
         have hb17_ := hall 17 (by kernel_rfl)
         have hb18_ := hall 18 (by kernel_rfl)
         have hb19_ := hall 19 (by kernel_rfl)
         have hb20_ := hall 20 (by kernel_rfl)
         have hb22_ := hall 22 (by kernel_rfl)
         have hb23_ := hall 23 (by kernel_rfl)
         have hb24_ := hall 24 (by kernel_rfl)
         have hb25_ := hall 25 (by kernel_rfl)
         have hb27_ := hall 27 (by kernel_rfl)
         have hb28_ := hall 28 (by kernel_rfl)
         have hb30_ := hall 30 (by kernel_rfl)
         have hb31_ := hall 31 (by kernel_rfl)
         have hb32_ := hall 32 (by kernel_rfl)
         have hb33_ := hall 33 (by kernel_rfl)
         have hb34_ := hall 34 (by kernel_rfl)
         have hb35_ := hall 35 (by kernel_rfl)
         have hb36_ := hall 36 (by kernel_rfl)
         have hb37_ := hall 37 (by kernel_rfl)
         have hb38_ := hall 38 (by kernel_rfl)
         subst ha
         obtain rfl := Q_X37_ hb37_
         simp only [putSel, hb0_, hb1_, hb2_, hb3_, hb4_, hb5_, hb7_, hb8_, hb9_, hb10_, hb12_, hb13_, hb14_, hb15_, hb17_, hb18_, hb19_, hb20_, hb22_, hb23_, hb24_, hb25_, hb27_, hb28_, hb30_, hb31_, hb32_, hb33_, hb34_, hb35_, hb36_, hb37_, hb38_, if_true, Act.put, zA_, zB_, zC_]
         have HO_140004 := Aside0.mk Q_HO_140004
         clear Q_HO_140004
         have HO_140005 := Aside0.mk Q_HO_140005
         clear Q_HO_140005
         have BK139 := Aside0.mk Q_BK139
         clear Q_BK139
         have BK142 := Aside0.mk Q_BK142
         clear Q_BK142
         have HB := Aside0.mk Q_HB
         clear Q_HB
         clear Q_HO145
         have HO148 := Aside0.mk (Q_HO148 hb1_)
         clear Q_HO148
         clear Q_HO151
         have HO154 := Aside0.mk (Q_HO154 hb4_)
         clear Q_HO154
         clear Q_HO157
         clear Q_HO160
         have HO163 := Aside0.mk (Q_HO163 hb13_)
         clear Q_HO163
         have HO166 := Aside0.mk (Q_HO166 hb14_)
         clear Q_HO166
         clear Q_HO169
         clear Q_HO172
         have HO175 := Aside0.mk (Q_HO175 hb23_)
         clear Q_HO175
         have HO178 := Aside0.mk (Q_HO178 hb24_)
         clear Q_HO178
         clear Q_HO181
         clear Q_HO184
         clear Q_HO187
         have HO190 := Aside0.mk (Q_HO190 hb32_)
         clear Q_HO190
         have HO193 := Aside0.mk (Q_HO193 hb33_)
         clear Q_HO193
         clear Q_HO196
         have HO199 := Aside0.mk (Q_HO199 hb35_)
         clear Q_HO199
         have HO202 := Aside0.mk (Q_HO202 hb36_)
         clear Q_HO202
         clear hall hb0_ hb1_ hb2_ hb3_ hb4_ hb5_ hb7_ hb8_ hb9_ hb10_ hb12_ hb13_ hb14_ hb15_ hb17_ hb18_ hb19_ hb20_ hb22_ hb23_ hb24_ hb25_ hb27_ hb28_ hb30_ hb31_ hb32_ hb33_ hb34_ hb35_ hb36_ hb37_ hb38_
         try go_wp2
         go_ret2
         exact ⟨_, by first | rfl | (simp [errW_none, errW_some] <;> rfl) | (simp [*, errW_none, errW_some] <;> rfl), by exact Kd.R_mono HO202.out (fun _ hk => (by first | exact hk.1 | exact hk | exact hk.1 | exact hk.1.1 | exact hk.1.1.1 | omega)), by repeat (first | (with_reducible first | exact HB.out | apply below_alloc | apply pw_below_drewN | apply below_drew1 | refine below_set ?_ GE139.out | refine below_set ?_ GE142.out) | exact HB.out)⟩

end Go.Proofs.Ytpdihhfeekoplaa.B
