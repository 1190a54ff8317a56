/- MailPlays: a step of the law, the kind 'pour', place 0. -/
import Derived.Test.YtofemimgjcjpdaaTwo
import Derived.Deep.RegionHeld3
namespace Go.Proofs.Ytofemimgjcjpdaa.H
open Go.Conc Go.RowKit Go.Shelf
open Go.Proofs.YtofemimgjcjpdaaW.PrintWords (ReadsInt below_alloc pw_cell_below below_step readsInt_of)
set_option linter.unusedVariables false
set_option linter.unusedSimpArgs false

set_option maxHeartbeats 4000000 in
set_option maxRecDepth 100000 in
theorem step_pour0 (w W : World) (Q X k1 k2 g c g2 c2 : Nat) (xs ys : List Int) (s s2 : Bool) (v1 v2 : Value) (K Z : Int) (B : Bool) (hK : K = 8)
    (D : Hid (Duo k1 k2 w g c xs s g2 c2 ys s2 (W.alloc (Obj.cells #[.int .i64 K, .int .i64 Z, .bool B] 33)))) (H : Hid (Xs w Q X W.heap.size k1 k2 g g2 K Z B xs ys s s2 v1 v2 (W.alloc (Obj.cells #[.int .i64 K, .int .i64 Z, .bool B] 33))))
    (lx : xs.length ≤ k1) (ly : ys.length ≤ k2) (l1 : k1 ≤ 1024) (l2 : k2 ≤ 1024) :
    Calls Try.prog 10 #[.slice (some ⟨Q, 0, none⟩) 2 2, .slice (some ⟨X, 0, none⟩) 2 2, .int .i64 0, .agg #[.int .i64 K, .int .i64 Z, .bool B]] W (StepP w Q X k1 k2 g c g2 c2) := by
  subst hK
  obtain ⟨N, hN⟩ : ∃ N, N = pourN xs k2 ys s2 := ⟨_, rfl⟩
  have hNx : N ≤ xs.length := by rw [hN]; unfold pourN; split <;> omega
  have hNk : N ≤ k2 - ys.length := by rw [hN]; unfold pourN; split <;> omega
  have HN := Lib.hid hN
  clear hN
  have cq0 := (cell_of H.out.q 0).trans rfl; have cq1 := (cell_of H.out.q 1).trans rfl; have co0 := cell_of H.out.o 0; have co1 := cell_of H.out.o 1
  go_enter Try.func10, Try.ntmps10
  go_wp2_with fail
  have DD := Lib.hid (D.out.later bdr)
  have ew1 : IntKind.i64.wrap 1 = 1 := by decide
  have ew0 : IntKind.i64.wrap 0 = 0 := by decide
  go_region_held3 (fun w' => w'.cell? ⟨Q, 0, none⟩ = some (.pointer (some ⟨g, 0, none⟩)) ∧ w'.cell? ⟨Q, 1, none⟩ = some (.pointer (some ⟨g2, 0, none⟩))) (first | exact ⟨cq0, cq1⟩ | exact ⟨eq0, eq1⟩ | go_keep) (first | (go_at_call 20; refine (pour_any _ g c k1 xs s g2 c2 k2 ys s2 DD.out.q DD.out.q2 (by first | exact D.out.hg | exact D.out.hg.symm) (by first | exact D.out.hc | exact D.out.hc.symm) (by omega) (by omega) (by omega)).mono ?_; rintro e w1 ⟨rfl, hq, hq2, ht⟩; rw [← HN.out] at hq hq2 ⊢; have D1 := Lib.hid (DD.out.both hq hq2 ht (fun i h => by omega)); have H1 := Lib.hid ((H.out.later bdr).turn ht (fun i cells u fr h e => by rcases h with rfl | rfl; exact DD.out.q.ty (.inl rfl) e; exact DD.out.q2.ty (.inl rfl) e)); clear hq hq2 ht; have eq0 := (cell_of H1.out.q 0).trans rfl; have eq1 := (cell_of H1.out.q 1).trans rfl))
  clear cq0 cq1 co0 co1 eq0 eq1
  clear DD D H
  have cx0 : w1.cell? ⟨X, 0, none⟩ = some (v1) := cell_of H1.out.x 0; have cx1 : w1.cell? ⟨X, 1, none⟩ = some (.int .i64 k1) := cell_of H1.out.x 1; have cx2 : w1.cell? ⟨X, 2, none⟩ = some (.bool s) := cell_of H1.out.x 2; have cx3 : w1.cell? ⟨X, 3, none⟩ = some (v2) := cell_of H1.out.x 3; have cx4 : w1.cell? ⟨X, 4, none⟩ = some (.int .i64 k2) := cell_of H1.out.x 4; have cx5 : w1.cell? ⟨X, 5, none⟩ = some (.bool s2) := cell_of H1.out.x 5
  have hX := (Array.getElem?_eq_some_iff.1 H1.out.x).1
  have n0 : ¬ w1.heap.size = X := by omega
  have n1 : ¬ w1.heap.size + 1 = X := by omega
  go_wp2_with fail
  go_cut [27, 28, 29] (fun v27 v28 v29 wx => ∃ b1 b2 A3 l3 c3 A4 l4 c4, v27 = .pointer (some ⟨b1, 0, none⟩) ∧ v28 = .pointer (some ⟨b2, 0, none⟩) ∧ v29 = .int .i64 N ∧ LL w1 k1 k2 s s2 (xs.drop N) (ys ++ xs.take N) A3 l3 c3 A4 l4 c4 (some b1) (some b2) true true true wx)
  case first =>
    go_region_held3 (fun w' => w'.cell? ⟨X, 0, none⟩ = some (v1) ∧ w'.cell? ⟨X, 1, none⟩ = some (.int .i64 k1) ∧ w'.cell? ⟨X, 2, none⟩ = some (.bool s) ∧ w'.cell? ⟨X, 3, none⟩ = some (v2) ∧ w'.cell? ⟨X, 4, none⟩ = some (.int .i64 k2) ∧ w'.cell? ⟨X, 5, none⟩ = some (.bool s2)) (repeat (first | with_reducible exact six_drew ⟨cx0, cx1, cx2, cx3, cx4, cx5⟩ | with_reducible exact ⟨cx0, cx1, cx2, cx3, cx4, cx5⟩ | with_reducible exact ⟨ex0, ex1, ex2, ex3, ex4, ex5⟩ | with_reducible assumption | with_reducible refine six_set ?_ (by assumption) | with_reducible refine six_alloc ?_ | with_reducible refine six_drew ?_)) (first | (go_at_call 26; refine (rpour _ v1 v2 k1 k2 xs ys s s2 ?_ ?_ (by omega) (by omega) (by omega)).mono ?_; exact H1.out.r1.stay (Stay.of_below (by repeat (first | exact Below.refl _ _ | refine Below.drew ?_ | refine below_alloc ?_ _))); exact H1.out.r2.stay (Stay.of_below (by repeat (first | exact Below.refl _ _ | refine Below.drew ?_ | refine below_alloc ?_ _))); rintro e w2 ⟨va, vb, rfl, hr1, hr2, hb⟩; rw [← HN.out] at hr1 hr2 ⊢; obtain ⟨A3, l3, c3, rfl⟩ := hr1.form; obtain ⟨A4, l4, c4, rfl⟩ := hr2.form; have HB := Lib.hid hb; have R1 := Lib.hid hr1; have R2 := Lib.hid hr2; clear hb hr1 hr2; have hw1 : Below w1.heap.size w1 w2 := (Below.trans (by repeat (first | exact Below.refl _ _ | refine Below.drew ?_ | refine below_alloc ?_ _)) (HB.out.mono (Below.size (B := w1.heap.size) (by repeat (first | exact Below.refl _ _ | refine Below.drew ?_ | refine below_alloc ?_ _))))); have HX := Lib.hid (H1.out.later hw1).x; have hX2 := (Array.getElem?_eq_some_iff.1 HX.out).1; clear hw1; have m0 : ¬ w2.heap.size = X := (by omega); have m1 : ¬ w2.heap.size + 1 = X := (by omega); have ex0 : w2.cell? ⟨X, 0, none⟩ = some (v1) := cell_of HX.out 0; have ex1 : w2.cell? ⟨X, 1, none⟩ = some (.int .i64 k1) := cell_of HX.out 1; have ex2 : w2.cell? ⟨X, 2, none⟩ = some (.bool s) := cell_of HX.out 2; have ex3 : w2.cell? ⟨X, 3, none⟩ = some (v2) := cell_of HX.out 3; have ex4 : w2.cell? ⟨X, 4, none⟩ = some (.int .i64 k2) := cell_of HX.out 4; have ex5 : w2.cell? ⟨X, 5, none⟩ = some (.bool s2) := cell_of HX.out 5; clear cx0 cx1 cx2 cx3 cx4 cx5; (first | ((with_reducible have hz := two_ahead0 HB.out); (with_reducible have hu := two_ahead1 HB.out); obtain ⟨p1, hp1⟩ : ∃ p1, p1 = w1.heap.size + 1 := ⟨_, rfl⟩; rw [← hp1] at hu n1 ⊢; have q1 : ¬ w1.heap.size = p1 := (by omega); have q2 : ¬ p1 = w1.heap.size := (by omega); have P1 := Lib.hid hp1; clear hp1; have z0 := cell_of hz 0; have z1 := cell_of hz 1; have z2 := cell_of hz 2; have y0 := froz_of hz 0; have y1 := froz_of hz 1; have y2 := froz_of hz 2; have t0 := cell_of hu 0; have t1 := cell_of hu 1; have t2 := cell_of hu 2; have r0 := froz_of hu 0; have r1 := froz_of hu 1; have r2 := froz_of hu 2; clear hz hu) | ((with_reducible have hz := one_ahead HB.out); have q12 := (Array.getElem?_eq_some_iff.1 hz).1; have q12n : ¬ w1.heap.size = w2.heap.size := (by omega); have q12m : ¬ w2.heap.size = w1.heap.size := (by omega); have z0 := cell_of hz 0; have z1 := cell_of hz 1; have z2 := cell_of hz 2; have y0 := froz_of hz 0; have y1 := froz_of hz 1; have y2 := froz_of hz 2; clear hz) | skip)))
    all_goals
      go_wp2_with fail
      go_meet
      case rel => first | with_reducible exact ⟨_, _, _, _, _, _, _, _, rfl, rfl, rfl, LL.e1 HB.out R1.out R2.out⟩ | with_reducible exact ⟨_, _, _, _, _, _, _, _, rfl, rfl, rfl, LL.e2 HB.out R1.out R2.out⟩ | with_reducible exact ⟨_, _, _, _, _, _, _, _, rfl, rfl, rfl, LL.e3 HB.out R1.out R2.out⟩ | with_reducible exact ⟨_, _, _, _, _, _, _, _, rfl, rfl, rfl, LL.e4 P1.out HB.out R1.out R2.out⟩ | with_reducible exact ⟨_, _, _, _, _, _, _, _, rfl, rfl, rfl, LL.e5 HB.out R1.out R2.out⟩ | with_reducible exact ⟨_, _, _, _, _, _, _, _, rfl, rfl, rfl, LL.e6 P1.out HB.out R1.out R2.out⟩
  case rest =>
    obtain ⟨b1, b2, A3, l3, c3, A4, l4, c4, rfl, rfl, rfl, hl⟩ := hcut
    clear cx0 cx1 cx2 cx3 cx4 cx5
    have D2 := Lib.hid (D1.out.later hl.b)
    have H2 := Lib.hid (H1.out.later hl.b)
    have R3 := Lib.hid (hl.r1 rfl)
    have R4 := Lib.hid (hl.r2 rfl)
    have zb : Hid (w1.heap.size ≤ b1) := Lib.hid (hl.h1 b1 rfl).1
    have zd : Hid (w1.heap.size ≤ b2) := Lib.hid (hl.h2 b2 rfl).1
    have hb1 := (hl.h1 b1 rfl).2
    have hb2 := (hl.h2 b2 rfl).2
    rw [if_pos rfl] at hb1 hb2
    have ne1 : ¬ b1 = X := by have := zb.out; omega
    have ne2 : ¬ b2 = X := by have := zd.out; omega
    have ne3 : ¬ X = b1 := fun e => ne1 e.symm
    have ne4 : ¬ X = b2 := fun e => ne2 e.symm
    clear hX n0 n1 D1 H1
    have cb0 := cell_of hb1 0; have cd0 := cell_of hb2 0; have cb1 := cell_of hb1 1; have cd1 := cell_of hb2 1; have cb2 := cell_of hb1 2; have cd2 := cell_of hb2 2
    clear hb1 hb2 hl
    have cx0 := cell_of H2.out.x 0; have cx1 := cell_of H2.out.x 1; have cx2 := cell_of H2.out.x 2; have cx3 := cell_of H2.out.x 3; have cx4 := cell_of H2.out.x 4; have cx5 := cell_of H2.out.x 5; have fx0 := froz_of H2.out.x 0; have fx1 := froz_of H2.out.x 1; have fx2 := froz_of H2.out.x 2; have fx3 := froz_of H2.out.x 3; have fx4 := froz_of H2.out.x 4; have fx5 := froz_of H2.out.x 5
    rename_i Ka ka Kb kb
    refine kb _ _ ?_
    clear kb Kb
    go_wp2_with fail
    go_region
    all_goals
      go_wp2_with fail
      have H3 := Lib.hid (H2.out.put1 (s' := s) R3.out)
      have S3 := Lib.hid (Stay.of_turn (turn3 _ X 0 1 2 (.slice A3 l3 c3) (.int .i64 k1) (.bool s)) (fun i hi => by subst hi; exact no3_of H2.out.x (by decide)))
      have D3 := Lib.hid (D2.out.off H2.out.x H2.out.X0 (turn3 _ X 0 1 2 (.slice A3 l3 c3) (.int .i64 k1) (.bool s)))
      have H4 := Lib.hid (H3.out.put2 (s2' := s2) (R4.out.stay S3.out))
      have D4 := Lib.hid (D3.out.off H3.out.x H3.out.X0 (turn3 _ X 3 4 5 (.slice A4 l4 c4) (.int .i64 k2) (.bool s2)))
      go_ret
      exact ⟨rfl, _, _, _, _, _, _, D4.out.later bdr, (by simp; omega), (by simp; omega), (H4.out.later bdr).q, (H4.out.later bdr).x, (H4.out.later bdr).r1, (H4.out.later bdr).r2, H4.out.X0⟩
end Go.Proofs.Ytofemimgjcjpdaa.H
