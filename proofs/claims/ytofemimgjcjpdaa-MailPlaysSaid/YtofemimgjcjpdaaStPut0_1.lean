/- MailPlays: a step of the law, the kind 'put0'. -/
import Derived.Test.YtofemimgjcjpdaaLaid
namespace Go.Proofs.Ytofemimgjcjpdaa.H
open Go.Conc Go.RowKit Go.Shelf
open Go.Proofs.YtofemimgjcjpdaaW.PrintWords (ReadsInt below_alloc pw_cell_below below_step readsInt_of)
set_option linter.unusedVariables false
set_option linter.unusedSimpArgs false

set_option maxHeartbeats 4000000 in
set_option maxRecDepth 100000 in
theorem step_put0_1 (w W : World) (Q X k1 k2 g c g2 c2 : Nat) (xs ys : List Int) (s s2 : Bool) (v1 v2 : Value) (K Z : Int) (B : Bool) (hK : K = 0)
    (D : Hid (Duo k1 k2 w g c xs s g2 c2 ys s2 (W.alloc (Obj.cells #[.int .i64 K, .int .i64 Z, .bool B] 33)))) (H : Hid (Xs w Q X W.heap.size k1 k2 g g2 K Z B xs ys s s2 v1 v2 (W.alloc (Obj.cells #[.int .i64 K, .int .i64 Z, .bool B] 33))))
    (lx : xs.length ≤ k1) (ly : ys.length ≤ k2) (l1 : k1 ≤ 1024) (l2 : k2 ≤ 1024) :
    Calls Try.prog 10 #[.slice (some ⟨Q, 0, none⟩) 2 2, .slice (some ⟨X, 0, none⟩) 2 2, .int .i64 1, .agg #[.int .i64 K, .int .i64 Z, .bool B]] W (StepP w Q X k1 k2 g c g2 c2) := by
  subst hK
  all_goals
    have cx3 := cell_of H.out.x 3; have cx4 := cell_of H.out.x 4; have cx5 := cell_of H.out.x 5; have co0 := cell_of H.out.o 0; have co1 := cell_of H.out.o 1
    go_enter Try.func10, Try.ntmps10
    go_wp2_with fail
    go_cut [9, 10] (fun v9 v10 wx => v10 = .int .i64 (putE k2 ys s2) ∧ Laid (W.alloc (Obj.cells #[.int .i64 0, .int .i64 Z, .bool B] 33)) k2 s2 (putQ k2 ys s2 Z) v9 wx)
    case first =>
      have HA := Lib.hid (H.out.later ((Below.refl _ _).alloc (Nat.le_refl _) (Obj.cells #[.slice none 0 0, .int .i64 0, .bool false] 29)))
      clear co0
      have cx3a := cell_of HA.out.x 3; have cx4a := cell_of HA.out.x 4; have cx5a := cell_of HA.out.x 5; have co1a := cell_of HA.out.o 1
      go_region_with (go_at_call 24; refine (rput _ v2 k2 ys s2 Z ?_ (by omega)).mono ?_; exact H.out.r2.stay (Stay.of_below (by first | exact bdr | exact bda | exact bad)); rintro e w1 ⟨v3, rfl, hr3, hb3⟩; obtain ⟨A3, l3, c3, rfl⟩ := hr3.form; have HB := Lib.hid hb3; have HR := Lib.hid hr3; clear hb3 hr3; try (have hz := ahead_blk (n := W.heap.size + 1) (by rw [size_alloc']) HB.out; have z0 := cell_of hz 0; have z1 := cell_of hz 1; have z2 := cell_of hz 2; have y0 := froz_of hz 0; have y1 := froz_of hz 1; have y2 := froz_of hz 2))
      all_goals
        go_wp2_with fail
        go_meet
        case rel => first | exact ⟨rfl, laid_behind bdr HB.out HR.out⟩ | exact ⟨rfl, laid_ahead (by rw [size_alloc']) HB.out HR.out⟩
    case rest =>
      obtain ⟨rfl, b, A3, l3, c3, rfl, hr3, hb, hbw⟩ := hcut
      clear co0 co1 cx3 cx4 cx5
      have D1 := Lib.hid (D.out.later hbw)
      have H1 := Lib.hid (H.out.later hbw)
      have R3 := Lib.hid hr3
      have H2 := Lib.hid (H1.out.put2 (s2' := s2) R3.out)
      have D2 := Lib.hid (D1.out.off H1.out.x H1.out.X0 (turn3 _ X 3 4 5 (.slice A3 l3 c3) (.int .i64 k2) (.bool s2)))
      clear hr3 hbw D H
      have cb0 := cell_of hb 0; have cb1 := cell_of hb 1; have cb2 := cell_of hb 2
      clear hb
      have cx3 := cell_of H1.out.x 3; have cx4 := cell_of H1.out.x 4; have cx5 := cell_of H1.out.x 5; have fx3 := froz_of H1.out.x 3; have fx4 := froz_of H1.out.x 4; have fx5 := froz_of H1.out.x 5
      have cq1y := cell_of H2.out.q 1; have co1y := cell_of H2.out.o 1
      rename_i Ka ka Kb kb
      refine kb _ _ ?_
      clear kb Kb
      go_wp2_with fail
      go_region_with (go_at_call 17; refine (put_any _ g2 c2 k2 ys s2 Z (D2.out.later bdr).q2).mono ?_; rintro e w2 ⟨rfl, hq2, ht2⟩; have D3 := Lib.hid ((D2.out.later bdr).second hq2 ht2 (fun _ h => .inl h)); have H3 := Lib.hid ((H2.out.later bdr).turn ht2 (fun i cells u fr h e => by subst h; exact (D2.out.later bdr).q2.ty (.inl rfl) e)); clear hq2 ht2)
      all_goals
        go_wp2_with fail
        go_ret
        exact ⟨rfl, ⟨_, _, _, _, _, _, D3.out, lx, putQ_le ly, H3.out.q, H3.out.x, H3.out.r1, H3.out.r2, H3.out.X0⟩⟩
end Go.Proofs.Ytofemimgjcjpdaa.H
