/- MailPlays: a step of the law, the kind 'put2'. -/
import Derived.Test.YtofemimgjcjpdaaLaid
namespace Go.Proofs.Ytofemimgjcjpdaa.H
open Go.Conc Go.RowKit Go.Shelf
open Go.Proofs.YtofemimgjcjpdaaW.PrintWords (ReadsInt below_alloc pw_cell_below below_step readsInt_of)
set_option linter.unusedVariables false
set_option linter.unusedSimpArgs false

set_option maxHeartbeats 4000000 in
set_option maxRecDepth 100000 in
theorem step_put2_0 (w W : World) (Q X k1 k2 g c g2 c2 : Nat) (xs ys : List Int) (s s2 : Bool) (v1 v2 : Value) (K Z : Int) (B : Bool) (hK : K = 2)
    (D : Hid (Duo k1 k2 w g c xs s g2 c2 ys s2 (W.alloc (Obj.cells #[.int .i64 K, .int .i64 Z, .bool B] 33)))) (H : Hid (Xs w Q X W.heap.size k1 k2 g g2 K Z B xs ys s s2 v1 v2 (W.alloc (Obj.cells #[.int .i64 K, .int .i64 Z, .bool B] 33))))
    (lx : xs.length ≤ k1) (ly : ys.length ≤ k2) (l1 : k1 ≤ 1024) (l2 : k2 ≤ 1024) :
    Calls Try.prog 10 #[.slice (some ⟨Q, 0, none⟩) 2 2, .slice (some ⟨X, 0, none⟩) 2 2, .int .i64 0, .agg #[.int .i64 K, .int .i64 Z, .bool B]] W (StepP w Q X k1 k2 g c g2 c2) := by
  subst hK
  all_goals
    have cx0 := cell_of H.out.x 0; have cx1 := cell_of H.out.x 1; have cx2 := cell_of H.out.x 2; have co0 := cell_of H.out.o 0; have co1 := cell_of H.out.o 1
    go_enter Try.func10, Try.ntmps10
    go_wp2_with fail
    go_cut [9, 10] (fun v9 v10 wx => v10 = .int .i64 (putE k1 xs s) ∧ Laid (W.alloc (Obj.cells #[.int .i64 2, .int .i64 Z, .bool B] 33)) k1 s (putQ k1 xs s Z) v9 wx)
    case first =>
      have HA := Lib.hid (H.out.later ((Below.refl _ _).alloc (Nat.le_refl _) (Obj.cells #[.slice none 0 0, .int .i64 0, .bool false] 29)))
      clear co0
      have cx0a := cell_of HA.out.x 0; have cx1a := cell_of HA.out.x 1; have cx2a := cell_of HA.out.x 2; have co1a := cell_of HA.out.o 1
      go_region_with (go_at_call 24; refine (rput _ v1 k1 xs s Z ?_ (by omega)).mono ?_; exact H.out.r1.stay (Stay.of_below (by first | exact bdr | exact bda | exact bad)); rintro e w1 ⟨v3, rfl, hr3, hb3⟩; obtain ⟨A3, l3, c3, rfl⟩ := hr3.form; have HB := Lib.hid hb3; have HR := Lib.hid hr3; clear hb3 hr3; try (have hz := ahead_blk (n := W.heap.size + 1) (by rw [size_alloc']) HB.out; have z0 := cell_of hz 0; have z1 := cell_of hz 1; have z2 := cell_of hz 2; have y0 := froz_of hz 0; have y1 := froz_of hz 1; have y2 := froz_of hz 2))
      all_goals
        go_wp2_with fail
        go_meet
        case rel => first | exact ⟨rfl, laid_behind bdr HB.out HR.out⟩ | exact ⟨rfl, laid_ahead (by rw [size_alloc']) HB.out HR.out⟩
    case rest =>
      obtain ⟨rfl, b, A3, l3, c3, rfl, hr3, hb, hbw⟩ := hcut
      clear co0 co1 cx0 cx1 cx2
      have D1 := Lib.hid (D.out.later hbw)
      have H1 := Lib.hid (H.out.later hbw)
      have R3 := Lib.hid hr3
      have H2 := Lib.hid (H1.out.put1 (s' := s) R3.out)
      have D2 := Lib.hid (D1.out.off H1.out.x H1.out.X0 (turn3 _ X 0 1 2 (.slice A3 l3 c3) (.int .i64 k1) (.bool s)))
      clear hr3 hbw D H
      have cb0 := cell_of hb 0; have cb1 := cell_of hb 1; have cb2 := cell_of hb 2
      clear hb
      have cx0 := cell_of H1.out.x 0; have cx1 := cell_of H1.out.x 1; have cx2 := cell_of H1.out.x 2; have fx0 := froz_of H1.out.x 0; have fx1 := froz_of H1.out.x 1; have fx2 := froz_of H1.out.x 2
      have cq0y := cell_of H2.out.q 0; have co1y := cell_of H2.out.o 1
      rename_i Ka ka Kb kb
      refine kb _ _ ?_
      clear kb Kb
      go_wp2_with fail
      go_region_with (go_at_call 17; refine (put_any _ g c k1 xs s Z (D2.out.later bdr).q).mono ?_; rintro e w2 ⟨rfl, hq2, ht2⟩; have D3 := Lib.hid ((D2.out.later bdr).first hq2 ht2 (fun _ h => .inl h)); have H3 := Lib.hid ((H2.out.later bdr).turn ht2 (fun i cells u fr h e => by subst h; exact (D2.out.later bdr).q.ty (.inl rfl) e)); clear hq2 ht2)
      all_goals
        go_wp2_with fail
        go_ret
        exact ⟨rfl, ⟨_, _, _, _, _, _, D3.out, putQ_le lx, ly, H3.out.q, H3.out.x, H3.out.r1, H3.out.r2, H3.out.X0⟩⟩
end Go.Proofs.Ytofemimgjcjpdaa.H
