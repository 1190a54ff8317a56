/- MailPlays: a step of the law, the kind 'get'. -/
/- MailPlays: a step of the law, the kind 'shut'. -/
/- MailPlays: a step of the law, the kind 'other'. -/
/- MailPlays: a step of the law, the kind 'take'. -/
/- MailPlays: a step of the law, the kind 'first'. -/
import Derived.Test.YtofemimgjcjpdaaPlay
import Derived.Test.YtofemimgjcjpdaaCut
namespace Go.Proofs.Ytofemimgjcjpdaa.H
open Go.Conc Go.RowKit Go.Shelf
open Go.Proofs.YtofemimgjcjpdaaW.PrintWords (ReadsInt below_alloc pw_cell_below below_step readsInt_of)
set_option linter.unusedVariables false
set_option linter.unusedSimpArgs false

set_option maxHeartbeats 4000000 in
set_option maxRecDepth 100000 in
theorem step_get0 (w W : World) (Q X k1 k2 g c g2 c2 : Nat) (xs ys : List Int) (s s2 : Bool) (v1 v2 : Value) (K Z : Int) (B : Bool) (hK : K = 3 ∨ K = 4)
    (D : Hid (Duo k1 k2 w g c xs s g2 c2 ys s2 (W.alloc (Obj.cells #[.int .i64 K, .int .i64 Z, .bool B] 33)))) (H : Hid (Xs w Q X W.heap.size k1 k2 g g2 K Z B xs ys s s2 v1 v2 (W.alloc (Obj.cells #[.int .i64 K, .int .i64 Z, .bool B] 33))))
    (lx : xs.length ≤ k1) (ly : ys.length ≤ k2) (l1 : k1 ≤ 1024) (l2 : k2 ≤ 1024) :
    Calls Try.prog 10 #[.slice (some ⟨Q, 0, none⟩) 2 2, .slice (some ⟨X, 0, none⟩) 2 2, .int .i64 0, .agg #[.int .i64 K, .int .i64 Z, .bool B]] W (StepP w Q X k1 k2 g c g2 c2) := by
  rcases hK with rfl | rfl
  all_goals
    have cx0 := cell_of H.out.x 0; have cx1 := cell_of H.out.x 1; have cx2 := cell_of H.out.x 2; have cx3 := cell_of H.out.x 3; have cx4 := cell_of H.out.x 4; have cx5 := cell_of H.out.x 5; have fx0 := froz_of H.out.x 0; have fx1 := froz_of H.out.x 1; have fx2 := froz_of H.out.x 2; have fx3 := froz_of H.out.x 3; have fx4 := froz_of H.out.x 4; have fx5 := froz_of H.out.x 5; have cq0 := cell_of H.out.q 0; have cq1 := cell_of H.out.q 1; have co0 := cell_of H.out.o 0; have co1 := cell_of H.out.o 1; have co2 := cell_of H.out.o 2
    go_enter Try.func10, Try.ntmps10
    go_wp2_with (first
      | (go_at_call 19; refine (get_any _ g c k1 xs s D.out.q).mono ?_; rintro e w1 ⟨rfl, hq2, ht2⟩; have D1 := Lib.hid (D.out.first hq2 ht2 (fun _ h => .inl h)); have H1 := Lib.hid (H.out.turn ht2 (fun i cells u fr h e => by subst h; exact D.out.q.ty (.inl rfl) e)); clear hq2 ht2; clear cx0 cx1 cx2 cx3 cx4 cx5 fx0 fx1 fx2 fx3 fx4 fx5 cq0 cq1 co0 co1 co2; have cx0 := cell_of H1.out.x 0; have cx1 := cell_of H1.out.x 1; have cx2 := cell_of H1.out.x 2; have cx3 := cell_of H1.out.x 3; have cx4 := cell_of H1.out.x 4; have cx5 := cell_of H1.out.x 5; have fx0 := froz_of H1.out.x 0; have fx1 := froz_of H1.out.x 1; have fx2 := froz_of H1.out.x 2; have fx3 := froz_of H1.out.x 3; have fx4 := froz_of H1.out.x 4; have fx5 := froz_of H1.out.x 5; have cq0 := cell_of H1.out.q 0; have cq1 := cell_of H1.out.q 1; have co0 := cell_of H1.out.o 0; have co1 := cell_of H1.out.o 1; have co2 := cell_of H1.out.o 2)
      | (go_at_call 25; refine (rget _ v1 k1 xs s H1.out.r1).mono ?_; rintro e w2 ⟨v3, rfl, hr3, hb3⟩; obtain ⟨A3, l3, c3, rfl⟩ := hr3.form; have D2 := Lib.hid ((D1.out.later hb3).later ((Below.refl _ _).alloc (Nat.le_refl _) (Obj.cells #[.slice A3 l3 c3, .int .i64 k1, .bool s] 29))); have H2 := Lib.hid ((H1.out.later hb3).later ((Below.refl _ _).alloc (Nat.le_refl _) (Obj.cells #[.slice A3 l3 c3, .int .i64 k1, .bool s] 29))); have R3 := Lib.hid (hr3.stay (Stay.of_below ((Below.refl _ _).alloc (Nat.le_refl _) (Obj.cells #[.slice A3 l3 c3, .int .i64 k1, .bool s] 29)))); clear hr3 hb3; clear cx0 cx1 cx2 cx3 cx4 cx5 fx0 fx1 fx2 fx3 fx4 fx5 cq0 cq1 co0 co1 co2; have cx0 := cell_of H2.out.x 0; have cx1 := cell_of H2.out.x 1; have cx2 := cell_of H2.out.x 2; have cx3 := cell_of H2.out.x 3; have cx4 := cell_of H2.out.x 4; have cx5 := cell_of H2.out.x 5; have fx0 := froz_of H2.out.x 0; have fx1 := froz_of H2.out.x 1; have fx2 := froz_of H2.out.x 2; have fx3 := froz_of H2.out.x 3; have fx4 := froz_of H2.out.x 4; have fx5 := froz_of H2.out.x 5; have cq0 := cell_of H2.out.q 0; have cq1 := cell_of H2.out.q 1; have co0 := cell_of H2.out.o 0; have co1 := cell_of H2.out.o 1; have co2 := cell_of H2.out.o 2; have H3 := Lib.hid (H2.out.put1 (s' := s) R3.out); have D3 := Lib.hid (D2.out.off H2.out.x H2.out.X0 (turn3 _ X 0 1 2 (.slice A3 l3 c3) (.int .i64 k1) (.bool s)))))
    go_ret
    exact ⟨rfl, ⟨_, _, _, _, _, _, D3.out, (by simp; omega), ly, H3.out.q, H3.out.x, H3.out.r1, H3.out.r2, H3.out.X0⟩⟩

set_option maxHeartbeats 4000000 in
set_option maxRecDepth 100000 in
theorem step_get1 (w W : World) (Q X k1 k2 g c g2 c2 : Nat) (xs ys : List Int) (s s2 : Bool) (v1 v2 : Value) (K Z : Int) (B : Bool) (hK : K = 3 ∨ K = 4)
    (D : Hid (Duo k1 k2 w g c xs s g2 c2 ys s2 (W.alloc (Obj.cells #[.int .i64 K, .int .i64 Z, .bool B] 33)))) (H : Hid (Xs w Q X W.heap.size k1 k2 g g2 K Z B xs ys s s2 v1 v2 (W.alloc (Obj.cells #[.int .i64 K, .int .i64 Z, .bool B] 33))))
    (lx : xs.length ≤ k1) (ly : ys.length ≤ k2) (l1 : k1 ≤ 1024) (l2 : k2 ≤ 1024) :
    Calls Try.prog 10 #[.slice (some ⟨Q, 0, none⟩) 2 2, .slice (some ⟨X, 0, none⟩) 2 2, .int .i64 1, .agg #[.int .i64 K, .int .i64 Z, .bool B]] W (StepP w Q X k1 k2 g c g2 c2) := by
  rcases hK with rfl | rfl
  all_goals
    have cx0 := cell_of H.out.x 0; have cx1 := cell_of H.out.x 1; have cx2 := cell_of H.out.x 2; have cx3 := cell_of H.out.x 3; have cx4 := cell_of H.out.x 4; have cx5 := cell_of H.out.x 5; have fx0 := froz_of H.out.x 0; have fx1 := froz_of H.out.x 1; have fx2 := froz_of H.out.x 2; have fx3 := froz_of H.out.x 3; have fx4 := froz_of H.out.x 4; have fx5 := froz_of H.out.x 5; have cq0 := cell_of H.out.q 0; have cq1 := cell_of H.out.q 1; have co0 := cell_of H.out.o 0; have co1 := cell_of H.out.o 1; have co2 := cell_of H.out.o 2
    go_enter Try.func10, Try.ntmps10
    go_wp2_with (first
      | (go_at_call 19; refine (get_any _ g2 c2 k2 ys s2 D.out.q2).mono ?_; rintro e w1 ⟨rfl, hq2, ht2⟩; have D1 := Lib.hid (D.out.second hq2 ht2 (fun _ h => .inl h)); have H1 := Lib.hid (H.out.turn ht2 (fun i cells u fr h e => by subst h; exact D.out.q2.ty (.inl rfl) e)); clear hq2 ht2; clear cx0 cx1 cx2 cx3 cx4 cx5 fx0 fx1 fx2 fx3 fx4 fx5 cq0 cq1 co0 co1 co2; have cx0 := cell_of H1.out.x 0; have cx1 := cell_of H1.out.x 1; have cx2 := cell_of H1.out.x 2; have cx3 := cell_of H1.out.x 3; have cx4 := cell_of H1.out.x 4; have cx5 := cell_of H1.out.x 5; have fx0 := froz_of H1.out.x 0; have fx1 := froz_of H1.out.x 1; have fx2 := froz_of H1.out.x 2; have fx3 := froz_of H1.out.x 3; have fx4 := froz_of H1.out.x 4; have fx5 := froz_of H1.out.x 5; have cq0 := cell_of H1.out.q 0; have cq1 := cell_of H1.out.q 1; have co0 := cell_of H1.out.o 0; have co1 := cell_of H1.out.o 1; have co2 := cell_of H1.out.o 2)
      | (go_at_call 25; refine (rget _ v2 k2 ys s2 H1.out.r2).mono ?_; rintro e w2 ⟨v3, rfl, hr3, hb3⟩; obtain ⟨A3, l3, c3, rfl⟩ := hr3.form; have D2 := Lib.hid ((D1.out.later hb3).later ((Below.refl _ _).alloc (Nat.le_refl _) (Obj.cells #[.slice A3 l3 c3, .int .i64 k2, .bool s2] 29))); have H2 := Lib.hid ((H1.out.later hb3).later ((Below.refl _ _).alloc (Nat.le_refl _) (Obj.cells #[.slice A3 l3 c3, .int .i64 k2, .bool s2] 29))); have R3 := Lib.hid (hr3.stay (Stay.of_below ((Below.refl _ _).alloc (Nat.le_refl _) (Obj.cells #[.slice A3 l3 c3, .int .i64 k2, .bool s2] 29)))); clear hr3 hb3; clear cx0 cx1 cx2 cx3 cx4 cx5 fx0 fx1 fx2 fx3 fx4 fx5 cq0 cq1 co0 co1 co2; have cx0 := cell_of H2.out.x 0; have cx1 := cell_of H2.out.x 1; have cx2 := cell_of H2.out.x 2; have cx3 := cell_of H2.out.x 3; have cx4 := cell_of H2.out.x 4; have cx5 := cell_of H2.out.x 5; have fx0 := froz_of H2.out.x 0; have fx1 := froz_of H2.out.x 1; have fx2 := froz_of H2.out.x 2; have fx3 := froz_of H2.out.x 3; have fx4 := froz_of H2.out.x 4; have fx5 := froz_of H2.out.x 5; have cq0 := cell_of H2.out.q 0; have cq1 := cell_of H2.out.q 1; have co0 := cell_of H2.out.o 0; have co1 := cell_of H2.out.o 1; have co2 := cell_of H2.out.o 2; have H3 := Lib.hid (H2.out.put2 (s2' := s2) R3.out); have D3 := Lib.hid (D2.out.off H2.out.x H2.out.X0 (turn3 _ X 3 4 5 (.slice A3 l3 c3) (.int .i64 k2) (.bool s2)))))
    go_ret
    exact ⟨rfl, ⟨_, _, _, _, _, _, D3.out, lx, (by simp; omega), H3.out.q, H3.out.x, H3.out.r1, H3.out.r2, H3.out.X0⟩⟩
end Go.Proofs.Ytofemimgjcjpdaa.H

namespace Go.Proofs.Ytofemimgjcjpdaa.H
open Go.Conc Go.RowKit Go.Shelf
open Go.Proofs.YtofemimgjcjpdaaW.PrintWords (ReadsInt below_alloc pw_cell_below below_step readsInt_of)
set_option linter.unusedVariables false
set_option linter.unusedSimpArgs false

set_option maxHeartbeats 4000000 in
set_option maxRecDepth 100000 in
theorem step_shut0 (w W : World) (Q X k1 k2 g c g2 c2 : Nat) (xs ys : List Int) (s s2 : Bool) (v1 v2 : Value) (K Z : Int) (B : Bool) (hK : K = 5)
    (D : Hid (Duo k1 k2 w g c xs s g2 c2 ys s2 (W.alloc (Obj.cells #[.int .i64 K, .int .i64 Z, .bool B] 33)))) (H : Hid (Xs w Q X W.heap.size k1 k2 g g2 K Z B xs ys s s2 v1 v2 (W.alloc (Obj.cells #[.int .i64 K, .int .i64 Z, .bool B] 33))))
    (lx : xs.length ≤ k1) (ly : ys.length ≤ k2) (l1 : k1 ≤ 1024) (l2 : k2 ≤ 1024) :
    Calls Try.prog 10 #[.slice (some ⟨Q, 0, none⟩) 2 2, .slice (some ⟨X, 0, none⟩) 2 2, .int .i64 0, .agg #[.int .i64 K, .int .i64 Z, .bool B]] W (StepP w Q X k1 k2 g c g2 c2) := by
  subst hK
  have cx0 := cell_of H.out.x 0; have cx1 := cell_of H.out.x 1; have cx2 := cell_of H.out.x 2; have cx3 := cell_of H.out.x 3; have cx4 := cell_of H.out.x 4; have cx5 := cell_of H.out.x 5; have fx0 := froz_of H.out.x 0; have fx1 := froz_of H.out.x 1; have fx2 := froz_of H.out.x 2; have fx3 := froz_of H.out.x 3; have fx4 := froz_of H.out.x 4; have fx5 := froz_of H.out.x 5; have cq0 := cell_of H.out.q 0; have cq1 := cell_of H.out.q 1; have co0 := cell_of H.out.o 0; have co1 := cell_of H.out.o 1; have co2 := cell_of H.out.o 2
  go_enter Try.func10, Try.ntmps10
  go_wp2_with (go_at_call 18; refine (shut_any _ g c k1 xs s D.out.q).mono ?_; rintro e w1 ⟨rfl, hq2, ht2⟩; have D1 := Lib.hid (D.out.first hq2 ht2 (fun _ h => h)); have H1 := Lib.hid (H.out.turn ht2 (fun i cells u fr h e => D.out.q.ty (by rcases h with h | h; exact .inl h; exact .inr h) e)); clear hq2 ht2; clear cx0 cx1 cx2 cx3 cx4 cx5 fx0 fx1 fx2 fx3 fx4 fx5 cq0 cq1 co0 co1 co2; have cx0 := cell_of H1.out.x 0; have cx1 := cell_of H1.out.x 1; have cx2 := cell_of H1.out.x 2; have cx3 := cell_of H1.out.x 3; have cx4 := cell_of H1.out.x 4; have cx5 := cell_of H1.out.x 5; have fx0 := froz_of H1.out.x 0; have fx1 := froz_of H1.out.x 1; have fx2 := froz_of H1.out.x 2; have fx3 := froz_of H1.out.x 3; have fx4 := froz_of H1.out.x 4; have fx5 := froz_of H1.out.x 5; have cq0 := cell_of H1.out.q 0; have cq1 := cell_of H1.out.q 1; have co0 := cell_of H1.out.o 0; have co1 := cell_of H1.out.o 1; have co2 := cell_of H1.out.o 2)
  go_ret
  exact ⟨rfl, _, _, _, _, _, _, D1.out.off H1.out.x H1.out.X0 (turn_setCell _ ⟨X, 2, none⟩ (.bool true) (· = X) rfl), lx, ly, (H1.out.at_ (turn_setCell _ ⟨X, 2, none⟩ (.bool true) (· = X) rfl) (blk_put0 H1.out.x 2 (.bool true)) H1.out.r1).q, (H1.out.at_ (turn_setCell _ ⟨X, 2, none⟩ (.bool true) (· = X) rfl) (blk_put0 H1.out.x 2 (.bool true)) H1.out.r1).x, (H1.out.at_ (turn_setCell _ ⟨X, 2, none⟩ (.bool true) (· = X) rfl) (blk_put0 H1.out.x 2 (.bool true)) H1.out.r1).r1, (H1.out.at_ (turn_setCell _ ⟨X, 2, none⟩ (.bool true) (· = X) rfl) (blk_put0 H1.out.x 2 (.bool true)) H1.out.r1).r2, H1.out.X0⟩

set_option maxHeartbeats 4000000 in
set_option maxRecDepth 100000 in
theorem step_shut1 (w W : World) (Q X k1 k2 g c g2 c2 : Nat) (xs ys : List Int) (s s2 : Bool) (v1 v2 : Value) (K Z : Int) (B : Bool) (hK : K = 5)
    (D : Hid (Duo k1 k2 w g c xs s g2 c2 ys s2 (W.alloc (Obj.cells #[.int .i64 K, .int .i64 Z, .bool B] 33)))) (H : Hid (Xs w Q X W.heap.size k1 k2 g g2 K Z B xs ys s s2 v1 v2 (W.alloc (Obj.cells #[.int .i64 K, .int .i64 Z, .bool B] 33))))
    (lx : xs.length ≤ k1) (ly : ys.length ≤ k2) (l1 : k1 ≤ 1024) (l2 : k2 ≤ 1024) :
    Calls Try.prog 10 #[.slice (some ⟨Q, 0, none⟩) 2 2, .slice (some ⟨X, 0, none⟩) 2 2, .int .i64 1, .agg #[.int .i64 K, .int .i64 Z, .bool B]] W (StepP w Q X k1 k2 g c g2 c2) := by
  subst hK
  have cx0 := cell_of H.out.x 0; have cx1 := cell_of H.out.x 1; have cx2 := cell_of H.out.x 2; have cx3 := cell_of H.out.x 3; have cx4 := cell_of H.out.x 4; have cx5 := cell_of H.out.x 5; have fx0 := froz_of H.out.x 0; have fx1 := froz_of H.out.x 1; have fx2 := froz_of H.out.x 2; have fx3 := froz_of H.out.x 3; have fx4 := froz_of H.out.x 4; have fx5 := froz_of H.out.x 5; have cq0 := cell_of H.out.q 0; have cq1 := cell_of H.out.q 1; have co0 := cell_of H.out.o 0; have co1 := cell_of H.out.o 1; have co2 := cell_of H.out.o 2
  go_enter Try.func10, Try.ntmps10
  go_wp2_with (go_at_call 18; refine (shut_any _ g2 c2 k2 ys s2 D.out.q2).mono ?_; rintro e w1 ⟨rfl, hq2, ht2⟩; have D1 := Lib.hid (D.out.second hq2 ht2 (fun _ h => h)); have H1 := Lib.hid (H.out.turn ht2 (fun i cells u fr h e => D.out.q2.ty (by rcases h with h | h; exact .inl h; exact .inr h) e)); clear hq2 ht2; clear cx0 cx1 cx2 cx3 cx4 cx5 fx0 fx1 fx2 fx3 fx4 fx5 cq0 cq1 co0 co1 co2; have cx0 := cell_of H1.out.x 0; have cx1 := cell_of H1.out.x 1; have cx2 := cell_of H1.out.x 2; have cx3 := cell_of H1.out.x 3; have cx4 := cell_of H1.out.x 4; have cx5 := cell_of H1.out.x 5; have fx0 := froz_of H1.out.x 0; have fx1 := froz_of H1.out.x 1; have fx2 := froz_of H1.out.x 2; have fx3 := froz_of H1.out.x 3; have fx4 := froz_of H1.out.x 4; have fx5 := froz_of H1.out.x 5; have cq0 := cell_of H1.out.q 0; have cq1 := cell_of H1.out.q 1; have co0 := cell_of H1.out.o 0; have co1 := cell_of H1.out.o 1; have co2 := cell_of H1.out.o 2)
  go_ret
  exact ⟨rfl, _, _, _, _, _, _, D1.out.off H1.out.x H1.out.X0 (turn_setCell _ ⟨X, 5, none⟩ (.bool true) (· = X) rfl), lx, ly, (H1.out.at2 (turn_setCell _ ⟨X, 5, none⟩ (.bool true) (· = X) rfl) (blk_put0 H1.out.x 5 (.bool true)) H1.out.r2).q, (H1.out.at2 (turn_setCell _ ⟨X, 5, none⟩ (.bool true) (· = X) rfl) (blk_put0 H1.out.x 5 (.bool true)) H1.out.r2).x, (H1.out.at2 (turn_setCell _ ⟨X, 5, none⟩ (.bool true) (· = X) rfl) (blk_put0 H1.out.x 5 (.bool true)) H1.out.r2).r1, (H1.out.at2 (turn_setCell _ ⟨X, 5, none⟩ (.bool true) (· = X) rfl) (blk_put0 H1.out.x 5 (.bool true)) H1.out.r2).r2, H1.out.X0⟩
end Go.Proofs.Ytofemimgjcjpdaa.H

namespace Go.Proofs.Ytofemimgjcjpdaa.H
open Go.Conc Go.RowKit Go.Shelf
open Go.Proofs.YtofemimgjcjpdaaW.PrintWords (ReadsInt below_alloc pw_cell_below below_step readsInt_of)
set_option linter.unusedVariables false
set_option linter.unusedSimpArgs false

set_option maxHeartbeats 4000000 in
set_option maxRecDepth 100000 in
theorem step_other0 (w W : World) (Q X k1 k2 g c g2 c2 : Nat) (xs ys : List Int) (s s2 : Bool) (v1 v2 : Value) (K Z : Int) (B : Bool) (hK : K < 0 ∨ 8 < K)
    (D : Hid (Duo k1 k2 w g c xs s g2 c2 ys s2 (W.alloc (Obj.cells #[.int .i64 K, .int .i64 Z, .bool B] 33)))) (H : Hid (Xs w Q X W.heap.size k1 k2 g g2 K Z B xs ys s s2 v1 v2 (W.alloc (Obj.cells #[.int .i64 K, .int .i64 Z, .bool B] 33))))
    (lx : xs.length ≤ k1) (ly : ys.length ≤ k2) (l1 : k1 ≤ 1024) (l2 : k2 ≤ 1024) :
    Calls Try.prog 10 #[.slice (some ⟨Q, 0, none⟩) 2 2, .slice (some ⟨X, 0, none⟩) 2 2, .int .i64 0, .agg #[.int .i64 K, .int .i64 Z, .bool B]] W (StepP w Q X k1 k2 g c g2 c2) := by
  have e0 : (K == 0) = false := by simp; omega
  have e1 : (K == 1) = false := by simp; omega
  have e2 : (K == 2) = false := by simp; omega
  have e3 : (K == 3) = false := by simp; omega
  have e4 : (K == 4) = false := by simp; omega
  have e5 : (K == 5) = false := by simp; omega
  have e6 : (K == 6) = false := by simp; omega
  have e7 : (K == 7) = false := by simp; omega
  have e8 : (K == 8) = false := by simp; omega
  clear hK
  have cx0 := cell_of H.out.x 0; have cx1 := cell_of H.out.x 1; have cx2 := cell_of H.out.x 2; have cx3 := cell_of H.out.x 3; have cx4 := cell_of H.out.x 4; have cx5 := cell_of H.out.x 5; have fx0 := froz_of H.out.x 0; have fx1 := froz_of H.out.x 1; have fx2 := froz_of H.out.x 2; have fx3 := froz_of H.out.x 3; have fx4 := froz_of H.out.x 4; have fx5 := froz_of H.out.x 5; have cq0 := cell_of H.out.q 0; have cq1 := cell_of H.out.q 1; have co0 := cell_of H.out.o 0; have co1 := cell_of H.out.o 1; have co2 := cell_of H.out.o 2
  go_enter Try.func10, Try.ntmps10
  go_wp2
  go_ret
  exact ⟨rfl, _, _, _, _, _, _, D.out, lx, ly, H.out.q, H.out.x, H.out.r1, H.out.r2, H.out.X0⟩

set_option maxHeartbeats 4000000 in
set_option maxRecDepth 100000 in
theorem step_other1 (w W : World) (Q X k1 k2 g c g2 c2 : Nat) (xs ys : List Int) (s s2 : Bool) (v1 v2 : Value) (K Z : Int) (B : Bool) (hK : K < 0 ∨ 8 < K)
    (D : Hid (Duo k1 k2 w g c xs s g2 c2 ys s2 (W.alloc (Obj.cells #[.int .i64 K, .int .i64 Z, .bool B] 33)))) (H : Hid (Xs w Q X W.heap.size k1 k2 g g2 K Z B xs ys s s2 v1 v2 (W.alloc (Obj.cells #[.int .i64 K, .int .i64 Z, .bool B] 33))))
    (lx : xs.length ≤ k1) (ly : ys.length ≤ k2) (l1 : k1 ≤ 1024) (l2 : k2 ≤ 1024) :
    Calls Try.prog 10 #[.slice (some ⟨Q, 0, none⟩) 2 2, .slice (some ⟨X, 0, none⟩) 2 2, .int .i64 1, .agg #[.int .i64 K, .int .i64 Z, .bool B]] W (StepP w Q X k1 k2 g c g2 c2) := by
  have e0 : (K == 0) = false := by simp; omega
  have e1 : (K == 1) = false := by simp; omega
  have e2 : (K == 2) = false := by simp; omega
  have e3 : (K == 3) = false := by simp; omega
  have e4 : (K == 4) = false := by simp; omega
  have e5 : (K == 5) = false := by simp; omega
  have e6 : (K == 6) = false := by simp; omega
  have e7 : (K == 7) = false := by simp; omega
  have e8 : (K == 8) = false := by simp; omega
  clear hK
  have cx0 := cell_of H.out.x 0; have cx1 := cell_of H.out.x 1; have cx2 := cell_of H.out.x 2; have cx3 := cell_of H.out.x 3; have cx4 := cell_of H.out.x 4; have cx5 := cell_of H.out.x 5; have fx0 := froz_of H.out.x 0; have fx1 := froz_of H.out.x 1; have fx2 := froz_of H.out.x 2; have fx3 := froz_of H.out.x 3; have fx4 := froz_of H.out.x 4; have fx5 := froz_of H.out.x 5; have cq0 := cell_of H.out.q 0; have cq1 := cell_of H.out.q 1; have co0 := cell_of H.out.o 0; have co1 := cell_of H.out.o 1; have co2 := cell_of H.out.o 2
  go_enter Try.func10, Try.ntmps10
  go_wp2
  go_ret
  exact ⟨rfl, _, _, _, _, _, _, D.out, lx, ly, H.out.q, H.out.x, H.out.r1, H.out.r2, H.out.X0⟩
end Go.Proofs.Ytofemimgjcjpdaa.H

namespace Go.Proofs.Ytofemimgjcjpdaa.H
open Go.Conc Go.RowKit Go.Shelf
open Go.Proofs.YtofemimgjcjpdaaW.PrintWords (ReadsInt below_alloc pw_cell_below below_step readsInt_of)
set_option linter.unusedVariables false
set_option linter.unusedSimpArgs false
open Go.Proofs.YtofemimgjcjpdaaW.PrintMore in
attribute [local go_sem] max2_int min2_int max_two min_two

set_option maxHeartbeats 4000000 in
set_option maxRecDepth 100000 in
theorem step_take0 (w W : World) (Q X k1 k2 g c g2 c2 : Nat) (xs ys : List Int) (s s2 : Bool) (v1 v2 : Value) (K Z : Int) (B : Bool) (hK : K = 6)
    (D : Hid (Duo k1 k2 w g c xs s g2 c2 ys s2 (W.alloc (Obj.cells #[.int .i64 K, .int .i64 Z, .bool B] 33)))) (H : Hid (Xs w Q X W.heap.size k1 k2 g g2 K Z B xs ys s s2 v1 v2 (W.alloc (Obj.cells #[.int .i64 K, .int .i64 Z, .bool B] 33))))
    (lx : xs.length ≤ k1) (ly : ys.length ≤ k2) (l1 : k1 ≤ 1024) (l2 : k2 ≤ 1024) :
    Calls Try.prog 10 #[.slice (some ⟨Q, 0, none⟩) 2 2, .slice (some ⟨X, 0, none⟩) 2 2, .int .i64 0, .agg #[.int .i64 K, .int .i64 Z, .bool B]] W (StepP w Q X k1 k2 g c g2 c2) := by
  subst hK
  obtain ⟨M, hM1, hM8, hM⟩ := most7 Z
  obtain ⟨N, hN, hNM, hNl⟩ : ∃ N, N = takeN (M : Int) xs ∧ N ≤ M ∧ N ≤ xs.length := ⟨_, rfl, by unfold takeN; rw [if_pos (by omega)]; omega, by unfold takeN; rw [if_pos (by omega)]; omega⟩
  have hmin : (if xs.length < M then (xs.length : Int) else (M : Int)) = (N : Int) := by rw [hN]; unfold takeN; rw [if_pos (show (1 : Int) ≤ M by omega)]; split <;> omega
  obtain ⟨A1, l1, c1, rfl⟩ := H.out.r1.form
  obtain rfl : l1 = xs.length := by obtain ⟨_, _, e, _⟩ := H.out.r1; injection e
  have HN := Lib.hid hN
  clear hN
  have cx0 := cell_of H.out.x 0; have cq0 := cell_of H.out.q 0; have co0 := cell_of H.out.o 0; have co1 := cell_of H.out.o 1
  go_enter Try.func10, Try.ntmps10
  go_wp2_with (go_at_call 16; refine (taken_any _ g c k1 xs s M D.out.q (by omega)).mono ?_; rintro e w1 ⟨v, rfl, hown, hq, ht⟩; rw [← HN.out] at hown hq; have hr7 := Rd.of_own hown; obtain ⟨A7, l7, c7, rfl⟩ := hr7.form; have e8 : l7 = (xs.take N).length := (by obtain ⟨_, _, e, _⟩ := hr7; injection e); rw [List.length_take] at e8; have e7 : l7 = N := (by omega); clear e8; subst e7; have R7 := Lib.hid hr7; have D1 := Lib.hid (D.out.first hq ht (fun _ h => .inl h)); have H1 := Lib.hid (H.out.turn ht (fun i cells u fr h e => by subst h; exact D.out.q.ty (.inl rfl) e)); obtain ⟨hup, hru⟩ := H1.out.r1.upto l7 hNl; have RU := Lib.hid hru; clear hru hown hq ht hr7; clear cx0 cq0 co0 co1; have cx0 := cell_of H1.out.x 0)
  go_quiet (fail)
  obtain ⟨A9, hcut9, R9⟩ := H1.out.r1.cut l7 hNl
  have R9 := Lib.hid R9
  clear cx0
  have HB2 := Lib.hid (bdrn (n := w1.heap.size) (W := w1) nq)
  have H2 := Lib.hid (H1.out.later HB2.out)
  have D2 := Lib.hid (D1.out.later HB2.out)
  obtain ⟨w2, hw2⟩ : ∃ w2, w2 = w1.drewN nq := ⟨_, rfl⟩
  rw [← hw2] at HB2 H2 D2 ⊢
  have HW2 := Lib.hid hw2
  clear hw2
  have cx0 := cell_of H2.out.x 0
  have fx0 := froz_of H2.out.x 0
  have hcc : (0 : Int) ≤ l7 := by omega
  have S2 := Lib.hid (Stay.of_below HB2.out)
  have S3 := Lib.hid (stay_set (no3_of H2.out.x (by decide)) (a := ⟨X, 0, none⟩) (u := .slice A9 (xs.length - l7) (c1 - l7)))
  have R7' := Lib.hid ((R7.out.stay S2.out).stay S3.out)
  have RU' := Lib.hid ((RU.out.stay S2.out).stay S3.out)
  have R9' := Lib.hid (R9.out.stay S2.out)
  have H3 := Lib.hid (H2.out.at_ (turn_setCell _ ⟨X, 0, none⟩ (.slice A9 (xs.length - l7) (c1 - l7)) (· = X) rfl) (blk_put0 H2.out.x 0 _) R9'.out)
  have D3 := Lib.hid (D2.out.off H2.out.x H2.out.X0 (turn_setCell _ ⟨X, 0, none⟩ (.slice A9 (xs.length - l7) (c1 - l7)) (· = X) rfl))
  go_wp2_with (go_at_call 15; refine (same_of _ A7 A1 c7 c1 l7 (xs.take l7) (by rw [List.length_take]; omega) R7'.out.reads R7'.out.cap RU'.out.reads RU'.out.cap (by omega)).mono ?_; rintro e w3 ⟨rfl, n3, rfl⟩)
  go_ret
  exact ⟨rfl, _, _, _, _, _, _, D3.out.later (bdrn n3), (by rw [List.length_drop]; omega), ly, (H3.out.later (bdrn n3)).q, (H3.out.later (bdrn n3)).x, (H3.out.later (bdrn n3)).r1, (H3.out.later (bdrn n3)).r2, H3.out.X0⟩

set_option maxHeartbeats 4000000 in
set_option maxRecDepth 100000 in
theorem step_take1 (w W : World) (Q X k1 k2 g c g2 c2 : Nat) (xs ys : List Int) (s s2 : Bool) (v1 v2 : Value) (K Z : Int) (B : Bool) (hK : K = 6)
    (D : Hid (Duo k1 k2 w g c xs s g2 c2 ys s2 (W.alloc (Obj.cells #[.int .i64 K, .int .i64 Z, .bool B] 33)))) (H : Hid (Xs w Q X W.heap.size k1 k2 g g2 K Z B xs ys s s2 v1 v2 (W.alloc (Obj.cells #[.int .i64 K, .int .i64 Z, .bool B] 33))))
    (lx : xs.length ≤ k1) (ly : ys.length ≤ k2) (l1 : k1 ≤ 1024) (l2 : k2 ≤ 1024) :
    Calls Try.prog 10 #[.slice (some ⟨Q, 0, none⟩) 2 2, .slice (some ⟨X, 0, none⟩) 2 2, .int .i64 1, .agg #[.int .i64 K, .int .i64 Z, .bool B]] W (StepP w Q X k1 k2 g c g2 c2) := by
  subst hK
  obtain ⟨M, hM1, hM8, hM⟩ := most7 Z
  obtain ⟨N, hN, hNM, hNl⟩ : ∃ N, N = takeN (M : Int) ys ∧ N ≤ M ∧ N ≤ ys.length := ⟨_, rfl, by unfold takeN; rw [if_pos (by omega)]; omega, by unfold takeN; rw [if_pos (by omega)]; omega⟩
  have hmin : (if ys.length < M then (ys.length : Int) else (M : Int)) = (N : Int) := by rw [hN]; unfold takeN; rw [if_pos (show (1 : Int) ≤ M by omega)]; split <;> omega
  obtain ⟨A1, l1, c1, rfl⟩ := H.out.r2.form
  obtain rfl : l1 = ys.length := by obtain ⟨_, _, e, _⟩ := H.out.r2; injection e
  have HN := Lib.hid hN
  clear hN
  have cx3 := cell_of H.out.x 3; have cq1 := cell_of H.out.q 1; have co0 := cell_of H.out.o 0; have co1 := cell_of H.out.o 1
  go_enter Try.func10, Try.ntmps10
  go_wp2_with (go_at_call 16; refine (taken_any _ g2 c2 k2 ys s2 M D.out.q2 (by omega)).mono ?_; rintro e w1 ⟨v, rfl, hown, hq, ht⟩; rw [← HN.out] at hown hq; have hr7 := Rd.of_own hown; obtain ⟨A7, l7, c7, rfl⟩ := hr7.form; have e8 : l7 = (ys.take N).length := (by obtain ⟨_, _, e, _⟩ := hr7; injection e); rw [List.length_take] at e8; have e7 : l7 = N := (by omega); clear e8; subst e7; have R7 := Lib.hid hr7; have D1 := Lib.hid (D.out.second hq ht (fun _ h => .inl h)); have H1 := Lib.hid (H.out.turn ht (fun i cells u fr h e => by subst h; exact D.out.q2.ty (.inl rfl) e)); obtain ⟨hup, hru⟩ := H1.out.r2.upto l7 hNl; have RU := Lib.hid hru; clear hru hown hq ht hr7; clear cx3 cq1 co0 co1; have cx3 := cell_of H1.out.x 3)
  go_quiet (fail)
  obtain ⟨A9, hcut9, R9⟩ := H1.out.r2.cut l7 hNl
  have R9 := Lib.hid R9
  clear cx3
  have HB2 := Lib.hid (bdrn (n := w1.heap.size) (W := w1) nq)
  have H2 := Lib.hid (H1.out.later HB2.out)
  have D2 := Lib.hid (D1.out.later HB2.out)
  obtain ⟨w2, hw2⟩ : ∃ w2, w2 = w1.drewN nq := ⟨_, rfl⟩
  rw [← hw2] at HB2 H2 D2 ⊢
  have HW2 := Lib.hid hw2
  clear hw2
  have cx3 := cell_of H2.out.x 3
  have fx3 := froz_of H2.out.x 3
  have hcc : (0 : Int) ≤ l7 := by omega
  have S2 := Lib.hid (Stay.of_below HB2.out)
  have S3 := Lib.hid (stay_set (no3_of H2.out.x (by decide)) (a := ⟨X, 3, none⟩) (u := .slice A9 (ys.length - l7) (c1 - l7)))
  have R7' := Lib.hid ((R7.out.stay S2.out).stay S3.out)
  have RU' := Lib.hid ((RU.out.stay S2.out).stay S3.out)
  have R9' := Lib.hid (R9.out.stay S2.out)
  have H3 := Lib.hid (H2.out.at2 (turn_setCell _ ⟨X, 3, none⟩ (.slice A9 (ys.length - l7) (c1 - l7)) (· = X) rfl) (blk_put0 H2.out.x 3 _) R9'.out)
  have D3 := Lib.hid (D2.out.off H2.out.x H2.out.X0 (turn_setCell _ ⟨X, 3, none⟩ (.slice A9 (ys.length - l7) (c1 - l7)) (· = X) rfl))
  go_wp2_with (go_at_call 15; refine (same_of _ A7 A1 c7 c1 l7 (ys.take l7) (by rw [List.length_take]; omega) R7'.out.reads R7'.out.cap RU'.out.reads RU'.out.cap (by omega)).mono ?_; rintro e w3 ⟨rfl, n3, rfl⟩)
  go_ret
  exact ⟨rfl, _, _, _, _, _, _, D3.out.later (bdrn n3), lx, (by rw [List.length_drop]; omega), (H3.out.later (bdrn n3)).q, (H3.out.later (bdrn n3)).x, (H3.out.later (bdrn n3)).r1, (H3.out.later (bdrn n3)).r2, H3.out.X0⟩
end Go.Proofs.Ytofemimgjcjpdaa.H

namespace Go.Proofs.Ytofemimgjcjpdaa.H
open Go.Conc Go.RowKit Go.Shelf
open Go.Proofs.YtofemimgjcjpdaaW.PrintWords (ReadsInt below_alloc pw_cell_below below_step readsInt_of)
set_option linter.unusedVariables false
set_option linter.unusedSimpArgs false

section
variable {W : World} {Q g c g2 c2 k1 k2 : Nat} {xs ys : List Int} {s s2 : Bool} {x : Int}
theorem two_hold (h : W.heap[Q]? = some (Obj.cells #[.pointer (some ⟨g, 0, none⟩), .pointer (some ⟨g2, 0, none⟩)] 24 (0, 0))) : Holds W Q 0 [⟨g, c, k1, xs, s⟩, ⟨g2, c2, k2, ys, s2⟩] := by
  intro i hi
  have hi2 : i < 2 := hi
  obtain rfl | rfl : i = 0 ∨ i = 1 := by omega
  · exact cell_of h 0
  · exact cell_of h 1
theorem two_is (h1 : IsQ W g c k1 xs s) (h2 : IsQ W g2 c2 k2 ys s2) : ∀ q ∈ ([⟨g, c, k1, xs, s⟩, ⟨g2, c2, k2, ys, s2⟩] : List QD), q.is W := by
  intro q hq
  simp at hq
  rcases hq with rfl | rfl
  · exact h1
  · exact h2
theorem duo_first1 (h : W.heap[Q]? = some (Obj.cells #[.pointer (some ⟨g, 0, none⟩), .pointer (some ⟨g2, 0, none⟩)] 24 (0, 0))) (h1 : IsQ W g c k1 (x :: xs) s) (h2 : IsQ W g2 c2 k2 ys s2) :
    Calls Try.prog 21 #[.slice (some ⟨Q, 0, none⟩) 2 2] W (fun e w' => e = .returned (.tuple #[.int .i64 x, .int .i64 0, .bool true]) ∧ IsQ w' g c k1 xs s ∧ Turn (· = c) W w') :=
  (first_some W Q 0 2 [⟨g, c, k1, x :: xs, s⟩, ⟨g2, c2, k2, ys, s2⟩] (two_is h1 h2) (two_hold h) 0 (by simp) (fun j _ hj => absurd hj (by omega)) x xs rfl (by simp)).mono (fun _ _ h => h)
theorem duo_first2 (h : W.heap[Q]? = some (Obj.cells #[.pointer (some ⟨g, 0, none⟩), .pointer (some ⟨g2, 0, none⟩)] 24 (0, 0))) (h1 : IsQ W g c k1 [] s) (h2 : IsQ W g2 c2 k2 (x :: ys) s2) :
    Calls Try.prog 21 #[.slice (some ⟨Q, 0, none⟩) 2 2] W (fun e w' => e = .returned (.tuple #[.int .i64 x, .int .i64 1, .bool true]) ∧ IsQ w' g2 c2 k2 ys s2 ∧ Turn (· = c2) W w') :=
  (first_some W Q 0 2 [⟨g, c, k1, [], s⟩, ⟨g2, c2, k2, x :: ys, s2⟩] (two_is h1 h2) (two_hold h) 1 (by simp) (fun j _ hj => by obtain rfl : j = 0 := by omega
                                                                                                                               rfl) x ys rfl (by simp)).mono (fun _ _ h => h)
theorem duo_first0 (h : W.heap[Q]? = some (Obj.cells #[.pointer (some ⟨g, 0, none⟩), .pointer (some ⟨g2, 0, none⟩)] 24 (0, 0))) (h1 : IsQ W g c k1 [] s) (h2 : IsQ W g2 c2 k2 [] s2) :
    Calls Try.prog 21 #[.slice (some ⟨Q, 0, none⟩) 2 2] W (fun e w' => e = .returned (.tuple #[.int .i64 0, .int .i64 0, .bool false]) ∧ w' = W) :=
  (first_none W Q 0 2 [⟨g, c, k1, [], s⟩, ⟨g2, c2, k2, [], s2⟩] (two_is h1 h2) (two_hold h) (fun q hq => by
    simp at hq
    rcases hq with rfl | rfl <;> rfl) (by simp)).mono (fun _ _ h => h)
theorem rget_cons {v : Value} {cap : Nat} (hr : Rd W v (x :: xs)) : Calls Try.prog 25 #[.agg #[v, .int .i64 cap, .bool s]] W (fun e w' => ∃ v', e = .returned (.tuple #[.agg #[v', .int .i64 cap, .bool s], .int .i64 x, .bool true]) ∧ Rd w' v' xs ∧ Below W.heap.size W w') :=
  (rget W v cap (x :: xs) s hr).mono (fun _ _ ⟨v', h1, h2, h3⟩ => ⟨v', h1, h2, h3⟩)
theorem rget_nil {v : Value} {cap : Nat} (hr : Rd W v []) : Calls Try.prog 25 #[.agg #[v, .int .i64 cap, .bool s]] W (fun e w' => ∃ v', e = .returned (.tuple #[.agg #[v', .int .i64 cap, .bool s], .int .i64 0, .bool false]) ∧ Rd w' v' [] ∧ Below W.heap.size W w') :=
  (rget W v cap [] s hr).mono (fun _ _ ⟨v', h1, h2, h3⟩ => ⟨v', h1, h2, h3⟩)
end
/-- Where the law's loop over the document's queues stands. -/
def FL2 (w : World) (Q X Bo k1 k2 g c g2 c2 : Nat) (K Z : Int) (B : Bool) (xs ys ps qs : List Int) (s s2 : Bool) (v1 v2 : Value) (M : Nat) (v : Value) (wr : World) : Prop :=
  ∃ k : Nat, k ≤ M ∧ v = .int .i64 k ∧ Duo k1 k2 w g c ps s g2 c2 qs s2 wr ∧ Xs w Q X Bo k1 k2 g g2 K Z B xs ys s s2 v1 v2 wr

set_option maxHeartbeats 4000000 in
set_option maxRecDepth 100000 in
theorem step_first_a (w W : World) (Q X k1 k2 g c g2 c2 : Nat) (x : Int) (xs' ys : List Int) (s s2 : Bool) (v1 v2 : Value) (i : Int) (K Z : Int) (B : Bool) (hK : K = 7)
    (D : Hid (Duo k1 k2 w g c (x :: xs') s g2 c2 ys s2 (W.alloc (Obj.cells #[.int .i64 K, .int .i64 Z, .bool B] 33)))) (H : Hid (Xs w Q X W.heap.size k1 k2 g g2 K Z B (x :: xs') ys s s2 v1 v2 (W.alloc (Obj.cells #[.int .i64 K, .int .i64 Z, .bool B] 33))))
    (lx : (x :: xs').length ≤ k1) (ly : ys.length ≤ k2) (l1 : k1 ≤ 1024) (l2 : k2 ≤ 1024) :
    Calls Try.prog 10 #[.slice (some ⟨Q, 0, none⟩) 2 2, .slice (some ⟨X, 0, none⟩) 2 2, .int .i64 i, .agg #[.int .i64 K, .int .i64 Z, .bool B]] W (StepP w Q X k1 k2 g c g2 c2) := by
  subst hK
  have co0 := cell_of H.out.o 0
  go_enter Try.func10, Try.ntmps10
  go_wp2_with fail
  refine (duo_first1 H.out.q D.out.q D.out.q2).mono ?_
  rintro e w1 ⟨rfl, hq2, ht2⟩
  have HD := Lib.hid (D.out.first hq2 ht2 (fun _ h => .inl h))
  have HX := Lib.hid (H.out.turn ht2 (fun i cells u fr h e => by subst h; exact D.out.q.ty (.inl rfl) e))
  clear hq2 ht2
  clear co0
  go_wp2_with fail
  go_loopw [153] (fun v wr => FL2 w Q X W.heap.size k1 k2 g c g2 c2 7 Z B (x :: xs') (ys) (xs') (ys) s s2 v1 v2 0 v wr) (fun v _ => 2 - (intOf v).toNat)
  case atStart => exact ⟨0, Nat.zero_le _, rfl, HD.out, HX.out⟩
  case round =>
    obtain ⟨k, hk, rfl, hD, hX⟩ := hrel
    clear HD HX D H
    have HD := Lib.hid hD
    have HX := Lib.hid hX
    clear hD hX
    obtain rfl : k = 0 := by omega
    have cx0 := cell_of HX.out.x 0; have cx1 := cell_of HX.out.x 1; have cx2 := cell_of HX.out.x 2; have cx3 := cell_of HX.out.x 3; have cx4 := cell_of HX.out.x 4; have cx5 := cell_of HX.out.x 5; have fx0 := froz_of HX.out.x 0; have fx1 := froz_of HX.out.x 1; have fx2 := froz_of HX.out.x 2; have fx3 := froz_of HX.out.x 3; have fx4 := froz_of HX.out.x 4; have fx5 := froz_of HX.out.x 5
    go_wp2_with (go_at_call 25; refine (rget_cons (x := x) (xs := xs') (s := s) (cap := k1) HX.out.r1).mono ?_; rintro e w2 ⟨v3, rfl, hr3, hb3⟩; obtain ⟨A3, l3, c3, rfl⟩ := hr3.form; have D2 := Lib.hid ((HD.out.later hb3).later ((Below.refl _ _).alloc (Nat.le_refl _) (Obj.cells #[.slice A3 l3 c3, .int .i64 k1, .bool s] 29))); have H2 := Lib.hid ((HX.out.later hb3).later ((Below.refl _ _).alloc (Nat.le_refl _) (Obj.cells #[.slice A3 l3 c3, .int .i64 k1, .bool s] 29))); have R3 := Lib.hid (hr3.stay (Stay.of_below ((Below.refl _ _).alloc (Nat.le_refl _) (Obj.cells #[.slice A3 l3 c3, .int .i64 k1, .bool s] 29)))); clear hr3 hb3; clear cx0 cx1 cx2 cx3 cx4 cx5 fx0 fx1 fx2 fx3 fx4 fx5; have cx0 := cell_of H2.out.x 0; have cx1 := cell_of H2.out.x 1; have cx2 := cell_of H2.out.x 2; have cx3 := cell_of H2.out.x 3; have cx4 := cell_of H2.out.x 4; have cx5 := cell_of H2.out.x 5; have fx0 := froz_of H2.out.x 0; have fx1 := froz_of H2.out.x 1; have fx2 := froz_of H2.out.x 2; have fx3 := froz_of H2.out.x 3; have fx4 := froz_of H2.out.x 4; have fx5 := froz_of H2.out.x 5; have H3 := Lib.hid (H2.out.put1 (s' := s) R3.out); have D3 := Lib.hid (D2.out.off H2.out.x H2.out.X0 (turn3 _ X 0 1 2 (.slice A3 l3 c3) (.int .i64 k1) (.bool s))))
    go_ret
    exact ⟨rfl, _, _, _, _, _, _, D3.out, (by simp at lx ⊢; omega), ly, H3.out.q, H3.out.x, H3.out.r1, H3.out.r2, H3.out.X0⟩

set_option maxHeartbeats 4000000 in
set_option maxRecDepth 100000 in
theorem step_first_b (w W : World) (Q X k1 k2 g c g2 c2 : Nat) (x : Int) (xs' : List Int) (s s2 : Bool) (v1 v2 : Value) (i : Int) (K Z : Int) (B : Bool) (hK : K = 7)
    (D : Hid (Duo k1 k2 w g c [] s g2 c2 (x :: xs') s2 (W.alloc (Obj.cells #[.int .i64 K, .int .i64 Z, .bool B] 33)))) (H : Hid (Xs w Q X W.heap.size k1 k2 g g2 K Z B [] (x :: xs') s s2 v1 v2 (W.alloc (Obj.cells #[.int .i64 K, .int .i64 Z, .bool B] 33))))
    (lx : ([] : List Int).length ≤ k1) (ly : (x :: xs').length ≤ k2) (l1 : k1 ≤ 1024) (l2 : k2 ≤ 1024) :
    Calls Try.prog 10 #[.slice (some ⟨Q, 0, none⟩) 2 2, .slice (some ⟨X, 0, none⟩) 2 2, .int .i64 i, .agg #[.int .i64 K, .int .i64 Z, .bool B]] W (StepP w Q X k1 k2 g c g2 c2) := by
  subst hK
  have co0 := cell_of H.out.o 0
  go_enter Try.func10, Try.ntmps10
  go_wp2_with fail
  refine (duo_first2 H.out.q D.out.q D.out.q2).mono ?_
  rintro e w1 ⟨rfl, hq2, ht2⟩
  have HD := Lib.hid (D.out.second hq2 ht2 (fun _ h => .inl h))
  have HX := Lib.hid (H.out.turn ht2 (fun i cells u fr h e => by subst h; exact D.out.q2.ty (.inl rfl) e))
  clear hq2 ht2
  clear co0
  go_wp2_with fail
  go_loopw [153] (fun v wr => FL2 w Q X W.heap.size k1 k2 g c g2 c2 7 Z B ([]) (x :: xs') ([]) (xs') s s2 v1 v2 1 v wr) (fun v _ => 2 - (intOf v).toNat)
  case atStart => exact ⟨0, Nat.zero_le _, rfl, HD.out, HX.out⟩
  case round =>
    obtain ⟨k, hk, rfl, hD, hX⟩ := hrel
    clear HD HX D H
    have HD := Lib.hid hD
    have HX := Lib.hid hX
    clear hD hX
    obtain rfl | rfl : k = 0 ∨ k = 1 := by omega
    · have cx0 := cell_of HX.out.x 0; have cx1 := cell_of HX.out.x 1; have cx2 := cell_of HX.out.x 2; have cx3 := cell_of HX.out.x 3; have cx4 := cell_of HX.out.x 4; have cx5 := cell_of HX.out.x 5; have fx0 := froz_of HX.out.x 0; have fx1 := froz_of HX.out.x 1; have fx2 := froz_of HX.out.x 2; have fx3 := froz_of HX.out.x 3; have fx4 := froz_of HX.out.x 4; have fx5 := froz_of HX.out.x 5
      go_wp2_with (go_at_call 25; refine (rget_nil (s := s) (cap := k1) HX.out.r1).mono ?_; rintro e w2 ⟨v3, rfl, hr3, hb3⟩; obtain ⟨A3, l3, c3, rfl⟩ := hr3.form; have D2 := Lib.hid ((HD.out.later hb3).later ((Below.refl _ _).alloc (Nat.le_refl _) (Obj.cells #[.slice A3 l3 c3, .int .i64 k1, .bool s] 29))); have H2 := Lib.hid ((HX.out.later hb3).later ((Below.refl _ _).alloc (Nat.le_refl _) (Obj.cells #[.slice A3 l3 c3, .int .i64 k1, .bool s] 29))); clear hr3 hb3)
      go_roundw
      case rel => exact ⟨1, by omega, by go_num, D2.out, H2.out⟩
      case measure => simp [intOf]
    · have cx0 := cell_of HX.out.x 0; have cx1 := cell_of HX.out.x 1; have cx2 := cell_of HX.out.x 2; have cx3 := cell_of HX.out.x 3; have cx4 := cell_of HX.out.x 4; have cx5 := cell_of HX.out.x 5; have fx0 := froz_of HX.out.x 0; have fx1 := froz_of HX.out.x 1; have fx2 := froz_of HX.out.x 2; have fx3 := froz_of HX.out.x 3; have fx4 := froz_of HX.out.x 4; have fx5 := froz_of HX.out.x 5
      go_wp2_with (go_at_call 25; refine (rget_cons (x := x) (xs := xs') (s := s2) (cap := k2) HX.out.r2).mono ?_; rintro e w2 ⟨v3, rfl, hr3, hb3⟩; obtain ⟨A3, l3, c3, rfl⟩ := hr3.form; have D2 := Lib.hid ((HD.out.later hb3).later ((Below.refl _ _).alloc (Nat.le_refl _) (Obj.cells #[.slice A3 l3 c3, .int .i64 k2, .bool s2] 29))); have H2 := Lib.hid ((HX.out.later hb3).later ((Below.refl _ _).alloc (Nat.le_refl _) (Obj.cells #[.slice A3 l3 c3, .int .i64 k2, .bool s2] 29))); have R3 := Lib.hid (hr3.stay (Stay.of_below ((Below.refl _ _).alloc (Nat.le_refl _) (Obj.cells #[.slice A3 l3 c3, .int .i64 k2, .bool s2] 29)))); clear hr3 hb3; clear cx0 cx1 cx2 cx3 cx4 cx5 fx0 fx1 fx2 fx3 fx4 fx5; have cx0 := cell_of H2.out.x 0; have cx1 := cell_of H2.out.x 1; have cx2 := cell_of H2.out.x 2; have cx3 := cell_of H2.out.x 3; have cx4 := cell_of H2.out.x 4; have cx5 := cell_of H2.out.x 5; have fx0 := froz_of H2.out.x 0; have fx1 := froz_of H2.out.x 1; have fx2 := froz_of H2.out.x 2; have fx3 := froz_of H2.out.x 3; have fx4 := froz_of H2.out.x 4; have fx5 := froz_of H2.out.x 5; have H3 := Lib.hid (H2.out.put2 (s2' := s2) R3.out); have D3 := Lib.hid (D2.out.off H2.out.x H2.out.X0 (turn3 _ X 3 4 5 (.slice A3 l3 c3) (.int .i64 k2) (.bool s2))))
      go_ret
      exact ⟨rfl, _, _, _, _, _, _, D3.out, lx, (by simp at ly ⊢; omega), H3.out.q, H3.out.x, H3.out.r1, H3.out.r2, H3.out.X0⟩

set_option maxHeartbeats 4000000 in
set_option maxRecDepth 100000 in
theorem step_first_c (w W : World) (Q X k1 k2 g c g2 c2 : Nat) (s s2 : Bool) (v1 v2 : Value) (i : Int) (K Z : Int) (B : Bool) (hK : K = 7)
    (D : Hid (Duo k1 k2 w g c [] s g2 c2 [] s2 (W.alloc (Obj.cells #[.int .i64 K, .int .i64 Z, .bool B] 33)))) (H : Hid (Xs w Q X W.heap.size k1 k2 g g2 K Z B [] [] s s2 v1 v2 (W.alloc (Obj.cells #[.int .i64 K, .int .i64 Z, .bool B] 33))))
    (lx : ([] : List Int).length ≤ k1) (ly : ([] : List Int).length ≤ k2) (l1 : k1 ≤ 1024) (l2 : k2 ≤ 1024) :
    Calls Try.prog 10 #[.slice (some ⟨Q, 0, none⟩) 2 2, .slice (some ⟨X, 0, none⟩) 2 2, .int .i64 i, .agg #[.int .i64 K, .int .i64 Z, .bool B]] W (StepP w Q X k1 k2 g c g2 c2) := by
  subst hK
  have co0 := cell_of H.out.o 0
  go_enter Try.func10, Try.ntmps10
  go_wp2_with fail
  refine (duo_first0 H.out.q D.out.q D.out.q2).mono ?_
  rintro e w1 ⟨rfl, rfl⟩
  have HD := Lib.hid D.out
  have HX := Lib.hid H.out
  clear co0
  go_wp2_with fail
  go_loopw [153] (fun v wr => FL2 w Q X W.heap.size k1 k2 g c g2 c2 7 Z B ([]) ([]) ([]) ([]) s s2 v1 v2 2 v wr) (fun v _ => 2 - (intOf v).toNat)
  case atStart => exact ⟨0, Nat.zero_le _, rfl, HD.out, HX.out⟩
  case round =>
    obtain ⟨k, hk, rfl, hD, hX⟩ := hrel
    clear HD HX D H
    have HD := Lib.hid hD
    have HX := Lib.hid hX
    clear hD hX
    obtain rfl | rfl | rfl : k = 0 ∨ k = 1 ∨ k = 2 := by omega
    · have cx0 := cell_of HX.out.x 0; have cx1 := cell_of HX.out.x 1; have cx2 := cell_of HX.out.x 2; have cx3 := cell_of HX.out.x 3; have cx4 := cell_of HX.out.x 4; have cx5 := cell_of HX.out.x 5; have fx0 := froz_of HX.out.x 0; have fx1 := froz_of HX.out.x 1; have fx2 := froz_of HX.out.x 2; have fx3 := froz_of HX.out.x 3; have fx4 := froz_of HX.out.x 4; have fx5 := froz_of HX.out.x 5
      go_wp2_with (go_at_call 25; refine (rget_nil (s := s) (cap := k1) HX.out.r1).mono ?_; rintro e w2 ⟨v3, rfl, hr3, hb3⟩; obtain ⟨A3, l3, c3, rfl⟩ := hr3.form; have D2 := Lib.hid ((HD.out.later hb3).later ((Below.refl _ _).alloc (Nat.le_refl _) (Obj.cells #[.slice A3 l3 c3, .int .i64 k1, .bool s] 29))); have H2 := Lib.hid ((HX.out.later hb3).later ((Below.refl _ _).alloc (Nat.le_refl _) (Obj.cells #[.slice A3 l3 c3, .int .i64 k1, .bool s] 29))); clear hr3 hb3)
      go_roundw
      case rel => exact ⟨1, by omega, by go_num, D2.out, H2.out⟩
      case measure => simp [intOf]
    · have cx0 := cell_of HX.out.x 0; have cx1 := cell_of HX.out.x 1; have cx2 := cell_of HX.out.x 2; have cx3 := cell_of HX.out.x 3; have cx4 := cell_of HX.out.x 4; have cx5 := cell_of HX.out.x 5; have fx0 := froz_of HX.out.x 0; have fx1 := froz_of HX.out.x 1; have fx2 := froz_of HX.out.x 2; have fx3 := froz_of HX.out.x 3; have fx4 := froz_of HX.out.x 4; have fx5 := froz_of HX.out.x 5
      go_wp2_with (go_at_call 25; refine (rget_nil (s := s2) (cap := k2) HX.out.r2).mono ?_; rintro e w2 ⟨v3, rfl, hr3, hb3⟩; obtain ⟨A3, l3, c3, rfl⟩ := hr3.form; have D2 := Lib.hid ((HD.out.later hb3).later ((Below.refl _ _).alloc (Nat.le_refl _) (Obj.cells #[.slice A3 l3 c3, .int .i64 k2, .bool s2] 29))); have H2 := Lib.hid ((HX.out.later hb3).later ((Below.refl _ _).alloc (Nat.le_refl _) (Obj.cells #[.slice A3 l3 c3, .int .i64 k2, .bool s2] 29))); clear hr3 hb3)
      go_roundw
      case rel => exact ⟨2, by omega, by go_num, D2.out, H2.out⟩
      case measure => simp [intOf]
    · go_wp2_with fail
      go_ret
      exact ⟨rfl, _, _, _, _, _, _, HD.out, lx, ly, HX.out.q, HX.out.x, HX.out.r1, HX.out.r2, HX.out.X0⟩

set_option maxHeartbeats 4000000 in
set_option maxRecDepth 100000 in
theorem step_first (w W : World) (Q X k1 k2 g c g2 c2 : Nat) (xs ys : List Int) (s s2 : Bool) (v1 v2 : Value) (i : Int) (K Z : Int) (B : Bool) (hK : K = 7)
    (D : Hid (Duo k1 k2 w g c xs s g2 c2 ys s2 (W.alloc (Obj.cells #[.int .i64 K, .int .i64 Z, .bool B] 33)))) (H : Hid (Xs w Q X W.heap.size k1 k2 g g2 K Z B xs ys s s2 v1 v2 (W.alloc (Obj.cells #[.int .i64 K, .int .i64 Z, .bool B] 33))))
    (lx : xs.length ≤ k1) (ly : ys.length ≤ k2) (l1 : k1 ≤ 1024) (l2 : k2 ≤ 1024) :
    Calls Try.prog 10 #[.slice (some ⟨Q, 0, none⟩) 2 2, .slice (some ⟨X, 0, none⟩) 2 2, .int .i64 i, .agg #[.int .i64 K, .int .i64 Z, .bool B]] W (StepP w Q X k1 k2 g c g2 c2) := by
  rcases xs with _ | ⟨x, xs'⟩
  · rcases ys with _ | ⟨y, ys'⟩
    · exact step_first_c w W Q X k1 k2 g c g2 c2 s s2 v1 v2 i K Z B hK D H lx ly l1 l2
    · exact step_first_b w W Q X k1 k2 g c g2 c2 y ys' s s2 v1 v2 i K Z B hK D H lx ly l1 l2
  · exact step_first_a w W Q X k1 k2 g c g2 c2 x xs' ys s s2 v1 v2 i K Z B hK D H lx ly l1 l2
end Go.Proofs.Ytofemimgjcjpdaa.H

