/- MailPlays: the document's new queue; what is told of two queues between two steps. -/
/- MailPlays: a step of the law, of whatever kind; the document's new queue. -/
import Derived.Test.YtofemimgjcjpdaaTwo
import Derived.Test.YtofemimgjcjpdaaOps
import Derived.Test.YtofemimgjcjpdaaStSmall
import Derived.Test.YtofemimgjcjpdaaStPut0_0
import Derived.Test.YtofemimgjcjpdaaStPut0_1
import Derived.Test.YtofemimgjcjpdaaStPut1_0
import Derived.Test.YtofemimgjcjpdaaStPut1_1
import Derived.Test.YtofemimgjcjpdaaStPut2_0
import Derived.Test.YtofemimgjcjpdaaStPut2_1
import Derived.Test.YtofemimgjcjpdaaStPour0
import Derived.Test.YtofemimgjcjpdaaStPour1
namespace Go.Proofs.Ytofemimgjcjpdaa.H
open Go.Conc Go.RowKit Go.Shelf
open Go.Proofs.YtofemimgjcjpdaaW.PrintWords (ReadsInt readsInt_of)
set_option linter.unusedVariables false
set_option linter.unusedSimpArgs false
theorem rnew (a : Int) (w : World) : Calls Try.prog 9 #[.int .i64 a] w fun e w' => ∃ v, e = .returned (.agg #[v, .int .i64 (held a), .bool false]) ∧ Rd w' v [] ∧ Below w.heap.size w w' := by
  refine (A.greenscreenref03_New.calls a [] (held a) false w ?_).mono ?_
  · unfold A.greenscreenref03_New.f A.greenscreenref01_Held.f held
    split
    · rw [if_neg (by omega)]; rfl
    · split
      · rfl
      · simp only [Option.bind_some, Option.some.injEq, Prod.mk.injEq, and_true, true_and]; omega
  · rintro e w' ⟨v, rfl, hr, hb⟩
    exact ⟨v, rfl, Rd.of_own (Go.Proofs.YtofemimgjcjpdaaW.PrintWords.Kd.own_of_R hr), hb⟩

/-- What is told of two queues and the document's between two steps. -/
structure Sm (w : World) (Q X k1 k2 g c g2 c2 : Nat) (xs ys : List Int) (s s2 : Bool) (v1 v2 : Value) (W : World) : Prop where
  d : Duo k1 k2 w g c xs s g2 c2 ys s2 W
  lx : xs.length ≤ k1
  ly : ys.length ≤ k2
  q : W.heap[Q]? = some (Obj.cells #[.pointer (some ⟨g, 0, none⟩), .pointer (some ⟨g2, 0, none⟩)] 24 (0, 0))
  x : W.heap[X]? = some (Obj.cells #[v1, .int .i64 k1, .bool s, v2, .int .i64 k2, .bool s2] 29 (0, 0))
  r1 : Rd W v1 xs
  r2 : Rd W v2 ys
  X0 : w.heap.size ≤ X
section
variable {w wr W w1 : World} {Q X k1 k2 g c g2 c2 : Nat} {xs ys : List Int} {s s2 : Bool} {v1 v2 : Value}
theorem Sm.same (h : Sm w Q X k1 k2 g c g2 c2 xs ys s s2 v1 v2 W) : Same w Q X k1 k2 g c g2 c2 W := ⟨xs, ys, s, s2, v1, v2, h.d, h.lx, h.ly, h.q, h.x, h.r1, h.r2, h.X0⟩
theorem Same.sm (h : Same w Q X k1 k2 g c g2 c2 W) : ∃ xs ys s s2 v1 v2, Sm w Q X k1 k2 g c g2 c2 xs ys s s2 v1 v2 W := by
  obtain ⟨xs, ys, s, s2, v1, v2, hD, hlx, hly, hq, hx, hr1, hr2, hX⟩ := h
  exact ⟨xs, ys, s, s2, v1, v2, hD, hlx, hly, hq, hx, hr1, hr2, hX⟩
theorem Sm.later (h : Sm w Q X k1 k2 g c g2 c2 xs ys s s2 v1 v2 W) (hb : Below W.heap.size W w1) : Sm w Q X k1 k2 g c g2 c2 xs ys s s2 v1 v2 w1 :=
  ⟨h.d.later hb, h.lx, h.ly, blk_keep hb h.q, blk_keep hb h.x, h.r1.stay (Stay.of_below hb), h.r2.stay (Stay.of_below hb), h.X0⟩
theorem rs0_start (H : Sm w Q X k1 k2 g c g2 c2 xs ys s s2 v1 v2 wr) : wr.drew.cell? ⟨Q, 0, none⟩ = some (.pointer (some ⟨g, 0, none⟩)) ∧ wr.drew.cell? ⟨X, 0, none⟩ = some v1 ∧ wr.drew.cell? ⟨X, 1, none⟩ = some (.int .i64 k1) ∧ wr.drew.cell? ⟨X, 2, none⟩ = some (.bool s) ∧ Below wr.heap.size wr wr.drew := ⟨cell_of H.q 0, cell_of H.x 0, cell_of H.x 1, cell_of H.x 2, bdr⟩
theorem rs0_end (H : Sm w Q X k1 k2 g c g2 c2 xs ys s s2 v1 v2 wr) (h : W.cell? ⟨Q, 0, none⟩ = some (.pointer (some ⟨g, 0, none⟩)) ∧ W.cell? ⟨X, 0, none⟩ = some v1 ∧ W.cell? ⟨X, 1, none⟩ = some (.int .i64 k1) ∧ W.cell? ⟨X, 2, none⟩ = some (.bool s) ∧ Below wr.heap.size wr W) : Sm w Q X k1 k2 g c g2 c2 xs ys s s2 v1 v2 W := H.later h.2.2.2.2
theorem rs0_drew (h : W.cell? ⟨Q, 0, none⟩ = some (.pointer (some ⟨g, 0, none⟩)) ∧ W.cell? ⟨X, 0, none⟩ = some v1 ∧ W.cell? ⟨X, 1, none⟩ = some (.int .i64 k1) ∧ W.cell? ⟨X, 2, none⟩ = some (.bool s) ∧ Below wr.heap.size wr W) : W.drew.cell? ⟨Q, 0, none⟩ = some (.pointer (some ⟨g, 0, none⟩)) ∧ W.drew.cell? ⟨X, 0, none⟩ = some v1 ∧ W.drew.cell? ⟨X, 1, none⟩ = some (.int .i64 k1) ∧ W.drew.cell? ⟨X, 2, none⟩ = some (.bool s) ∧ Below wr.heap.size wr W.drew := ⟨h.1, h.2.1, h.2.2.1, h.2.2.2.1, h.2.2.2.2.trans (bdr.mono h.2.2.2.2.size)⟩
theorem rs0_on (H : Sm w Q X k1 k2 g c g2 c2 xs ys s s2 v1 v2 wr) (h : W.cell? ⟨Q, 0, none⟩ = some (.pointer (some ⟨g, 0, none⟩)) ∧ W.cell? ⟨X, 0, none⟩ = some v1 ∧ W.cell? ⟨X, 1, none⟩ = some (.int .i64 k1) ∧ W.cell? ⟨X, 2, none⟩ = some (.bool s) ∧ Below wr.heap.size wr W) (hb : Below W.heap.size W w1) : w1.cell? ⟨Q, 0, none⟩ = some (.pointer (some ⟨g, 0, none⟩)) ∧ w1.cell? ⟨X, 0, none⟩ = some v1 ∧ w1.cell? ⟨X, 1, none⟩ = some (.int .i64 k1) ∧ w1.cell? ⟨X, 2, none⟩ = some (.bool s) ∧ Below wr.heap.size wr w1 :=
  have H2 := H.later (h.2.2.2.2.trans (hb.mono h.2.2.2.2.size))
  ⟨cell_of H2.q 0, cell_of H2.x 0, cell_of H2.x 1, cell_of H2.x 2, h.2.2.2.2.trans (hb.mono h.2.2.2.2.size)⟩
theorem rs0_len (H : Sm w Q X k1 k2 g c g2 c2 xs ys s s2 v1 v2 wr) (h : W.cell? ⟨Q, 0, none⟩ = some (.pointer (some ⟨g, 0, none⟩)) ∧ W.cell? ⟨X, 0, none⟩ = some v1 ∧ W.cell? ⟨X, 1, none⟩ = some (.int .i64 k1) ∧ W.cell? ⟨X, 2, none⟩ = some (.bool s) ∧ Below wr.heap.size wr W) : Calls Try.prog 11 #[.pointer (some ⟨g, 0, none⟩)] W (fun e w' => e = .returned (.int .i64 xs.length) ∧ w' = W) := len_any _ _ _ _ _ _ (H.d.later h.2.2.2.2).q
theorem rs0_over (H : Sm w Q X k1 k2 g c g2 c2 xs ys s s2 v1 v2 wr) {ob : Bool} (hob : overB xs s = ob) (h : W.cell? ⟨Q, 0, none⟩ = some (.pointer (some ⟨g, 0, none⟩)) ∧ W.cell? ⟨X, 0, none⟩ = some v1 ∧ W.cell? ⟨X, 1, none⟩ = some (.int .i64 k1) ∧ W.cell? ⟨X, 2, none⟩ = some (.bool s) ∧ Below wr.heap.size wr W) : Calls Try.prog 14 #[.pointer (some ⟨g, 0, none⟩)] W (fun e w' => e = .returned (.bool ob) ∧ w' = W) := by
  subst hob
  exact over_any _ _ _ _ _ _ (H.d.later h.2.2.2.2).q
theorem rs0_room (H : Sm w Q X k1 k2 g c g2 c2 xs ys s s2 v1 v2 wr) (l1 : k1 ≤ 1024) (l2 : k2 ≤ 1024) (h : W.cell? ⟨Q, 0, none⟩ = some (.pointer (some ⟨g, 0, none⟩)) ∧ W.cell? ⟨X, 0, none⟩ = some v1 ∧ W.cell? ⟨X, 1, none⟩ = some (.int .i64 k1) ∧ W.cell? ⟨X, 2, none⟩ = some (.bool s) ∧ Below wr.heap.size wr W) : Calls Try.prog 12 #[.pointer (some ⟨g, 0, none⟩)] W (fun e w' => e = .returned (.int .i64 (roomN k1 xs s)) ∧ w'.cell? ⟨Q, 0, none⟩ = some (.pointer (some ⟨g, 0, none⟩)) ∧ w'.cell? ⟨X, 0, none⟩ = some v1 ∧ w'.cell? ⟨X, 1, none⟩ = some (.int .i64 k1) ∧ w'.cell? ⟨X, 2, none⟩ = some (.bool s) ∧ Below wr.heap.size wr w') := by
  have hl := H.lx
  have hl2 := H.ly
  refine (room_any _ _ _ _ _ _ (H.d.later h.2.2.2.2).q (by omega) (by omega)).mono ?_
  rintro e w' ⟨rfl, n, rfl⟩
  exact ⟨rfl, rs0_on H h (bdrn n)⟩
theorem rs0_rroom (H : Sm w Q X k1 k2 g c g2 c2 xs ys s s2 v1 v2 wr) (l1 : k1 ≤ 1024) (l2 : k2 ≤ 1024) (h : W.cell? ⟨Q, 0, none⟩ = some (.pointer (some ⟨g, 0, none⟩)) ∧ W.cell? ⟨X, 0, none⟩ = some v1 ∧ W.cell? ⟨X, 1, none⟩ = some (.int .i64 k1) ∧ W.cell? ⟨X, 2, none⟩ = some (.bool s) ∧ Below wr.heap.size wr W) : Calls Try.prog 13 #[.agg #[v1, .int .i64 k1, .bool s]] W (fun e w' => e = .returned (.int .i64 (roomN k1 xs s)) ∧ w'.cell? ⟨Q, 0, none⟩ = some (.pointer (some ⟨g, 0, none⟩)) ∧ w'.cell? ⟨X, 0, none⟩ = some v1 ∧ w'.cell? ⟨X, 1, none⟩ = some (.int .i64 k1) ∧ w'.cell? ⟨X, 2, none⟩ = some (.bool s) ∧ Below wr.heap.size wr w') := by
  have hl := H.lx
  have hl2 := H.ly
  refine (rroom _ _ _ _ _ (H.r1.stay (Stay.of_below h.2.2.2.2)) (by omega) (by omega)).mono ?_
  rintro e w' ⟨rfl, hb⟩
  exact ⟨rfl, rs0_on H h hb⟩
theorem rs1_start (H : Sm w Q X k1 k2 g c g2 c2 xs ys s s2 v1 v2 wr) : wr.drew.cell? ⟨Q, 1, none⟩ = some (.pointer (some ⟨g2, 0, none⟩)) ∧ wr.drew.cell? ⟨X, 3, none⟩ = some v2 ∧ wr.drew.cell? ⟨X, 4, none⟩ = some (.int .i64 k2) ∧ wr.drew.cell? ⟨X, 5, none⟩ = some (.bool s2) ∧ Below wr.heap.size wr wr.drew := ⟨cell_of H.q 1, cell_of H.x 3, cell_of H.x 4, cell_of H.x 5, bdr⟩
theorem rs1_end (H : Sm w Q X k1 k2 g c g2 c2 xs ys s s2 v1 v2 wr) (h : W.cell? ⟨Q, 1, none⟩ = some (.pointer (some ⟨g2, 0, none⟩)) ∧ W.cell? ⟨X, 3, none⟩ = some v2 ∧ W.cell? ⟨X, 4, none⟩ = some (.int .i64 k2) ∧ W.cell? ⟨X, 5, none⟩ = some (.bool s2) ∧ Below wr.heap.size wr W) : Sm w Q X k1 k2 g c g2 c2 xs ys s s2 v1 v2 W := H.later h.2.2.2.2
theorem rs1_drew (h : W.cell? ⟨Q, 1, none⟩ = some (.pointer (some ⟨g2, 0, none⟩)) ∧ W.cell? ⟨X, 3, none⟩ = some v2 ∧ W.cell? ⟨X, 4, none⟩ = some (.int .i64 k2) ∧ W.cell? ⟨X, 5, none⟩ = some (.bool s2) ∧ Below wr.heap.size wr W) : W.drew.cell? ⟨Q, 1, none⟩ = some (.pointer (some ⟨g2, 0, none⟩)) ∧ W.drew.cell? ⟨X, 3, none⟩ = some v2 ∧ W.drew.cell? ⟨X, 4, none⟩ = some (.int .i64 k2) ∧ W.drew.cell? ⟨X, 5, none⟩ = some (.bool s2) ∧ Below wr.heap.size wr W.drew := ⟨h.1, h.2.1, h.2.2.1, h.2.2.2.1, h.2.2.2.2.trans (bdr.mono h.2.2.2.2.size)⟩
theorem rs1_on (H : Sm w Q X k1 k2 g c g2 c2 xs ys s s2 v1 v2 wr) (h : W.cell? ⟨Q, 1, none⟩ = some (.pointer (some ⟨g2, 0, none⟩)) ∧ W.cell? ⟨X, 3, none⟩ = some v2 ∧ W.cell? ⟨X, 4, none⟩ = some (.int .i64 k2) ∧ W.cell? ⟨X, 5, none⟩ = some (.bool s2) ∧ Below wr.heap.size wr W) (hb : Below W.heap.size W w1) : w1.cell? ⟨Q, 1, none⟩ = some (.pointer (some ⟨g2, 0, none⟩)) ∧ w1.cell? ⟨X, 3, none⟩ = some v2 ∧ w1.cell? ⟨X, 4, none⟩ = some (.int .i64 k2) ∧ w1.cell? ⟨X, 5, none⟩ = some (.bool s2) ∧ Below wr.heap.size wr w1 :=
  have H2 := H.later (h.2.2.2.2.trans (hb.mono h.2.2.2.2.size))
  ⟨cell_of H2.q 1, cell_of H2.x 3, cell_of H2.x 4, cell_of H2.x 5, h.2.2.2.2.trans (hb.mono h.2.2.2.2.size)⟩
theorem rs1_len (H : Sm w Q X k1 k2 g c g2 c2 xs ys s s2 v1 v2 wr) (h : W.cell? ⟨Q, 1, none⟩ = some (.pointer (some ⟨g2, 0, none⟩)) ∧ W.cell? ⟨X, 3, none⟩ = some v2 ∧ W.cell? ⟨X, 4, none⟩ = some (.int .i64 k2) ∧ W.cell? ⟨X, 5, none⟩ = some (.bool s2) ∧ Below wr.heap.size wr W) : Calls Try.prog 11 #[.pointer (some ⟨g2, 0, none⟩)] W (fun e w' => e = .returned (.int .i64 ys.length) ∧ w' = W) := len_any _ _ _ _ _ _ (H.d.later h.2.2.2.2).q2
theorem rs1_over (H : Sm w Q X k1 k2 g c g2 c2 xs ys s s2 v1 v2 wr) {ob : Bool} (hob : overB ys s2 = ob) (h : W.cell? ⟨Q, 1, none⟩ = some (.pointer (some ⟨g2, 0, none⟩)) ∧ W.cell? ⟨X, 3, none⟩ = some v2 ∧ W.cell? ⟨X, 4, none⟩ = some (.int .i64 k2) ∧ W.cell? ⟨X, 5, none⟩ = some (.bool s2) ∧ Below wr.heap.size wr W) : Calls Try.prog 14 #[.pointer (some ⟨g2, 0, none⟩)] W (fun e w' => e = .returned (.bool ob) ∧ w' = W) := by
  subst hob
  exact over_any _ _ _ _ _ _ (H.d.later h.2.2.2.2).q2
theorem rs1_room (H : Sm w Q X k1 k2 g c g2 c2 xs ys s s2 v1 v2 wr) (l1 : k1 ≤ 1024) (l2 : k2 ≤ 1024) (h : W.cell? ⟨Q, 1, none⟩ = some (.pointer (some ⟨g2, 0, none⟩)) ∧ W.cell? ⟨X, 3, none⟩ = some v2 ∧ W.cell? ⟨X, 4, none⟩ = some (.int .i64 k2) ∧ W.cell? ⟨X, 5, none⟩ = some (.bool s2) ∧ Below wr.heap.size wr W) : Calls Try.prog 12 #[.pointer (some ⟨g2, 0, none⟩)] W (fun e w' => e = .returned (.int .i64 (roomN k2 ys s2)) ∧ w'.cell? ⟨Q, 1, none⟩ = some (.pointer (some ⟨g2, 0, none⟩)) ∧ w'.cell? ⟨X, 3, none⟩ = some v2 ∧ w'.cell? ⟨X, 4, none⟩ = some (.int .i64 k2) ∧ w'.cell? ⟨X, 5, none⟩ = some (.bool s2) ∧ Below wr.heap.size wr w') := by
  have hl := H.lx
  have hl2 := H.ly
  refine (room_any _ _ _ _ _ _ (H.d.later h.2.2.2.2).q2 (by omega) (by omega)).mono ?_
  rintro e w' ⟨rfl, n, rfl⟩
  exact ⟨rfl, rs1_on H h (bdrn n)⟩
theorem rs1_rroom (H : Sm w Q X k1 k2 g c g2 c2 xs ys s s2 v1 v2 wr) (l1 : k1 ≤ 1024) (l2 : k2 ≤ 1024) (h : W.cell? ⟨Q, 1, none⟩ = some (.pointer (some ⟨g2, 0, none⟩)) ∧ W.cell? ⟨X, 3, none⟩ = some v2 ∧ W.cell? ⟨X, 4, none⟩ = some (.int .i64 k2) ∧ W.cell? ⟨X, 5, none⟩ = some (.bool s2) ∧ Below wr.heap.size wr W) : Calls Try.prog 13 #[.agg #[v2, .int .i64 k2, .bool s2]] W (fun e w' => e = .returned (.int .i64 (roomN k2 ys s2)) ∧ w'.cell? ⟨Q, 1, none⟩ = some (.pointer (some ⟨g2, 0, none⟩)) ∧ w'.cell? ⟨X, 3, none⟩ = some v2 ∧ w'.cell? ⟨X, 4, none⟩ = some (.int .i64 k2) ∧ w'.cell? ⟨X, 5, none⟩ = some (.bool s2) ∧ Below wr.heap.size wr w') := by
  have hl := H.lx
  have hl2 := H.ly
  refine (rroom _ _ _ _ _ (H.r2.stay (Stay.of_below h.2.2.2.2)) (by omega) (by omega)).mono ?_
  rintro e w' ⟨rfl, hb⟩
  exact ⟨rfl, rs1_on H h hb⟩
end

/-- At the end: what still waits (ps, qs), beside what the document's hold (xs, ys). -/
structure Sn (w : World) (Q X k1 k2 g c g2 c2 : Nat) (ps qs xs ys : List Int) (s s2 : Bool) (v1 v2 : Value) (W : World) : Prop where
  d : Duo k1 k2 w g c ps s g2 c2 qs s2 W
  q : W.heap[Q]? = some (Obj.cells #[.pointer (some ⟨g, 0, none⟩), .pointer (some ⟨g2, 0, none⟩)] 24 (0, 0))
  x : W.heap[X]? = some (Obj.cells #[v1, .int .i64 k1, .bool s, v2, .int .i64 k2, .bool s2] 29 (0, 0))
  r1 : Rd W v1 xs
  r2 : Rd W v2 ys
section
variable {w wr W w1 : World} {Q X k1 k2 g c g2 c2 : Nat} {ps qs xs ys : List Int} {s s2 : Bool} {v1 v2 : Value}
theorem Sm.sn (h : Sm w Q X k1 k2 g c g2 c2 xs ys s s2 v1 v2 W) : Sn w Q X k1 k2 g c g2 c2 xs ys xs ys s s2 v1 v2 W := ⟨h.d, h.q, h.x, h.r1, h.r2⟩
theorem Sn.s4 (h : Sn w Q X k1 k2 g c g2 c2 ps qs xs ys s s2 v1 v2 W) : W.cell? ⟨Q, 0, none⟩ = some (.pointer (some ⟨g, 0, none⟩)) ∧ W.cell? ⟨Q, 1, none⟩ = some (.pointer (some ⟨g2, 0, none⟩)) ∧ W.cell? ⟨X, 0, none⟩ = some v1 ∧ W.cell? ⟨X, 3, none⟩ = some v2 := ⟨cell_of h.q 0, cell_of h.q 1, cell_of h.x 0, cell_of h.x 3⟩
theorem Sn.later (h : Sn w Q X k1 k2 g c g2 c2 ps qs xs ys s s2 v1 v2 W) (hb : Below W.heap.size W w1) : Sn w Q X k1 k2 g c g2 c2 ps qs xs ys s s2 v1 v2 w1 := ⟨h.d.later hb, blk_keep hb h.q, blk_keep hb h.x, h.r1.stay (Stay.of_below hb), h.r2.stay (Stay.of_below hb)⟩
theorem Sn.turn {ps' qs' : List Int} (h : Sn w Q X k1 k2 g c g2 c2 ps qs xs ys s s2 v1 v2 W) {S : Nat → Prop} (hd : Duo k1 k2 w g c ps' s g2 c2 qs' s2 w1) (ht : Turn S W w1) (hS : ∀ i cells u fr, S i → W.heap[i]? = some (Obj.cells cells u fr) → u = 56) : Sn w Q X k1 k2 g c g2 c2 ps' qs' xs ys s s2 v1 v2 w1 := by
  have st : Stay W w1 := Stay.of_turn ht (fun i hi cells fr e => absurd (hS i _ _ _ hi e) (by decide))
  exact ⟨hd, ht.blk h.q (fun hs => absurd (hS _ _ _ _ hs h.q) (by decide)), ht.blk h.x (fun hs => absurd (hS _ _ _ _ hs h.x) (by decide)), h.r1.stay st, h.r2.stay st⟩
theorem Sn.take1 (h : Sn w Q X k1 k2 g c g2 c2 ps qs xs ys s s2 v1 v2 W) (hl : ps.length ≤ 1500) : Calls Try.prog 16 #[.pointer (some ⟨g, 0, none⟩), .int .i64 2000] W (fun e w' => ∃ Ad cp, e = .returned (.slice Ad ps.length cp) ∧ ps.length ≤ cp ∧ ReadsInt w' .i64 Ad ps.length ps ∧ Sn w Q X k1 k2 g c g2 c2 [] qs xs ys s s2 v1 v2 w') := by
  refine (taken_all _ _ _ _ _ _ h.d.q hl).mono ?_
  rintro e w' ⟨Ad, cp, rfl, hc, _, hr, hq, ht⟩
  exact ⟨Ad, cp, rfl, hc, hr, h.turn (h.d.first hq ht (fun _ h => .inl h)) ht (fun i cells u fr hi e => by subst hi; exact h.d.q.ty (.inl rfl) e)⟩
theorem Sn.take2 (h : Sn w Q X k1 k2 g c g2 c2 ps qs xs ys s s2 v1 v2 W) (hl : qs.length ≤ 1500) : Calls Try.prog 16 #[.pointer (some ⟨g2, 0, none⟩), .int .i64 2000] W (fun e w' => ∃ Ad cp, e = .returned (.slice Ad qs.length cp) ∧ qs.length ≤ cp ∧ ReadsInt w' .i64 Ad qs.length qs ∧ Sn w Q X k1 k2 g c g2 c2 ps [] xs ys s s2 v1 v2 w') := by
  refine (taken_all _ _ _ _ _ _ h.d.q2 hl).mono ?_
  rintro e w' ⟨Ad, cp, rfl, hc, _, hr, hq, ht⟩
  exact ⟨Ad, cp, rfl, hc, hr, h.turn (h.d.second hq ht (fun _ h => .inl h)) ht (fun i cells u fr hi e => by subst hi; exact h.d.q2.ty (.inl rfl) e)⟩
theorem Sn.same1 (h : Sn w Q X k1 k2 g c g2 c2 ps qs xs ys s s2 v1 v2 W) {Ad : Option Addr} {cp : Nat} (hc : xs.length ≤ cp) (hr : ReadsInt W .i64 Ad xs.length xs) (hl : xs.length ≤ 5000) : Calls Try.prog 15 #[.slice Ad xs.length cp, v1] W (fun e w' => e = .returned (.bool true) ∧ Sn w Q X k1 k2 g c g2 c2 ps qs xs ys s s2 v1 v2 w') := by
  have h0 := h
  obtain ⟨hd, hq, hx, ⟨A1, c1, rfl, hc1, hr1, ht1⟩, hr2⟩ := h
  refine (same_of W Ad A1 cp c1 xs.length xs rfl hr hc hr1 hc1 hl).mono ?_
  rintro e w' ⟨rfl, n, rfl⟩
  exact ⟨rfl, h0.later (bdrn n)⟩
theorem Sn.same2 (h : Sn w Q X k1 k2 g c g2 c2 ps qs xs ys s s2 v1 v2 W) {Ad : Option Addr} {cp : Nat} (hc : ys.length ≤ cp) (hr : ReadsInt W .i64 Ad ys.length ys) (hl : ys.length ≤ 5000) : Calls Try.prog 15 #[.slice Ad ys.length cp, v2] W (fun e w' => e = .returned (.bool true) ∧ Sn w Q X k1 k2 g c g2 c2 ps qs xs ys s s2 v1 v2 w') := by
  have h0 := h
  obtain ⟨hd, hq, hx, hr1, ⟨A1, c1, rfl, hc1, hr2, ht1⟩⟩ := h
  refine (same_of W Ad A1 cp c1 ys.length ys rfl hr hc hr2 hc1 hl).mono ?_
  rintro e w' ⟨rfl, n, rfl⟩
  exact ⟨rfl, h0.later (bdrn n)⟩
end
end Go.Proofs.Ytofemimgjcjpdaa.H

namespace Go.Proofs.Ytofemimgjcjpdaa.H
open Go.Conc Go.RowKit Go.Shelf
set_option linter.unusedVariables false
set_option linter.unusedSimpArgs false
section
variable {w W w1 : World} {Q X k1 k2 g c g2 c2 : Nat}
theorem Same.later (h : Same w Q X k1 k2 g c g2 c2 W) (hb : Below W.heap.size W w1) : Same w Q X k1 k2 g c g2 c2 w1 := by
  obtain ⟨xs, ys, s, s2, v1, v2, hD, hlx, hly, hq, hx, hr1, hr2, hX⟩ := h
  exact ⟨xs, ys, s, s2, v1, v2, hD.later hb, hlx, hly, blk_keep hb hq, blk_keep hb hx, hr1.stay (Stay.of_below hb), hr2.stay (Stay.of_below hb), hX⟩
theorem step_at (h : Same w Q X k1 k2 g c g2 c2 W) (l1 : k1 ≤ 1024) (l2 : k2 ≤ 1024) (K Z : Int) (B : Bool) (i : Int) (hi : i = 0 ∨ i = 1) :
    Calls Try.prog 10 #[.slice (some ⟨Q, 0, none⟩) 2 2, .slice (some ⟨X, 0, none⟩) 2 2, .int .i64 i, .agg #[.int .i64 K, .int .i64 Z, .bool B]] W (StepP w Q X k1 k2 g c g2 c2) := by
  have hb := (Below.refl W.heap.size W).alloc (Nat.le_refl _) (Obj.cells #[.int .i64 K, .int .i64 Z, .bool B] 33)
  obtain ⟨xs, ys, s, s2, v1, v2, hD, lx, ly, hq, hx, hr1, hr2, hX⟩ := h
  have D := Lib.hid (hD.later hb)
  have H : Hid (Xs w Q X W.heap.size k1 k2 g g2 K Z B xs ys s s2 v1 v2 (W.alloc (Obj.cells #[.int .i64 K, .int .i64 Z, .bool B] 33))) := Lib.hid ⟨blk_keep hb hq, blk_keep hb hx, new_at _ _, hr1.stay (Stay.of_below hb), hr2.stay (Stay.of_below hb), hX⟩
  by_cases h0 : K = 0
  · rcases hi with rfl | rfl
    · exact step_put0_0 w W Q X k1 k2 g c g2 c2 xs ys s s2 v1 v2 K Z B h0 D H lx ly l1 l2
    · exact step_put0_1 w W Q X k1 k2 g c g2 c2 xs ys s s2 v1 v2 K Z B h0 D H lx ly l1 l2
  by_cases h1 : K = 1
  · rcases hi with rfl | rfl
    · exact step_put1_0 w W Q X k1 k2 g c g2 c2 xs ys s s2 v1 v2 K Z B h1 D H lx ly l1 l2
    · exact step_put1_1 w W Q X k1 k2 g c g2 c2 xs ys s s2 v1 v2 K Z B h1 D H lx ly l1 l2
  by_cases h2 : K = 2
  · rcases hi with rfl | rfl
    · exact step_put2_0 w W Q X k1 k2 g c g2 c2 xs ys s s2 v1 v2 K Z B h2 D H lx ly l1 l2
    · exact step_put2_1 w W Q X k1 k2 g c g2 c2 xs ys s s2 v1 v2 K Z B h2 D H lx ly l1 l2
  by_cases h3 : K = 3 ∨ K = 4
  · rcases hi with rfl | rfl
    · exact step_get0 w W Q X k1 k2 g c g2 c2 xs ys s s2 v1 v2 K Z B h3 D H lx ly l1 l2
    · exact step_get1 w W Q X k1 k2 g c g2 c2 xs ys s s2 v1 v2 K Z B h3 D H lx ly l1 l2
  by_cases h5 : K = 5
  · rcases hi with rfl | rfl
    · exact step_shut0 w W Q X k1 k2 g c g2 c2 xs ys s s2 v1 v2 K Z B h5 D H lx ly l1 l2
    · exact step_shut1 w W Q X k1 k2 g c g2 c2 xs ys s s2 v1 v2 K Z B h5 D H lx ly l1 l2
  by_cases h6 : K = 6
  · rcases hi with rfl | rfl
    · exact step_take0 w W Q X k1 k2 g c g2 c2 xs ys s s2 v1 v2 K Z B h6 D H lx ly l1 l2
    · exact step_take1 w W Q X k1 k2 g c g2 c2 xs ys s s2 v1 v2 K Z B h6 D H lx ly l1 l2
  by_cases h7 : K = 7
  · exact step_first w W Q X k1 k2 g c g2 c2 xs ys s s2 v1 v2 i K Z B h7 D H lx ly l1 l2
  by_cases h8 : K = 8
  · rcases hi with rfl | rfl
    · exact step_pour0 w W Q X k1 k2 g c g2 c2 xs ys s s2 v1 v2 K Z B h8 D H lx ly l1 l2
    · exact step_pour1 w W Q X k1 k2 g c g2 c2 xs ys s s2 v1 v2 K Z B h8 D H lx ly l1 l2
  · rcases hi with rfl | rfl
    · exact step_other0 w W Q X k1 k2 g c g2 c2 xs ys s s2 v1 v2 K Z B (by omega) D H lx ly l1 l2
    · exact step_other1 w W Q X k1 k2 g c g2 c2 xs ys s s2 v1 v2 K Z B (by omega) D H lx ly l1 l2
end
end Go.Proofs.Ytofemimgjcjpdaa.H

