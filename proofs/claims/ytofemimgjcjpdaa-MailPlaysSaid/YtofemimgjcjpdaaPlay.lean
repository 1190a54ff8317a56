/- MailPlays: both queues, and the document's, in memory. -/
import Derived.Test.YtofemimgjcjpdaaRefs2
namespace Go.Proofs.Ytofemimgjcjpdaa.H
open Go.Conc Go.RowKit Go.Shelf
open Go.Proofs.YtofemimgjcjpdaaW.PrintWords (ReadsInt below_alloc pw_cell_below below_step readsInt_of)
set_option linter.unusedVariables false
set_option linter.unusedSimpArgs false

theorem IsQ.ty {w : World} {g c cap : Nat} {xs : List Int} {shut : Bool} (h : IsQ w g c cap xs shut) {i : Nat} (hi : i = c ∨ i = g) {cells : Array Value} {t : TypeId} {fr : Nat × Nat} (e : w.heap[i]? = some (Obj.cells cells t fr)) : t = 56 := by
  obtain ⟨h1, s, r, h2⟩ := h
  rcases hi with rfl | rfl
  · rw [h2] at e
    cases e
  · rw [h1] at e
    injection e with e
    injection e with _ e _
    exact e.symm
/-- The slices of both kinds of queues, the steps' box besides. -/
structure Xs (w : World) (Q X Bo k1 k2 g g2 : Nat) (K Z : Int) (B : Bool) (xs ys : List Int) (s s2 : Bool) (v1 v2 : Value) (W : World) : Prop where
  q : W.heap[Q]? = some (Obj.cells #[.pointer (some ⟨g, 0, none⟩), .pointer (some ⟨g2, 0, none⟩)] 24 (0, 0))
  x : W.heap[X]? = some (Obj.cells #[v1, .int .i64 k1, .bool s, v2, .int .i64 k2, .bool s2] 29 (0, 0))
  o : W.heap[Bo]? = some (Obj.cells #[.int .i64 K, .int .i64 Z, .bool B] 33 (0, 0))
  r1 : Rd W v1 xs
  r2 : Rd W v2 ys
  X0 : w.heap.size ≤ X
section
variable {w W W' : World} {Q X Bo k1 k2 g g2 c c2 : Nat} {K Z : Int} {B : Bool} {xs ys xs' ys' ps qs : List Int} {s s2 s' s2' t t2 : Bool} {v1 v2 v : Value}
theorem Xs.later (h : Xs w Q X Bo k1 k2 g g2 K Z B xs ys s s2 v1 v2 W) (hb : Below W.heap.size W W') : Xs w Q X Bo k1 k2 g g2 K Z B xs ys s s2 v1 v2 W' := by
  have hk : ∀ {i o}, W.heap[i]? = some o → W'.heap[i]? = some o := fun {i o} h => (hb.block i (Array.getElem?_eq_some_iff.1 h).1).trans h
  exact ⟨hk h.q, hk h.x, hk h.o, h.r1.stay (Stay.of_below hb), h.r2.stay (Stay.of_below hb), h.X0⟩
theorem Xs.turn (h : Xs w Q X Bo k1 k2 g g2 K Z B xs ys s s2 v1 v2 W) {S : Nat → Prop} (ht : Turn S W W') (hS : ∀ i cells u fr, S i → W.heap[i]? = some (Obj.cells cells u fr) → u = 56) : Xs w Q X Bo k1 k2 g g2 K Z B xs ys s s2 v1 v2 W' := by
  have st : Stay W W' := Stay.of_turn ht (fun i hi cells fr e => absurd (hS i _ _ _ hi e) (by decide))
  exact ⟨ht.blk h.q (fun hs => absurd (hS _ _ _ _ hs h.q) (by decide)), ht.blk h.x (fun hs => absurd (hS _ _ _ _ hs h.x) (by decide)), ht.blk h.o (fun hs => absurd (hS _ _ _ _ hs h.o) (by decide)), h.r1.stay st, h.r2.stay st, h.X0⟩
theorem Duo.ty (h : Duo k1 k2 w g c ps t g2 c2 qs t2 W) {i : Nat} (hi : i = c ∨ i = g ∨ i = c2 ∨ i = g2) {cells : Array Value} {u : TypeId} {fr : Nat × Nat} (e : W.heap[i]? = some (Obj.cells cells u fr)) : u = 56 := by
  rcases hi with hi | hi | hi | hi
  · exact h.q.ty (.inl hi) e
  · exact h.q.ty (.inr hi) e
  · exact h.q2.ty (.inl hi) e
  · exact h.q2.ty (.inr hi) e
/-- A store into the document's queues leaves the others. -/
theorem Duo.off (h : Duo k1 k2 w g c ps t g2 c2 qs t2 W) {cells : Array Value} (hx : W.heap[X]? = some (Obj.cells cells 29 (0, 0))) (hX : w.heap.size ≤ X) (ht : Turn (· = X) W W') : Duo k1 k2 w g c ps t g2 c2 qs t2 W' := by
  have hn : ∀ i, (i = c ∨ i = g ∨ i = c2 ∨ i = g2) → ¬ i = X := fun i hi e => by
    subst e
    exact absurd (h.ty hi hx) (by decide)
  exact ⟨h.q.turn ht (hn _ (by simp)) (hn _ (by simp)), h.q2.turn ht (hn _ (by simp)) (hn _ (by simp)), h.b.trans (ht.below h.b.size (fun i e => by subst e; exact hX)), h.g0, h.c0, h.g20, h.c20, h.hg, h.hc⟩
theorem turn3 (W : World) (X i j k : Nat) (a b c : Value) : Turn (· = X) W (((W.setCell ⟨X, i, none⟩ a).setCell ⟨X, j, none⟩ b).setCell ⟨X, k, none⟩ c) := (turn_setCell W ⟨X, i, none⟩ a (· = X) rfl).trans ((turn_setCell _ ⟨X, j, none⟩ b (· = X) rfl).trans (turn_setCell _ ⟨X, k, none⟩ c (· = X) rfl))
theorem Xs.at_ (h : Xs w Q X Bo k1 k2 g g2 K Z B xs ys s s2 v1 v2 W) (ht : Turn (· = X) W W') (hx : W'.heap[X]? = some (Obj.cells #[v, .int .i64 k1, .bool s', v2, .int .i64 k2, .bool s2'] 29 (0, 0))) (hr : Rd W v xs') :
    Xs w Q X Bo k1 k2 g g2 K Z B xs' ys s' s2' v v2 W' := by
  have st : Stay W W' := Stay.of_turn ht (fun i hi => by subst hi; exact no3_of h.x (by decide))
  have hq : Q ≠ X := fun e => by
    have h1 := h.q
    rw [e, h.x] at h1
    injection h1 with h1
    injection h1 with _ h1 _
    cases h1
  have ho : Bo ≠ X := fun e => by
    have h1 := h.o
    rw [e, h.x] at h1
    injection h1 with h1
    injection h1 with _ h1 _
    cases h1
  exact ⟨ht.blk h.q hq, hx, ht.blk h.o ho, hr.stay st, h.r2.stay st, h.X0⟩
theorem Xs.at2 (h : Xs w Q X Bo k1 k2 g g2 K Z B xs ys s s2 v1 v2 W) (ht : Turn (· = X) W W') (hx : W'.heap[X]? = some (Obj.cells #[v1, .int .i64 k1, .bool s', v, .int .i64 k2, .bool s2'] 29 (0, 0))) (hr : Rd W v ys') :
    Xs w Q X Bo k1 k2 g g2 K Z B xs ys' s' s2' v1 v W' := by
  have st : Stay W W' := Stay.of_turn ht (fun i hi => by subst hi; exact no3_of h.x (by decide))
  have hq : Q ≠ X := fun e => by
    have h1 := h.q
    rw [e, h.x] at h1
    injection h1 with h1
    injection h1 with _ h1 _
    cases h1
  have ho : Bo ≠ X := fun e => by
    have h1 := h.o
    rw [e, h.x] at h1
    injection h1 with h1
    injection h1 with _ h1 _
    cases h1
  exact ⟨ht.blk h.q hq, hx, ht.blk h.o ho, h.r1.stay st, hr.stay st, h.X0⟩
/-- One of the document's queues is laid back. -/
theorem Xs.put1 (h : Xs w Q X Bo k1 k2 g g2 K Z B xs ys s s2 v1 v2 W) (hr : Rd W v xs') : Xs w Q X Bo k1 k2 g g2 K Z B xs' ys s' s2 v v2 (((W.setCell ⟨X, 0, none⟩ v).setCell ⟨X, 1, none⟩ (.int .i64 k1)).setCell ⟨X, 2, none⟩ (.bool s')) :=
  h.at_ (turn3 _ _ _ _ _ _ _ _) (blk_put0 (blk_put0 (blk_put0 h.x 0 v) 1 (.int .i64 k1)) 2 (.bool s')) hr
theorem Xs.put2 (h : Xs w Q X Bo k1 k2 g g2 K Z B xs ys s s2 v1 v2 W) (hr : Rd W v ys') : Xs w Q X Bo k1 k2 g g2 K Z B xs ys' s s2' v1 v (((W.setCell ⟨X, 3, none⟩ v).setCell ⟨X, 4, none⟩ (.int .i64 k2)).setCell ⟨X, 5, none⟩ (.bool s2')) :=
  h.at2 (turn3 _ _ _ _ _ _ _ _) (blk_put0 (blk_put0 (blk_put0 h.x 3 v) 4 (.int .i64 k2)) 5 (.bool s2')) hr
end
/-- Both kinds of queues hold the same. -/
def Same (w : World) (Q X k1 k2 g c g2 c2 : Nat) (W : World) : Prop :=
  ∃ (xs ys : List Int) (s s2 : Bool) (v1 v2 : Value), Duo k1 k2 w g c xs s g2 c2 ys s2 W ∧ xs.length ≤ k1 ∧ ys.length ≤ k2 ∧
    W.heap[Q]? = some (Obj.cells #[.pointer (some ⟨g, 0, none⟩), .pointer (some ⟨g2, 0, none⟩)] 24 (0, 0)) ∧ W.heap[X]? = some (Obj.cells #[v1, .int .i64 k1, .bool s, v2, .int .i64 k2, .bool s2] 29 (0, 0)) ∧ Rd W v1 xs ∧ Rd W v2 ys ∧ w.heap.size ≤ X
def StepP (w : World) (Q X k1 k2 g c g2 c2 : Nat) (e : Ending) (w' : World) : Prop := e = .returned (.bool true) ∧ Same w Q X k1 k2 g c g2 c2 w'
theorem putQ_le {cap : Nat} {xs : List Int} {sh : Bool} {x : Int} (h : xs.length ≤ cap) : (putQ cap xs sh x).length ≤ cap := by
  unfold putQ
  split
  · exact h
  · split
    · simp; omega
    · exact h
end Go.Proofs.Ytofemimgjcjpdaa.H
