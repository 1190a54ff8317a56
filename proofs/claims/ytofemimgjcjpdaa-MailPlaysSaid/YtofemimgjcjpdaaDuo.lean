/- Two queues of the law's own. -/
import Derived.Test.YtofemimgjcjpdaaAlive
import Derived.Test.YtofemimgjcjpdaaAx1
namespace Go.Proofs.Ytofemimgjcjpdaa.H
open Go.Conc Go.RowKit Go.Shelf
set_option linter.unusedVariables false
set_option linter.unusedSimpArgs false

/-- Two queues, beyond w; and all that lay in w. -/
structure Duo (k1 k2 : Nat) (w : World) (g c : Nat) (xs : List Int) (s : Bool) (g2 c2 : Nat) (ys : List Int) (s2 : Bool) (W : World) : Prop where
  q : IsQ W g c k1 xs s
  q2 : IsQ W g2 c2 k2 ys s2
  b : Below w.heap.size w W
  g0 : w.heap.size ≤ g
  c0 : w.heap.size ≤ c
  g20 : w.heap.size ≤ g2
  c20 : w.heap.size ≤ c2
  hg : g ≠ g2
  hc : c ≠ c2
section
variable {k1 k2 : Nat} {w W W' : World} {g c g2 c2 : Nat} {xs xs' ys ys' : List Int} {s s' s2 s2' : Bool}
theorem Duo.first (h : Duo k1 k2 w g c xs s g2 c2 ys s2 W) {S : Nat → Prop} (hq : IsQ W' g c k1 xs' s') (ht : Turn S W W') (hS : ∀ i, S i → i = c ∨ i = g) : Duo k1 k2 w g c xs' s' g2 c2 ys s2 W' := by
  have e1 := h.q.ne2 h.q2
  have e2 := h.q2.ne2 h.q
  have := h.hg
  have := h.hc
  have := h.g0
  have := h.c0
  refine ⟨hq, h.q2.turn ht (fun hs => ?_) (fun hs => ?_), h.b.trans (ht.below h.b.size (fun i hi => ?_)), h.g0, h.c0, h.g20, h.c20, h.hg, h.hc⟩
  · rcases hS _ hs with e | e <;> omega
  · rcases hS _ hs with e | e <;> omega
  · rcases hS _ hi with e | e <;> omega
theorem Duo.second (h : Duo k1 k2 w g c xs s g2 c2 ys s2 W) {S : Nat → Prop} (hq : IsQ W' g2 c2 k2 ys' s2') (ht : Turn S W W') (hS : ∀ i, S i → i = c2 ∨ i = g2) : Duo k1 k2 w g c xs s g2 c2 ys' s2' W' := by
  have e1 := h.q.ne2 h.q2
  have e2 := h.q2.ne2 h.q
  have := h.hg
  have := h.hc
  have := h.g20
  have := h.c20
  refine ⟨h.q.turn ht (fun hs => ?_) (fun hs => ?_), hq, h.b.trans (ht.below h.b.size (fun i hi => ?_)), h.g0, h.c0, h.g20, h.c20, h.hg, h.hc⟩
  · rcases hS _ hs with e | e <;> omega
  · rcases hS _ hs with e | e <;> omega
  · rcases hS _ hi with e | e <;> omega
theorem Duo.both (h : Duo k1 k2 w g c xs s g2 c2 ys s2 W) {S : Nat → Prop} (hq : IsQ W' g c k1 xs' s') (hq2 : IsQ W' g2 c2 k2 ys' s2') (ht : Turn S W W') (hS : ∀ i, S i → i = c ∨ i = c2) : Duo k1 k2 w g c xs' s' g2 c2 ys' s2' W' := by
  have := h.c0
  have := h.c20
  refine ⟨hq, hq2, h.b.trans (ht.below h.b.size (fun i hi => ?_)), h.g0, h.c0, h.g20, h.c20, h.hg, h.hc⟩
  rcases hS _ hi with e | e <;> omega
theorem Duo.later (h : Duo k1 k2 w g c xs s g2 c2 ys s2 W) (hb : Below W.heap.size W W') : Duo k1 k2 w g c xs s g2 c2 ys s2 W' :=
  h.both (h.q.turn (S := fun _ => False) (Turn.of_below hb) (fun h => h) (fun h => h)) (h.q2.turn (S := fun _ => False) (Turn.of_below hb) (fun h => h) (fun h => h)) (S := fun _ => False) (Turn.of_below hb) (fun _ h => h.elim)
end
theorem Duo.drewN {k1 k2 : Nat} {w W : World} {g c g2 c2 : Nat} {xs ys : List Int} {s s2 : Bool} (h : Duo k1 k2 w g c xs s g2 c2 ys s2 W) (n : Nat) : Duo k1 k2 w g c xs s g2 c2 ys s2 (W.drewN n) := h.later ⟨rfl, rfl, rfl, Nat.le_refl _, fun _ _ => rfl⟩
theorem duo_new {k1 k2 : Nat} (w : World) {W1 W2 : World} {g c g2 c2 : Nat} (h1 : IsQ W1 g c k1 [] false) (hb1 : Below w.heap.size w W1) (hg : w.heap.size ≤ g) (hc : w.heap.size ≤ c) (h2 : IsQ W2 g2 c2 k2 [] false) (hb2 : Below W1.heap.size W1 W2) (hg2 : W1.heap.size ≤ g2) (hc2 : W1.heap.size ≤ c2) :
    Duo k1 k2 w g c [] false g2 c2 [] false W2 := by
  have hl := h1.lt
  have hs := hb1.size
  exact ⟨h1.turn (S := fun _ => False) (Turn.of_below hb2) (fun h => h) (fun h => h), h2, hb1.trans (hb2.mono hs), hg, hc, by omega, by omega, by omega, by omega⟩

end Go.Proofs.Ytofemimgjcjpdaa.H
