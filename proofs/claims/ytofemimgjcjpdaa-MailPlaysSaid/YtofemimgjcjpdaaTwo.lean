/- MailPlays: two queues of the document's, returned into two variables, in whatever order. -/
/- MailPlays: six cells behind each operation of the region in which two queues are poured; what stands behind it, in each order. -/
import Derived.Test.YtofemimgjcjpdaaCut
import Derived.Deep.RegionHeld3
namespace Go.Proofs.Ytofemimgjcjpdaa.H
open Go.Conc Go.RowKit Go.Shelf
open Go.Proofs.YtofemimgjcjpdaaW.PrintWords (ReadsInt readsInt_of)
set_option linter.unusedVariables false
set_option linter.unusedSimpArgs false

/-- What both variables hold, and what has been done so far. -/
structure LL (W0 : World) (k1 k2 : Nat) (s1 s2 : Bool) (xs ys : List Int) (A1 : Option Addr) (l1 c1 : Nat) (A2 : Option Addr) (l2 c2 : Nat) (b1 b2 : Option Nat) (called f1 f2 : Bool) (W : World) : Prop where
  b : Below W0.heap.size W0 W
  r1 : called = true → Rd W (.slice A1 l1 c1) xs
  r2 : called = true → Rd W (.slice A2 l2 c2) ys
  h1 : ∀ b, b1 = some b → W0.heap.size ≤ b ∧ W.heap[b]? = some (if f1 = true then Obj.cells #[.slice A1 l1 c1, .int .i64 k1, .bool s1] 29 (0, 0) else Z29)
  h2 : ∀ b, b2 = some b → W0.heap.size ≤ b ∧ W.heap[b]? = some (if f2 = true then Obj.cells #[.slice A2 l2 c2, .int .i64 k2, .bool s2] 29 (0, 0) else Z29)
  ne : ∀ a b, b1 = some a → b2 = some b → a ≠ b
section
variable {W0 W w1 : World} {k1 k2 : Nat} {s1 s2 : Bool} {xs ys : List Int} {A1 : Option Addr} {l1 c1 : Nat} {A2 : Option Addr} {l2 c2 : Nat} {b1 b2 : Option Nat} {called f1 f2 : Bool} {n : Nat}
theorem LL.start : LL W0 k1 k2 s1 s2 xs ys A1 l1 c1 A2 l2 c2 none none false false false W0 :=
  ⟨Below.refl _ _, fun h => (by cases h), fun h => (by cases h), fun _ h => (by cases h), fun _ h => (by cases h), fun _ _ h => (by cases h)⟩
theorem LL.on (h : LL W0 k1 k2 s1 s2 xs ys A1 l1 c1 A2 l2 c2 b1 b2 called f1 f2 W) (hb : Below W.heap.size W w1) : LL W0 k1 k2 s1 s2 xs ys A1 l1 c1 A2 l2 c2 b1 b2 called f1 f2 w1 := by
  have hk : ∀ {i o}, W.heap[i]? = some o → w1.heap[i]? = some o := fun {i o} h => (hb.block i (Array.getElem?_eq_some_iff.1 h).1).trans h
  exact ⟨h.b.trans (hb.mono h.b.size), fun e => (h.r1 e).stay (Stay.of_below hb), fun e => (h.r2 e).stay (Stay.of_below hb), fun b e => ⟨(h.h1 b e).1, hk (h.h1 b e).2⟩, fun b e => ⟨(h.h2 b e).1, hk (h.h2 b e).2⟩, h.ne⟩
theorem LL.drew (h : LL W0 k1 k2 s1 s2 xs ys A1 l1 c1 A2 l2 c2 b1 b2 called f1 f2 W) : LL W0 k1 k2 s1 s2 xs ys A1 l1 c1 A2 l2 c2 b1 b2 called f1 f2 W.drew := h.on bdr
theorem LL.call (h : LL W0 k1 k2 s1 s2 xs ys A1 l1 c1 A2 l2 c2 b1 b2 false f1 f2 W) (hb : Below W.heap.size W w1) (hr1 : Rd w1 (.slice A1 l1 c1) xs) (hr2 : Rd w1 (.slice A2 l2 c2) ys) : LL W0 k1 k2 s1 s2 xs ys A1 l1 c1 A2 l2 c2 b1 b2 true f1 f2 w1 :=
  have := h.on hb
  ⟨this.b, fun _ => hr1, fun _ => hr2, this.h1, this.h2, this.ne⟩
theorem LL.new1 (h : LL W0 k1 k2 s1 s2 xs ys A1 l1 c1 A2 l2 c2 none b2 called f1 f2 W) (hn : n = W.heap.size) : LL W0 k1 k2 s1 s2 xs ys A1 l1 c1 A2 l2 c2 (some n) b2 called false f2 (W.alloc Z29) := by
  subst hn
  have hb := (Below.refl W.heap.size W).alloc (Nat.le_refl _) Z29
  have h' := h.on hb
  refine ⟨h'.b, h'.r1, h'.r2, fun b e => ?_, h'.h2, fun a b e e2 => ?_⟩
  · cases e
    exact ⟨h.b.size, new_at _ _⟩
  · cases e
    have := (Array.getElem?_eq_some_iff.1 (h.h2 b e2).2).1
    omega
theorem LL.new1f (h : LL W0 k1 k2 s1 s2 xs ys A1 l1 c1 A2 l2 c2 none b2 called f1 f2 W) (hn : n = W.heap.size) : LL W0 k1 k2 s1 s2 xs ys A1 l1 c1 A2 l2 c2 (some n) b2 called true f2 (W.alloc (Obj.cells #[.slice A1 l1 c1, .int .i64 k1, .bool s1] 29)) := by
  subst hn
  have hb := (Below.refl W.heap.size W).alloc (Nat.le_refl _) (Obj.cells #[.slice A1 l1 c1, .int .i64 k1, .bool s1] 29)
  have h' := h.on hb
  refine ⟨h'.b, h'.r1, h'.r2, fun b e => ?_, h'.h2, fun a b e e2 => ?_⟩
  · cases e
    exact ⟨h.b.size, new_at _ _⟩
  · cases e
    have := (Array.getElem?_eq_some_iff.1 (h.h2 b e2).2).1
    omega
theorem LL.swap (h : LL W0 k1 k2 s1 s2 xs ys A1 l1 c1 A2 l2 c2 b1 b2 called f1 f2 W) : LL W0 k2 k1 s2 s1 ys xs A2 l2 c2 A1 l1 c1 b2 b1 called f2 f1 W :=
  ⟨h.b, h.r2, h.r1, h.h2, h.h1, fun a b e e2 e3 => h.ne b a e2 e e3.symm⟩
theorem LL.new2 (h : LL W0 k1 k2 s1 s2 xs ys A1 l1 c1 A2 l2 c2 b1 none called f1 f2 W) (hn : n = W.heap.size) : LL W0 k1 k2 s1 s2 xs ys A1 l1 c1 A2 l2 c2 b1 (some n) called f1 false (W.alloc Z29) := (h.swap.new1 hn).swap
theorem LL.new2f (h : LL W0 k1 k2 s1 s2 xs ys A1 l1 c1 A2 l2 c2 b1 none called f1 f2 W) (hn : n = W.heap.size) : LL W0 k1 k2 s1 s2 xs ys A1 l1 c1 A2 l2 c2 b1 (some n) called f1 true (W.alloc (Obj.cells #[.slice A2 l2 c2, .int .i64 k2, .bool s2] 29)) := (h.swap.new1f hn).swap
theorem LL.set1 (h : LL W0 k1 k2 s1 s2 xs ys A1 l1 c1 A2 l2 c2 (some n) b2 called false f2 W) : LL W0 k1 k2 s1 s2 xs ys A1 l1 c1 A2 l2 c2 (some n) b2 called true f2 (((W.setCell ⟨n, 0, none⟩ (.slice A1 l1 c1)).setCell ⟨n, 1, none⟩ (.int .i64 k1)).setCell ⟨n, 2, none⟩ (.bool s1)) := by
  obtain ⟨hn, hz⟩ := h.h1 n rfl
  have ht := turn3 W n 0 1 2 (.slice A1 l1 c1) (.int .i64 k1) (.bool s1)
  have hz' : W.heap[n]? = some (Obj.cells #[.slice none 0 0, .int .i64 0, .bool false] 29 (0, 0)) := hz
  have hs : Stay W (((W.setCell ⟨n, 0, none⟩ (.slice A1 l1 c1)).setCell ⟨n, 1, none⟩ (.int .i64 k1)).setCell ⟨n, 2, none⟩ (.bool s1)) := Stay.of_turn ht (fun i hi => by subst hi; exact no3_of hz' (by decide))
  refine ⟨h.b.trans (ht.below h.b.size (fun i e => by subst e; exact hn)), fun e => (h.r1 e).stay hs, fun e => (h.r2 e).stay hs, fun b e => ?_, fun b e => ⟨(h.h2 b e).1, ht.blk (h.h2 b e).2 (fun e2 => h.ne n b rfl e e2.symm)⟩, h.ne⟩
  cases e
  exact ⟨hn, blk_put0 (blk_put0 (blk_put0 hz' 0 _) 1 _) 2 _⟩
theorem LL.set2 (h : LL W0 k1 k2 s1 s2 xs ys A1 l1 c1 A2 l2 c2 b1 (some n) called f1 false W) : LL W0 k1 k2 s1 s2 xs ys A1 l1 c1 A2 l2 c2 b1 (some n) called f1 true (((W.setCell ⟨n, 0, none⟩ (.slice A2 l2 c2)).setCell ⟨n, 1, none⟩ (.int .i64 k2)).setCell ⟨n, 2, none⟩ (.bool s2)) := h.swap.set1.swap
/-- The blocks that were made ahead of the call, behind it. -/
theorem LL.blk1 (h : LL W0 k1 k2 s1 s2 xs ys A1 l1 c1 A2 l2 c2 (some n) b2 called false f2 W) : W.heap[n]? = some (Obj.cells #[.slice none 0 0, .int .i64 0, .bool false] 29 (0, 0)) := (h.h1 n rfl).2
theorem LL.blk2 (h : LL W0 k1 k2 s1 s2 xs ys A1 l1 c1 A2 l2 c2 b1 (some n) called f1 false W) : W.heap[n]? = some (Obj.cells #[.slice none 0 0, .int .i64 0, .bool false] 29 (0, 0)) := (h.h2 n rfl).2
end
theorem blk_keep {W w1 : World} {n : Nat} {o : Obj} (hb : Below W.heap.size W w1) (h : W.heap[n]? = some o) : w1.heap[n]? = some o := (hb.block n (Array.getElem?_eq_some_iff.1 h).1).trans h
theorem new_at' {W : World} {o : Obj} {n : Nat} (hn : n = W.heap.size) : (W.alloc o).heap[n]? = some o := by
  subst hn
  exact new_at W o
theorem old_at {W : World} {o p : Obj} {n : Nat} (h : W.heap[n]? = some p) : (W.alloc o).heap[n]? = some p := blk_keep ((Below.refl _ _).alloc (Nat.le_refl _) _) h
theorem one_ahead {W w2 : World} {o : Obj} (hb : Below (W.alloc o).drew.heap.size (W.alloc o).drew w2) : w2.heap[W.heap.size]? = some o := blk_keep hb (show (W.alloc o).heap[W.heap.size]? = some o from new_at W o)
theorem two_ahead0 {W w2 : World} {o p : Obj} (hb : Below ((W.alloc o).alloc p).drew.heap.size ((W.alloc o).alloc p).drew w2) : w2.heap[W.heap.size]? = some o := blk_keep hb (show ((W.alloc o).alloc p).heap[W.heap.size]? = some o from old_at (new_at W o))
theorem two_ahead1 {W w2 : World} {o p : Obj} (hb : Below ((W.alloc o).alloc p).drew.heap.size ((W.alloc o).alloc p).drew w2) : w2.heap[W.heap.size + 1]? = some p := blk_keep hb (show ((W.alloc o).alloc p).heap[W.heap.size + 1]? = some p from new_at' (size_alloc' W o).symm)
/-- Six cells, behind a store of three into another block. -/
theorem six_set {W : World} {X n : Nat} {a b c u0 u1 u2 u3 u4 u5 : Value} (h : W.cell? ⟨X, 0, none⟩ = some u0 ∧ W.cell? ⟨X, 1, none⟩ = some u1 ∧ W.cell? ⟨X, 2, none⟩ = some u2 ∧ W.cell? ⟨X, 3, none⟩ = some u3 ∧ W.cell? ⟨X, 4, none⟩ = some u4 ∧ W.cell? ⟨X, 5, none⟩ = some u5) (hn : ¬ n = X) :
    (((W.setCell ⟨n, 0, none⟩ a).setCell ⟨n, 1, none⟩ b).setCell ⟨n, 2, none⟩ c).cell? ⟨X, 0, none⟩ = some u0 ∧ (((W.setCell ⟨n, 0, none⟩ a).setCell ⟨n, 1, none⟩ b).setCell ⟨n, 2, none⟩ c).cell? ⟨X, 1, none⟩ = some u1 ∧ (((W.setCell ⟨n, 0, none⟩ a).setCell ⟨n, 1, none⟩ b).setCell ⟨n, 2, none⟩ c).cell? ⟨X, 2, none⟩ = some u2 ∧
      (((W.setCell ⟨n, 0, none⟩ a).setCell ⟨n, 1, none⟩ b).setCell ⟨n, 2, none⟩ c).cell? ⟨X, 3, none⟩ = some u3 ∧ (((W.setCell ⟨n, 0, none⟩ a).setCell ⟨n, 1, none⟩ b).setCell ⟨n, 2, none⟩ c).cell? ⟨X, 4, none⟩ = some u4 ∧ (((W.setCell ⟨n, 0, none⟩ a).setCell ⟨n, 1, none⟩ b).setCell ⟨n, 2, none⟩ c).cell? ⟨X, 5, none⟩ = some u5 := by
  have e : ∀ k, (((W.setCell ⟨n, 0, none⟩ a).setCell ⟨n, 1, none⟩ b).setCell ⟨n, 2, none⟩ c).cell? ⟨X, k, none⟩ = W.cell? ⟨X, k, none⟩ := fun k => by
    rw [World.cell?_setCell_far _ _ _ _ hn, World.cell?_setCell_far _ _ _ _ hn, World.cell?_setCell_far _ _ _ _ hn]
  rw [e, e, e, e, e, e]
  exact h
end Go.Proofs.Ytofemimgjcjpdaa.H

namespace Go.Proofs.Ytofemimgjcjpdaa.H
open Go.Conc Go.RowKit Go.Shelf
open Go.Proofs.YtofemimgjcjpdaaW.PrintWords (ReadsInt below_alloc pw_cell_below below_step readsInt_of)
set_option linter.unusedVariables false
set_option linter.unusedSimpArgs false

section
variable {X : Nat} {u0 u1 u2 u3 u4 u5 : Value} {W : World}
theorem six_drew (h : W.cell? ⟨X, 0, none⟩ = some u0 ∧ W.cell? ⟨X, 1, none⟩ = some u1 ∧ W.cell? ⟨X, 2, none⟩ = some u2 ∧ W.cell? ⟨X, 3, none⟩ = some u3 ∧ W.cell? ⟨X, 4, none⟩ = some u4 ∧ W.cell? ⟨X, 5, none⟩ = some u5) : W.drew.cell? ⟨X, 0, none⟩ = some u0 ∧ W.drew.cell? ⟨X, 1, none⟩ = some u1 ∧ W.drew.cell? ⟨X, 2, none⟩ = some u2 ∧ W.drew.cell? ⟨X, 3, none⟩ = some u3 ∧ W.drew.cell? ⟨X, 4, none⟩ = some u4 ∧ W.drew.cell? ⟨X, 5, none⟩ = some u5 := h
theorem six_alloc {o : Obj} (h : W.cell? ⟨X, 0, none⟩ = some u0 ∧ W.cell? ⟨X, 1, none⟩ = some u1 ∧ W.cell? ⟨X, 2, none⟩ = some u2 ∧ W.cell? ⟨X, 3, none⟩ = some u3 ∧ W.cell? ⟨X, 4, none⟩ = some u4 ∧ W.cell? ⟨X, 5, none⟩ = some u5) :
    (W.alloc o).cell? ⟨X, 0, none⟩ = some u0 ∧ (W.alloc o).cell? ⟨X, 1, none⟩ = some u1 ∧ (W.alloc o).cell? ⟨X, 2, none⟩ = some u2 ∧ (W.alloc o).cell? ⟨X, 3, none⟩ = some u3 ∧ (W.alloc o).cell? ⟨X, 4, none⟩ = some u4 ∧ (W.alloc o).cell? ⟨X, 5, none⟩ = some u5 := by
  have hk : ∀ {k u}, W.cell? ⟨X, k, none⟩ = some u → (W.alloc o).cell? ⟨X, k, none⟩ = some u := fun {k u} h => by
    have hl : X < W.heap.size := by
      refine Nat.lt_of_not_le fun hl => ?_
      rw [World.cell?, Array.getElem?_eq_none hl] at h
      cases h
    exact (World.cell?_alloc_lt W o ⟨X, k, none⟩ hl).trans h
  exact ⟨hk h.1, hk h.2.1, hk h.2.2.1, hk h.2.2.2.1, hk h.2.2.2.2.1, hk h.2.2.2.2.2⟩
end
theorem size_set3 (W : World) (n : Nat) (a b c : Value) (i j k : Nat) : (((W.setCell ⟨n, i, none⟩ a).setCell ⟨n, j, none⟩ b).setCell ⟨n, k, none⟩ c).heap.size = W.heap.size := by
  simp only [World.setCell]
  repeat (first | rfl | split | simp)
section
variable {w1 w2 : World} {k1 k2 p1 : Nat} {s1 s2 : Bool} {xs ys : List Int} {A3 A4 : Option Addr} {l3 c3 l4 c4 : Nat}
theorem LL.e1 (HB : Below (w1.drew).heap.size (w1.drew) w2) (R1 : Rd w2 (.slice A3 l3 c3) xs) (R2 : Rd w2 (.slice A4 l4 c4) ys) : LL w1 k1 k2 s1 s2 xs ys A3 l3 c3 A4 l4 c4 (some (w2.heap.size)) (some (w2.heap.size + 1)) true true true ((w2.alloc (Obj.cells #[.slice A3 l3 c3, .int .i64 k1, .bool s1] 29)).alloc (Obj.cells #[.slice A4 l4 c4, .int .i64 k2, .bool s2] 29)) :=
  (((LL.start.drew).call HB R1 R2).new1f rfl).new2f (size_alloc' _ _).symm
theorem LL.e2 (HB : Below (w1.drew).heap.size (w1.drew) w2) (R1 : Rd w2 (.slice A3 l3 c3) xs) (R2 : Rd w2 (.slice A4 l4 c4) ys) : LL w1 k1 k2 s1 s2 xs ys A3 l3 c3 A4 l4 c4 (some (w2.heap.size + 1)) (some (w2.heap.size)) true true true ((w2.alloc (Obj.cells #[.slice A4 l4 c4, .int .i64 k2, .bool s2] 29)).alloc (Obj.cells #[.slice A3 l3 c3, .int .i64 k1, .bool s1] 29)) :=
  (((LL.start.drew).call HB R1 R2).new2f rfl).new1f (size_alloc' _ _).symm
theorem LL.e3 (HB : Below ((w1.alloc (Obj.cells #[.slice none 0 0, .int .i64 0, .bool false] 29)).drew).heap.size ((w1.alloc (Obj.cells #[.slice none 0 0, .int .i64 0, .bool false] 29)).drew) w2) (R1 : Rd w2 (.slice A3 l3 c3) xs) (R2 : Rd w2 (.slice A4 l4 c4) ys) : LL w1 k1 k2 s1 s2 xs ys A3 l3 c3 A4 l4 c4 (some (w1.heap.size)) (some (w2.heap.size)) true true true ((((w2.setCell ⟨w1.heap.size, 0, none⟩ (.slice A3 l3 c3)).setCell ⟨w1.heap.size, 1, none⟩ (.int .i64 k1)).setCell ⟨w1.heap.size, 2, none⟩ (.bool s1)).alloc (Obj.cells #[.slice A4 l4 c4, .int .i64 k2, .bool s2] 29)) :=
  ((((LL.start.new1 rfl).drew).call HB R1 R2).set1).new2f (size_set3 _ _ _ _ _ _ _ _).symm
theorem LL.e4 (hp : p1 = w1.heap.size + 1) (HB : Below (((w1.alloc (Obj.cells #[.slice none 0 0, .int .i64 0, .bool false] 29)).alloc (Obj.cells #[.slice none 0 0, .int .i64 0, .bool false] 29)).drew).heap.size (((w1.alloc (Obj.cells #[.slice none 0 0, .int .i64 0, .bool false] 29)).alloc (Obj.cells #[.slice none 0 0, .int .i64 0, .bool false] 29)).drew) w2) (R1 : Rd w2 (.slice A3 l3 c3) xs) (R2 : Rd w2 (.slice A4 l4 c4) ys) : LL w1 k1 k2 s1 s2 xs ys A3 l3 c3 A4 l4 c4 (some (w1.heap.size)) (some (p1)) true true true ((((((w2.setCell ⟨w1.heap.size, 0, none⟩ (.slice A3 l3 c3)).setCell ⟨w1.heap.size, 1, none⟩ (.int .i64 k1)).setCell ⟨w1.heap.size, 2, none⟩ (.bool s1)).setCell ⟨p1, 0, none⟩ (.slice A4 l4 c4)).setCell ⟨p1, 1, none⟩ (.int .i64 k2)).setCell ⟨p1, 2, none⟩ (.bool s2)) :=
  (((((LL.start.new1 rfl).new2 (hp.trans (size_alloc' _ _).symm)).drew).call HB R1 R2).set1).set2
theorem LL.e5 (HB : Below ((w1.alloc (Obj.cells #[.slice none 0 0, .int .i64 0, .bool false] 29)).drew).heap.size ((w1.alloc (Obj.cells #[.slice none 0 0, .int .i64 0, .bool false] 29)).drew) w2) (R1 : Rd w2 (.slice A3 l3 c3) xs) (R2 : Rd w2 (.slice A4 l4 c4) ys) : LL w1 k1 k2 s1 s2 xs ys A3 l3 c3 A4 l4 c4 (some (w2.heap.size)) (some (w1.heap.size)) true true true ((((w2.setCell ⟨w1.heap.size, 0, none⟩ (.slice A4 l4 c4)).setCell ⟨w1.heap.size, 1, none⟩ (.int .i64 k2)).setCell ⟨w1.heap.size, 2, none⟩ (.bool s2)).alloc (Obj.cells #[.slice A3 l3 c3, .int .i64 k1, .bool s1] 29)) :=
  ((((LL.start.new2 rfl).drew).call HB R1 R2).set2).new1f (size_set3 _ _ _ _ _ _ _ _).symm
theorem LL.e6 (hp : p1 = w1.heap.size + 1) (HB : Below (((w1.alloc (Obj.cells #[.slice none 0 0, .int .i64 0, .bool false] 29)).alloc (Obj.cells #[.slice none 0 0, .int .i64 0, .bool false] 29)).drew).heap.size (((w1.alloc (Obj.cells #[.slice none 0 0, .int .i64 0, .bool false] 29)).alloc (Obj.cells #[.slice none 0 0, .int .i64 0, .bool false] 29)).drew) w2) (R1 : Rd w2 (.slice A3 l3 c3) xs) (R2 : Rd w2 (.slice A4 l4 c4) ys) : LL w1 k1 k2 s1 s2 xs ys A3 l3 c3 A4 l4 c4 (some (p1)) (some (w1.heap.size)) true true true ((((((w2.setCell ⟨p1, 0, none⟩ (.slice A3 l3 c3)).setCell ⟨p1, 1, none⟩ (.int .i64 k1)).setCell ⟨p1, 2, none⟩ (.bool s1)).setCell ⟨w1.heap.size, 0, none⟩ (.slice A4 l4 c4)).setCell ⟨w1.heap.size, 1, none⟩ (.int .i64 k2)).setCell ⟨w1.heap.size, 2, none⟩ (.bool s2)) :=
  (((((LL.start.new2 rfl).new1 (hp.trans (size_alloc' _ _).symm)).drew).call HB R1 R2).set1).set2
end
end Go.Proofs.Ytofemimgjcjpdaa.H

