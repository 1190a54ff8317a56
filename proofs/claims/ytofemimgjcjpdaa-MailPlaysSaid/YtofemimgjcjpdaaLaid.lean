/- MailPlays: a queue of the document's, returned into a variable. -/
import Derived.Test.YtofemimgjcjpdaaPlay
import Derived.Deep.RegionWith
import Derived.Deep.DeepCutAuto
namespace Go.Proofs.Ytofemimgjcjpdaa.H
open Go.Conc Go.RowKit Go.Shelf
set_option linter.unusedVariables false
set_option linter.unusedSimpArgs false

theorem bdr {n : Nat} {W : World} : Below n W W.drew := ⟨rfl, rfl, rfl, Nat.le_refl _, fun _ _ => rfl⟩
theorem bda {W : World} {o : Obj} : Below W.heap.size W (W.drew.alloc o) := (bdr (n := W.heap.size)).trans ((Below.refl _ W.drew).alloc (Nat.le_refl _) o)
theorem bad {W : World} {o : Obj} : Below W.heap.size W (W.alloc o).drew := ((Below.refl _ _).alloc (Nat.le_refl _) _).trans bdr
theorem new_at (W : World) (o : Obj) : (W.alloc o).heap[W.heap.size]? = some o := by
  show (W.heap.push o)[W.heap.size]? = some o
  simp
theorem size_alloc' (W : World) (o : Obj) : (W.alloc o).heap.size = W.heap.size + 1 := by
  show (W.heap.push o).size = _
  simp
/-- Behind a call of the document's: the queue that it returned lies in a variable. -/
def Laid (W0 : World) (k : Nat) (s : Bool) (xs : List Int) (p : Value) (W : World) : Prop :=
  ∃ b A l c, p = .pointer (some ⟨b, 0, none⟩) ∧ Rd W (.slice A l c) xs ∧ W.heap[b]? = some (Obj.cells #[.slice A l c, .int .i64 k, .bool s] 29 (0, 0)) ∧ Below W0.heap.size W0 W
abbrev Z29 : Obj := Obj.cells #[.slice none 0 0, .int .i64 0, .bool false] 29
theorem laid_behind {W0 W1 w1 : World} {k : Nat} {s : Bool} {xs : List Int} {A : Option Addr} {l c : Nat} (h1 : Below W0.heap.size W0 W1) (hb : Below W1.heap.size W1 w1) (hr : Rd w1 (.slice A l c) xs) :
    Laid W0 k s xs (.pointer (some ⟨w1.heap.size, 0, none⟩)) (w1.alloc (Obj.cells #[.slice A l c, .int .i64 k, .bool s] 29)) := by
  have hs : Stay w1 (w1.alloc (Obj.cells #[.slice A l c, .int .i64 k, .bool s] 29)) := Stay.of_below ((Below.refl _ _).alloc (Nat.le_refl _) _)
  exact ⟨_, _, _, _, rfl, hr.stay hs, new_at _ _, (h1.trans (hb.mono h1.size)).trans ((Below.refl _ _).alloc (by have := h1.size; have := hb.size; omega) _)⟩
theorem ahead_blk {W0 w1 : World} {n : Nat} (hn : n = W0.heap.size) (hb : Below (W0.alloc Z29).drew.heap.size (W0.alloc Z29).drew w1) : w1.heap[n]? = some (Obj.cells #[.slice none 0 0, .int .i64 0, .bool false] 29 (0, 0)) := by
  subst hn
  refine (hb.block W0.heap.size ?_).trans (new_at _ _)
  show W0.heap.size < (W0.alloc Z29).heap.size
  rw [size_alloc']
  omega
theorem laid_ahead {W0 w1 : World} {n k : Nat} {s : Bool} {xs : List Int} {A : Option Addr} {l c : Nat} (hn : n = W0.heap.size) (hb : Below (W0.alloc Z29).drew.heap.size (W0.alloc Z29).drew w1) (hr : Rd w1 (.slice A l c) xs) :
    Laid W0 k s xs (.pointer (some ⟨n, 0, none⟩)) (((w1.setCell ⟨n, 0, none⟩ (.slice A l c)).setCell ⟨n, 1, none⟩ (.int .i64 k)).setCell ⟨n, 2, none⟩ (.bool s)) := by
  subst hn
  have hz := ahead_blk rfl hb
  have ht := turn3 w1 W0.heap.size 0 1 2 (.slice A l c) (.int .i64 k) (.bool s)
  have hs : Stay w1 (((w1.setCell ⟨W0.heap.size, 0, none⟩ (.slice A l c)).setCell ⟨W0.heap.size, 1, none⟩ (.int .i64 k)).setCell ⟨W0.heap.size, 2, none⟩ (.bool s)) := Stay.of_turn ht (fun i hi => by subst hi; exact no3_of hz (by decide))
  have h0 : Below W0.heap.size W0 w1 := (bad (o := Z29)).trans (hb.mono (by show W0.heap.size ≤ (W0.alloc Z29).heap.size; rw [size_alloc']; omega))
  exact ⟨_, _, _, _, rfl, hr.stay hs, blk_put0 (blk_put0 (blk_put0 hz 0 _) 1 _) 2 _, h0.trans (ht.below h0.size (fun i e => by subst e; exact Nat.le_refl _))⟩
end Go.Proofs.Ytofemimgjcjpdaa.H
