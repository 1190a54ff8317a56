/- MailOrders: the walk over the law's text. -/
import Derived.Test.YtofemimgjcjpdaaOps
namespace Go.Proofs.Ytofemimgjcjpdaa.H
open Go.Conc Go.RowKit Go.Shelf
open Go.Proofs.YtofemimgjcjpdaaW.PrintMore in
attribute [local go_sem] max2_int min2_int max_two min_two
set_option linter.unusedVariables false
set_option linter.unusedSimpArgs false

def seg (o d : Nat) : List Int := (List.range' o d).map fun n : Nat => (n : Int)
theorem seg_length (o d : Nat) : (seg o d).length = d := by simp [seg]
theorem seg_snoc (o d : Nat) : seg o (d + 1) = seg o d ++ [((o + d : Nat) : Int)] := by simp [seg, List.range'_concat]
theorem seg_cons (o d : Nat) : seg o (d + 1) = (o : Int) :: seg (o + 1) d := by simp [seg, List.range'_succ]
/-- in, out: what was put and taken; the queue holds what lies between. -/
structure OQ (w : World) (g c m o i : Nat) (sh : Bool) (W : World) : Prop where
  q : IsQ W g c m (seg o (i - o)) sh
  b : Below w.heap.size w W
  g0 : w.heap.size ≤ g
  c0 : w.heap.size ≤ c
  oi : o ≤ i
  im : i ≤ o + m
theorem OQ.later {w W W' : World} {g c m o i : Nat} {sh : Bool} (h : OQ w g c m o i sh W) (hb : Below W.heap.size W W') : OQ w g c m o i sh W' :=
  ⟨h.q.turn (S := fun _ => False) (Turn.of_below hb) (fun h => h) (fun h => h), h.b.trans (hb.mono h.b.size), h.g0, h.c0, h.oi, h.im⟩
theorem OQ.alloc {w W : World} {g c m o i : Nat} {sh : Bool} (h : OQ w g c m o i sh W) (ob : Obj) : OQ w g c m o i sh (W.alloc ob) := h.later ((Below.refl _ _).alloc (Nat.le_refl _) _)
section
variable {w W : World} {g c m o i : Nat} {sh : Bool}
theorem OQ.put (h : OQ w g c m o i false W) (hr : i < o + m) : Calls Try.prog 17 #[.pointer (some ⟨g, 0, none⟩), .int .i64 (i : Int)] W fun e w' => e = .returned (.int .i64 0) ∧ OQ w g c m o (i + 1) false w' := by
  refine (put_room W g c m _ (i : Int) h.q (by rw [seg_length]; have := h.oi; omega)).mono ?_
  rintro e w' ⟨rfl, hq, ht⟩
  have hoi := h.oi
  refine ⟨rfl, ?_, h.b.trans (ht.below h.b.size (fun j e => by subst e; exact h.c0)), h.g0, h.c0, by omega, by omega⟩
  rw [show i + 1 - o = (i - o) + 1 by omega, seg_snoc, show o + (i - o) = i by omega]
  exact hq
theorem OQ.full (h : OQ w g c m o i false W) (hr : o + m ≤ i) : Calls Try.prog 17 #[.pointer (some ⟨g, 0, none⟩), .int .i64 (i : Int)] W fun e w' => e = .returned (.int .i64 6) ∧ w' = W :=
  put_full W g c m _ (i : Int) h.q (by rw [seg_length]; omega)
theorem OQ.gone (h : OQ w g c m o i true W) : Calls Try.prog 17 #[.pointer (some ⟨g, 0, none⟩), .int .i64 (i : Int)] W fun e w' => e = .returned (.int .i64 60) ∧ w' = W := put_shut W g c m _ (i : Int) h.q
theorem OQ.get (h : OQ w g c m o i sh W) (hr : o < i) : Calls Try.prog 19 #[.pointer (some ⟨g, 0, none⟩)] W fun e w' => e = .returned (.tuple #[.int .i64 (o : Int), .bool true]) ∧ OQ w g c m (o + 1) i sh w' := by
  have hq := h.q
  rw [show i - o = (i - (o + 1)) + 1 by omega, seg_cons] at hq
  refine (get_some W g c m (o : Int) _ sh hq).mono ?_
  rintro e w' ⟨rfl, hq', ht⟩
  have := h.im
  exact ⟨rfl, hq', h.b.trans (ht.below h.b.size (fun j e => by subst e; exact h.c0)), h.g0, h.c0, by omega, by omega⟩
theorem OQ.empty (h : OQ w g c m o i sh W) (hr : i ≤ o) : Calls Try.prog 19 #[.pointer (some ⟨g, 0, none⟩)] W fun e w' => e = .returned (.tuple #[.int .i64 0, .bool false]) ∧ w' = W := by
  have hq := h.q
  rw [show i - o = 0 by omega] at hq
  cases sh with
  | true => exact get_shut W g c m hq
  | false => exact get_none W g c m hq
theorem OQ.shut (h : OQ w g c m o i sh W) : Calls Try.prog 18 #[.pointer (some ⟨g, 0, none⟩)] W fun e w' => e = .returned (.tuple #[]) ∧ OQ w g c m o i true w' := by
  refine (shut_any W g c m _ sh h.q).mono ?_
  rintro e w' ⟨rfl, hq, ht⟩
  exact ⟨rfl, hq, h.b.trans (ht.below h.b.size (fun j e => by have := h.g0; have := h.c0; rcases e with e | e <;> omega)), h.g0, h.c0, h.oi, h.im⟩
theorem OQ.len (h : OQ w g c m o i sh W) : Calls Try.prog 11 #[.pointer (some ⟨g, 0, none⟩)] W fun e w' => e = .returned (.int .i64 ((i : Int) - o)) ∧ w' = W := by
  have k := len_any W g c m _ sh h.q
  rw [seg_length, show ((i - o : Nat) : Int) = (i : Int) - o by have := h.oi; omega] at k
  exact k
theorem OQ.over (h : OQ w g c m o i sh W) (b : Bool) (hb : b = (sh && decide (i = o))) : Calls Try.prog 14 #[.pointer (some ⟨g, 0, none⟩)] W fun e w' => e = .returned (.bool b) ∧ w' = W := by
  have k := over_any W g c m _ sh h.q
  have e : overB (seg o (i - o)) sh = b := by
    rw [hb]
    unfold overB
    congr 1
    by_cases e : i = o
    · subst e
      simp [seg]
    · have : seg o (i - o) ≠ [] := fun h2 => by have := congrArg List.length h2; rw [seg_length, List.length_nil] at this; have := h.oi; omega
      simp [e, this]
  rw [e] at k
  exact k
end
def OR (w : World) (g c m n : Nat) (vin vout vsh idx : Value) (wr : World) : Prop :=
  ∃ (k o i : Nat) (sh : Bool), k ≤ n ∧ i ≤ k ∧ vin = .int .i64 (i : Int) ∧ vout = .int .i64 (o : Int) ∧ vsh = .bool sh ∧ idx = .int .i64 (k : Int) ∧ OQ w g c m o i sh wr
end Go.Proofs.Ytofemimgjcjpdaa.H
