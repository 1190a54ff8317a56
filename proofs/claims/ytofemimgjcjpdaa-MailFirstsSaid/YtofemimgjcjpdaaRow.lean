/- A row of queues of the law's own. -/
import Derived.Test.YtofemimgjcjpdaaSame
namespace Go.Proofs.Ytofemimgjcjpdaa.H
open Go.Conc Go.RowKit Go.Shelf
open Go.Proofs.YtofemimgjcjpdaaW.PrintWords (own_typed own_move own_base own_lt)
set_option linter.unusedVariables false
set_option linter.unusedSimpArgs false

def ptrs (qs : List QD) : List Value := qs.map fun q => .pointer (some ⟨q.g, 0, none⟩)
/-- Queues; a slice whose elements are the first n of them. -/
structure MQ (w : World) (b cap n : Nat) (qs : List QD) (W : World) : Prop where
  all : ∀ q, q ∈ qs → q.is W ∧ w.heap.size ≤ q.g ∧ w.heap.size ≤ q.c
  gs : (qs.map QD.g).Nodup
  cs : (qs.map QD.c).Nodup
  below : Below w.heap.size w W
  row : W.ownsRow w.heap.size 24 1 (.slice (some ⟨b, 0, none⟩) n cap) n (ptrs (qs.take n))

def Stay24 (W W' : World) : Prop := W.heap.size ≤ W'.heap.size ∧ ∀ (k : Nat) (cells : Array Value) (fr : Nat × Nat), W.heap[k]? = some (Obj.cells cells 24 fr) → W'.heap[k]? = W.heap[k]?
theorem IsQ.no24 {w : World} {g c cap : Nat} {xs : List Int} {shut : Bool} (h : IsQ w g c cap xs shut) : ∀ i, (i = c ∨ i = g) → ∀ cells fr, w.heap[i]? ≠ some (Obj.cells cells 24 fr) := by
  obtain ⟨h1, s, r, h2⟩ := h
  rintro i (rfl | rfl) cells fr e
  · rw [h2] at e
    cases e
  · rw [h1] at e
    injection e with e
    injection e with _ e _
    cases e
theorem own24 {W W' : World} {base n : Nat} {v : Value} {xs : List Value} (h : W.ownsRow base 24 1 v n xs) (hs : ∀ (k : Nat) (cells : Array Value) (fr : Nat × Nat), W.heap[k]? = some (Obj.cells cells 24 fr) → W'.heap[k]? = W.heap[k]?) : W'.ownsRow base 24 1 v n xs :=
  own_move h (fun k hk => by
    obtain ⟨cells, hc⟩ := own_typed h k hk
    exact hs k cells _ hc)
theorem nodup_ne {α : Type} {f : α → Nat} {qs : List α} (h : (qs.map f).Nodup) {i j : Nat} (hi : i < qs.length) (hj : j < qs.length) (hne : i ≠ j) : f qs[i] ≠ f qs[j] := by
  intro e
  have h2 := List.pairwise_iff_getElem.1 (List.nodup_iff_pairwise_ne.1 h)
  rcases Nat.lt_or_gt_of_ne hne with h3 | h3
  · exact h2 i j (by simpa using hi) (by simpa using hj) h3 (by simpa using e)
  · exact h2 j i (by simpa using hj) (by simpa using hi) h3 (by simpa using e.symm)

def QD.to (q : QD) (xs : List Int) (s : Bool) : QD := { q with xs := xs, shut := s }
theorem map_set {α β : Type} (f : α → β) (l : List α) (i : Nat) (x : α) (hi : i < l.length) (h : f x = f l[i]) : (l.set i x).map f = l.map f := by
  rw [List.map_set, h]
  apply List.ext_getElem?
  intro j
  by_cases e : i = j
  · subst e
    rw [List.getElem?_set_self (by simpa using hi)]
    simp [hi]
  · rw [List.getElem?_set_ne e]

section
variable {w W W' : World} {b cap n : Nat} {qs : List QD}
theorem MQ.turn (h : MQ w b cap n qs W) {i : Nat} (hi : i < qs.length) {xs : List Int} {s : Bool} {S : Nat → Prop} (hq : IsQ W' (qs[i]).g (qs[i]).c (qs[i]).cap xs s) (ht : Turn S W W') (hS : ∀ j, S j → j = (qs[i]).c ∨ j = (qs[i]).g) : MQ w b cap n (qs.set i ((qs[i]).to xs s)) W' := by
  have hgi := h.all _ (List.getElem_mem hi)
  refine ⟨fun q hm => ?_, ?_, ?_, h.below.trans (ht.below h.below.size (fun j hj => by rcases hS j hj with e | e <;> omega)), ?_⟩
  · obtain ⟨j, hj, rfl⟩ := List.mem_iff_getElem.1 hm
    simp at hj
    by_cases e : i = j
    · subst e
      simp only [List.getElem_set_self]
      exact ⟨hq, hgi.2⟩
    · simp only [List.getElem_set_ne e]
      have hqj := h.all _ (List.getElem_mem hj)
      have n1 := nodup_ne h.gs hj hi (Ne.symm e)
      have n2 := nodup_ne h.cs hj hi (Ne.symm e)
      have n3 := IsQ.ne2 (show IsQ W _ _ _ _ _ from hqj.1) (show IsQ W _ _ _ _ _ from hgi.1)
      have n4 := IsQ.ne2 (show IsQ W _ _ _ _ _ from hgi.1) (show IsQ W _ _ _ _ _ from hqj.1)
      refine ⟨IsQ.turn hqj.1 ht (fun hs => ?_) (fun hs => ?_), hqj.2⟩
      · rcases hS _ hs with e | e <;> omega
      · rcases hS _ hs with e | e <;> omega
  · rw [map_set QD.g qs i ((qs[i]).to xs s) hi rfl]; exact h.gs
  · rw [map_set QD.c qs i ((qs[i]).to xs s) hi rfl]; exact h.cs
  · have hr := own24 h.row (W' := W') (fun k cells fr hk => ht.block k (Array.getElem?_eq_some_iff.1 hk).1 (fun hs => IsQ.no24 hgi.1 k (hS k hs) cells fr hk))
    have e : ptrs ((qs.set i ((qs[i]).to xs s)).take n) = ptrs (qs.take n) := by
      unfold ptrs
      rw [List.map_take, List.map_take, map_set _ qs i ((qs[i]).to xs s) hi rfl]
    rw [e]
    exact hr
theorem MQ.later (h : MQ w b cap n qs W) (hb : Below W.heap.size W W') : MQ w b cap n qs W' := by
  have ht : Turn (fun _ => False) W W' := Turn.of_below hb
  exact ⟨fun q hq => ⟨IsQ.turn (h.all q hq).1 ht (fun h => h) (fun h => h), (h.all q hq).2⟩, h.gs, h.cs, h.below.trans (hb.mono h.below.size), own24 h.row (fun k cells fr hk => hb.block k (Array.getElem?_eq_some_iff.1 hk).1)⟩
/-- One more queue, beyond all. -/
theorem MQ.more (h : MQ w b cap n qs W) (hn : n ≤ qs.length) (hb : Below W.heap.size W W') {q : QD} (hq : q.is W') (hg : W.heap.size ≤ q.g) (hc : W.heap.size ≤ q.c) : MQ w b cap n (qs ++ [q]) W' := by
  have h2 := h.later hb
  have hs := h.below.size
  have hlt : ∀ q', q' ∈ qs → q'.g < q.g ∧ q'.c < q.c := fun q' hm => by
    have := IsQ.lt (h.all q' hm).1
    omega
  refine ⟨fun q' hm => ?_, ?_, ?_, h2.below, ?_⟩
  · rcases List.mem_append.1 hm with hm | hm
    · exact h2.all q' hm
    · obtain rfl := List.mem_singleton.1 hm
      exact ⟨hq, by omega, by omega⟩
  · rw [List.map_append, List.nodup_append]
    refine ⟨h.gs, by simp, fun a ha b hb2 => ?_⟩
    obtain ⟨q', hm, rfl⟩ := List.mem_map.1 ha
    simp at hb2
    have := (hlt q' hm).1
    omega
  · rw [List.map_append, List.nodup_append]
    refine ⟨h.cs, by simp, fun a ha b hb2 => ?_⟩
    obtain ⟨q', hm, rfl⟩ := List.mem_map.1 ha
    simp at hb2
    have := (hlt q' hm).2
    omega
  · rw [List.take_append_of_le_length hn]
    exact h2.row
theorem MQ.holds (h : MQ w b cap qs.length qs W) : Holds W b 0 qs := by
  intro i hi
  rcases h.row.2 with ⟨h1, _⟩ | ⟨g, cp, cur, h1, _, hb, hc, _, hs, ht⟩
  · cases h1
  · injection h1 with h1 h2 h3
    injection h1 with h1
    injection h1 with h1
    subst h1
    rw [cell_of hb, Nat.zero_add]
    rw [List.take_length] at ht
    have hlt : i < cur.size := by omega
    rw [Array.getElem?_eq_getElem hlt]
    have e : (cur.toList.take (qs.length * 1))[i]? = some cur[i] := by
      rw [List.getElem?_take, if_pos (by omega), Array.getElem?_toList, Array.getElem?_eq_getElem hlt]
    rw [ht] at e
    simp [ptrs, hi] at e
    rw [e]
end
end Go.Proofs.Ytofemimgjcjpdaa.H
