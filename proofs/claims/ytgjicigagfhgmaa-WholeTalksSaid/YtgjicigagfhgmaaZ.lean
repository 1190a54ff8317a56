/- new sides. -/
import Derived.Test.YtgjicigagfhgmaaTalk
import Derived.Laws.Tables
namespace Go.Proofs.Ytgjicigagfhgmaa.H
open Go.RowKit
set_option linter.unusedVariables false
set_option linter.unusedSimpArgs false
/-- A side that is new. -/
def z77 (on off : Int) : Array Value := (List.replicate 256 (Value.int .i64 0) ++ List.replicate 256 (Value.bool false) ++ [Value.int .u8 on, Value.int .u8 off]).toArray
def z79 : Array Value := z77 251 252 ++ z77 253 254
theorem build77 (on off : Int) (w : World) : (Instr.build 77 #[(2, .int .u8 on), (3, .int .u8 off)]).run Try.prog w = .ok (.agg (z77 on off)) w := run_build w 77 _ _ (by kernel_rfl)
theorem z77_size (on off : Int) : (z77 on off).size = 514 := by simp only [z77, List.size_toArray, List.length_append, List.length_replicate, List.length_cons, List.length_nil]
theorem z77_get (on off : Int) : ∀ k, k < 514 → (z77 on off)[k]? = some (if k < 256 then .int .i64 0 else if k < 512 then .bool false else if k = 512 then .int .u8 on else .int .u8 off) := by
  intro k hk
  unfold z77
  rw [List.getElem?_toArray]
  by_cases h1 : k < 256
  · rw [List.getElem?_append_left (by simp only [List.length_append, List.length_replicate, List.length_cons, List.length_nil]; omega), List.getElem?_append_left (by simp only [List.length_append, List.length_replicate, List.length_cons, List.length_nil]; omega), List.getElem?_replicate, if_pos h1, if_pos h1]
  · by_cases h2 : k < 512
    · rw [List.getElem?_append_left (by simp only [List.length_append, List.length_replicate, List.length_cons, List.length_nil]; omega), List.getElem?_append_right (by simp only [List.length_append, List.length_replicate, List.length_cons, List.length_nil]; omega), List.getElem?_replicate, if_neg h1, if_pos h2, if_pos (by simp only [List.length_append, List.length_replicate, List.length_cons, List.length_nil]; omega)]
    · rw [List.getElem?_append_right (by simp only [List.length_append, List.length_replicate, List.length_cons, List.length_nil]; omega)]
      simp only [List.length_append, List.length_replicate, if_neg h1, if_neg h2]
      obtain rfl | rfl : k = 512 ∨ k = 513 := by omega
      · rfl
      · rfl
theorem fold_size (off : Nat) : ∀ (l : List Value) (n : Nat) (cells : Array Value), ((l.zipIdx n).foldl (fun cs (p : Value × Nat) => cs.setIfInBounds (off + p.2) p.1) cells).size = cells.size
  | [], n, cells => rfl
  | x :: l, n, cells => by
    rw [List.zipIdx_cons, List.foldl_cons, fold_size off l (n + 1)]
    exact Array.size_setIfInBounds
theorem fold_get (off : Nat) : ∀ (l : List Value) (n : Nat) (cells : Array Value), off + n + l.length ≤ cells.size → ∀ k, ((l.zipIdx n).foldl (fun cs (p : Value × Nat) => cs.setIfInBounds (off + p.2) p.1) cells)[k]? = if off + n ≤ k ∧ k < off + n + l.length then l[k - (off + n)]? else cells[k]?
  | [], n, cells, h, k => by
    rw [if_neg (by simp)]
    rfl
  | x :: l, n, cells, h, k => by
    rw [List.zipIdx_cons, List.foldl_cons, fold_get off l (n + 1) _ (by simp at h ⊢; omega) k]
    simp only [List.length_cons] at h ⊢
    by_cases e : k = off + n
    · subst e
      rw [if_neg (by omega), if_pos (by omega), Array.getElem?_setIfInBounds_self_of_lt (by omega), Nat.sub_self]
      rfl
    · by_cases h2 : off + n ≤ k ∧ k < off + n + (l.length + 1)
      · rw [if_pos (by omega), if_pos h2, show k - (off + n) = k - (off + (n + 1)) + 1 by omega, List.getElem?_cons_succ]
      · rw [if_neg (by omega), if_neg h2, Array.getElem?_setIfInBounds_ne (by omega)]
theorem fill_part (place : Nat → Option (Nat × Nat)) (i off : Nat) (v : Value) (cells : Array Value) (rest : List (Nat × Value)) (hp : place i = some (off, v.cells.size)) (hb : off + v.cells.size ≤ cells.size) : Instr.fill place cells ((i, v) :: rest) = Instr.fill place (v.cells.zipIdx.foldl (fun cs (c, j) => cs.setIfInBounds (off + j) c) cells) rest := by
  rw [Instr.fill, hp]
  simp only
  rw [if_neg (by simp; omega)]
theorem fill_two (place : Nat → Option (Nat × Nat)) (a b x y : Array Value) (n m : Nat) (hx : x.size = n) (hy : y.size = m) (ha : a.size = n) (hb : b.size = m) (h0 : place 0 = some (0, n)) (h1 : place 1 = some (n, m)) : Instr.fill place (x ++ y) [(0, .agg a), (1, .agg b)] = some (a ++ b) := by
  have hca : (Value.agg a).cells = a := rfl
  have hcb : (Value.agg b).cells = b := rfl
  have ea : ∀ (off : Nat) (v : Array Value) (cells : Array Value), v.zipIdx.foldl (fun cs (c, j) => cs.setIfInBounds (off + j) c) cells = (v.toList.zipIdx 0).foldl (fun cs (p : Value × Nat) => cs.setIfInBounds (off + p.2) p.1) cells := by
    intro off v cells
    rw [← Array.foldl_toList, Array.toList_zipIdx]
  rw [fill_part place 0 0 (.agg a) _ _ (by rw [hca, ha, h0]) (by rw [hca]; simp; omega), hca, ea]
  rw [fill_part place 1 n (.agg b) _ _ (by rw [hcb, hb, h1]) (by rw [hcb, fold_size]; simp; omega), hcb, ea]
  rw [Instr.fill]
  congr 1
  apply Array.ext_getElem?
  intro k
  rw [fold_get n b.toList 0 _ (by rw [fold_size]; simp; omega), fold_get 0 a.toList 0 _ (by simp; omega)]
  simp only [Array.length_toList, Nat.zero_add, Nat.add_zero, Nat.sub_zero, Nat.zero_le, true_and, Array.getElem?_toList]
  by_cases k1 : k < n
  · rw [if_neg (by omega), if_pos (by omega), Array.getElem?_append_left (by omega)]
  · by_cases k2 : k < n + m
    · rw [if_pos (by omega), Array.getElem?_append_right (by omega), ha]
    · rw [if_neg (by omega), if_neg (by omega)]
      rw [Array.getElem?_eq_none (by simp; omega), Array.getElem?_eq_none (by simp; omega)]
theorem built_struct {P : Program} {t : TypeId} {it : TypeInfo} {z : Value} {fields : Array Field} {places : List (Nat × Nat)} (hi : P.info? t = some it) (hz : it.zero = some z) (hu : P.underlying t = some (.struct fields)) (hp : fields.toList.mapM (fun f => (P.info? f.type).map fun i => (f.offset, i.size)) = some places) (parts : List (Nat × Value)) : P.built t parts = Instr.fill (places.toArray[·]?) z.cells parts := by
  unfold Program.built
  rw [hi, hu]
  simp only [hz]
  rw [hp]
theorem info79 : (Try.prog.info? 79).map (fun i => i.zero) = some (some (.agg (z77 0 0 ++ z77 0 0))) := by kernel_rfl
theorem build79 (w : World) : (Instr.build 79 #[(0, .agg (z77 251 252)), (1, .agg (z77 253 254))]).run Try.prog w = .ok (.agg z79) w := by
  refine run_build w 79 _ _ ?_
  obtain ⟨i, hi, hz⟩ := Option.map_eq_some_iff.1 info79
  rw [built_struct (places := [(0, 514), (514, 514)]) hi hz Try.underlying79 (by kernel_rfl)]
  exact fill_two _ _ _ _ _ 514 514 (z77_size 0 0) (z77_size 0 0) (z77_size 251 252) (z77_size 253 254) rfl rfl
theorem z79_new : Sd z79 0 (fun _ => 0) (fun _ => false) 251 252 ∧ Sd z79 514 (fun _ => 0) (fun _ => false) 253 254 := by
  have hl : ∀ k, k < 514 → z79[k]? = (z77 251 252)[k]? := fun k hk => by unfold z79; exact Array.getElem?_append_left (by rw [z77_size]; exact hk)
  have hr : ∀ k, z79[514 + k]? = (z77 253 254)[k]? := fun k => by unfold z79; rw [Array.getElem?_append_right (by rw [z77_size]; omega), z77_size, Nat.add_sub_cancel_left]
  refine ⟨⟨fun x h0 h1 => ?_, fun x h0 h1 => ?_, ?_, ?_⟩, ⟨fun x h0 h1 => ?_, fun x h0 h1 => ?_, ?_, ?_⟩⟩
  · rw [hl _ (by omega), z77_get _ _ _ (by omega), if_pos (by omega)]
  · rw [hl _ (by omega), z77_get _ _ _ (by omega), if_neg (by omega), if_pos (by omega)]
  · rw [hl _ (by omega), z77_get _ _ _ (by omega), if_neg (by omega), if_neg (by omega), if_pos (by omega)]
  · rw [hl _ (by omega), z77_get _ _ _ (by omega), if_neg (by omega), if_neg (by omega), if_neg (by omega)]
  · rw [hr, z77_get _ _ _ (by omega), if_pos (by omega)]
  · rw [Nat.add_assoc, hr, z77_get _ _ _ (by omega), if_neg (by omega), if_pos (by omega)]
  · rw [hr, z77_get _ _ _ (by omega), if_neg (by omega), if_neg (by omega), if_pos (by omega)]
  · rw [hr, z77_get _ _ _ (by omega), if_neg (by omega), if_neg (by omega), if_neg (by omega)]
end Go.Proofs.Ytgjicigagfhgmaa.H
