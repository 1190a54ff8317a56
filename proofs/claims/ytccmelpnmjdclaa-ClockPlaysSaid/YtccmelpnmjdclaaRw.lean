/- A row of alarms of one's own, cut or not; the builtins on it. -/
import Derived.Test.YtccmelpnmjdclaaAx
import Derived.Lib.Hide
import Derived.Lib.Overlaps
import Derived.Lib.SliceRun
namespace Go.Proofs.Ytccmelpnmjdclaa.H
open Go.RowKit Go.Proofs.YtccmelpnmjdclaaW.PrintWords Go.Proofs.YtccmelpnmjdclaaW.PrintLast
set_option linter.unusedVariables false
set_option linter.unusedSimpArgs false
def al (x : A.S62) : List Value := [.int .i64 x.f0, .int .i64 x.f1]
def flatA (xs : List A.S62) : List Value := xs.flatMap al
theorem flatA_cons (x : A.S62) (xs : List A.S62) : flatA (x :: xs) = .int .i64 x.f0 :: .int .i64 x.f1 :: flatA xs := rfl
theorem flatA_length (xs : List A.S62) : (flatA xs).length = xs.length * 2 := by
  induction xs with
  | nil => rfl
  | cons x xs ih => rw [flatA_cons, List.length_cons, List.length_cons, ih, List.length_cons]; omega
theorem flatA_append (xs ys : List A.S62) : flatA (xs ++ ys) = flatA xs ++ flatA ys := by simp [flatA]
theorem flatA_take : ∀ (xs : List A.S62) (k : Nat), (flatA xs).take (k * 2) = flatA (xs.take k)
  | [], k => by simp [flatA]
  | x :: xs, 0 => by simp [flatA]
  | x :: xs, k + 1 => by
    rw [flatA_cons, show (k + 1) * 2 = k * 2 + 1 + 1 by omega, List.take_succ_cons, List.take_succ_cons, flatA_take xs k, List.take_succ_cons, flatA_cons]
theorem flatA_drop : ∀ (xs : List A.S62) (k : Nat), (flatA xs).drop (k * 2) = flatA (xs.drop k)
  | [], k => by simp [flatA]
  | x :: xs, 0 => by simp [flatA]
  | x :: xs, k + 1 => by
    rw [flatA_cons, show (k + 1) * 2 = k * 2 + 1 + 1 by omega, List.drop_succ_cons, List.drop_succ_cons, flatA_drop xs k, List.drop_succ_cons]
theorem flatA_one (xs : List A.S62) : ∀ u ∈ flatA xs, u.oneCell' = true := by
  intro u hu
  obtain ⟨x, _, hx⟩ := List.mem_flatMap.1 hu
  simp only [al, List.mem_cons, List.not_mem_nil, or_false] at hx
  rcases hx with rfl | rfl <;> rfl
/-- Cells of a block turned. -/
theorem put_cells {W : World} {R : Nat} {Z : List Value} (h : W.heap[R]? = some (.cells Z.toArray 62 (0, 0))) (o : Nat) (vs : List Value) (hl : o + vs.length ≤ Z.length) :
    (W.setCells R o vs).heap[R]? = some (.cells (Z.take o ++ vs ++ Z.drop (o + vs.length)).toArray 62 (0, 0)) ∧ W.grownBy (W.setCells R o vs) (some R) := by
  obtain ⟨cur', h1, h2, h3⟩ := setCells_row vs o W Z.toArray h (by simpa using hl)
  have e : cur' = (Z.take o ++ vs ++ Z.drop (o + vs.length)).toArray := by
    apply Array.ext'
    rw [h3]
  obtain ⟨s1, s2, s3, s4⟩ := setCells_same R vs o W
  refine ⟨by rw [← e]; exact h1, ⟨s1, s2, s3, Nat.le_of_eq s4.symm, fun k hk hne => ?_⟩⟩
  clear h h1 h2 h3 e s1 s2 s3 s4 hl
  induction vs generalizing o W with
  | nil => rfl
  | cons v vs ih =>
    rw [World.setCells]
    rw [ih (W := W.setCell ⟨R, o, none⟩ v) (o + 1) (by simpa [World.setCell] using hk)]
    exact Below.heap_setCell W ⟨R, o, none⟩ v k (by simpa using hne)
theorem cells_there {W : World} {R : Nat} {Z : List Value} (h : W.heap[R]? = some (.cells Z.toArray 62 (0, 0))) (i : Nat) (hi : i < Z.length) : (W.cell? ⟨R, i, none⟩).isSome = true := by
  rw [blk_cell h]
  simp [hi]
theorem info62 : (Try.prog.info? 62).map (fun i => (i.zero, i.size, i.bytes)) = some (some (.agg #[.int .i64 0, .int .i64 0]), 2, 16) := by kernel_rfl
/-- copy, at alarms. -/
theorem run_copy2 {W : World} {R o dl dc sl sc n : Nat} {a : Addr} {ty : TypeId} {Z cs : List Value} (hn : n = Nat.min sl dl) (hl : cs.length = n * 2) (hsrc : ∀ j v, cs[j]? = some v → W.cell? (a.add j) = some v)
    (hb : W.heap[R]? = some (.cells Z.toArray 62 (0, 0))) (hfit : o + cs.length ≤ Z.length) (h1 : ∀ v ∈ cs, v.oneCell' = true) :
    (Builtin.copy_ #[25, 25] ty #[.slice (some ⟨R, o, none⟩) dl dc, .slice (some a) sl sc]).run Try.prog W = .ok (goInt n) (W.setCells R o cs) := by
  obtain ⟨i, hi, hz, hs, _⟩ := info_parts info62
  have hf := run_firstCells_some (P := Try.prog) W 2 n a sl sc cs hl hsrc
  have hst := run_storeCells_cells (P := Try.prog) R o cs 0 W (fun j hj => by simpa using cells_there hb (o + j) (by omega)) (fun j hj => by simpa using blk_frozen hb (o + j)) h1
  simp only [Nat.add_zero] at hst
  simp [Builtin.copy_, run_underlying Try.underlying25, Builtin.lenOf, sizeOf, typeInfo, hi, hs, ← hn, hf, hst]
/-- clear, at alarms. -/
theorem run_clear2 {W : World} {R o n c : Nat} {ty : TypeId} {Z : List Value} (hn : 0 < n) (hb : W.heap[R]? = some (.cells Z.toArray 62 (0, 0))) (hfit : o + n * 2 ≤ Z.length) :
    (Builtin.clear_ #[25] ty #[.slice (some ⟨R, o, none⟩) n c]).run Try.prog W = .ok (.tuple #[]) (W.setCells R o (Builtin.zeroCells #[.int .i64 0, .int .i64 0] n).toList) := by
  obtain ⟨i, hi, hz, hs, _⟩ := info_parts info62
  have hzl : (Builtin.zeroCells #[.int .i64 0, .int .i64 0] n).toList.length = n * 2 := by simp [Builtin.zeroCells]
  have hst := run_storeCells_cells (P := Try.prog) R o (Builtin.zeroCells #[.int .i64 0, .int .i64 0] n).toList 0 W (fun j hj => by simpa using cells_there hb (o + j) (by omega)) (fun j hj => by simpa using blk_frozen hb (o + j)) (fun v hv => by
    simp only [Builtin.zeroCells, Array.toList_map, Array.toList_range, List.mem_map, List.mem_range] at hv
    obtain ⟨k, _, rfl⟩ := hv
    have : k % 2 = 0 ∨ k % 2 = 1 := by omega
    show (#[Value.int .i64 0, .int .i64 0][k % 2]!).oneCell' = true
    rcases this with h | h <;> rw [h] <;> rfl)
  simp only [Nat.add_zero] at hst
  obtain ⟨m, rfl⟩ : ∃ m, n = m + 1 := ⟨n - 1, by omega⟩
  simp [Builtin.clear_, run_underlying Try.underlying25, zeroValue, typeInfo, hi, hz]
  exact hst ▸ rfl
section
variable {P : Program} {ops : Array Oper} {rest : List Oper} {o : Oper} {a : Act} {W W1 : World} {K : Act → World → Prop} {Q : Exit → Act → World → Prop} {E : Prop}
/-- append at a step of a region that draws, by what it does. -/
theorem step_append2 (hw : Region.wanted o (yielded ops a.tmps) = true) (s x : Operand) (t t2 : TypeId) (ho : o.op = .call { callee := .builtin .append, args := #[s, x], argTypes := #[t, t2] }) (vs vx : Value) (hs : a.eval s = vs) (hx : a.eval x = vx) (v : Value)
    (hr : (Builtin.append_ #[t, t2] o.type #[vs, vx]).run P W = .ok v W1) (h : K (a.put o.dst v) W1) : if Region.wanted o (yielded ops a.tmps) = true then Oper.wp P o a W K Q else E := by
  rw [if_pos hw]
  unfold Oper.wp execOp
  simp only [ho, resolve, invoke, builtin, Sem.run_bind, Sem.run_pure, Result.andThen_ok, List.map_toArray, List.map_cons, List.map_nil, hs, hx, hr]
  exact h
theorem step_copy2 (hw : Region.wanted o (yielded ops a.tmps) = true) (s x : Operand) (t t2 : TypeId) (ho : o.op = .call { callee := .builtin .copy, args := #[s, x], argTypes := #[t, t2] }) (vs vx : Value) (hs : a.eval s = vs) (hx : a.eval x = vx) (v : Value)
    (hr : (Builtin.copy_ #[t, t2] o.type #[vs, vx]).run P W = .ok v W1) (h : K (a.put o.dst v) W1) : if Region.wanted o (yielded ops a.tmps) = true then Oper.wp P o a W K Q else E := by
  rw [if_pos hw]
  unfold Oper.wp execOp
  simp only [ho, resolve, invoke, builtin, Sem.run_bind, Sem.run_pure, Result.andThen_ok, List.map_toArray, List.map_cons, List.map_nil, hs, hx, hr]
  exact h
theorem list_append2 (hgd : o.guard = none) (s x : Operand) (t t2 : TypeId) (ho : o.op = .call { callee := .builtin .append, args := #[s, x], argTypes := #[t, t2] }) (vs vx : Value) (hs : a.eval s = vs) (hx : a.eval x = vx) (v : Value)
    (hr : (Builtin.append_ #[t, t2] o.type #[vs, vx]).run P W = .ok v W1) (h : wpList P ops Q rest (a.put o.dst v) W1) : wpList P ops Q (o :: rest) a W := by
  refine wpList_plain hgd fun K hK => ?_
  unfold Oper.wp execOp
  simp only [ho, resolve, invoke, builtin, Sem.run_bind, Sem.run_pure, Result.andThen_ok, List.map_toArray, List.map_cons, List.map_nil, hs, hx, hr]
  exact hK _ _ h
theorem list_copy2 (hgd : o.guard = none) (s x : Operand) (t t2 : TypeId) (ho : o.op = .call { callee := .builtin .copy, args := #[s, x], argTypes := #[t, t2] }) (vs vx : Value) (hs : a.eval s = vs) (hx : a.eval x = vx) (v : Value)
    (hr : (Builtin.copy_ #[t, t2] o.type #[vs, vx]).run P W = .ok v W1) (h : wpList P ops Q rest (a.put o.dst v) W1) : wpList P ops Q (o :: rest) a W := by
  refine wpList_plain hgd fun K hK => ?_
  unfold Oper.wp execOp
  simp only [ho, resolve, invoke, builtin, Sem.run_bind, Sem.run_pure, Result.andThen_ok, List.map_toArray, List.map_cons, List.map_nil, hs, hx, hr]
  exact hK _ _ h
theorem list_clear2 (hgd : o.guard = none) (s : Operand) (t : TypeId) (ho : o.op = .call { callee := .builtin .clear, args := #[s], argTypes := #[t] }) (vs : Value) (hs : a.eval s = vs) (v : Value)
    (hr : (Builtin.clear_ #[t] o.type #[vs]).run P W = .ok v W1) (h : wpList P ops Q rest (a.put o.dst v) W1) : wpList P ops Q (o :: rest) a W := by
  refine wpList_plain hgd fun K hK => ?_
  unfold Oper.wp execOp
  simp only [ho, resolve, invoke, builtin, Sem.run_bind, Sem.run_pure, Result.andThen_ok, List.map_toArray, List.map_cons, List.map_nil, hs, hr]
  exact hK _ _ h
end
end Go.Proofs.Ytccmelpnmjdclaa.H
