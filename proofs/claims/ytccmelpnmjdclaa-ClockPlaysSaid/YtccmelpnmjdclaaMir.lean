/- The document's clock beside the program's: Find, Drop, Next. -/
import Derived.Test.YtccmelpnmjdclaaDue
namespace Go.Proofs.Ytccmelpnmjdclaa.H
open Go.RowKit Go.Proofs.YtccmelpnmjdclaaW.PrintWords Go.Proofs.YtccmelpnmjdclaaW.PrintLast
set_option linter.unusedVariables false
set_option linter.unusedSimpArgs false
def cv (y : A.S48) : A.S62 := ⟨y.f0, y.f1⟩
/-- The same alarms, in whatever order. -/
structure Mir (xs : List A.S62) (ys : List A.S48) : Prop where
  p : (ys.map cv).Perm xs
  d : xs.Pairwise (fun a b => a.f0 ≠ b.f0)
theorem Mir.len {xs : List A.S62} {ys : List A.S48} (h : Mir xs ys) : ys.length = xs.length := by simpa using h.p.length_eq
theorem Mir.mem {xs : List A.S62} {ys : List A.S48} (h : Mir xs ys) {x : A.S62} : x ∈ xs ↔ ∃ y ∈ ys, cv y = x := by rw [← h.p.mem_iff, List.mem_map]
theorem Mir.yd {xs : List A.S62} {ys : List A.S48} (h : Mir xs ys) : ys.Pairwise (fun a b => a.f0 ≠ b.f0) := by
  have : List.Pairwise (fun a b : A.S62 => a.f0 ≠ b.f0) (ys.map cv) := (List.Perm.pairwise_iff (fun {a b : A.S62} (h : a.f0 ≠ b.f0) => Ne.symm h) h.p).2 h.d
  rw [List.pairwise_map] at this
  exact this
theorem find_mem {α : Type} (f : α → Int) : ∀ {l : List α}, l.Pairwise (fun a b => f a ≠ f b) → ∀ y ∈ l, l.find? (fun z => f z == f y) = some y
  | z :: l, h, y, hy => by
    obtain ⟨h1, h2⟩ := List.pairwise_cons.1 h
    rw [List.find?_cons]
    rcases List.mem_cons.1 hy with rfl | hy
    · simp
    · rw [beq_eq_false_iff_ne.2 (h1 y hy)]
      exact find_mem f h2 y hy
def findV (xs : List A.S62) (id : Int) : Int := ((xs.find? (fun x => x.f0 == id)).map (·.f1)).getD 0
def findD (l : List A.S48) (id : Int) : Int × Bool :=
  match l.find? (fun y => y.f0 == id) with
  | some y => (y.f1, true)
  | none => (0, false)
theorem mir_find {xs : List A.S62} {ys : List A.S48} (h : Mir xs ys) (id : Int) : findD ys id = (findV xs id, hasL xs id) := by
  cases hh : hasL xs id
  · have h1 : xs.find? (fun x => x.f0 == id) = none := by
      rw [List.find?_eq_none]
      unfold hasL at hh
      rw [List.any_eq_false] at hh
      exact hh
    have h2 : ys.find? (fun y => y.f0 == id) = none := by
      rw [List.find?_eq_none]
      intro y hy e
      have : hasL xs id = true := has_iff.2 ⟨cv y, h.mem.2 ⟨y, hy, rfl⟩, by simpa [cv] using e⟩
      rw [hh] at this
      cases this
    rw [findD, h2, findV, h1]
    rfl
  · obtain ⟨x, hx, rfl⟩ := has_iff.1 hh
    obtain ⟨y, hy, rfl⟩ := h.mem.1 hx
    have h1 := find_mem (fun x : A.S62 => x.f0) h.d _ hx
    have h2 := find_mem (fun y : A.S48 => y.f0) h.yd y hy
    have h2 : ys.find? (fun z => z.f0 == (cv y).f0) = some y := h2
    rw [findD, h2, findV, h1]
    rfl
theorem left_find {xs : List A.S62} {now id : Int} (h : hasL xs id = true) : leftV xs now id = findV xs id - now := by
  unfold leftV findV
  cases hf : xs.find? (fun x => x.f0 == id) with
  | none =>
    rw [List.find?_eq_none] at hf
    unfold hasL at h
    obtain ⟨x, hx, hp⟩ := List.any_eq_true.1 h
    exact absurd hp (hf x hx)
  | some x => rfl
theorem rd48 (ys : List A.S48) (i : Nat) (h : i < ys.length) : A.rd_T48 ys (i : Int) = ys[i] := by
  unfold A.rd_T48
  simp [List.getD, List.getElem?_eq_getElem h]
theorem findD_cons (y : A.S48) (l : List A.S48) (id : Int) : findD (y :: l) id = if y.f0 = id then (y.f1, true) else findD l id := by
  unfold findD
  rw [List.find?_cons]
  by_cases hx : y.f0 = id
  · rw [if_pos hx, beq_iff_eq.2 hx]
  · rw [if_neg hx, beq_eq_false_iff_ne.2 hx]
theorem find_loop (now id : Int) (ys : List A.S48) (hl : ys.length ≤ 1000) : ∀ (m k i : Nat), i + m = ys.length → m < k → A.greenscreenref04_Find.l0 k id (i : Int) now ys = some (findD (ys.drop i) id)
  | 0, k + 1, i, hi, hk => by
    rw [A.greenscreenref04_Find.l0, if_neg (by omega), List.drop_eq_nil_of_le (by omega)]
    rfl
  | m + 1, k + 1, i, hi, hk => by
    have h1 : i < ys.length := by omega
    rw [A.greenscreenref04_Find.l0, if_pos (by omega), if_pos (by omega), wr1 i ys.length h1 hl, find_loop now id ys hl m k (i + 1) (by omega) (by omega), List.drop_eq_getElem_cons h1, rd48 ys i h1, findD_cons]
    by_cases hx : ys[i].f0 = id
    · rw [if_pos hx, if_pos hx]
    · rw [if_neg hx, if_neg hx]
theorem find_f48 (now id : Int) (ys : List A.S48) (hl : ys.length ≤ 1000) : A.greenscreenref04_Find.f 1001 now ys id = some (findD ys id) :=
  find_loop now id ys hl ys.length 1001 0 (by omega) (by omega)
def dropR (ys : List A.S48) (id : Int) : List A.S48 := ys.filter (fun y => !(y.f0 == id))
theorem drop_loop (now id : Int) (ys : List A.S48) (hl : ys.length ≤ 1000) : ∀ (m k i : Nat) (acc : List A.S48), i + m = ys.length → m < k → acc.length ≤ i → A.greenscreenref04_Drop.l0 k id acc (i : Int) now ys = some (now, acc ++ dropR (ys.drop i) id)
  | 0, k + 1, i, acc, hi, hk, ha => by
    rw [A.greenscreenref04_Drop.l0, if_neg (by omega), List.drop_eq_nil_of_le (by omega)]
    simp [dropR]
  | m + 1, k + 1, i, acc, hi, hk, ha => by
    have h1 : i < ys.length := by omega
    rw [A.greenscreenref04_Drop.l0, if_pos (by omega), if_pos (by omega), wr1 i ys.length h1 hl, List.drop_eq_getElem_cons h1, rd48 ys i h1, dropR, List.filter_cons]
    by_cases hx : ys[i].f0 = id
    · rw [if_pos hx, drop_loop now id ys hl m k (i + 1) acc (by omega) (by omega) (by omega), beq_iff_eq.2 hx]
      rfl
    · rw [if_neg hx, if_pos (by omega), drop_loop now id ys hl m k (i + 1) _ (by omega) (by omega) (by simp; omega), beq_eq_false_iff_ne.2 hx]
      simp [dropR]
theorem drop_f48 (now id : Int) (ys : List A.S48) (hl : ys.length ≤ 1000) : A.greenscreenref04_Drop.f 1001 now ys id = some (now, dropR ys id) :=
  drop_loop now id ys hl ys.length 1001 0 [] (by omega) (by omega) (by simp)
theorem dropR_map (ys : List A.S48) (id : Int) : (dropR ys id).map cv = (ys.map cv).filter (fun x => !(x.f0 == id)) := by
  unfold dropR
  rw [List.filter_map]
  rfl
theorem drop_filter {id : Int} : ∀ {xs : List A.S62}, xs.Pairwise (fun a b => a.f0 ≠ b.f0) → dropL xs id = xs.filter (fun x => !(x.f0 == id))
  | [], _ => rfl
  | x :: xs, h => by
    obtain ⟨h1, h2⟩ := List.pairwise_cons.1 h
    unfold dropL
    rw [List.eraseP_cons, List.filter_cons]
    by_cases hx : x.f0 = id
    · rw [beq_iff_eq.2 hx]
      simp only [cond_true, Bool.not_true, Bool.false_eq_true, if_false]
      symm
      rw [List.filter_eq_self]
      intro y hy
      have := h1 y hy
      simp
      intro e
      exact this (by rw [hx, e])
    · rw [beq_eq_false_iff_ne.2 hx]
      simp only [cond_false, Bool.not_false, if_true]
      exact congrArg _ (drop_filter h2)
theorem mir_drop {xs : List A.S62} {ys : List A.S48} (h : Mir xs ys) (id : Int) : Mir (dropL xs id) (dropR ys id) := by
  refine ⟨?_, h.d.sublist List.eraseP_sublist⟩
  rw [dropR_map, drop_filter h.d]
  exact h.p.filter _
theorem mir_ins {xs : List A.S62} {ys : List A.S48} (h : Mir xs ys) (t : A.S48) (hd : ∀ x ∈ xs, x.f0 ≠ t.f0) : Mir (insL xs (cv t)) (ys ++ [t]) := by
  refine ⟨?_, ?_⟩
  · rw [List.map_append]
    exact (List.perm_append_comm.trans (List.Perm.cons _ h.p)).trans (ins_perm _ _).symm
  · exact (List.Perm.pairwise_iff (fun h e => h e.symm) (ins_perm _ _)).2 (List.pairwise_cons.2 ⟨fun x hx => (hd x hx).symm, h.d⟩)
def minS (m : A.S48) (l : List A.S48) : A.S48 := l.foldl (fun m y => if y.f1 < m.f1 ∨ (y.f1 = m.f1 ∧ y.f0 < m.f0) then y else m) m
theorem next_loop (now : Int) (ys : List A.S48) (hl : ys.length ≤ 1000) : ∀ (m k i : Nat) (z : A.S48), i + m = ys.length → m < k → A.greenscreenref04_Next.l0 k (i : Int) now ys z.f0 z.f1 = some ((minS z (ys.drop i)).f0, (minS z (ys.drop i)).f1, true)
  | 0, k + 1, i, z, hi, hk => by
    rw [A.greenscreenref04_Next.l0, if_neg (by omega), List.drop_eq_nil_of_le (by omega)]
    rfl
  | m + 1, k + 1, i, z, hi, hk => by
    have h1 : i < ys.length := by omega
    rw [A.greenscreenref04_Next.l0, if_pos (by omega), if_pos (by omega), wr1 i ys.length h1 hl, List.drop_eq_getElem_cons h1, rd48 ys i h1, minS, List.foldl_cons]
    by_cases hx : ys[i].f1 < z.f1
    · rw [if_pos hx, if_pos (.inl hx)]
      exact next_loop now ys hl m k (i + 1) ys[i] (by omega) (by omega)
    · rw [if_neg hx]
      by_cases hy : ys[i].f1 = z.f1
      · rw [if_pos hy]
        by_cases hz : ys[i].f0 < z.f0
        · rw [if_pos hz, if_pos (.inr ⟨hy, hz⟩)]
          exact next_loop now ys hl m k (i + 1) ys[i] (by omega) (by omega)
        · rw [if_neg hz, if_neg (by omega)]
          exact next_loop now ys hl m k (i + 1) z (by omega) (by omega)
      · rw [if_neg hy, if_neg (by omega)]
        exact next_loop now ys hl m k (i + 1) z (by omega) (by omega)
theorem min_spec : ∀ (l : List A.S48) (m : A.S48), minS m l ∈ m :: l ∧ ∀ y ∈ m :: l, ¬ ltA (cv y) (cv (minS m l))
  | [], m => ⟨List.mem_cons_self, fun y hy => by
    obtain rfl : y = m := by simpa using hy
    show ¬ ltA (cv y) (cv y)
    unfold ltA
    omega⟩
  | z :: l, m => by
    have hm : minS m (z :: l) = minS (if z.f1 < m.f1 ∨ (z.f1 = m.f1 ∧ z.f0 < m.f0) then z else m) l := rfl
    rw [hm]
    split
    · rename_i hlt
      obtain ⟨h1, h2⟩ := min_spec l z
      refine ⟨List.mem_cons_of_mem _ h1, fun y hy => ?_⟩
      rcases List.mem_cons.1 hy with rfl | hy
      · have := h2 z List.mem_cons_self
        unfold ltA cv at *
        simp only at *
        omega
      · exact h2 y hy
    · rename_i hlt
      obtain ⟨h1, h2⟩ := min_spec l m
      refine ⟨?_, fun y hy => ?_⟩
      · rcases List.mem_cons.1 h1 with h | h
        · rw [h]; exact List.mem_cons_self
        · exact List.mem_cons_of_mem _ (List.mem_cons_of_mem _ h)
      · rcases List.mem_cons.1 hy with rfl | hy
        · exact h2 y List.mem_cons_self
        · rcases List.mem_cons.1 hy with rfl | hy
          · have := h2 m List.mem_cons_self
            unfold ltA cv at *
            simp only at *
            omega
          · exact h2 y (List.mem_cons_of_mem _ hy)
def headI : List A.S62 → Int
  | [] => 0
  | x :: _ => x.f0
theorem mir_next {xs : List A.S62} {ys : List A.S48} (h : Mir xs ys) (hs : xs.Pairwise ltA) (hl : xs.length ≤ 1000) (now : Int) : A.greenscreenref04_Next.f 1001 now ys = some (headI xs, nextV xs, someL xs) := by
  have hlen := h.len
  unfold A.greenscreenref04_Next.f
  cases xs with
  | nil =>
    rw [if_pos (by simp at hlen; simp [hlen])]
    rfl
  | cons x xs =>
    simp at hlen
    rw [if_neg (by omega), if_pos (by omega)]
    have h0 : 0 < ys.length := by omega
    have hr := rd48 ys 0 h0
    have hr : A.rd_T48 ys 0 = ys[0] := hr
    rw [hr]
    have := next_loop now ys (by simp at hl; omega) ys.length 1001 0 ys[0] (by omega) (by simp at hl; omega)
    rw [show ((0 : Nat) : Int) = 0 from rfl] at this
    rw [this, List.drop_zero]
    obtain ⟨h1, h2⟩ := min_spec ys ys[0]
    obtain ⟨z, hz⟩ : ∃ z, minS ys[0] ys = z := ⟨_, rfl⟩
    rw [hz] at h1 h2 ⊢
    have hz2 : z ∈ ys := by
      rcases List.mem_cons.1 h1 with rfl | h1
      · exact List.getElem_mem h0
      · exact h1
    have hzx : cv z ∈ x :: xs := h.mem.2 ⟨z, hz2, rfl⟩
    have hcz : cv z = x := by
      rcases List.mem_cons.1 hzx with e | hm
      · exact e
      · have hlt := (List.pairwise_cons.1 hs).1 _ hm
        obtain ⟨y, hy, e⟩ := h.mem.1 (List.mem_cons_self : x ∈ x :: xs)
        rw [← e] at hlt
        exact absurd hlt (h2 y (List.mem_cons_of_mem _ hy))
    have e0 : z.f0 = x.f0 := by rw [← hcz]; rfl
    have e1 : z.f1 = x.f1 := by rw [← hcz]; rfl
    rw [e0, e1]
    rfl
end Go.Proofs.Ytccmelpnmjdclaa.H
