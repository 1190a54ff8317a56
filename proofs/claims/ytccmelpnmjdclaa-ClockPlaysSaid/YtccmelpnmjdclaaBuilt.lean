/- A clock with alarms 0, 1 .. set one by one. -/
import Derived.Test.YtccmelpnmjdclaaAlive
namespace Go.Proofs.Ytccmelpnmjdclaa.H
open Go.RowKit Go.Proofs.YtccmelpnmjdclaaW.PrintWords Go.Proofs.YtccmelpnmjdclaaW.PrintLast
set_option linter.unusedVariables false
set_option linter.unusedSimpArgs false
def built (f : Nat → Int) : Nat → List A.S62
  | 0 => []
  | k + 1 => setL (built f k) 0 k (f k)
theorem drop_none {xs : List A.S62} {id : Int} (h : ∀ x ∈ xs, x.f0 ≠ id) : dropL xs id = xs ∧ hasL xs id = false := by
  refine ⟨List.eraseP_of_forall_not (fun x hx => by have := h x hx; simpa using this), ?_⟩
  rw [hasL, List.any_eq_false]
  intro x hx
  have := h x hx
  simpa using this
theorem mem_ins' {t x : A.S62} {xs : List A.S62} : x ∈ insL xs t ↔ x = t ∨ x ∈ xs := by
  rw [(ins_perm t xs).mem_iff]
  simp
theorem built_all {f : Nat → Int} {n : Nat} (hn : n ≤ 60) (hf : ∀ i, i < n → 0 ≤ f i ∧ f i ≤ 1023) : ∀ k : Nat, k ≤ n → (∀ x, x ∈ built f k ↔ ∃ j : Nat, j < k ∧ x = ⟨j, f j⟩) ∧ (built f k).length = k ∧ Okk 0 (built f k)
  | 0, _ => ⟨by simp [built], rfl, okk_nil⟩
  | k + 1, hk => by
    obtain ⟨h1, h2, h3⟩ := built_all hn hf k (by omega)
    have hno : ∀ x ∈ built f k, x.f0 ≠ (k : Int) := by
      intro x hx
      obtain ⟨j, hj, rfl⟩ := (h1 x).1 hx
      intro e
      have e : (j : Int) = k := e
      omega
    obtain ⟨e1, e2⟩ := drop_none hno
    have hfk := hf k (by omega)
    have e3 : setE (built f k) k (f k) = 0 := by
      unfold setE
      rw [if_neg (by omega), if_neg (by rw [h2]; omega)]
    have e4 : atV 0 (f k) = f k := by unfold atV; rw [if_neg (by omega)]; omega
    have e5 : built f (k + 1) = insL (built f k) ⟨k, f k⟩ := by
      rw [built, setL, e3, if_pos rfl, e1, e4]
    refine ⟨fun x => ?_, ?_, ?_⟩
    · rw [e5, mem_ins', h1]
      constructor
      · rintro (rfl | ⟨j, hj, rfl⟩)
        · exact ⟨k, by omega, rfl⟩
        · exact ⟨j, by omega, rfl⟩
      · rintro ⟨j, hj, rfl⟩
        rcases Nat.lt_or_ge j k with h | h
        · exact .inr ⟨j, h, rfl⟩
        · obtain rfl : j = k := by omega
          exact .inl rfl
    · rw [e5, insL_length, h2]
    · exact h3.set _ _
theorem built_e {f : Nat → Int} {n : Nat} (hn : n ≤ 60) (hf : ∀ i, i < n → 0 ≤ f i ∧ f i ≤ 1023) (k : Nat) (hk : k < n) : setE (built f k) k (f k) = 0 := by
  obtain ⟨h1, h2, h3⟩ := built_all hn hf k (by omega)
  have hfk := hf k hk
  unfold setE
  rw [if_neg (by omega), if_neg (by rw [h2]; omega)]
/-- Two rows in strict order that hold the same are one. -/
theorem sorted_eq : ∀ {a b : List Int}, a.Pairwise (· < ·) → b.Pairwise (· < ·) → (∀ x, x ∈ a ↔ x ∈ b) → a = b
  | [], [], _, _, _ => rfl
  | [], y :: b, _, _, h => by have := (h y).2 List.mem_cons_self; simp at this
  | x :: a, [], _, _, h => by have := (h x).1 List.mem_cons_self; simp at this
  | x :: a, y :: b, ha, hb, h => by
    obtain ⟨a1, a2⟩ := List.pairwise_cons.1 ha
    obtain ⟨b1, b2⟩ := List.pairwise_cons.1 hb
    have hxy : x = y := by
      rcases List.mem_cons.1 ((h x).1 List.mem_cons_self) with e | hx
      · exact e
      · rcases List.mem_cons.1 ((h y).2 List.mem_cons_self) with e | hy
        · exact e.symm
        · have := b1 x hx
          have := a1 y hy
          omega
    subst hxy
    rw [sorted_eq a2 b2 (fun z => ?_)]
    constructor
    · intro hz
      rcases List.mem_cons.1 ((h z).1 (List.mem_cons_of_mem _ hz)) with rfl | hz'
      · have := a1 z hz; omega
      · exact hz'
    · intro hz
      rcases List.mem_cons.1 ((h z).2 (List.mem_cons_of_mem _ hz)) with rfl | hz'
      · have := b1 z hz; omega
      · exact hz'
end Go.Proofs.Ytccmelpnmjdclaa.H
