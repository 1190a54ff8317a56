/- What rings, and what has no tick left. -/
import Derived.Test.YtccmelpnmjdclaaBuilt
import Derived.Laws.BitsLemmas
namespace Go.Proofs.Ytccmelpnmjdclaa.H
open Go.RowKit Go.Proofs.YtccmelpnmjdclaaW.PrintWords Go.Proofs.YtccmelpnmjdclaaW.PrintLast
set_option linter.unusedVariables false
set_option linter.unusedSimpArgs false
/-- A row of the call's own grows: a clock stays. -/
theorem Cb.row {w0 W W1 : World} {g : Nat} {R : Option Nat} {now : Int} {xs : List A.S62} {v : Value} {n : Nat} {l : List Value} (h : Cb w0 W g R now xs) (ho : W.ownsRow w0.heap.size 3 1 v n l) (hg : W.grownBy W1 v.ownBlock) : Cb w0 W1 g R now xs := by
  obtain ⟨⟨⟨vk, h1, rfl⟩, hk⟩, hb, hgg, hr⟩ := h
  have hne : ∀ k cs t, W.heap[k]? = some (.cells cs t (0, 0)) → t ≠ 3 → some k ≠ v.ownBlock := by
    intro k cs t hk ht e
    obtain ⟨cells, hc⟩ := own_typed ho k e.symm
    have := hk.symm.trans hc
    injection this with this
    injection this with _ e
    exact ht e
  refine ⟨⟨⟨vk, ⟨blk_grown h1.p hg (hne g _ _ h1.p (by decide)), ?_, h1.l⟩, rfl⟩, hk⟩, pw_below_grown hb _ hb.size hg (fun k hk => own_base ho k hk), hgg, hr⟩
  rcases h1.r with ⟨h2, h3⟩ | ⟨R', off, cap, pre, post, rfl, hb2, ho2, hp2, hc2⟩
  · exact .inl ⟨h2, h3⟩
  · exact .inr ⟨R', off, cap, pre, post, rfl, blk_grown hb2 hg (hne R' _ _ hb2 (by decide)), ho2, hp2, hc2⟩
theorem i64_mask (i : Nat) (hi : i ≤ 62) (x : Int) : bits .and .i64 x (2 ^ i - 1) = x % 2 ^ i := by
  have hpos : 0 < 2 ^ i := Nat.two_pow_pos i
  have hc : ((2 : Int) ^ i - 1) = ((2 ^ i - 1 : Nat) : Int) := by
    rw [Int.natCast_sub hpos]; simp
  have hle : 2 ^ i ≤ 4611686018427387904 := Nat.le_trans (Nat.pow_le_pow_right (by decide) hi) (by decide)
  have hdvd : (2 ^ i : Nat) ∣ 2 ^ 64 := Nat.pow_dvd_pow 2 (by omega)
  have hm : (2 ^ i - 1) % 2 ^ 64 = 2 ^ i - 1 := Nat.mod_eq_of_lt (by omega)
  have key : (x % (2 ^ 64 : Nat)).toNat % 2 ^ i = (x % (2 ^ i : Nat)).toNat := by
    have h0 : 0 ≤ x % ((2 ^ 64 : Nat) : Int) := Int.emod_nonneg _ (by decide)
    have h1 : 0 ≤ x % ((2 ^ i : Nat) : Int) := Int.emod_nonneg _ (by omega)
    have h2 : (((x % ((2 ^ 64 : Nat) : Int)).toNat % 2 ^ i : Nat) : Int) = x % ((2 ^ i : Nat) : Int) := by
      rw [Int.natCast_emod, Int.toNat_of_nonneg h0]
      exact Int.emod_emod_of_dvd x (by exact_mod_cast hdvd)
    omega
  have hr : 0 ≤ x % ((2 ^ i : Nat) : Int) := Int.emod_nonneg _ (by omega)
  have hlt : x % ((2 ^ i : Nat) : Int) < ((2 ^ i : Nat) : Int) := Int.emod_lt_of_pos _ (by omega)
  rw [hc]
  have hb : IntKind.i64.bits = 64 := rfl
  simp only [bits, BitVec.toNat_and, BitVec.toNat_ofInt, BitVec.ofInt_natCast, BitVec.toNat_ofNat]
  simp only [hb, hm, Nat.and_two_pow_sub_one_eq_mod]
  rw [key, Int.toNat_of_nonneg hr, IntKind.wrap_i64]
  have e : ((2 ^ i : Nat) : Int) = 2 ^ i := by simp
  rw [← e]
  generalize x % ((2 ^ i : Nat) : Int) = c at *
  generalize 2 ^ i = d at *
  omega
theorem and255 (x : Int) : bits .and .i64 x 255 = x % 256 := i64_mask 8 (by decide) x
theorem and1023 (x : Int) : bits .and .i64 x 1023 = x % 1024 := i64_mask 10 (by decide) x
theorem rungA_filter {n : Int} : ∀ {xs : List A.S62}, xs.Pairwise ltA → rungA xs n = xs.filter (fun x => decide (x.f1 ≤ n))
  | [], _ => rfl
  | y :: ys, h => by
    obtain ⟨h1, h2⟩ := List.pairwise_cons.1 h
    unfold rungA
    rw [List.takeWhile_cons, List.filter_cons]
    by_cases hy : y.f1 ≤ n
    · rw [if_pos (by simpa using hy), if_pos (by simpa using hy)]
      exact congrArg _ (rungA_filter h2)
    · rw [if_neg (by simpa using hy), if_neg (by simpa using hy)]
      symm
      rw [List.filter_eq_nil_iff]
      intro x hx
      have := h1 x hx
      unfold ltA at this
      simp
      omega
theorem mem_rung {xs : List A.S62} {n i : Int} (h : xs.Pairwise ltA) : i ∈ rung xs n ↔ ∃ x ∈ xs, x.f1 ≤ n ∧ x.f0 = i := by
  rw [rung, rungA_filter h]
  simp only [List.mem_map, List.mem_filter, decide_eq_true_eq]
  constructor
  · rintro ⟨x, ⟨h1, h2⟩, h3⟩; exact ⟨x, h1, h2, h3⟩
  · rintro ⟨x, h1, h2, h3⟩; exact ⟨x, ⟨h1, h2⟩, h3⟩
theorem has_iff {xs : List A.S62} {id : Int} : hasL xs id = true ↔ ∃ x ∈ xs, x.f0 = id := by
  unfold hasL
  rw [List.any_eq_true]
  simp
theorem left_of {now : Int} : ∀ {xs : List A.S62}, xs.Pairwise (fun a b => a.f0 ≠ b.f0) → ∀ x ∈ xs, leftV xs now x.f0 = x.f1 - now
  | y :: ys, h, x, hx => by
    obtain ⟨h1, h2⟩ := List.pairwise_cons.1 h
    unfold leftV
    rw [List.find?_cons]
    rcases List.mem_cons.1 hx with rfl | hx
    · simp
    · have hne : (y.f0 == x.f0) = false := beq_eq_false_iff_ne.2 (h1 x hx)
      rw [hne]
      exact left_of h2 x hx
/-- Those with no tick left, by number. -/
def dueL (xs : List A.S62) (now at_ : Int) : Nat → List Int
  | 0 => []
  | k + 1 => dueL xs now at_ k ++ if hasL xs k = true ∧ leftV xs now k = at_ - now then [(k : Int)] else []
theorem mem_due {xs : List A.S62} {now at_ i : Int} : ∀ n : Nat, i ∈ dueL xs now at_ n ↔ ∃ k : Nat, k < n ∧ i = k ∧ hasL xs k = true ∧ leftV xs now k = at_ - now
  | 0 => by simp [dueL]
  | n + 1 => by
    rw [dueL, List.mem_append, mem_due n]
    constructor
    · rintro (⟨k, h1, h2⟩ | h)
      · exact ⟨k, by omega, h2⟩
      · split at h
        · rename_i hc
          exact ⟨n, by omega, by simpa using h, hc⟩
        · simp at h
    · rintro ⟨k, h1, h2, h3⟩
      rcases Nat.lt_or_ge k n with h | h
      · exact .inl ⟨k, h, h2, h3⟩
      · obtain rfl : k = n := by omega
        rw [if_pos h3]
        exact .inr (by simp [h2])
theorem due_sorted {xs : List A.S62} {now at_ : Int} : ∀ n : Nat, (dueL xs now at_ n).Pairwise (· < ·)
  | 0 => List.Pairwise.nil
  | n + 1 => by
    rw [dueL]
    refine List.pairwise_append.2 ⟨due_sorted n, ?_, ?_⟩
    · split
      · exact List.pairwise_singleton _ _
      · exact List.Pairwise.nil
    · intro a ha b hb
      obtain ⟨k, hk, rfl, _⟩ := (mem_due n).1 ha
      split at hb
      · have : b = n := by simpa using hb
        omega
      · simp at hb
theorem due_len {xs : List A.S62} {now at_ : Int} : ∀ n : Nat, (dueL xs now at_ n).length ≤ n
  | 0 => Nat.le_refl _
  | n + 1 => by
    rw [dueL, List.length_append]
    have := due_len (xs := xs) (now := now) (at_ := at_) n
    split <;> simp <;> omega
theorem rung_sorted {xs : List A.S62} {n : Int} (h : xs.Pairwise ltA) (hn : ∀ x ∈ xs, n ≤ x.f1) : (rung xs n).Pairwise (· < ·) := by
  rw [rung, rungA_filter h, List.pairwise_map]
  have hs : (xs.filter (fun x => decide (x.f1 ≤ n))).Pairwise ltA := h.sublist List.filter_sublist
  refine List.Pairwise.imp_of_mem ?_ hs
  intro a b ha hb hab
  have h1 := List.mem_filter.1 ha
  have h2 := List.mem_filter.1 hb
  have h3 := hn a h1.1
  have h4 := hn b h2.1
  have h5 : a.f1 ≤ n := by simpa using h1.2
  have h6 : b.f1 ≤ n := by simpa using h2.2
  unfold ltA at hab
  omega
theorem due_eq {x : A.S62} {ys : List A.S62} {now : Int} {n : Nat} (h : Okk now (x :: ys)) (hi : ∀ y ∈ x :: ys, ∃ i : Nat, i < n ∧ y.f0 = i) : rung (x :: ys) x.f1 = dueL (x :: ys) now x.f1 n := by
  have hmin : ∀ y ∈ x :: ys, x.f1 ≤ y.f1 := by
    intro y hy
    rcases List.mem_cons.1 hy with rfl | hy
    · exact Int.le_refl _
    · have := (List.pairwise_cons.1 h.s).1 y hy
      unfold ltA at this
      omega
  refine sorted_eq (rung_sorted h.s hmin) (due_sorted n) (fun i => ?_)
  rw [mem_rung h.s, mem_due]
  constructor
  · rintro ⟨y, h1, h2, rfl⟩
    obtain ⟨k, hk, e⟩ := hi y h1
    refine ⟨k, hk, e, has_iff.2 ⟨y, h1, e⟩, ?_⟩
    rw [← e, left_of h.d y h1]
    have := hmin y h1
    omega
  · rintro ⟨k, hk, rfl, h3, h4⟩
    obtain ⟨y, h5, h6⟩ := has_iff.1 h3
    rw [← h6, left_of h.d y h5] at h4
    exact ⟨y, h5, by omega, h6⟩
/-- A tick ahead of it nothing rings. -/
theorem rung_ahead {x : A.S62} {ys : List A.S62} {n : Int} (h : n < x.f1) : rung (x :: ys) n = [] ∧ leftA (x :: ys) n = x :: ys := by
  have hd : decide (x.f1 ≤ n) = false := decide_eq_false (by omega)
  constructor
  · simp [rung, rungA, List.takeWhile_cons, hd]
  · simp [leftA, List.dropWhile_cons, hd]
theorem left_at {x : A.S62} {ys : List A.S62} : (leftA (x :: ys) x.f1).length ≤ ys.length := by
  have hd : decide (x.f1 ≤ x.f1) = true := decide_eq_true (Int.le_refl _)
  have : leftA (x :: ys) x.f1 = leftA ys x.f1 := by simp [leftA, List.dropWhile_cons]
  rw [this]
  exact (left_sub ys _).length_le
end Go.Proofs.Ytccmelpnmjdclaa.H
