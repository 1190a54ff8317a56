/- Fields of a plane, in plain numbers: how long a field is, which places it has; bits. -/
import Derived.Test.YtnifkdcjphekpaaReplies
import Derived.Test.YtnifkdcjphekpaaOwn
namespace Go.Proofs.Ytnifkdcjphekpaa.H
open Go.RowKit Go.Proofs.YtnifkdcjphekpaaW.PrintWords Go.Proofs.YtnifkdcjphekpaaW.PrintLast
set_option linter.unusedVariables false
set_option linter.unusedSimpArgs false
theorem flatMap_same {α β : Type} : ∀ (l : List α) (f g : α → List β), (∀ x ∈ l, f x = g x) → l.flatMap f = l.flatMap g
  | [], _, _, _ => rfl
  | x :: l, f, g, h => by
    rw [List.flatMap_cons, List.flatMap_cons, h x List.mem_cons_self, flatMap_same l f g (fun y hy => h y (List.mem_cons_of_mem _ hy))]
theorem u8_wrap (b : BitVec 8) : IntKind.u8.wrap (b.toNat : Int) = b.toNat := by
  rw [IntKind.wrap_u8]
  have := b.isLt
  omega
theorem bits_and8 (v c : Int) : Go.bits .and .u8 v c = ((BitVec.ofInt 8 v &&& BitVec.ofInt 8 c).toNat : Int) := u8_wrap _
theorem bits_or8 (v c : Int) : Go.bits .or .u8 v c = ((BitVec.ofInt 8 v ||| BitVec.ofInt 8 c).toNat : Int) := u8_wrap _
theorem bits_not8 (v c : Int) : Go.bits .andNot .u8 v c = ((BitVec.ofInt 8 v &&& ~~~ BitVec.ofInt 8 c).toNat : Int) := u8_wrap _
theorem of_nat8 (b : BitVec 8) : BitVec.ofInt 8 (b.toNat : Int) = b := by
  apply BitVec.eq_of_toNat_eq
  rw [BitVec.toNat_ofInt]
  have := b.isLt
  omega
theorem bv_mod : ∀ b : BitVec 8, ((((b &&& 63#8) &&& 1#8).toNat : Int) != 0) = (((b &&& 1#8).toNat : Int) == 1) := by decide +kernel
theorem bv_or : ∀ b : BitVec 8, (((((b &&& ~~~ 1#8) ||| 1#8) &&& 63#8) &&& 1#8).toNat : Int) = 1 := by decide +kernel
theorem bv_not : ∀ b : BitVec 8, ((((b &&& ~~~ 1#8) &&& 63#8) &&& 1#8).toNat : Int) = 0 := by decide +kernel
theorem mod_bit (v : Int) : modB (Go.bits .and .u8 v 63) = (Go.bits .and .u8 v 1 == 1) := by
  unfold modB
  rw [bits_and8 v 63, bits_and8 _ 1, bits_and8 v 1, of_nat8]
  exact bv_mod _
theorem mod_or (v : Int) : modB (Go.bits .and .u8 (Go.bits .or .u8 (Go.bits .andNot .u8 v 1) 1) 63) = true := by
  unfold modB
  rw [bits_not8, bits_or8, of_nat8, bits_and8 _ 63, of_nat8, bits_and8 _ 1, of_nat8]
  have h := bv_or (BitVec.ofInt 8 v)
  exact (congrArg (· != 0) h).trans rfl
theorem mod_not (v : Int) : modB (Go.bits .and .u8 (Go.bits .andNot .u8 v 1) 63) = false := by
  unfold modB
  rw [bits_not8, bits_and8 _ 63, of_nat8, bits_and8 _ 1, of_nat8]
  have h := bv_not (BitVec.ofInt 8 v)
  exact (congrArg (· != 0) h).trans rfl
theorem look_spec (cs : List A.S34) (a : Int) : ∀ m k : Nat,
    (∃ j : Nat, k ≤ j ∧ j < k + m ∧ (A.rd_T34 cs ((a + j) % cs.length)).f2 = true ∧ (∀ i : Nat, k ≤ i → i < j → (A.rd_T34 cs ((a + i) % cs.length)).f2 = false) ∧ lookF cs a 1 m k = (a + j) % cs.length) ∨
    ((∀ i : Nat, k ≤ i → i < k + m → (A.rd_T34 cs ((a + i) % cs.length)).f2 = false) ∧ lookF cs a 1 m k = -1)
  | 0, k => .inr ⟨fun i h1 h2 => by omega, rfl⟩
  | m + 1, k => by
    unfold lookF
    rw [Int.mul_one]
    cases hb : (A.rd_T34 cs ((a + k) % cs.length)).f2
    · rw [if_neg Bool.false_ne_true]
      rcases look_spec cs a m (k + 1) with ⟨j, h1, h2, h3, h4, h5⟩ | ⟨h1, h2⟩
      · refine .inl ⟨j, by omega, by omega, h3, fun i hi1 hi2 => ?_, h5⟩
        rcases Nat.lt_or_ge k i with h | h
        · exact h4 i h hi2
        · obtain rfl : i = k := by omega
          exact hb
      · refine .inr ⟨fun i hi1 hi2 => ?_, h2⟩
        rcases Nat.lt_or_ge k i with h | h
        · exact h1 i h (by omega)
        · obtain rfl : i = k := by omega
          exact hb
    · rw [if_pos rfl]
      exact .inl ⟨k, Nat.le_refl _, by omega, hb, fun i h1 h2 => by omega, rfl⟩
/-- A field's gap: so many places up to the next attribute. -/
theorem gap_spec (cs : List A.S34) (x : Int) (h0 : 0 ≤ x) (h1 : x < cs.length) (hf : (A.rd_T34 cs x).f2 = true) :
    ∃ j : Nat, j < cs.length ∧ (A.rd_T34 cs ((x + 1 + j) % cs.length)).f2 = true ∧ (∀ i : Nat, i < j → (A.rd_T34 cs ((x + 1 + i) % cs.length)).f2 = false) ∧ afterF cs x = (x + 1 + j) % cs.length ∧ fldLen cs x = j ∧ fldMany cs (fldLen cs x) = j := by
  have e : ∀ i : Nat, ((x + 1) % cs.length + i) % cs.length = (x + 1 + i) % cs.length := fun i => Int.emod_add_emod ..
  have hs := look_spec cs ((x + 1) % cs.length) cs.length 0
  simp only [e] at hs
  rcases hs with ⟨j, _, h2, h3, h4, h5⟩ | ⟨h2, _⟩
  · have hj : j < cs.length := by omega
    have ha : afterF cs x = (x + 1 + j) % cs.length := h5
    have hl : fldLen cs x = j := by
      unfold fldLen
      rw [ha]
      rcases Int.lt_or_le (x + 1 + j) cs.length with h | h
      · rw [Int.emod_eq_of_lt (by omega) h, if_neg (by omega)]
        omega
      · have : (x + 1 + j) % cs.length = x + 1 + j - cs.length := by
          rw [← Int.sub_emod_right, Int.emod_eq_of_lt (by omega) (by omega)]
        rw [this, if_pos (by omega)]
        omega
    refine ⟨j, hj, h3, fun i hi => h4 i (Nat.zero_le _) hi, ha, hl, ?_⟩
    rw [hl]
    unfold fldMany
    rw [if_neg (show ¬ (j : Int) < 0 by omega), if_neg (by omega)]
    omega
  · exfalso
    have := h2 (cs.length - 1) (Nat.zero_le _) (by omega)
    rw [show x + 1 + ((cs.length - 1 : Nat) : Int) = x + cs.length by omega, Int.add_emod_right, Int.emod_eq_of_lt h0 h1, hf] at this
    exact absurd this (by decide)
theorem look_congr {cs ds : List A.S34} (hl : cs.length = ds.length) (hf : ∀ q : Int, 0 ≤ q → q < cs.length → (A.rd_T34 cs q).f2 = (A.rd_T34 ds q).f2) (hn : 1 ≤ cs.length) (a : Int) : ∀ m k : Nat, lookF cs a 1 m k = lookF ds a 1 m k
  | 0, _ => rfl
  | m + 1, k => by
    unfold lookF
    rw [look_congr hl hf hn a m (k + 1), ← hl, hf _ (Int.emod_nonneg _ (by omega)) (Int.emod_lt_of_pos _ (by omega))]
theorem starts_mem {cs : List A.S34} {x : Int} : ∀ {k : Nat}, x ∈ startsTo cs k ↔ 0 ≤ x ∧ x < k ∧ (A.rd_T34 cs x).f2 = true := by
  intro k
  unfold startsTo
  rw [List.mem_filter, List.mem_map]
  constructor
  · rintro ⟨⟨i, hi, rfl⟩, h⟩
    have := List.mem_range.1 hi
    exact ⟨by omega, by omega, h⟩
  · rintro ⟨h0, h1, h2⟩
    exact ⟨⟨x.toNat, List.mem_range.2 (by omega), by omega⟩, h2⟩
theorem starts_sorted (cs : List A.S34) (k : Nat) : (startsTo cs k).Pairwise (· < ·) :=
  List.Pairwise.filter _ (List.Pairwise.map _ (fun a b h => by exact_mod_cast h) List.pairwise_lt_range)
theorem starts_congr {cs ds : List A.S34} {k : Nat} (hk : k ≤ cs.length) (hf : ∀ q : Int, 0 ≤ q → q < cs.length → (A.rd_T34 cs q).f2 = (A.rd_T34 ds q).f2) : startsTo cs k = startsTo ds k := by
  unfold startsTo
  apply List.filter_congr
  intro x hx
  obtain ⟨i, hi, rfl⟩ := List.mem_map.1 hx
  have := List.mem_range.1 hi
  exact hf _ (by omega) (by omega)
theorem form_starts (cs : List A.S34) (hn : 1 ≤ cs.length) : formB cs = decide ((startsTo cs cs.length).length ≠ 0) := by
  unfold formB
  have hs := look_spec cs 0 cs.length 0
  rcases hs with ⟨j, _, h2, h3, _, h5⟩ | ⟨h2, h5⟩
  · have hj : j < cs.length := by omega
    rw [h5, Int.zero_add, Int.emod_eq_of_lt (by omega) (by omega)]
    rw [Int.zero_add, Int.emod_eq_of_lt (by omega) (by omega)] at h3
    have hm : (j : Int) ∈ startsTo cs cs.length := starts_mem.2 ⟨by omega, by omega, h3⟩
    have := List.length_pos_of_mem hm
    rw [decide_eq_true (by omega), decide_eq_true (by omega)]
  · rw [h5, decide_eq_false (by omega)]
    symm
    rw [decide_eq_false_iff_not]
    intro h
    apply h
    rw [List.length_eq_zero_iff, List.eq_nil_iff_forall_not_mem]
    intro x hx
    obtain ⟨h0, h1, hf⟩ := starts_mem.1 hx
    have := h2 x.toNat (Nat.zero_le _) (by omega)
    rw [Int.zero_add, Int.toNat_of_nonneg h0, Int.emod_eq_of_lt h0 (by omega), hf] at this
    exact absurd this (by decide)
end Go.Proofs.Ytnifkdcjphekpaa.H
