/- Headers and their numbers, the plain part: what the printed functions of layer 09 compute. -/
import Derived.Test.YtnhogaelhggheaaPx5
import Derived.Test.YtnhogaelhggheaaPx7
import Derived.Test.YtnhogaelhggheaaPx10
import Derived.Laws.BitsLemmas
namespace Go.Proofs.Ytnhogaelhggheaa.Plain
open Go.RowKit Go.Proofs.Ytnhogaelhggheaa.P Go.Proofs.YtnhogaelhggheaaW.PrintWords Go.Proofs.YtnhogaelhggheaaW.PrintLast Go.Proofs.YtnhogaelhggheaaW.PrintMore
set_option linter.unusedSimpArgs false
set_option linter.unusedVariables false

theorem wrap_id {a : Int} (h1 : -9223372036854775808 ≤ a) (h2 : a < 9223372036854775808) : wrap64 a = a := by unfold wrap64; omega
theorem u16_id {a : Int} (h1 : 0 ≤ a) (h2 : a < 65536) : IntKind.u16.wrap a = a := by
  simp [IntKind.wrap, IntKind.bits, IntKind.signed]
  omega
theorem u16_mod (a : Int) : IntKind.u16.wrap a = a % 65536 := by
  simp [IntKind.wrap, IntKind.bits, IntKind.signed]
theorem u16_mask (x : Nat) (hx : x < 65536) : bits .and .u16 (x : Int) 32767 = ((x % 32768 : Nat) : Int) := by
  have h1 : (BitVec.ofInt 16 (x : Int)).toNat = x := by simp [BitVec.toNat_ofInt]; omega
  have h2 : (BitVec.ofInt 16 (32767 : Int)).toNat = 32767 := by decide
  simp only [bits, BitVec.toNat_and]
  rw [show (BitVec.ofInt IntKind.u16.bits (x : Int)).toNat = x from h1, show (BitVec.ofInt IntKind.u16.bits (32767 : Int)).toNat = 32767 from h2]
  rw [show (32767 : Nat) = 2 ^ 15 - 1 from rfl, Nat.and_two_pow_sub_one_eq_mod, show (2 : Nat) ^ 15 = 32768 from rfl]
  exact u16_id (by omega) (by omega)
theorem u16_or (a b : Nat) (ha : a < 256) (hb : b < 256) : bits .or .u16 ((a : Int) * 256) (b : Int) = 256 * (a : Int) + b := by
  have h1 : (BitVec.ofInt 16 ((a : Int) * 256)).toNat = a * 256 := by simp [BitVec.toNat_ofInt]; omega
  have h2 : (BitVec.ofInt 16 (b : Int)).toNat = b := by simp [BitVec.toNat_ofInt]; omega
  simp only [bits, BitVec.toNat_or]
  rw [show (BitVec.ofInt IntKind.u16.bits ((a : Int) * 256)).toNat = a * 256 from h1, show (BitVec.ofInt IntKind.u16.bits (b : Int)).toNat = b from h2]
  have h3 : a * 256 ||| b = a * 256 + b := by
    have := Nat.shiftLeft_add_eq_or_of_lt (i := 8) (b := b) (by omega) a
    rw [Nat.shiftLeft_eq] at this
    exact this.symm
  rw [h3, u16_id (by omega) (by omega)]
  omega
theorem i64_mask (i : Nat) (hi : i ≤ 62) (x : Int) : bits .and .i64 x (2 ^ i - 1) = x % 2 ^ i := by
  have hpos : 0 < 2 ^ i := Nat.two_pow_pos i
  have hc : ((2 : Int) ^ i - 1) = ((2 ^ i - 1 : Nat) : Int) := by
    rw [Int.natCast_sub hpos]; simp
  have hle : 2 ^ i ≤ 4611686018427387904 := Nat.le_trans (Nat.pow_le_pow_right (by decide) hi) (by decide)
  have hdvd : (2 ^ i : Nat) ∣ 2 ^ 64 := Nat.pow_dvd_pow 2 (by omega)
  have hm : (2 ^ i - 1) % 2 ^ 64 = 2 ^ i - 1 := Nat.mod_eq_of_lt (by omega)
  have key : (x % (2 ^ 64 : Nat)).toNat % 2 ^ i = (x % (2 ^ i : Nat)).toNat := by
    have h0 : 0 ≤ x % ((2 ^ 64 : Nat) : Int) := Int.emod_nonneg _ (by decide)
    have h1 : 0 ≤ x % ((2 ^ i : Nat) : Int) := Int.emod_nonneg _ (by omega)
    have h2 : (((x % ((2 ^ 64 : Nat) : Int)).toNat % 2 ^ i : Nat) : Int) = x % ((2 ^ i : Nat) : Int) := by
      rw [Int.natCast_emod, Int.toNat_of_nonneg h0]
      exact Int.emod_emod_of_dvd x (by exact_mod_cast hdvd)
    omega
  have hr : 0 ≤ x % ((2 ^ i : Nat) : Int) := Int.emod_nonneg _ (by omega)
  have hlt : x % ((2 ^ i : Nat) : Int) < ((2 ^ i : Nat) : Int) := Int.emod_lt_of_pos _ (by omega)
  rw [hc]
  have hb : IntKind.i64.bits = 64 := rfl
  simp only [bits, BitVec.toNat_and, BitVec.toNat_ofInt, BitVec.ofInt_natCast, BitVec.toNat_ofNat]
  simp only [hb, hm, Nat.and_two_pow_sub_one_eq_mod]
  rw [key, Int.toNat_of_nonneg hr, IntKind.wrap_i64]
  have e : ((2 ^ i : Nat) : Int) = 2 ^ i := by simp
  rw [← e]
  generalize x % ((2 ^ i : Nat) : Int) = c at *
  generalize 2 ^ i = d at *
  omega
theorem i64_and65535 (x : Int) : bits .and .i64 x 65535 = x % 65536 := i64_mask 16 (by decide) x
theorem i64_and127 (x : Int) : bits .and .i64 x 127 = x % 128 := i64_mask 7 (by decide) x
theorem alive_more (m : Nat) : greenscreenlaw09_alive.f (m + 12) = some true := by
  refine at_rounds greenscreenlaw09_alive.mono (Nat.le_add_left 12 m) ?_
  kernel_rfl
theorem alive_ok {k : Nat} (hk : 12 ≤ k) : greenscreenlaw09_alive.f k = some true := by
  obtain ⟨m, rfl⟩ : ∃ m, k = m + 12 := ⟨k - 12, by omega⟩
  exact alive_more m
theorem byte_of {a : Int} (h : (Lit.int .u8 a).wf = true) : 0 ≤ a ∧ a < 256 := by
  have h1 : IntKind.u8.min = 0 := rfl
  have h2 : IntKind.u8.max = 255 := rfl
  have h3 : IntKind.u8.min ≤ a ∧ a ≤ IntKind.u8.max := by simpa [Lit.wf] using h
  omega
theorem word_of {a : Int} (h : (Lit.int .u16 a).wf = true) : 0 ≤ a ∧ a < 65536 := by
  have h1 : IntKind.u16.min = 0 := rfl
  have h2 : IntKind.u16.max = 65535 := rfl
  have h3 : IntKind.u16.min ≤ a ∧ a ≤ IntKind.u16.max := by simpa [Lit.wf] using h
  omega
theorem int_of {a : Int} (h : (Lit.int .i64 a).wf = true) : -9223372036854775808 ≤ a ∧ a < 9223372036854775808 := by
  have h1 : IntKind.i64.min = -9223372036854775808 := rfl
  have h2 : IntKind.i64.max = 9223372036854775807 := rfl
  have h3 : IntKind.i64.min ≤ a ∧ a ≤ IntKind.i64.max := by simpa [Lit.wf] using h
  omega
end Go.Proofs.Ytnhogaelhggheaa.Plain
