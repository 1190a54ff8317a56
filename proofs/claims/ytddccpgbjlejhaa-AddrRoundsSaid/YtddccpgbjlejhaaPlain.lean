/- Places and their bytes, the plain part: what the printed functions of layer 02 compute. -/
import Derived.Test.YtddccpgbjlejhaaPx2
import Derived.Test.YtddccpgbjlejhaaPx3
import Derived.Laws.BitsLemmas
namespace Go.Proofs.Ytddccpgbjlejhaa.Plain
open Go.RowKit Go.Proofs.Ytddccpgbjlejhaa.P Go.Proofs.YtddccpgbjlejhaaW.PrintWords Go.Proofs.YtddccpgbjlejhaaW.PrintLast Go.Proofs.YtddccpgbjlejhaaW.PrintMore
set_option linter.unusedSimpArgs false

theorem i64_mask (i : Nat) (hi : i ≤ 62) (x : Int) : bits .and .i64 x (2 ^ i - 1) = x % 2 ^ i := by
  have hpos : 0 < 2 ^ i := Nat.two_pow_pos i
  have hc : ((2 : Int) ^ i - 1) = ((2 ^ i - 1 : Nat) : Int) := by
    rw [Int.natCast_sub hpos]; simp
  have hle : 2 ^ i ≤ 4611686018427387904 := Nat.le_trans (Nat.pow_le_pow_right (by decide) hi) (by decide)
  have hdvd : (2 ^ i : Nat) ∣ 2 ^ 64 := Nat.pow_dvd_pow 2 (by omega)
  have hm : (2 ^ i - 1) % 2 ^ 64 = 2 ^ i - 1 := Nat.mod_eq_of_lt (by omega)
  have key : (x % (2 ^ 64 : Nat)).toNat % 2 ^ i = (x % (2 ^ i : Nat)).toNat := by
    have h0 : 0 ≤ x % ((2 ^ 64 : Nat) : Int) := Int.emod_nonneg _ (by decide)
    have h1 : 0 ≤ x % ((2 ^ i : Nat) : Int) := Int.emod_nonneg _ (by omega)
    have h2 : (((x % ((2 ^ 64 : Nat) : Int)).toNat % 2 ^ i : Nat) : Int) = x % ((2 ^ i : Nat) : Int) := by
      rw [Int.natCast_emod, Int.toNat_of_nonneg h0]
      exact Int.emod_emod_of_dvd x (by exact_mod_cast hdvd)
    omega
  have hr : 0 ≤ x % ((2 ^ i : Nat) : Int) := Int.emod_nonneg _ (by omega)
  have hlt : x % ((2 ^ i : Nat) : Int) < ((2 ^ i : Nat) : Int) := Int.emod_lt_of_pos _ (by omega)
  rw [hc]
  have hb : IntKind.i64.bits = 64 := rfl
  simp only [bits, BitVec.toNat_and, BitVec.toNat_ofInt, BitVec.ofInt_natCast, BitVec.toNat_ofNat]
  simp only [hb, hm, Nat.and_two_pow_sub_one_eq_mod]
  rw [key, Int.toNat_of_nonneg hr, IntKind.wrap_i64]
  have e : ((2 ^ i : Nat) : Int) = 2 ^ i := by simp
  rw [← e]
  generalize x % ((2 ^ i : Nat) : Int) = c at *
  generalize 2 ^ i = d at *
  omega
theorem i64_and63 (x : Int) : bits .and .i64 x 63 = x % 64 := i64_mask 6 (by decide) x
theorem i64_and1023 (x : Int) : bits .and .i64 x 1023 = x % 1024 := i64_mask 10 (by decide) x

theorem i64_and16383 (x : Int) : bits .and .i64 x 16383 = x % 16384 := i64_mask 14 (by decide) x
theorem i64_and4095 (x : Int) : bits .and .i64 x 4095 = x % 4096 := i64_mask 12 (by decide) x

theorem byte_of {a : Int} (h : (Lit.int .u8 a).wf = true) : ∃ n : Fin 256, a = (n.val : Int) := by
  have hb : 0 ≤ a ∧ a < 256 := by
    have h1 : IntKind.u8.min = 0 := rfl
    have h2 : IntKind.u8.max = 255 := rfl
    simp [Lit.wf, h1, h2] at h
    omega
  exact ⟨⟨a.toNat, by omega⟩, by simp; omega⟩
theorem word_of {a : Int} (h : (Lit.int .i64 a).wf = true) : -9223372036854775808 ≤ a ∧ a < 9223372036854775808 := by
  have h1 : IntKind.i64.min = -9223372036854775808 := rfl
  have h2 : IntKind.i64.max = 9223372036854775807 := rfl
  simp [Lit.wf, h1, h2] at h
  omega
theorem wrap_id {a : Int} (h0 : -9223372036854775808 ≤ a) (h1 : a < 9223372036854775808) : wrap64 a = a := by
  have := IntKind.wrap_i64 a
  simp only [wrap64]
  omega

theorem alive_more : ∀ k, greenscreenlaw02_alive.f (k + 6) = some true := by
  intro k
  induction k with
  | zero => decide +kernel
  | succ k ih => exact greenscreenlaw02_alive.mono (k + 6) _ ih
theorem alive_ok {k : Nat} (hk : 6 ≤ k) : greenscreenlaw02_alive.f k = some true := by
  obtain ⟨m, rfl⟩ : ∃ m, k = m + 6 := ⟨k - 6, by omega⟩
  exact alive_more m

def digOk (n : Nat) : Bool := match addr_Digit.f (n : Int) with
  | some d => decide (64 ≤ d ∧ d < 255) && addr_Value.f d == some (n : Int) && greenscreenref02_Digit.f (n : Int) == some d && decide (¬ (Go.bits .andNot .u8 d 63) = 0)
  | none => false
theorem dig_all : ∀ n : Fin 64, digOk n.val = true := by decide +kernel
theorem dig_of (n : Int) (h0 : 0 ≤ n) (h1 : n < 64) : ∃ d, addr_Digit.f n = some d ∧ greenscreenref02_Digit.f n = some d ∧ 64 ≤ d ∧ d < 255 ∧ addr_Value.f d = some n ∧ ¬ (Go.bits .andNot .u8 d 63) = 0 := by
  have h := dig_all ⟨n.toNat, by omega⟩
  have e : ((n.toNat : Nat) : Int) = n := by omega
  simp only [digOk, e] at h
  split at h
  · rename_i d hd
    simp only [Bool.and_eq_true, beq_iff_eq, decide_eq_true_eq] at h
    exact ⟨d, hd, h.1.2, h.1.1.1.1, h.1.1.1.2, h.1.1.2, h.2⟩
  · cases h
theorem dig_mod (a : Int) : addr_Digit.f a = addr_Digit.f (a % 64) := by
  have e : a % 64 % 64 = a % 64 := by omega
  simp only [addr_Digit.f, i64_and63, e]
theorem value_all : ∀ n : Fin 256, addr_Value.f (n.val : Int) = some ((n.val : Int) % 64) := by decide +kernel
theorem low_of {a : Int} (h : (Lit.int .i64 a).wf = true) : greenscreenref02_Low.f a = some (a % 64) := by
  obtain ⟨h0, h1⟩ := word_of h
  simp only [greenscreenref02_Low.f]
  have ht : Int.tmod a 64 = if 0 ≤ a then a % 64 else -((-a) % 64) := by
    split
    · exact Int.tmod_eq_emod_of_nonneg (by assumption)
    · have := Int.neg_tmod (-a) 64
      rw [Int.neg_neg] at this
      rw [this, Int.tmod_eq_emod_of_nonneg (by omega)]
  rw [ht]
  by_cases hp : 0 ≤ a
  · rw [if_pos hp, if_neg (by omega)]
  · rw [if_neg hp]
    by_cases hq : -(-a % 64) < 0
    · rw [if_pos hq, wrap_id (by omega) (by omega)]; congr 1; omega
    · rw [if_neg hq]; congr 1; omega

theorem or_hi : ∀ a : Fin 64, ∀ b : Fin 256, Go.bits .or .i64 (wrap64 ((wrap64 (a.val : Int)) * 256)) (wrap64 (b.val : Int)) = 256 * (a.val : Int) + b.val := by decide +kernel
theorem or_lo : ∀ a b : Fin 64, Go.bits .or .i64 (wrap64 ((a.val : Int) * 64)) (b.val : Int) = 64 * (a.val : Int) + b.val := by decide +kernel
theorem hi_all : ∀ n : Fin 256, ((Go.bits .andNot .u8 (n.val : Int) 63) = 0) = ((n.val : Int) < 64) := by
  intro n
  have : ∀ n : Fin 256, decide ((Go.bits .andNot .u8 (n.val : Int) 63) = 0) = decide ((n.val : Int) < 64) := by decide +kernel
  have := this n
  simpa using this
def place (a b : Int) : Int := if a < 64 then 256 * a + b else 64 * (a % 64) + b % 64
theorem decode_all (a b : Fin 256) : addr_Decode.f (a.val : Int) (b.val : Int) = some (place a.val b.val) := by
  simp only [addr_Decode.f, hi_all, place]
  by_cases h : (a.val : Int) < 64
  · rw [if_pos h, if_pos h]
    have := or_hi ⟨a.val, by omega⟩ b
    simp only at this
    rw [this]
  · rw [if_neg h, if_neg h, value_all, value_all]
    have := or_lo ⟨a.val % 64, by omega⟩ ⟨b.val % 64, by omega⟩
    simp only [Option.bind_some]
    simp only [Int.natCast_emod] at this
    exact congrArg some this
theorem ref_decode (a b : Fin 256) : greenscreenref02_Decode.f (a.val : Int) (b.val : Int) = some (place a.val b.val) := by
  have ha := a.isLt
  have hb := b.isLt
  simp only [greenscreenref02_Decode.f, place]
  rw [Int.tmod_eq_emod_of_nonneg (by omega), Int.tmod_eq_emod_of_nonneg (by omega)]
  rw [wrap_id (a := (a.val : Int)) (by omega) (by omega), wrap_id (a := (b.val : Int)) (by omega) (by omega), wrap_id (a := (a.val : Int) % 64) (by omega) (by omega), wrap_id (a := (b.val : Int) % 64) (by omega) (by omega)]
  rw [wrap_id (a := 256 * (a.val : Int)) (by omega) (by omega), wrap_id (a := 64 * ((a.val : Int) % 64)) (by omega) (by omega), wrap_id (by omega) (by omega), wrap_id (by omega) (by omega)]
  split <;> rfl

/-- What a place is told as: two bytes and the word that says whether it could be told. -/
theorem encode_of {k : Nat} (hk : 1 ≤ k) {at_ cells : Int} (h0 : (Lit.int .i64 at_).wf = true) : ∃ x, addr_Encode.f k at_ cells = some x ∧ greenscreenref02_Encode.f k at_ cells = some x ∧
    (0 ≤ at_ → at_ < cells → 1 ≤ cells → cells ≤ 16384 → x.2.2 = 0 ∧ (∃ a b : Fin 256, x.1 = (a.val : Int) ∧ x.2.1 = (b.val : Int) ∧ place a.val b.val = at_) ∧ (cells ≤ 4096 → 64 ≤ x.1)) := by
  obtain ⟨w0, w1⟩ := word_of h0
  obtain ⟨k, rfl⟩ : ∃ m, k = m + 1 := ⟨k - 1, by omega⟩
  simp only [addr_Encode.f, greenscreenref02_Encode.f]
  by_cases h1 : cells < 1
  · rw [if_pos h1, if_pos h1]; exact ⟨(0, 0, 1), by simp [addr_Encode.j0], by simp [greenscreenref02_Encode.j0], by omega⟩
  rw [if_neg h1, if_neg h1]
  by_cases h2 : cells > 16384
  · rw [if_pos h2, if_pos h2]; exact ⟨(0, 0, 1), by simp [addr_Encode.j0], by simp [greenscreenref02_Encode.j0], by omega⟩
  rw [if_neg h2, if_neg h2]
  by_cases h3 : at_ < 0
  · rw [if_pos h3, if_pos h3]; exact ⟨(0, 0, 1), by simp [addr_Encode.j0], by simp [greenscreenref02_Encode.j0], by omega⟩
  rw [if_neg h3, if_neg h3]
  by_cases h4 : at_ ≥ cells
  · rw [decide_eq_true h4]; exact ⟨(0, 0, 1), by simp [addr_Encode.j0], by simp [greenscreenref02_Encode.j0], by omega⟩
  rw [decide_eq_false h4]
  simp only [addr_Encode.j0, greenscreenref02_Encode.j0, Bool.false_eq_true, if_false]
  have t1 : Int.tdiv at_ 256 = at_ / 256 := Int.tdiv_eq_ediv_of_nonneg (by omega)
  have t2 : Int.tdiv at_ 64 = at_ / 64 := Int.tdiv_eq_ediv_of_nonneg (by omega)
  have t3 : Int.tmod at_ 256 = at_ % 256 := Int.tmod_eq_emod_of_nonneg (by omega)
  have t4 : Int.tmod at_ 64 = at_ % 64 := Int.tmod_eq_emod_of_nonneg (by omega)
  rw [t1, t2, t3, t4, wrap_id (by omega) (by omega), wrap_id (by omega) (by omega)]
  by_cases h5 : cells > 4096
  · rw [if_pos h5, if_pos h5]
    refine ⟨_, rfl, by rw [show at_ % 256 % 256 = at_ % 256 from by omega], ?_⟩
    intro _ _ _ _
    refine ⟨rfl, ⟨⟨(at_ / 256).toNat, by omega⟩, ⟨(at_ % 256).toNat, by omega⟩, by simp; omega, by simp; omega, ?_⟩, by omega⟩
    simp only [place]
    rw [if_pos (by omega)]
    omega
  · rw [if_neg h5, if_neg h5]
    obtain ⟨d, e1, e2, e3, e4, e5, e6⟩ := dig_of (at_ / 64) (by omega) (by omega)
    obtain ⟨d', f1, f2, f3, f4, f5, f6⟩ := dig_of (at_ % 64) (by omega) (by omega)
    rw [e1, e2, dig_mod at_, f1, f2]
    refine ⟨_, rfl, rfl, ?_⟩
    intro _ _ _ _
    have v1 := value_all ⟨d.toNat, by omega⟩
    have v2 := value_all ⟨d'.toNat, by omega⟩
    simp only [show ((d.toNat : Nat) : Int) = d from by omega, show ((d'.toNat : Nat) : Int) = d' from by omega, e5, f5, Option.some.injEq] at v1 v2
    refine ⟨rfl, ⟨⟨d.toNat, by omega⟩, ⟨d'.toNat, by omega⟩, by simp; omega, by simp; omega, ?_⟩, fun _ => e3⟩
    simp only [place]
    rw [if_neg (by omega)]
    omega
end Go.Proofs.Ytddccpgbjlejhaa.Plain
