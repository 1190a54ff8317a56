/- Attributes and pairs, the plain part: what the printed functions of layer 11 compute, as folds over lists and as facts on all bytes. -/
import Derived.Test.YthimdjdnpfaamaaPx3
import Derived.Laws.BitsLemmas
namespace Go.Proofs.Ythimdjdnpfaamaa.Plain
open Go.RowKit Go.Proofs.Ythimdjdnpfaamaa.P Go.Proofs.YthimdjdnpfaamaaW.PrintWords Go.Proofs.YthimdjdnpfaamaaW.PrintLast Go.Proofs.YthimdjdnpfaamaaW.PrintMore
set_option linter.unusedSimpArgs false

theorem i64_mask (i : Nat) (hi : i ≤ 62) (x : Int) : bits .and .i64 x (2 ^ i - 1) = x % 2 ^ i := by
  have hpos : 0 < 2 ^ i := Nat.two_pow_pos i
  have hc : ((2 : Int) ^ i - 1) = ((2 ^ i - 1 : Nat) : Int) := by
    rw [Int.natCast_sub hpos]; simp
  have hle : 2 ^ i ≤ 4611686018427387904 := Nat.le_trans (Nat.pow_le_pow_right (by decide) hi) (by decide)
  have hdvd : (2 ^ i : Nat) ∣ 2 ^ 64 := Nat.pow_dvd_pow 2 (by omega)
  have hm : (2 ^ i - 1) % 2 ^ 64 = 2 ^ i - 1 := Nat.mod_eq_of_lt (by omega)
  have key : (x % (2 ^ 64 : Nat)).toNat % 2 ^ i = (x % (2 ^ i : Nat)).toNat := by
    have h0 : 0 ≤ x % ((2 ^ 64 : Nat) : Int) := Int.emod_nonneg _ (by decide)
    have h1 : 0 ≤ x % ((2 ^ i : Nat) : Int) := Int.emod_nonneg _ (by omega)
    have h2 : (((x % ((2 ^ 64 : Nat) : Int)).toNat % 2 ^ i : Nat) : Int) = x % ((2 ^ i : Nat) : Int) := by
      rw [Int.natCast_emod, Int.toNat_of_nonneg h0]
      exact Int.emod_emod_of_dvd x (by exact_mod_cast hdvd)
    omega
  have hr : 0 ≤ x % ((2 ^ i : Nat) : Int) := Int.emod_nonneg _ (by omega)
  have hlt : x % ((2 ^ i : Nat) : Int) < ((2 ^ i : Nat) : Int) := Int.emod_lt_of_pos _ (by omega)
  rw [hc]
  have hb : IntKind.i64.bits = 64 := rfl
  simp only [bits, BitVec.toNat_and, BitVec.toNat_ofInt, BitVec.ofInt_natCast, BitVec.toNat_ofNat]
  simp only [hb, hm, Nat.and_two_pow_sub_one_eq_mod]
  rw [key, Int.toNat_of_nonneg hr, IntKind.wrap_i64]
  have e : ((2 ^ i : Nat) : Int) = 2 ^ i := by simp
  rw [← e]
  generalize x % ((2 ^ i : Nat) : Int) = c at *
  generalize 2 ^ i = d at *
  omega
theorem i64_and63 (x : Int) : bits .and .i64 x 63 = x % 64 := i64_mask 6 (by decide) x
theorem i64_and1023 (x : Int) : bits .and .i64 x 1023 = x % 1024 := i64_mask 10 (by decide) x

theorem byte_of {a : Int} (h : (Lit.int .u8 a).wf = true) : ∃ n : Fin 256, a = (n.val : Int) := by
  have hb : 0 ≤ a ∧ a < 256 := by
    have h1 : IntKind.u8.min = 0 := rfl
    have h2 : IntKind.u8.max = 255 := rfl
    simp [Lit.wf, h1, h2] at h
    omega
  exact ⟨⟨a.toNat, by omega⟩, by simp; omega⟩

theorem alive_more : ∀ k, greenscreenlaw11_alive.f (k + 6) = some true := by
  intro k
  induction k with
  | zero => decide +kernel
  | succ k ih => exact greenscreenlaw11_alive.mono (k + 6) _ ih
theorem alive_ok {k : Nat} (hk : 6 ≤ k) : greenscreenlaw11_alive.f k = some true := by
  obtain ⟨m, rfl⟩ : ∃ m, k = m + 6 := ⟨k - 6, by omega⟩
  exact alive_more m

theorem modified_on : ∀ n : Fin 256, attr_Modify.f (n.val : Int) true = some (Go.bits .or .u8 (n.val : Int) 1) := fun _ => rfl

abbrev Cell := Int × Bool × Bool × Int × Int
def dstep (c : Cell) (p : S36) : Cell :=
  if p.f0 = 192 then (Go.bits .and .u8 p.f1 63, c.2) else if p.f0 = 65 then (c.1, c.2.1, c.2.2.1, p.f1, c.2.2.2.2) else if p.f0 = 66 then (c.1, c.2.1, c.2.2.1, c.2.2.2.1, p.f1) else if p.f0 = 0 then (c.1, c.2.1, c.2.2.1, 0, 0) else c
def dfold (c : Cell) (l : List S36) : Cell := l.foldl dstep c

theorem wrap_next {i : Int} {n : Nat} (h0 : 0 ≤ i) (h : i < (n : Int)) (hn : n ≤ 9223372036854775807) : wrap64 (i + 1) = i + 1 := by
  unfold wrap64
  omega

theorem drop_at (l : List S36) (i : Int) (h0 : 0 ≤ i) (h : i < (l.length : Int)) : l.drop i.toNat = rd_T36 l i :: l.drop (i + 1).toNat := by
  have hi : i.toNat < l.length := by omega
  rw [List.drop_eq_getElem_cons hi]
  have : (i + 1).toNat = i.toNat + 1 := by omega
  rw [this]
  congr 1
  simp [rd_T36, List.getD, List.getElem?_eq_getElem hi]

theorem dress_l0 (l : List S36) (hl : l.length ≤ 9223372036854775807) (d : Nat) : ∀ (k : Nat) (i : Int) (c : Cell), 0 ≤ i → i + d = l.length → d < k →
    attr_Dress.l0 k l (l.length : Int) i c.1 c.2.1 c.2.2.1 c.2.2.2.1 c.2.2.2.2 = some (dfold c (l.drop i.toNat)) := by
  induction d with
  | zero =>
    intro k i c h0 hd hk
    obtain ⟨k, rfl⟩ : ∃ m, k = m + 1 := ⟨k - 1, by omega⟩
    simp only [attr_Dress.l0]
    rw [if_neg (by omega), List.drop_of_length_le (by omega)]
    rfl
  | succ d ih =>
    intro k i c h0 hd hk
    obtain ⟨k, rfl⟩ : ∃ m, k = m + 1 := ⟨k - 1, by omega⟩
    have hw := wrap_next h0 (show i < (l.length : Int) by omega) hl
    have hs : dfold c (l.drop i.toNat) = dfold (dstep c (rd_T36 l i)) (l.drop (i + 1).toNat) := by rw [drop_at l i h0 (by omega)]; rfl
    have H := ih k (i + 1) (dstep c (rd_T36 l i)) (by omega) (by omega) (by omega)
    rw [hs, ← H]
    simp only [attr_Dress.l0]
    rw [if_pos (by omega), if_pos h0, if_pos (by omega), hw]
    unfold dstep
    split
    · rfl
    split
    · rfl
    split
    · rfl
    split
    · rfl
    · rfl

theorem dress_f (l : List S36) (hl : l.length ≤ 9223372036854775807) (k : Nat) (hk : l.length < k) (c : Cell) : attr_Dress.f k c.1 c.2.1 c.2.2.1 c.2.2.2.1 c.2.2.2.2 l = some (dfold c l) := by
  have := dress_l0 l hl l.length k 0 c (by omega) (by omega) hk
  simpa [attr_Dress.f] using this

theorem dfold_append (c : Cell) (a b : List S36) : dfold c (a ++ b) = dfold (dfold c a) b := by simp [dfold, List.foldl_append]
theorem dfold_same (l : List S36) : ∀ c : Cell, (dfold c l).2.1 = c.2.1 ∧ (dfold c l).2.2.1 = c.2.2.1 := by
  induction l with
  | nil => intro c; exact ⟨rfl, rfl⟩
  | cons p l ih =>
    intro c
    have h := ih (dstep c p)
    have e : dfold c (p :: l) = dfold (dstep c p) l := rfl
    rw [e, h.1, h.2]
    unfold dstep
    repeat' split
    all_goals exact ⟨rfl, rfl⟩

/-! ### all bytes -/
theorem turns_byte : ∀ n : Fin 256, ∃ m u x, attr_Modify.f (n.val : Int) true = some m ∧ attr_Modify.f (n.val : Int) false = some u ∧ attr_Modified.f m = some true ∧ attr_Modified.f u = some false ∧
    Go.bits .xor .u8 m u = 1 ∧ attr_Protected.f m = attr_Protected.f (n.val : Int) ∧ attr_Numeric.f u = attr_Numeric.f (n.val : Int) ∧ attr_Shown.f m = attr_Shown.f u ∧
    attr_Byte.f (n.val : Int) = some x ∧ attr_Same.f x (n.val : Int) = some true ∧ attr_Same.f m u = some false := by
  intro n
  refine ⟨Go.bits .or .u8 (n.val : Int) 1, Go.bits .andNot .u8 (n.val : Int) 1, ((attr_Byte.f (n.val : Int)).getD 0), rfl, rfl, ?_⟩
  revert n
  decide +kernel
end Go.Proofs.Ythimdjdnpfaamaa.Plain
