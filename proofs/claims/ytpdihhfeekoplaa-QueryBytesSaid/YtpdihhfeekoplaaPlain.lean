/- What query's functions compute, in plain Lean: writing, cutting, parsing. -/
import Derived.Test.YtpdihhfeekoplaaParseF
import Derived.Laws.BitsLemmas
set_option linter.unusedVariables false
set_option linter.unusedSimpArgs false
namespace Go.Proofs.Ytpdihhfeekoplaa.Plain
open Go.RowKit Go.Proofs.YtpdihhfeekoplaaW.PrintWords Go.Proofs.YtpdihhfeekoplaaW.PrintLast Go.Proofs.YtpdihhfeekoplaaW.PrintMore
open Go.Proofs.Ytpdihhfeekoplaa.A Go.Proofs.Ytpdihhfeekoplaa.P

def okB (x : Int) : Prop := 0 ≤ x ∧ x < 256

theorem wrap_id {a : Int} (h1 : -9223372036854775808 ≤ a) (h2 : a < 9223372036854775808) : wrap64 a = a := by unfold wrap64; omega
theorem i64_or (a b : Nat) (ha : a < 256) (hb : b < 256) : bits .or .i64 ((a : Int) * 256) (b : Int) = (a : Int) * 256 + b := by
  have h1 : (BitVec.ofInt 64 ((a : Int) * 256)).toNat = a * 256 := by
    rw [BitVec.toNat_ofInt, show ((a : Int) * 256) = ((a * 256 : Nat) : Int) from by omega]
    omega
  have h2 : (BitVec.ofInt 64 (b : Int)).toNat = b := by
    rw [BitVec.toNat_ofInt]
    omega
  simp only [bits, BitVec.toNat_or]
  rw [show (BitVec.ofInt IntKind.i64.bits ((a : Int) * 256)).toNat = a * 256 from h1, show (BitVec.ofInt IntKind.i64.bits (b : Int)).toNat = b from h2]
  have h3 : a * 256 ||| b = a * 256 + b := by
    have := Nat.shiftLeft_add_eq_or_of_lt (i := 8) (b := b) (by omega) a
    rw [Nat.shiftLeft_eq] at this
    exact this.symm
  rw [h3, IntKind.wrap_i64]
  have e : (((a * 256 + b : Nat) : Int)) = (a : Int) * 256 + b := by omega
  rw [e]
  omega
theorem or_bytes {a b : Int} (ha : okB a) (hb : okB b) : Go.bits .or .i64 (wrap64 ((wrap64 a) * 256)) (wrap64 b) = a * 256 + b := by
  obtain ⟨a1, a2⟩ := ha
  obtain ⟨b1, b2⟩ := hb
  rw [wrap_id (a := a) (by omega) (by omega), wrap_id (a := b) (by omega) (by omega), wrap_id (by omega) (by omega)]
  obtain ⟨x, rfl⟩ := Int.eq_ofNat_of_zero_le a1
  obtain ⟨y, rfl⟩ := Int.eq_ofNat_of_zero_le b1
  exact i64_or x y (by omega) (by omega)

/-! ### Sizes -/
def okS (r c : Int) : Prop := (1 ≤ r ∧ r ≤ 43) ∧ (1 ≤ c ∧ c ≤ 132) ∧ r * c ≤ 4096
theorem cells_wrap {r c : Int} (hr : 1 ≤ r ∧ r ≤ 43) (hc : 1 ≤ c ∧ c ≤ 132) : 1 ≤ r * c ∧ r * c ≤ 5676 ∧ wrap64 (r * c) = r * c := by
  have h1 : 1 * 1 ≤ r * c := Int.mul_le_mul hr.1 hc.1 (by decide) (by omega)
  have h2 : r * c ≤ 43 * 132 := Int.mul_le_mul hr.2 hc.2 (by omega) (by decide)
  exact ⟨by omega, by omega, wrap_id (by omega) (by omega)⟩
theorem cells_pos {r c : Int} (h : okS r c) : addr_Cells.f r c = some (r * c) ∧ 1 ≤ r * c := by
  obtain ⟨hr, hc, hm⟩ := h
  obtain ⟨h1, h2, h3⟩ := cells_wrap hr hc
  unfold addr_Cells.f
  rw [if_neg (by omega), if_neg (by omega), if_neg (by omega), if_neg (by omega), h3, if_neg (show ¬ r * c > 4096 by omega)]
  exact ⟨rfl, h1⟩
theorem cells_zero {r c : Int} (h : ¬ okS r c) : addr_Cells.f r c = some 0 := by
  unfold addr_Cells.f
  split
  · rfl
  split
  · rfl
  split
  · rfl
  split
  · rfl
  split
  · rfl
  · rename_i h1 h2 h3 h4 h5
    exfalso
    apply h
    obtain ⟨_, _, e⟩ := cells_wrap (r := r) (c := c) ⟨by omega, by omega⟩ ⟨by omega, by omega⟩
    rw [e] at h5
    exact ⟨⟨by omega, by omega⟩, ⟨by omega, by omega⟩, by omega⟩

/-! ### Writing -/
def wordL (n : Int) : List Int := [(n / 256) % 256, n % 256]
def sizeL (r c : Int) : List Int := wordL c ++ wordL r
def listL (l : List Int) : List Int := ((l.length : Int) % 256) :: l
def greatL (t : Ter) : List Int := if t.2.2.1 * t.2.2.2.1 > t.1 * t.2.1 then sizeL t.2.2.1 t.2.2.2.1 else sizeL t.1 t.2.1
def fld (k : Int) (b : List Int) : List Int := wordL ((b.length : Int) + 4) ++ [129, k] ++ b
def K5 : List Int := [128, 129, 134, 135, 166]
def bodyL (t : Ter) (k : Int) : List Int := if k = 128 then K5 else if k = 129 then greatL t else if k = 134 then listL t.2.2.2.2.1 else if k = 135 then listL t.2.2.2.2.2 else sizeL t.1 t.2.1 ++ sizeL t.2.2.1 t.2.2.2.1
def flds (t : Ter) : List Int → List Int
  | [] => []
  | k :: ks => fld k (bodyL t k) ++ flds t ks
def writeL (t : Ter) : List Int := 136 :: flds t K5
def okT (t : Ter) : Prop := okS t.1 t.2.1 ∧ okS t.2.2.1 t.2.2.2.1
def few (t : Ter) : Prop := t.2.2.2.2.1.length ≤ 64 ∧ t.2.2.2.2.2.length ≤ 64

theorem size_f (r c : Int) : query_size.f r c = some (sizeL r c) := by
  simp [query_size.f, query_word.f, sizeL, wordL]
theorem list_f (l : List Int) (h : l.length ≤ 64) : query_list.f l = some (listL l) := by
  simp only [query_list.f, Option.bind_some]
  rw [if_pos (by simp; omega)]
  rfl
theorem great_f (t : Ter) (h : okT t) : query_Terminal_greater.f t.1 t.2.1 t.2.2.1 t.2.2.2.1 t.2.2.2.2.1 t.2.2.2.2.2 = some (if t.2.2.1 * t.2.2.2.1 > t.1 * t.2.1 then (t.2.2.1, t.2.2.2.1) else (t.1, t.2.1)) := by
  simp only [query_Terminal_greater.f, (cells_pos h.1).1, (cells_pos h.2).1, Option.bind_some]
  split <;> rfl
theorem body_f (t : Ter) (h : okT t) (hf : few t) (k : Int) : query_Terminal_body.f t.1 t.2.1 t.2.2.1 t.2.2.2.1 t.2.2.2.2.1 t.2.2.2.2.2 k = some (bodyL t k) := by
  unfold query_Terminal_body.f bodyL
  split
  · rfl
  split
  · rw [great_f t h, Option.bind_some, size_f, Option.bind_some]
    unfold greatL
    split <;> rfl
  split
  · rw [list_f _ hf.1]; rfl
  split
  · rw [list_f _ hf.2]; rfl
  · rw [size_f, Option.bind_some, size_f, Option.bind_some, if_pos (by simp [sizeL, wordL])]
theorem great_len (t : Ter) : (greatL t).length = 4 := by unfold greatL; split <;> rfl
theorem body_len (t : Ter) (hf : few t) (k : Int) : (bodyL t k).length ≤ 65 := by
  unfold bodyL
  have := great_len t
  have := hf.1
  have := hf.2
  split
  · simp [K5]
  split
  · omega
  split
  · simp [listL]; omega
  split
  · simp [listL]; omega
  · simp [sizeL, wordL]
theorem fld_len (k : Int) (b : List Int) : (fld k b).length = b.length + 4 := by simp [fld, wordL]
theorem flds_len (t : Ter) (hf : few t) : ∀ ks : List Int, (flds t ks).length ≤ 69 * ks.length
  | [] => by simp [flds]
  | k :: ks => by
    have := flds_len t hf ks
    have := body_len t hf k
    simp only [flds, List.length_append, fld_len, List.length_cons]
    omega
theorem room_lt {α : Type} {a : Nat} (h : a ≤ 3000) (x y : α) : (if a < 140737488355328 then x else y) = x := if_pos (Nat.lt_of_le_of_lt h (by decide))
theorem l0_step (t : Ter) (h : okT t) (hf : few t) (out : List Int) (ho : out.length ≤ 1000) (k : Nat) (i : Nat) (hi : i < 5) :
    query_Write.l0 (k + 1) out K5 5 (i : Int) t.1 t.2.1 t.2.2.1 t.2.2.2.1 t.2.2.2.2.1 t.2.2.2.2.2 = query_Write.l0 k (out ++ fld (rd K5 (i : Int)) (bodyL t (rd K5 (i : Int)))) K5 5 ((i + 1 : Nat) : Int) t.1 t.2.1 t.2.2.1 t.2.2.2.1 t.2.2.2.2.1 t.2.2.2.2.2 := by
  have hb := body_len t hf (rd K5 (i : Int))
  rw [query_Write.l0, if_pos (by omega), if_pos (by omega), if_pos (show (i : Int) < (K5.length : Int) by simp [K5]; omega), body_f t h hf, Option.bind_some]
  rw [wrap_id (by omega) (by omega), wrap_id (by omega) (by omega)]
  simp only [query_word.f, Option.bind_some]
  rw [room_lt (by simp; omega), room_lt (by simp; omega), room_lt (by simp; omega), show ((i + 1 : Nat) : Int) = (i : Int) + 1 from by omega]
  simp only [fld, wordL, List.append_assoc]
theorem l0_end (t : Ter) (out : List Int) (k : Nat) : query_Write.l0 (k + 1) out K5 5 ((5 : Nat) : Int) t.1 t.2.1 t.2.2.1 t.2.2.2.1 t.2.2.2.2.1 t.2.2.2.2.2 = some (out, 0) := by
  rw [query_Write.l0, if_neg (by omega)]
theorem l0_all (t : Ter) (h : okT t) (hf : few t) : ∀ (j i : Nat) (hij : i + j = 5) (out : List Int) (ho : out.length + 69 * j ≤ 1000) (k : Nat),
    query_Write.l0 (k + j + 1) out K5 5 (i : Int) t.1 t.2.1 t.2.2.1 t.2.2.2.1 t.2.2.2.2.1 t.2.2.2.2.2 = some (out ++ flds t (K5.drop i), 0)
  | 0, i, hij, out, ho, k => by
    obtain rfl : i = 5 := by omega
    rw [show k + 0 + 1 = k + 1 from rfl, l0_end]
    simp [K5, flds]
  | j + 1, i, hij, out, ho, k => by
    have hb := body_len t hf (rd K5 (i : Int))
    rw [show k + (j + 1) + 1 = (k + j + 1) + 1 from rfl, l0_step t h hf out (by omega) _ i (by omega)]
    rw [l0_all t h hf j (i + 1) (by omega) _ (by rw [List.length_append, fld_len]; omega) k]
    have : K5.drop i = rd K5 (i : Int) :: K5.drop (i + 1) := by
      rw [List.drop_eq_getElem_cons (show i < K5.length by simp [K5]; omega)]
      simp [rd, List.getD, List.getElem?_eq_getElem (show i < K5.length by simp [K5]; omega)]
    rw [this, flds, List.append_assoc]
theorem write_ok (t : Ter) (h : okT t) (hf : few t) (k : Nat) : query_Write.f (k + 9) t.1 t.2.1 t.2.2.1 t.2.2.2.1 t.2.2.2.2.1 t.2.2.2.2.2 = some (writeL t, 0) := by
  obtain ⟨e1, n1⟩ := cells_pos h.1
  obtain ⟨e2, n2⟩ := cells_pos h.2
  unfold query_Write.f
  rw [e1, Option.bind_some, if_neg (by omega), e2, Option.bind_some, show ((t.2.2.1 * t.2.2.2.1 == 0) = false) from beq_eq_false_iff_ne.mpr (by omega)]
  have hf1 : ¬ ((t.2.2.2.2.1.length : Int) > 64) := by have := hf.1; omega
  have hf2 : ¬ ((t.2.2.2.2.2.length : Int) > 64) := by have := hf.2; omega
  have hl := l0_all t h hf 5 0 rfl [136] (by decide) (k + 2)
  rw [query_Write.j0, if_neg Bool.false_ne_true, if_neg hf1, if_neg hf2, show query_kinds.f = some K5 from rfl, Option.bind_some, show (K5.length : Int) = 5 from rfl]
  rw [show k + 2 + 5 + 1 = k + 8 from rfl, show ((0 : Nat) : Int) = 0 from rfl] at hl
  rw [hl]
  rfl
theorem write_arg (t : Ter) (h : ¬ okT t) (k : Nat) : query_Write.f (k + 9) t.1 t.2.1 t.2.2.1 t.2.2.2.1 t.2.2.2.2.1 t.2.2.2.2.2 = some ([], 1) := by
  unfold query_Write.f
  by_cases h1 : okS t.1 t.2.1
  · obtain ⟨e1, n1⟩ := cells_pos h1
    have h2 : ¬ okS t.2.2.1 t.2.2.2.1 := fun h2 => h ⟨h1, h2⟩
    rw [e1, Option.bind_some, if_neg (by omega), cells_zero h2]
    rfl
  · rw [cells_zero h1]
    rfl
theorem write_many (t : Ter) (h : okT t) (hf : ¬ few t) (k : Nat) : query_Write.f (k + 9) t.1 t.2.1 t.2.2.1 t.2.2.2.1 t.2.2.2.2.1 t.2.2.2.2.2 = some ([], 3) := by
  obtain ⟨e1, n1⟩ := cells_pos h.1
  obtain ⟨e2, n2⟩ := cells_pos h.2
  unfold query_Write.f
  rw [e1, Option.bind_some, if_neg (by omega), e2, Option.bind_some, show ((t.2.2.1 * t.2.2.2.1 == 0) = false) from beq_eq_false_iff_ne.mpr (by omega)]
  rw [query_Write.j0, if_neg (by decide)]
  by_cases h3 : (t.2.2.2.2.1.length : Int) > 64
  · rw [if_pos h3]
  · rw [if_neg h3, if_pos (by unfold few at hf; omega)]
end Go.Proofs.Ytpdihhfeekoplaa.Plain
