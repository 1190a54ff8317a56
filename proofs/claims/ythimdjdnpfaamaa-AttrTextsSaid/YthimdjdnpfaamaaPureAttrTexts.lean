/- AttrTexts, the plain part: attributes have the same words just if they are alike but for the bit that says nothing; the last of the pairs of a type counts. -/
import Derived.Test.YthimdjdnpfaamaaGoalAttrTexts
import Derived.Test.YthimdjdnpfaamaaPlain
namespace Go.Proofs.Ythimdjdnpfaamaa.Pure
open Go.RowKit Go.Proofs.Ythimdjdnpfaamaa.P Go.Proofs.YthimdjdnpfaamaaW.PrintWords Go.Proofs.YthimdjdnpfaamaaW.PrintLast Go.Proofs.YthimdjdnpfaamaaW.PrintMore Go.Proofs.YthimdjdnpfaamaaO Go.Proofs.Ythimdjdnpfaamaa.Plain
set_option linter.unusedSimpArgs false

/-- What a fold leaves does not hang on what was there where something was written. -/
def last (l : List S36) : Option Int × Option Int × Option Int := l.foldl (fun s p =>
  if p.f0 = 192 then (some (Go.bits .and .u8 p.f1 63), s.2) else if p.f0 = 65 then (s.1, some p.f1, s.2.2) else if p.f0 = 66 then (s.1, s.2.1, some p.f1) else if p.f0 = 0 then (s.1, some 0, some 0) else s) (none, none, none)
def lay (s : Option Int × Option Int × Option Int) (c : Cell) : Cell := (s.1.getD c.1, c.2.1, c.2.2.1, s.2.1.getD c.2.2.2.1, s.2.2.getD c.2.2.2.2)

theorem fold_lay (l : List S36) : ∀ (s : Option Int × Option Int × Option Int) (c : Cell), dfold (lay s c) l = lay (l.foldl (fun s p =>
  if p.f0 = 192 then (some (Go.bits .and .u8 p.f1 63), s.2) else if p.f0 = 65 then (s.1, some p.f1, s.2.2) else if p.f0 = 66 then (s.1, s.2.1, some p.f1) else if p.f0 = 0 then (s.1, some 0, some 0) else s) s) c := by
  induction l with
  | nil => intro s c; rfl
  | cons p l ih =>
    intro s c
    have e : dfold (lay s c) (p :: l) = dfold (dstep (lay s c) p) l := rfl
    rw [e, List.foldl_cons, ← ih]
    congr 1
    unfold dstep lay
    repeat' split
    all_goals rfl

theorem dfold_last (l : List S36) (c : Cell) : dfold c l = lay (last l) c := fold_lay l (none, none, none) c
theorem dfold_twice (l : List S36) (c : Cell) : dfold (dfold c l) l = dfold c l := by
  rw [dfold_last, dfold_last]
  unfold lay
  cases (last l).1 <;> cases (last l).2.1 <;> cases (last l).2.2 <;> rfl

def txt (n : Nat) : Option (List UInt8) := (attr_Text.f 3 (n : Int)).map (·.toList)
theorem text_mask : ∀ n : Fin 256, txt n.val = txt (n.val &&& 61) ∧ (txt n.val).isSome = true := by decide +kernel
theorem mask_lt (n : Nat) : n &&& 61 < 64 := Nat.lt_of_le_of_lt Nat.and_le_right (by decide)
theorem text_inj : ∀ a b : Fin 64, a.val &&& 61 = a.val → b.val &&& 61 = b.val → txt a.val = txt b.val → a = b := by decide +kernel
theorem xor_mask : ∀ a b : Fin 256, (Go.bits .and .u8 (Go.bits .xor .u8 (a.val : Int) (b.val : Int)) 61 == 0) = (a.val &&& 61 == b.val &&& 61) := by decide +kernel

theorem text_more {k : Nat} (hk : 3 ≤ k) (n : Int) (r : ByteArray) (h : attr_Text.f 3 n = some r) : attr_Text.f k n = some r := by
  obtain ⟨k, rfl⟩ : ∃ m, k = m + 3 := ⟨k - 3, by omega⟩
  clear hk
  induction k with
  | zero => exact h
  | succ k ih => exact attr_Text.mono n (k + 3) _ ih

theorem texts_byte (a b : Fin 256) : ∃ s t, attr_Text.f 3 (a.val : Int) = some s ∧ attr_Text.f 3 (b.val : Int) = some t ∧ (s.toList == t.toList) = (Go.bits .and .u8 (Go.bits .xor .u8 (a.val : Int) (b.val : Int)) 61 == 0) := by
  obtain ⟨ha, hs⟩ := text_mask a
  obtain ⟨hb, ht⟩ := text_mask b
  obtain ⟨s', es'⟩ := Option.isSome_iff_exists.1 hs
  obtain ⟨t', et'⟩ := Option.isSome_iff_exists.1 ht
  obtain ⟨s, es, rfl⟩ := Option.map_eq_some_iff.1 es'
  obtain ⟨t, et, rfl⟩ := Option.map_eq_some_iff.1 et'
  refine ⟨s, t, es, et, ?_⟩
  rw [xor_mask, Bool.eq_iff_iff, beq_iff_eq, beq_iff_eq]
  constructor
  · intro h
    have key := text_inj ⟨a.val &&& 61, mask_lt _⟩ ⟨b.val &&& 61, mask_lt _⟩ (by simp [Nat.and_assoc]) (by simp [Nat.and_assoc]) (by rw [← ha, ← hb, es', et', h])
    exact congrArg Fin.val key
  · intro h
    have : txt a.val = txt b.val := by rw [ha, hb, h]
    rw [es', et'] at this
    exact Option.some.inj this

theorem AttrTexts : Go.Proofs.Ythimdjdnpfaamaa.GAttrTexts.Pure := by
  intro a b y l ha hb hy hl
  obtain ⟨n, rfl⟩ := byte_of ha
  obtain ⟨m, rfl⟩ := byte_of hb
  obtain ⟨s, t, hs, ht, he⟩ := texts_byte n m
  obtain ⟨k, hk⟩ : ∃ k, 200 ≤ k := ⟨200, Nat.le_refl _⟩
  refine ⟨k, ?_⟩
  have A := alive_ok (show 6 ≤ k by omega)
  have S := text_more (show 3 ≤ k by omega) _ _ hs
  have T := text_more (show 3 ≤ k by omega) _ _ ht
  unfold greenscreenlaw11_AttrTexts.f
  rw [A]
  simp only [Option.bind_some, if_true]
  split
  · rfl
  · have D := dress_f l (by omega) k (by omega) (y.f0, y.f1, y.f2, y.f3, y.f4)
    have D2 := dress_f l (by omega) k (by omega) (dfold (y.f0, y.f1, y.f2, y.f3, y.f4) l)
    rw [dfold_twice] at D2
    simp only at D
    rw [D]
    simp only [Option.bind_some]
    rw [S, T]
    simp only [Option.bind_some]
    rw [if_pos (by rw [he]; simp), D2]
    simp
end Go.Proofs.Ythimdjdnpfaamaa.Pure
