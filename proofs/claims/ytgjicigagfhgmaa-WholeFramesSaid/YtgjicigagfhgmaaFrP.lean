/- What is sent, and what it says. -/
/- WholeFrames: events behind one another. -/
import Derived.Test.YtgjicigagfhgmaaOps
namespace Go.Proofs.Ytgjicigagfhgmaa.H
open Go.RowKit Go.Proofs.YtgjicigagfhgmaaW.PrintWords Go.Proofs.YtgjicigagfhgmaaW.PrintLast
set_option linter.unusedVariables false
set_option linter.unusedSimpArgs false
def vb (v : Int) : Int := 251 + v % 4
def esc : List Int → List Int
  | [] => []
  | x :: xs => if x = 255 then 255 :: 255 :: esc xs else x :: esc xs
def hdr (x : A.S28) : List Int := [x.f0 % 9, x.f1, x.f2, x.f3 / 256 % 256, x.f3 % 256]
def pbytes (p : A.S30) : List Int := if p.f2 ≠ 0 then [255, vb p.f2, p.f3] else esc (hdr p.f0 ++ p.f1) ++ [255, 239]
def ptoks (p : A.S30) : List Tok := if p.f2 ≠ 0 then [.v (vb p.f2) p.f3] else (hdr p.f0 ++ p.f1).map .d ++ [.e]
theorem esc_len : ∀ xs : List Int, (esc xs).length ≤ 2 * xs.length
  | [] => Nat.le_refl _
  | x :: xs => by
    have := esc_len xs
    unfold esc
    split
    · simp only [List.length_cons]; omega
    · simp only [List.length_cons]; omega
theorem pbytes_len (p : A.S30) (h : p.f1.length ≤ 300) : (pbytes p).length ≤ 700 := by
  unfold pbytes
  split
  · simp
  · have := esc_len (hdr p.f0 ++ p.f1)
    rw [List.length_append] at this ⊢
    simp only [hdr, List.length_cons, List.length_nil] at *
    omega
theorem drun_cons2 (s : Int × Int) (c : Int) (bs : List Int) {s1 s2 : Int × Int} {t1 t2 : List Tok} (h1 : dstep s c = some (s1, t1)) (h2 : drun s1 bs = some (s2, t2)) : drun s (c :: bs) = some (s2, t1 ++ t2) := by
  simp [drun, h1, h2]
theorem drun_esc : ∀ (xs : List Int) (c : Int), drun (0, c) (esc xs) = some ((0, c), xs.map Tok.d)
  | [], c => rfl
  | x :: xs, c => by
    have ih := drun_esc xs c
    unfold esc
    by_cases h : x = 255
    · subst h
      rw [if_pos rfl]
      have e1 : dstep (0, c) 255 = some ((1, c), []) := rfl
      have e2 : dstep (1, c) 255 = some ((0, c), [.d 255]) := rfl
      exact drun_cons2 _ _ _ e1 (drun_cons2 _ _ _ e2 ih)
    · rw [if_neg h]
      have e1 : dstep (0, c) x = some ((0, c), [.d x]) := by simp [dstep, h]
      exact drun_cons2 _ _ _ e1 ih
theorem drun_part (p : A.S30) (c : Int) : ∃ c', drun (0, c) (pbytes p) = some ((0, c'), ptoks p) := by
  unfold pbytes ptoks
  by_cases h : p.f2 ≠ 0
  · rw [if_pos h, if_pos h]
    have hv : 251 ≤ vb p.f2 ∧ vb p.f2 ≤ 254 := by unfold vb; omega
    have e1 : dstep (0, c) 255 = some ((1, c), []) := rfl
    have e2 : dstep (1, c) (vb p.f2) = some ((2, vb p.f2), []) := by
      have : vb p.f2 ≠ 255 := by omega
      simp [dstep, this, hv]
    have e3 : dstep (2, vb p.f2) p.f3 = some ((0, vb p.f2), [.v (vb p.f2) p.f3]) := rfl
    exact ⟨vb p.f2, drun_cons2 _ _ _ e1 (drun_cons2 _ _ _ e2 (drun_cons2 _ _ _ e3 rfl))⟩
  · rw [if_neg h, if_neg h]
    exact ⟨c, drun_append _ _ _ _ _ _ _ (drun_esc _ c) rfl⟩
theorem drun_parts : ∀ (ps : List A.S30) (c : Int), ∃ c', drun (0, c) (ps.flatMap pbytes) = some ((0, c'), ps.flatMap ptoks)
  | [], c => ⟨c, rfl⟩
  | p :: ps, c => by
    obtain ⟨c1, h1⟩ := drun_part p c
    obtain ⟨c2, h2⟩ := drun_parts ps c1
    rw [List.flatMap_cons, List.flatMap_cons]
    exact ⟨c2, drun_append _ _ _ _ _ _ _ h1 h2⟩
theorem escape_l : ∀ (k : Nat) (acc l : List Int) (i : Nat), l.length - i + 1 ≤ k → i ≤ l.length → l.length ≤ 1000 → acc.length ≤ 2 * i → A.iac_Escape.l0 k acc l (l.length : Int) (i : Int) = some (acc ++ esc (l.drop i))
  | 0, acc, l, i, h, _, _, _ => by omega
  | k + 1, acc, l, i, h, hi, hl, ha => by
    unfold A.iac_Escape.l0
    by_cases hlt : i < l.length
    · rw [if_pos (by omega), if_pos (by omega), if_pos (by omega), if_pos (by omega), Option.bind_some]
      have hr : rd l (i : Int) = l[i] := rd_get l i hlt
      have hw : wrap64 ((i : Int) + 1) = ((i + 1 : Nat) : Int) := by unfold wrap64; omega
      have hd : l.drop i = l[i] :: l.drop (i + 1) := List.drop_eq_getElem_cons hlt
      rw [hr, hw, hd]
      unfold esc
      by_cases h255 : l[i] = 255
      · rw [if_pos h255, if_pos h255, if_pos (by rw [List.length_append]; simp; omega)]
        rw [escape_l k _ l (i + 1) (by omega) (by omega) hl (by simp; omega)]
        simp [h255]
      · rw [if_neg h255, if_neg h255]
        rw [escape_l k _ l (i + 1) (by omega) (by omega) hl (by simp; omega)]
        simp
    · obtain rfl : i = l.length := by omega
      rw [if_neg (by omega), List.drop_length]
      simp [esc]
theorem record_f (l : List Int) (hl : l.length ≤ 1000) : A.iac_Record.f 1002 l = some (esc l ++ [255, 239]) := by
  unfold A.iac_Record.f A.iac_Escape.f
  have := escape_l 1002 [] l 0 (by omega) (by omega) hl (Nat.zero_le _)
  rw [Int.natCast_zero, List.drop_zero, List.nil_append] at this
  rw [this, Option.bind_some, Option.bind_some, if_pos]
  have := esc_len l
  simp only [List.length_cons, List.length_nil]
  omega
theorem write_f (x : A.S28) (l : List Int) (hl : l.length ≤ 1000) : A.header_Write.f (x.f0 % 9) x.f1 x.f2 x.f3 l = some (hdr x ++ l) := by
  unfold A.header_Write.f
  rw [Option.bind_some, if_pos]
  · rfl
  · simp only [List.length_cons, List.length_nil]; omega
theorem cutT : ∀ (bs cs : List Int) (t t2 : Tok) (us vs : List Tok), (∀ c, t ≠ .d c) → (∀ c, t2 ≠ .d c) → bs.map Tok.d ++ (t :: us) = cs.map Tok.d ++ (t2 :: vs) → bs = cs ∧ t = t2 ∧ us = vs
  | [], [], t, t2, us, vs, _, _, h => by simpa using h
  | [], c :: cs, t, t2, us, vs, h1, _, h => by
    simp only [List.map_nil, List.nil_append, List.map_cons, List.cons_append, List.cons.injEq] at h
    exact absurd h.1 (h1 c)
  | b :: bs, [], t, t2, us, vs, _, h2, h => by
    simp only [List.map_nil, List.nil_append, List.map_cons, List.cons_append, List.cons.injEq] at h
    exact absurd h.1.symm (h2 b)
  | b :: bs, c :: cs, t, t2, us, vs, h1, h2, h => by
    simp only [List.map_cons, List.cons_append, List.cons.injEq, Tok.d.injEq] at h
    obtain ⟨rfl, e2, e3⟩ := cutT bs cs t t2 us vs h1 h2 h.2
    exact ⟨by rw [h.1], e2, e3⟩
def pd (p : A.S30) : List Int := if p.f2 ≠ 0 then [] else hdr p.f0 ++ p.f1
def pt (p : A.S30) : Tok := if p.f2 ≠ 0 then .v (vb p.f2) p.f3 else .e
theorem ptoks_eq (p : A.S30) : ptoks p = (pd p).map Tok.d ++ [pt p] := by
  unfold ptoks pd pt
  by_cases h : p.f2 ≠ 0
  · rw [if_pos h, if_pos h, if_pos h]; rfl
  · rw [if_neg h, if_neg h, if_neg h]
theorem pt_d (p : A.S30) (c : Int) : pt p ≠ .d c := by
  unfold pt
  split <;> simp
/-- A word that isn't data ends a part. -/
theorem cut_part {parts : List A.S30} {i : Nat} {bs : List Int} {t : Tok} {us : List Tok} (ht : ∀ c, t ≠ .d c) (h : bs.map Tok.d ++ (t :: us) = (parts.drop i).flatMap ptoks) : ∃ hi : i < parts.length, bs = pd parts[i] ∧ t = pt parts[i] ∧ us = (parts.drop (i + 1)).flatMap ptoks := by
  by_cases hi : i < parts.length
  · refine ⟨hi, ?_⟩
    rw [List.drop_eq_getElem_cons hi, List.flatMap_cons, ptoks_eq, List.append_assoc] at h
    exact cutT _ _ _ _ _ _ ht (pt_d _) h
  · rw [List.drop_eq_nil_of_le (by omega)] at h
    simp at h
theorem cut_end {parts : List A.S30} {i : Nat} {bs : List Int} (hi : i ≤ parts.length) (h : bs.map Tok.d = (parts.drop i).flatMap ptoks) : i = parts.length ∧ bs = [] := by
  by_cases hlt : i < parts.length
  · exfalso
    rw [List.drop_eq_getElem_cons hlt, List.flatMap_cons, ptoks_eq] at h
    have hm : pt parts[i] ∈ bs.map Tok.d := by rw [h]; simp
    obtain ⟨c, _, hc⟩ := List.mem_map.1 hm
    exact pt_d _ c hc.symm
  · obtain rfl : i = parts.length := by omega
    rw [List.drop_length] at h
    exact ⟨rfl, by simpa using h⟩
theorem or_u16 (s : Int) (h0 : 0 ≤ s) (h1 : s < 65536) : Go.bits .or .u16 (IntKind.u16.wrap ((IntKind.u16.wrap (s / 256 % 256)) * 256)) (IntKind.u16.wrap (s % 256)) = s := by
  obtain ⟨n, rfl⟩ := Int.eq_ofNat_of_zero_le h0
  have hn : n < 65536 := by omega
  have key : (n / 256 * 256) ||| (n % 256) = n := by
    have := Nat.shiftLeft_add_eq_or_of_lt (b := n % 256) (a := n / 256) (i := 8) (by omega)
    rw [Nat.shiftLeft_eq] at this
    have e : (2 : Nat) ^ 8 = 256 := rfl
    rw [e] at this
    omega
  have e1 : IntKind.u16.wrap ((IntKind.u16.wrap ((n : Int) / 256 % 256)) * 256) = ((n / 256 * 256 : Nat) : Int) := by
    simp only [IntKind.wrap_u16]
    omega
  have e2 : IntKind.u16.wrap ((n : Int) % 256) = ((n % 256 : Nat) : Int) := by
    simp only [IntKind.wrap_u16]
    omega
  rw [e1, e2]
  have hb : IntKind.u16.bits = 16 := rfl
  simp only [bits, BitVec.toNat_or, BitVec.ofInt_natCast, BitVec.toNat_ofNat]
  simp only [hb]
  rw [Nat.mod_eq_of_lt (by omega), Nat.mod_eq_of_lt (by omega), key, IntKind.wrap_u16]
  omega
theorem parse_f (x : A.S28) (b : List Int) (hb : b.length ≤ 300) (h0 : 0 ≤ x.f0) (h3 : 0 ≤ x.f3) (h4 : x.f3 < 65536) : B.header_Parse.f (hdr x ++ b) = some (x.f0 % 9, x.f1, x.f2, x.f3, b, 0) := by
  unfold B.header_Parse.f B.slices_Clone_byte_byte.f
  have hl : (hdr x ++ b).length = b.length + 5 := by simp [hdr]
  have r0 : rd (hdr x ++ b) 0 = x.f0 % 9 := rfl
  have r1 : rd (hdr x ++ b) 1 = x.f1 := rfl
  have r2 : rd (hdr x ++ b) 2 = x.f2 := rfl
  have r3 : rd (hdr x ++ b) 3 = x.f3 / 256 % 256 := rfl
  have r4 : rd (hdr x ++ b) 4 = x.f3 % 256 := rfl
  have hd : (hdr x ++ b).drop 5 = b := rfl
  rw [hl, if_neg (by omega), if_pos (by omega), r0, if_neg (by omega), if_pos (by omega), if_pos (by omega), if_pos (by omega), if_pos (by omega), if_pos (by omega), hd, if_pos (by omega), Option.bind_some, r1, r2, r3, r4, or_u16 _ h3 h4]
end Go.Proofs.Ytgjicigagfhgmaa.H

namespace Go.Proofs.Ytgjicigagfhgmaa.H
open Go.RowKit Go.Proofs.YtgjicigagfhgmaaW.PrintWords Go.Proofs.YtgjicigagfhgmaaW.PrintLast
set_option linter.unusedVariables false
set_option linter.unusedSimpArgs false
theorem cutLen : ∀ (bs cs : List Int) (t : Tok) (us vs : List Tok), (∀ c, t ≠ .d c) → bs.map Tok.d ++ us = cs.map Tok.d ++ (t :: vs) → bs.length ≤ cs.length
  | [], cs, t, us, vs, _, _ => Nat.zero_le _
  | b :: bs, [], t, us, vs, h1, h => by
    simp only [List.map_nil, List.nil_append, List.map_cons, List.cons_append, List.cons.injEq] at h
    exact absurd h.1.symm (h1 b)
  | b :: bs, c :: cs, t, us, vs, h1, h => by
    simp only [List.map_cons, List.cons_append, List.cons.injEq, Tok.d.injEq] at h
    have := cutLen bs cs t us vs h1 h.2
    simp only [List.length_cons]
    omega
theorem pd_len (p : A.S30) (h : p.f1.length ≤ 300) : (pd p).length ≤ 305 := by
  unfold pd
  split
  · simp
  · rw [List.length_append]; simp [hdr]; omega
theorem cut_len {parts : List A.S30} {i : Nat} {bs : List Int} {us : List Tok} (hl : ∀ p ∈ parts, p.f1.length ≤ 300) (h : bs.map Tok.d ++ us = (parts.drop i).flatMap ptoks) : bs.length ≤ 305 := by
  by_cases hi : i < parts.length
  · rw [List.drop_eq_getElem_cons hi, List.flatMap_cons, ptoks_eq, List.append_assoc] at h
    have := cutLen _ _ _ _ _ (pt_d parts[i]) h
    have := pd_len parts[i] (hl _ (List.getElem_mem hi))
    omega
  · rw [List.drop_eq_nil_of_le (by omega)] at h
    have : bs = [] := by
      have := (List.append_eq_nil_iff.1 h).1
      simpa using this
    subst this
    exact Nat.zero_le _
/-- What the bytes that were fed left. -/
structure FO (w wf : World) (gm g base : Nat) (parts : List A.S30) (vE : Value) (es : List (Ev × Value)) (c' : Int) : Prop where
  ev : ∀ W, Fd wf W gm wf.heap.size → Evs W base vE es
  d : ∀ W, Fd wf W gm wf.heap.size → Dz W g 0 c' (.int .u8 0) (.slice none 0 0) (.bool false)
  w : ∀ W, Fd wf W gm wf.heap.size → Below w.heap.size w W
  m : Mk wf gm wf.heap.size (.slice none 0 0) []
  t : toks es = parts.flatMap ptoks
  k : Okv 14000 es
  l : ∀ p ∈ parts, p.f1.length ≤ 300
  n : parts.length ≤ 20
/-- Where the second loop stands. -/
structure EI (wf wr : World) (gm : Nat) (parts : List A.S30) (es : List (Ev × Value)) (i k : Nat) (v : Value) (bs : List Int) : Prop where
  m : Mk wr gm wf.heap.size v bs
  f : Fd wf wr gm wf.heap.size
  t : bs.map Tok.d ++ toks (es.drop k) = (parts.drop i).flatMap ptoks
theorem FO.start {w wf : World} {gm g base : Nat} {parts : List A.S30} {vE : Value} {es : List (Ev × Value)} {c' : Int} (h : FO w wf gm g base parts vE es c') : EI wf wf gm parts es 0 0 (.slice none 0 0) [] := ⟨h.m, Fd.refl _ _ _, by simpa using h.t⟩
theorem EI.alloc {wf wr : World} {gm : Nat} {parts : List A.S30} {es : List (Ev × Value)} {i k : Nat} {v : Value} {bs : List Int} (h : EI wf wr gm parts es i k v bs) {W : World} (hb : Below wr.heap.size wr W) : EI wf W gm parts es i k v bs := ⟨h.m.below hb, h.f.trans (Fd.of_below ⟨hb.os, hb.tape, hb.output, hb.size, fun i hi => hb.block i (Nat.lt_of_lt_of_le hi h.m.b)⟩), h.t⟩
section
variable {wf wr : World} {gm : Nat} {parts : List A.S30} {es : List (Ev × Value)} {i k : Nat} {v : Value} {bs : List Int}
theorem EI.data {eb : List Int} {c o : Int} {Au : Option Addr} {ku : Nat} (h : EI wf wr gm parts es i k v bs) (hl : ∀ p ∈ parts, p.f1.length ≤ 300) (hur : ReadsInt wr .u8 Au eb.length eb) (hcap : eb.length ≤ ku) (htk : toks (es.drop k) = tokE ⟨1, c, o, eb⟩ ++ toks (es.drop (k + 1))) : Calls Try.prog 10 #[.pointer (some ⟨gm, 0, none⟩), .agg #[.int .i64 1, .int .u8 c, .int .u8 o, .slice Au eb.length ku]] wr fun e' w' => e' = .returned (.tuple #[.slice none 0 0, .bool false, .int .i64 0]) ∧ (∃ v'', EI wf w' gm parts es i (k + 1) v'' (bs ++ eb)) ∧ Kp wr w' gm v.ownBlock := by
  have ht := h.t
  rw [htk] at ht
  have ht2 : (bs ++ eb).map Tok.d ++ toks (es.drop (k + 1)) = (parts.drop i).flatMap ptoks := by simpa [tokE] using ht
  have hlen := cut_len hl ht2
  rw [List.length_append] at hlen
  refine (take_data h.m hur hcap (by omega) c o).mono ?_
  rintro e' w' ⟨v'', rfl, hm, hf, hkp⟩
  exact ⟨rfl, ⟨v'', hm, h.f.trans hf, ht2⟩, hkp⟩
theorem EI.fin {u : Value} {c o : Int} (h : EI wf wr gm parts es i k v bs) (hu : ∃ A n m, u = .slice A n m) (htk : toks (es.drop k) = tokE ⟨2, c, o, []⟩ ++ toks (es.drop (k + 1))) : ∃ hi : i < parts.length, parts[i].f2 = 0 ∧ Calls Try.prog 10 #[.pointer (some ⟨gm, 0, none⟩), .agg #[.int .i64 2, .int .u8 c, .int .u8 o, u]] wr fun e' w' => ∃ A k2, (hdr parts[i].f0 ++ parts[i].f1).length ≤ k2 ∧ e' = .returned (.tuple #[.slice A (hdr parts[i].f0 ++ parts[i].f1).length k2, .bool true, .int .i64 0]) ∧ Kd.C (Kd.int .u8) w' A (hdr parts[i].f0 ++ parts[i].f1).length (hdr parts[i].f0 ++ parts[i].f1) ∧ EI wf w' gm parts es (i + 1) (k + 1) (.slice none 0 0) [] ∧ Kp wr w' gm none := by
  have ht := h.t
  rw [htk] at ht
  have ht2 : bs.map Tok.d ++ (Tok.e :: toks (es.drop (k + 1))) = (parts.drop i).flatMap ptoks := by simpa [tokE] using ht
  obtain ⟨hi, e1, e2, e3⟩ := cut_part (by simp) ht2
  have hz : parts[i].f2 = 0 := by
    by_cases hz : parts[i].f2 = 0
    · exact hz
    · simp [pt, hz] at e2
  have e1' : bs = hdr parts[i].f0 ++ parts[i].f1 := by rw [e1]; simp [pd, hz]
  refine ⟨hi, hz, (take_end h.m c o u hu).mono ?_⟩
  rintro e' w' ⟨rfl, hm, ho, hf, hkp⟩
  rw [e1'] at ho
  obtain ⟨A, k2, rfl, hr⟩ := own_reads ho
  exact ⟨A, k2, own_cap ho, rfl, Kd.C_of_reads (d := (0 : Int)) (h1 := fun _ => rfl) (readsInt_of.1 hr), ⟨hm, h.f.trans hf, by simpa using e3⟩, hkp⟩
theorem EI.verb {u : Value} {c o : Int} (h : EI wf wr gm parts es i k v bs) (hu : ∃ A n m, u = .slice A n m) (htk : toks (es.drop k) = tokE ⟨4, c, o, []⟩ ++ toks (es.drop (k + 1))) : ∃ hi : i < parts.length, parts[i].f2 ≠ 0 ∧ c = vb parts[i].f2 ∧ o = parts[i].f3 ∧ Calls Try.prog 10 #[.pointer (some ⟨gm, 0, none⟩), .agg #[.int .i64 4, .int .u8 c, .int .u8 o, u]] wr fun e' w' => e' = .returned (.tuple #[.slice none 0 0, .bool false, .int .i64 0]) ∧ EI wf w' gm parts es (i + 1) (k + 1) v [] ∧ Kp wr w' gm none := by
  have ht := h.t
  rw [htk] at ht
  have ht2 : bs.map Tok.d ++ (Tok.v c o :: toks (es.drop (k + 1))) = (parts.drop i).flatMap ptoks := by simpa [tokE] using ht
  obtain ⟨hi, e1, e2, e3⟩ := cut_part (by simp) ht2
  have hz : parts[i].f2 ≠ 0 := by
    intro hz
    simp [pt, hz] at e2
  have e1' : bs = [] := by rw [e1]; simp [pd, hz]
  subst e1'
  have e2' : c = vb parts[i].f2 ∧ o = parts[i].f3 := by simpa [pt, hz] using e2
  refine ⟨hi, hz, e2'.1, e2'.2, (take_verb wr gm c o u hu).mono ?_⟩
  rintro e' w' ⟨rfl, hb⟩
  exact ⟨rfl, ⟨h.m.below hb, h.f.trans (Fd.of_below ⟨hb.os, hb.tape, hb.output, hb.size, fun i hi => hb.block i (Nat.lt_of_lt_of_le hi h.m.b)⟩), by simpa using e3⟩, Kp.of_below hb _ _⟩
end
end Go.Proofs.Ytgjicigagfhgmaa.H

