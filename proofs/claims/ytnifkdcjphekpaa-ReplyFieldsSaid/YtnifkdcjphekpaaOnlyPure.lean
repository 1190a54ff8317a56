/- What the replies of one field alone are: plain lists. -/
import Derived.Test.YtnifkdcjphekpaaOnly
import Derived.Test.YtnifkdcjphekpaaLook
import Derived.Test.YtnifkdcjphekpaaAx
namespace Go.Proofs.Ytnifkdcjphekpaa.H
open Go.RowKit Go.Proofs.YtnifkdcjphekpaaW.PrintWords Go.Proofs.YtnifkdcjphekpaaW.PrintLast
set_option linter.unusedVariables false
set_option linter.unusedSimpArgs false
/-- What is sent of a field that is modified. -/
def partF (cs : List A.S34) (x : Int) : List Int := [17, dig ((x + 1) % cs.length / 64), dig ((x + 1) % cs.length)] ++ (placesTo cs x (fldMany cs (fldLen cs x))).flatMap (cellOut cs)
def bitB (cs : List A.S34) (x : Int) : Bool := Go.bits .and .u8 (A.rd_T34 cs x).f0 1 == 1
theorem rd_set (l : List A.S34) (x : A.S34) (i q : Int) (h0 : 0 ≤ i) (h1 : i < l.length) (q0 : 0 ≤ q) : A.rd_T34 (l.set i.toNat x) q = if q = i then x else A.rd_T34 l q := by
  unfold A.rd_T34
  rw [List.getD_eq_getElem?_getD, List.getElem?_set]
  by_cases h : q = i
  · subst h
    rw [if_pos rfl, if_pos rfl, if_pos (by omega)]
    rfl
  · rw [if_neg (by omega), if_neg h, List.getD_eq_getElem?_getD]
theorem rd_mem_take {ys : List Int} {k : Nat} (hk : k < ys.length) : ys.take (k + 1) = ys.take k ++ [rd ys (k : Int)] := by
  rw [List.take_add_one]
  simp [rd, List.getD, List.getElem?_eq_getElem hk]
/-- The cells when the first k places are turned. -/
theorem mods_rd (cs : List A.S34) (ys : List Int) (one : Int) (hs : ys.Pairwise (· < ·)) (hin : ∀ y ∈ ys, 0 ≤ y ∧ y < cs.length) : ∀ k : Nat, k ≤ ys.length → ∀ q : Int, 0 ≤ q → A.rd_T34 (modsTo cs ys one k) q = if q ∈ ys.take k then mod1 one q (A.rd_T34 cs q) else A.rd_T34 cs q
  | 0, _, q, _ => by simp [modsTo]
  | k + 1, hk, q, hq => by
    have ht := rd_mem_take (ys := ys) (k := k) (by omega)
    have hm : rd ys (k : Int) ∈ ys := by
      have : rd ys (k : Int) ∈ ys.take (k + 1) := by rw [ht]; simp
      exact List.mem_of_mem_take this
    obtain ⟨i0, i1⟩ := hin _ hm
    have hnot : rd ys (k : Int) ∉ ys.take k := by
      intro h
      have hp : (ys.take (k + 1)).Pairwise (· < ·) := hs.sublist (List.take_sublist _ _)
      rw [ht, List.pairwise_append] at hp
      have := hp.2.2 _ h _ (List.mem_singleton.2 rfl)
      omega
    rw [modsTo, rd_set _ _ _ _ i0 (by rw [modsTo_length]; exact i1) hq, ht]
    have ih := mods_rd cs ys one hs hin k (by omega)
    by_cases h : q = rd ys (k : Int)
    · subst h
      rw [if_pos rfl, if_pos (by simp), ih _ i0, if_neg hnot]
    · rw [if_neg h, ih q hq]
      have e : (q ∈ ys.take k ++ [rd ys (k : Int)]) ↔ q ∈ ys.take k := by simp [h]
      by_cases h2 : q ∈ ys.take k
      · rw [if_pos h2, if_pos (e.2 h2)]
      · rw [if_neg h2, if_neg (fun h3 => h2 (e.1 h3))]
section
variable {cs : List A.S34} {ys : List Int} (hys : startsTo cs cs.length = ys) (one : Int)
include hys
theorem mods_all (q : Int) (hq : 0 ≤ q) : A.rd_T34 (modsTo cs ys one ys.length) q = if q ∈ ys then mod1 one q (A.rd_T34 cs q) else A.rd_T34 cs q := by
  have h := mods_rd cs ys one (by rw [← hys]; exact starts_sorted _ _) (fun y hy => by rw [← hys] at hy; obtain ⟨h1, h2, _⟩ := starts_mem.1 hy; exact ⟨h1, h2⟩) ys.length (Nat.le_refl _) q hq
  rw [List.take_length] at h
  exact h
theorem mods_f2 (q : Int) (hq : 0 ≤ q) : (A.rd_T34 (modsTo cs ys one ys.length) q).f2 = (A.rd_T34 cs q).f2 := by
  rw [mods_all hys one q hq]
  split <;> rfl
theorem mods_off (q : Int) (hq : 0 ≤ q) (hf : (A.rd_T34 cs q).f2 = false) : A.rd_T34 (modsTo cs ys one ys.length) q = A.rd_T34 cs q := by
  rw [mods_all hys one q hq, if_neg]
  intro h
  rw [← hys] at h
  have := (starts_mem.1 h).2.2
  rw [hf] at this
  cases this
theorem mods_starts : startsTo (modsTo cs ys one ys.length) cs.length = ys := by
  rw [← hys]
  have hl := modsTo_length cs ys one ys.length
  rw [hys]
  exact (starts_congr (cs := modsTo cs ys one ys.length) (ds := cs) (by omega) (fun q h0 h1 => mods_f2 hys one q h0)).trans hys
theorem mods_mod (x : Int) (hx : x ∈ ys) : modB (fldAttr (modsTo cs ys one ys.length) x) = decide (x = one) := by
  have h0 : 0 ≤ x := by rw [← hys] at hx; exact (starts_mem.1 hx).1
  unfold fldAttr
  rw [mods_all hys one x h0, if_pos hx]
  unfold mod1
  by_cases h : x = one
  · rw [if_pos h, decide_eq_true h]
    exact mod_or _
  · rw [if_neg h, decide_eq_false h]
    exact mod_not _
theorem mods_part (x : Int) (hx : x ∈ ys) : partF (modsTo cs ys one ys.length) x = partF cs x := by
  have hx' := hx
  rw [← hys] at hx'
  obtain ⟨h0, h1, hf⟩ := starts_mem.1 hx'
  have hl := modsTo_length cs ys one ys.length
  obtain ⟨j, hj, _, hno, ha, hlen, hmany⟩ := gap_spec cs x h0 h1 hf
  have hlen' : fldLen (modsTo cs ys one ys.length) x = fldLen cs x := by
    unfold fldLen afterF
    rw [hl, look_congr hl (fun q q0 q1 => mods_f2 hys one q q0) (by omega)]
  have hmany' : fldMany (modsTo cs ys one ys.length) (fldLen cs x) = fldMany cs (fldLen cs x) := by
    unfold fldMany
    rw [hl]
  have hpl : placesTo (modsTo cs ys one ys.length) x j = placesTo cs x j := by
    unfold placesTo
    rw [hl]
  unfold partF
  rw [hlen', hmany', hmany, hpl, hl]
  congr 1
  apply flatMap_same
  intro q hq
  unfold placesTo at hq
  obtain ⟨i, hi, rfl⟩ := List.mem_map.1 hq
  have hi := List.mem_range.1 hi
  have hq0 := Int.emod_nonneg (x + ((i : Int) + 1)) (show (cs.length : Int) ≠ 0 by omega)
  unfold cellOut
  rw [mods_off hys one _ hq0 (by rw [show x + ((i : Int) + 1) = x + 1 + i by omega]; exact hno i hi)]
theorem mods_out (x : Int) (hx : x ∈ ys) : fldOut (modsTo cs ys one ys.length) x = if x = one then partF cs x else [] := by
  have h := mods_mod hys one x hx
  have hp := mods_part hys one x hx
  have e : fldOut (modsTo cs ys one ys.length) x = if modB (fldAttr (modsTo cs ys one ys.length) x) = true then partF (modsTo cs ys one ys.length) x else [] := rfl
  rw [e, h, hp]
  by_cases hxo : x = one
  · rw [if_pos hxo, if_pos (decide_eq_true hxo)]
  · rw [if_neg hxo, if_neg (by rw [decide_eq_false hxo]; decide)]
theorem mods_read (hn : ys.length ≠ 0) (p : Int) : readL (modsTo cs ys one ys.length) p 125 = headL p 125 ++ ys.flatMap (fun x => if x = one then partF cs x else []) := by
  have hl := modsTo_length cs ys one ys.length
  have hc : 1 ≤ cs.length := by
    have := starts_len cs cs.length
    rw [hys] at this
    omega
  have hs : A.keyboard_Short.f 125 = some false := by decide +kernel
  unfold readL
  rw [if_neg (by rw [hs]; decide)]
  unfold allL
  rw [form_starts _ (by omega), hl, mods_starts hys one, if_pos (decide_eq_true hn)]
  unfold fieldsL
  rw [hl, mods_starts hys one]
  congr 1
  apply flatMap_same
  intro x hx
  exact mods_out hys one x hx
end
theorem flatMap_none (ys : List Int) (f : Int → List Int) (one : Int) (h : one ∉ ys) : ys.flatMap (fun x => if x = one then f x else []) = [] := by
  rw [List.flatMap_eq_nil_iff]
  intro x hx
  rw [if_neg]
  rintro rfl
  exact h hx
theorem flatMap_one : ∀ (ys : List Int) (f : Int → List Int) (one : Int), ys.Pairwise (· < ·) → one ∈ ys → ys.flatMap (fun x => if x = one then f x else []) = f one
  | y :: ys, f, one, hp, hm => by
    rw [List.pairwise_cons] at hp
    rw [List.flatMap_cons]
    by_cases h : y = one
    · subst h
      rw [if_pos rfl, flatMap_none ys f y (fun h => by have := hp.1 _ h; omega), List.append_nil]
    · rw [if_neg h, List.nil_append]
      exact flatMap_one ys f one hp.2 (by
        rcases List.mem_cons.1 hm with h' | h'
        · exact absurd h'.symm h
        · exact h')
theorem only_none {cs : List A.S34} {ys : List Int} (hys : startsTo cs cs.length = ys) (hn : ys.length ≠ 0) (p : Int) : readL (modsTo cs ys (-1) ys.length) p 125 = headL p 125 := by
  rw [mods_read hys (-1) hn p, flatMap_none, List.append_nil]
  intro h
  rw [← hys] at h
  have := (starts_mem.1 h).1
  omega
theorem only_one {cs : List A.S34} {ys : List Int} (hys : startsTo cs cs.length = ys) (hn : ys.length ≠ 0) (p : Int) (k : Nat) (hk : k < ys.length) : readL (modsTo cs ys (rd ys (k : Int)) ys.length) p 125 = headL p 125 ++ partF cs (rd ys (k : Int)) := by
  rw [mods_read hys _ hn p, flatMap_one _ _ _ (by rw [← hys]; exact starts_sorted _ _)]
  have : rd ys (k : Int) ∈ ys.take (k + 1) := by rw [rd_mem_take hk]; simp
  exact List.mem_of_mem_take this
theorem read_all {cs : List A.S34} {ys : List Int} (hys : startsTo cs cs.length = ys) (hn : ys.length ≠ 0) (p : Int) : readL cs p 125 = headL p 125 ++ ys.flatMap (fldOut cs) := by
  have hc : 1 ≤ cs.length := by
    have := starts_len cs cs.length
    rw [hys] at this
    omega
  have hs : A.keyboard_Short.f 125 = some false := by decide +kernel
  unfold readL
  rw [if_neg (by rw [hs]; decide)]
  unfold allL
  rw [form_starts _ hc, hys, if_pos (decide_eq_true hn)]
  unfold fieldsL
  rw [hys]
theorem fldOut_if (cs : List A.S34) (x : Int) : fldOut cs x = if bitB cs x = true then partF cs x else [] := by
  have e : fldOut cs x = if modB (fldAttr cs x) = true then partF cs x else [] := rfl
  have h : modB (fldAttr cs x) = bitB cs x := mod_bit _
  rw [e, h]
theorem partF_le (cs : List A.S34) (x : Int) (h : cs.length ≤ 4096) : (partF cs x).length ≤ 10000 := by
  have h1 := flat_le (cellOut cs) 2 (fun q => cellOut_le cs q) (placesTo cs x (fldMany cs (fldLen cs x)))
  have h2 := placesTo_len cs x (fldMany cs (fldLen cs x))
  have h3 := fldMany_le cs (fldLen cs x)
  unfold partF
  simp only [List.length_append, List.length_cons, List.length_nil]
  omega
theorem starts_in {cs : List A.S34} {ys : List Int} (hys : startsTo cs cs.length = ys) (k : Nat) (hk : k < ys.length) : 0 ≤ rd ys (k : Int) ∧ rd ys (k : Int) < cs.length ∧ (A.rd_T34 cs (rd ys (k : Int))).f2 = true := by
  have hm : rd ys (k : Int) ∈ ys := by
    unfold rd
    simp only [Int.toNat_natCast, List.getD_eq_getElem?_getD, List.getElem?_eq_getElem hk, Option.getD_some]
    exact List.getElem_mem hk
  rw [← hys] at hm
  rw [← hys]
  generalize rd (startsTo cs cs.length) (k : Int) = x at hm
  obtain ⟨h1, h2⟩ := List.mem_filter.1 hm
  obtain ⟨i, hi, rfl⟩ := List.mem_map.1 h1
  have := List.mem_range.1 hi
  exact ⟨by omega, by omega, h2⟩
theorem C_ints {w : World} {A : Option Addr} {n : Nat} {xs : List Int} (h : ReadsInt w .u8 A n xs) : Kd.C (Kd.int .u8) w A n xs := Kd.C_of_reads (enc := Value.int .u8) (d := 0) (h1 := fun _ => rfl) (readsInt_of.1 h)
theorem same_loop (l : List Int) (hl : l.length < 9223372036854775807) : ∀ (m k i : Nat), i + m = l.length → m < k → A.greenscreenref01_Same.l0 k l l (i : Int) = some true := by
  intro m
  induction m with
  | zero =>
    intro k i hi hk
    obtain ⟨k, rfl⟩ : ∃ j, k = j + 1 := ⟨k - 1, by omega⟩
    rw [A.greenscreenref01_Same.l0, if_neg (by omega)]
  | succ m ih =>
    intro k i hi hk
    obtain ⟨k, rfl⟩ : ∃ j, k = j + 1 := ⟨k - 1, by omega⟩
    rw [A.greenscreenref01_Same.l0, if_pos (by omega), if_pos (by omega), if_pos (by omega), if_pos rfl, wrap_of (by omega) (by omega)]
    exact ih k (i + 1) (by omega) (by omega)
theorem same_self (l : List Int) (hl : l.length < 9223372036854775807) {k : Nat} (hk : l.length < k) : A.greenscreenref01_Same.f k l l = some true := by
  rw [A.greenscreenref01_Same.f, if_pos rfl]
  exact same_loop l hl l.length k 0 (by omega) hk
end Go.Proofs.Ytnifkdcjphekpaa.H
