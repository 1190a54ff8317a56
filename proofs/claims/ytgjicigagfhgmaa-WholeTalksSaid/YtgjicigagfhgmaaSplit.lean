/- record.Split: one record. -/
import Derived.Test.YtgjicigagfhgmaaAll
namespace Go.Proofs.Ytgjicigagfhgmaa.H
open Go.RowKit Go.Proofs.YtgjicigagfhgmaaW.PrintWords Go.Proofs.YtgjicigagfhgmaaW.PrintLast
set_option linter.unusedVariables false
set_option linter.unusedSimpArgs false
section
variable {w : World} {g : Nat} {at_ code : Int} {x2 x3 x4 : Value}
theorem Dz.below {W : World} (h : Dz w g at_ code x2 x3 x4) (hb : Below w.heap.size w W) : Dz W g at_ code x2 x3 x4 := blk_below h hb
set_option maxHeartbeats 2000000 in
set_option maxRecDepth 100000 in
theorem open_p (h : Dz w g at_ code x2 x3 x4) : Calls Try.prog 14 #[.pointer (some ⟨g, 0, none⟩)] w fun e' w' => e' = .returned (.bool (at_ != 0)) ∧ Below w.heap.size w w' := by
  have c0 := (blk_cell h 0).trans rfl
  clear h
  go_enter Try.func14, Try.ntmps14
  go_wp2
  go_ret
  exact ⟨rfl, Below.refl _ _⟩
set_option maxHeartbeats 2000000 in
set_option maxRecDepth 100000 in
theorem len_p {B : Nat} {v : Value} {bs : List Int} (h : Mk w g B v bs) : Calls Try.prog 13 #[.pointer (some ⟨g, 0, none⟩)] w fun e' w' => e' = .returned (.int .i64 bs.length) ∧ Below w.heap.size w w' := by
  have hu25 := Try.underlying25
  obtain ⟨A, k, rfl⟩ := own_slice h.o
  have c0 := (blk_cell h.p 0).trans rfl
  clear h
  go_enter Try.func13, Try.ntmps13
  go_wp2
  go_ret
  exact ⟨rfl, Below.refl _ _⟩
theorem last_end {N : Nat} {es : List (Ev × Value)} {P : List Int} (hk : Okv N es) (ht : toks es = P.map Tok.d ++ [Tok.e]) : ∃ fs c o u, es = fs ++ [(⟨2, c, o, []⟩, u)] := by
  rcases List.eq_nil_or_concat es with rfl | ⟨fs, ⟨⟨k, c, o, b⟩, u⟩, rfl⟩
  · simp [toks] at ht
  · rw [List.concat_eq_append] at *
    have h := hk.k (⟨k, c, o, b⟩, u) (by simp)
    simp only at h
    rw [toks_append] at ht
    rcases h with ⟨rfl, hb⟩ | ⟨rfl | rfl, rfl⟩
    · exfalso
      have e1 : toks [((⟨1, c, o, b⟩ : Ev), u)] = b.map Tok.d := by simp [toks, tokE]
      rw [e1] at ht
      have := congrArg List.getLast? ht
      rw [List.getLast?_append, List.getLast?_map] at this
      obtain ⟨x, hx⟩ : ∃ x, b.getLast? = some x := by
        cases h : b.getLast? with
        | none => exact absurd (List.getLast?_eq_none_iff.1 h) hb
        | some x => exact ⟨x, rfl⟩
      rw [hx] at this
      simp at this
    · exact ⟨fs, c, o, u, rfl⟩
    · exfalso
      have e1 : toks [((⟨4, c, o, []⟩ : Ev), u)] = [Tok.v c o] := by simp [toks, tokE]
      rw [e1] at ht
      have := congrArg List.getLast? ht
      simp at this
theorem evs_last {W : World} {base N : Nat} {v : Value} {es : List (Ev × Value)} {P : List Int} (hev : Evs W base v es) (hk : Okv N es) (ht : toks es = P.map Tok.d ++ [Tok.e]) : ∃ R cap m, v = .slice (some ⟨R, 0, none⟩) (m + 1) cap ∧ es.length = m + 1 ∧ W.cell? ⟨R, m * 4, none⟩ = some (.int .i64 2) := by
  obtain ⟨fs, c, o, u, rfl⟩ := last_end hk ht
  obtain ⟨R, cap, rfl⟩ := own_form' hev.o (by rw [List.length_append]; exact Nat.succ_pos _)
  have c4 := (own_cell4 hev.o (fs.length * 4 + 0) _ (eflat_get _ fs.length (⟨2, c, o, []⟩, u) 0 _ (by simp) rfl)).1
  exact ⟨R, cap, fs.length, by rw [List.length_append]; rfl, by rw [List.length_append]; rfl, c4⟩
set_option maxHeartbeats 4000000 in
set_option maxRecDepth 100000 in
theorem split_p (A0 : Option Addr) (c0 : Nat) (bs P : List Int) (c' : Int) (hC : ∀ W, Below w.heap.size w W → Kd.C (Kd.int .u8) W A0 bs.length bs) (hl : bs.length ≤ 192) (hP : P.length ≤ 8000) (hs : drun (0, 0) bs = some ((0, c'), P.map Tok.d ++ [Tok.e])) : Calls Try.prog 22 #[.slice A0 bs.length c0] w fun e' w' => ∃ v', e' = .returned (.tuple #[v', .int .i64 0, .int .i64 0]) ∧ Out w' w.heap.size v' P ∧ Below w.heap.size w w' := by
  have hu43 := Try.underlying43
  have hu35 := Try.underlying35
  have hu25 := Try.underlying25
  have hu62 := Try.underlying62
  have hb1 := below_alloc (Below.refl w.heap.size w) (.cells #[.int .i64 0, .int .u8 0, .int .u8 0, .slice none 0 0, .bool false, .slice none 0 0] 37)
  have HD0 : Dz (w.alloc (.cells #[.int .i64 0, .int .u8 0, .int .u8 0, .slice none 0 0, .bool false, .slice none 0 0] 37)) w.heap.size 0 0 (.int .u8 0) (.slice none 0 0) (.bool false) := blk_new _ _
  have HF := Lib.hid (feed_p (c0 := c0) HD0 (fun W hW => hC W (hb1.trans (hW.under hb1.size (Nat.le_refl _)))) (by omega) hs)
  have HB1 := Lib.hid hb1
  have HL := Lib.hid (And.intro hl hP)
  clear hb1 HD0 hC hs hl hP
  go_enter Try.func22, Try.ntmps22
  go_wp2_with (first
    | (go_at_call 25; (with_reducible refine HF.out.mono ?_); rintro e w1 ⟨v1, es, rfl, hd, hev, ht, hok, hf⟩; obtain ⟨R, cap, m, rfl, hm, c4⟩ := evs_last hev hok ht; have hlm : m ≤ 200 := (by have := hok.l; have := HL.out.1; omega); have HM := Lib.hid hm; clear hm; have HD := Lib.hid hd; have HE := Lib.hid hev; have HT := Lib.hid ht; have HK := Lib.hid hok; have HB2 := Lib.hid (HB1.out.trans (hf.under HB1.out.size (Nat.le_refl _))); clear hd hev ht hok hf)
    | (go_at_call 14; (refine (open_p HD.out).mono ?_); rintro e w2 ⟨rfl, hb⟩; have c5 := pw_cell_below hb c4; have HE2 := Lib.hid (HE.out.below hb); have HB3 := Lib.hid (below_then HB2.out HB2.out.size hb); clear c4 hb)
    | (go_at_call 37; (refine (all_p HE2.out HK.out HL.out.1 HT.out HL.out.2).mono ?_); rintro e w3 ⟨v3, rfl, ho, hb⟩; obtain ⟨uu, ho1, ho2⟩ := ho.o; obtain ⟨A3, k3, rfl⟩ := own_slice ho1; have HO := Lib.hid (Out.mk ⟨uu, own_less ho1 HB3.out.size, own_less ho2 HB3.out.size⟩); have HB4 := Lib.hid (below_then HB3.out HB3.out.size hb); clear ho ho1 ho2 hb))
  go_ret3
  exact ⟨_, rfl, HO.out, HB4.out⟩
end
end Go.Proofs.Ytgjicigagfhgmaa.H
