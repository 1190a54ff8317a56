/- soundLine. -/
import Derived.Test.YtgjicigagfhgmaaSplit
import Derived.Test.YtgjicigagfhgmaaBx1
namespace Go.Proofs.Ytgjicigagfhgmaa.H
open Go.RowKit Go.Proofs.YtgjicigagfhgmaaW.PrintWords Go.Proofs.YtgjicigagfhgmaaW.PrintLast
set_option linter.unusedVariables false
set_option linter.unusedSimpArgs false
theorem Out.below {w W : World} {B0 : Nat} {v : Value} {P : List Int} (h : Out w B0 v P) (hb : Below w.heap.size w W) : Out W B0 v P := by
  obtain ⟨u, h1, h2⟩ := h.o
  exact ⟨u, pw_own_below h1 hb, pw_own_below h2 hb⟩
theorem rec2 : A.iac_Record.f 10 [255, 1] = some [255, 255, 1, 255, 239] := by kernel_rfl
theorem head1 : A.header_Write.f 0 0 0 7 [1] = some [0, 0, 0, 0, 7, 1] := by kernel_rfl
theorem parse1 : B.header_Parse.f [0, 0, 0, 0, 7, 1] = some (0, 0, 0, 7, [1], 0) := by kernel_rfl
theorem run2 : drun (0, 0) [255, 255, 1, 255, 239] = some ((0, 0), [255, 1].map Tok.d ++ [Tok.e]) := rfl
theorem got2 : gotB (newOps [0, 24, 25, 40] [0, 25]) 253 25 = [255, 251, 25] := rfl
section
variable {w : World}
set_option maxHeartbeats 4000000 in
set_option maxRecDepth 100000 in
theorem sound_p (w : World) : Calls Try.prog 5 #[] w fun e' w' => e' = .returned (.bool true) ∧ Below w.heap.size w w' := by
  have hu25 := Try.underlying25
  have hu62 := Try.underlying62
  have hb0 := below_alloc (Below.refl w.heap.size w) (.cells #[.int .u8 255, .int .u8 1] 5)
  have HR := Lib.hid (A.iac_Record.calls 10 _ 2 [255, 1] _ _ (lit_C w #[.int .u8 255, .int .u8 1] [255, 1] rfl (by decide)) (Nat.le_refl _) rec2)
  have HB0 := Lib.hid hb0
  clear hb0
  go_enter Try.func5, Try.ntmps5
  go_upto_region 7 with (first
    | (go_at_call 7; (refine HR.out.mono ?_); rintro e w1 ⟨v1, rfl, hr, hb⟩; obtain ⟨A1, c1, rfl, hc1, hC1⟩ := Kd.R_reads hr; have HC1 := Lib.hid hC1; have HB1 := Lib.hid (below_then HB0.out HB0.out.size hb); clear hb hr hC1)
    | (go_at_call 22; (refine (split_p A1 c1 [255, 255, 1, 255, 239] [255, 1] 0 (fun W hW => Kd.C_below HC1.out hW) (by decide) (by decide) run2).mono ?_); rintro e w2 ⟨v2, rfl, ho, hb⟩; have HO := Lib.hid ho; obtain ⟨uu, ho1, ho2⟩ := ho.o; obtain ⟨A2, c2, rfl⟩ := own_slice ho1; have HB2 := Lib.hid (below_then HB1.out HB1.out.size hb); clear hb ho1 ho2 ho)
    | (go_at_call 15; (refine (tnew_p true).mono ?_); rintro e w3 ⟨gt, g, nm, rfl, ht, hg1, hg2, hb⟩; have HT := Lib.hid ht; have HG := Lib.hid hg1; have HB3 := Lib.hid hb; clear ht hg1 hg2 hb)
    | (go_at_call 23; (refine (talk_p HT.out 253 25 (.slice none 0 0) ⟨_, _, _, rfl⟩ (by decide) (by decide)).mono ?_); rintro e w4 ⟨v4, rfl, hv, ht, hf⟩; have hv' : Kd.R (Kd.int .u8) 5 w4 w3.heap.size (fun _ => True) v4 [255, 251, 25] := hv; clear hv; obtain ⟨A4, c4, rfl, hc4, hC4⟩ := Kd.R_reads hv'; have hb4 := HB3.out.trans (hf.under HB3.out.size HG.out); have HO4 := Lib.hid (HO.out.below hb4); have HB4 := Lib.hid (below_then HB2.out HB2.out.size hb4); have HC4 := Lib.hid hC4; have hb5 := below_alloc (Below.refl w4.heap.size w4) (.cells #[.int .u8 1] 5); have HW := Lib.hid (A.header_Write.calls 0 0 0 7 _ 1 [1] _ _ (lit_C w4 #[.int .u8 1] [1] rfl (by decide)) (Nat.le_refl _) head1); have HB5 := Lib.hid hb5; clear hv' ht hf hC4 hb4 hb5)
    | (go_at_call 8; (refine HW.out.mono ?_); rintro e w5 ⟨v5, rfl, hr, hb⟩; obtain ⟨A5, c5, rfl, hc5, hC5⟩ := Kd.R_reads hr; have HC5 := Lib.hid hC5; have HB6 := Lib.hid (below_then HB5.out HB5.out.size hb); clear hb hr hC5)
    | (go_at_call 11; (refine (B.header_Parse.calls A5 c5 [0, 0, 0, 0, 7, 1] 0 0 0 7 [1] 0 w5 HC5.out hc5 parse1).mono ?_); rintro e w6 ⟨v6, rfl, hr, hb⟩; obtain ⟨A6, c6, rfl, hc6, hC6⟩ := Kd.R_reads hr; have HB7 := Lib.hid (below_then HB6.out HB6.out.size hb); clear hb hr hC6))
  have hb8 := below_then HB7.out HB7.out.size (below_alloc (Below.refl w6.heap.size w6) (.cells #[.int .u8 0, .int .u8 0, .int .u8 0, .int .u16 7] 28))
  have HB9 := Lib.hid (below_then HB4.out HB4.out.size hb8)
  obtain ⟨u8', h1, h2⟩ := (HO4.out.below hb8).o
  have hcs := Kd.C_string (P := Try.prog) (src := 25) (dst := 9) (c := c4) Try.underlying25 Try.underlying5 Try.underlying9 (Kd.C_below HC4.out hb8)
  have hc3 := (blk_cell (blk_new w6 (.cells #[.int .u8 0, .int .u8 0, .int .u8 0, .int .u16 7] 28)) 3).trans rfl
  obtain ⟨Rb, cb, he⟩ := own_form' h1 (by decide)
  obtain ⟨rfl, rfl⟩ : A2 = some ⟨Rb, 0, none⟩ ∧ c2 = cb := by simpa using he
  have hc0 := (own_cell4 h1 0 u8' rfl).1
  have hst := own_string (P := Try.prog) (src := 25) (dst := 9) Try.underlying25 Try.underlying5 Try.underlying9 h2
  obtain ⟨Au, ku, rfl⟩ := own_slice h2
  rw [show strOfNums [255, 1] = ⟨#[255, 1]⟩ from rfl] at hst
  rw [show strOfNums [255, 251, 25] = ⟨#[255, 251, 25]⟩ from rfl] at hcs
  clear h1 h2 he hb8
  generalize w6.alloc (.cells #[.int .u8 0, .int .u8 0, .int .u8 0, .int .u16 7] 28) = W8 at *
  have hst' : (convert 25 9 (.slice Au 2 ku)).run Try.prog W8 = .ok (.string ⟨#[255, 1]⟩) W8 := hst
  have hcs' : (convert 25 9 (.slice A4 3 c4)).run Try.prog W8 = .ok (.string ⟨#[255, 251, 25]⟩) W8 := hcs
  clear hst hcs
  go_wp2
  go_ret
  exact ⟨rfl, HB9.out⟩
end
end Go.Proofs.Ytgjicigagfhgmaa.H
