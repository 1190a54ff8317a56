/- reply.All, Read, of a plane with fields. -/
import Derived.Test.YtnifkdcjphekpaaFields
namespace Go.Proofs.Ytnifkdcjphekpaa.H
open Go.RowKit Go.Proofs.YtnifkdcjphekpaaW.PrintWords Go.Proofs.YtnifkdcjphekpaaW.PrintLast
set_option linter.unusedVariables false
set_option linter.unusedSimpArgs false
section
variable {w : World} {g c0 : Nat} {A0 : Option Addr} {r c cur : Int} {cs : List A.S34}
def formB (cs : List A.S34) : Bool := decide (0 ≤ lookF cs 0 1 cs.length 0)
set_option maxHeartbeats 1000000 in
theorem formatted_p (hI : IsP w g A0 c0 r c cs cur) : Reads 29 #[.pointer (some ⟨g, 0, none⟩)] w (.bool (formB cs)) := by
  have hn1 := hI.n1
  have HI := Lib.hid hI
  clear hI
  go_enter Try.func29, Try.ntmps29
  go_wp2_with (go_at_call 50; with_reducible refine (look_p HI.out 0 1 (by omega) (by omega) (.inl rfl)).mono ?_; rintro e w1 ⟨rfl, hb⟩; have HB := Lib.hid hb; clear hb)
  go_ret
  exact ⟨rfl, HB.out⟩
theorem fields_p (hI : IsP w g A0 c0 r c cs cur) : Calls Try.prog 30 #[.pointer (some ⟨g, 0, none⟩)] w fun e W' => ∃ v, e = .returned v ∧ W'.ownsRow w.heap.size 5 1 v (fieldsL cs).length (nu (fieldsL cs)) ∧ Below w.heap.size w W' := callsIn_wide.1 (fields_in g c0 A0 r c cur cs w hI)
/-- An attention key, and the cursor's place. -/
def headL (cur aid : Int) : List Int := [aid, dig (cur / 64), dig cur]
theorem fieldsL_le (cs : List A.S34) (h : cs.length ≤ 4096) : (fieldsL cs).length ≤ 33566720 := by
  have h1 := flat_le (fldOut cs) 8195 (fun x => fldOut_le cs x h) (startsTo cs cs.length)
  have h2 := starts_len cs cs.length
  have h4 : (fieldsL cs).length = ((startsTo cs cs.length).flatMap (fldOut cs)).length := rfl
  rw [h4]
  generalize ((startsTo cs cs.length).flatMap (fldOut cs)).length = n at h1 ⊢
  omega
set_option maxHeartbeats 2000000 in
set_option maxRecDepth 100000 in
theorem all_p (hI : IsP w g A0 c0 r c cs cur) (hf : formB cs = true) (hc0 : 0 ≤ cur) (hc1 : cur < cs.length) (aid : Int) : Calls Try.prog 10 #[.pointer (some ⟨g, 0, none⟩), .int .u8 aid] w fun e W' => ∃ v, e = .returned v ∧ W'.ownsRow w.heap.size 5 1 v (headL cur aid ++ fieldsL cs).length (nu (headL cur aid ++ fieldsL cs)) ∧ Below w.heap.size w W' := by
  have hsm := hI.small
  have hfl := fieldsL_le cs hsm
  have HI := Lib.hid hI
  clear hI
  have hb0 := below_alloc (Below.refl w.heap.size w) (.cells #[.int .u8 aid] 5)
  have HB0 := Lib.hid hb0
  have hrow0 : (w.alloc (.cells #[.int .u8 aid] 5)).ownsRow w.heap.size 5 1 (.slice (some ⟨w.heap.size, 0, none⟩) 1 1) [aid].length (nu [aid]) := ⟨rfl, .inr ⟨_, 1, _, rfl, Nat.le_refl _, heap_alloc_new _ _, Nat.le_refl _, by decide, rfl, rfl⟩⟩
  have HR0 := Lib.hid hrow0
  clear hb0 hrow0
  go_enter Try.func10, Try.ntmps10
  go_wp2_with (first | (go_at_call 28; with_reducible refine (cursor_p (HI.out.later HB0.out)).mono ?_; rintro e w1 ⟨rfl, hb1⟩; have HB1 := Lib.hid (below_step HB0.out hb1); have HR1 := Lib.hid (pw_own_below HR0.out hb1); clear hb1) | (go_at_call 27; with_reducible refine (place_p (HI.out.later HB1.out) cur hc0 hc1).mono ?_; rintro e w2 ⟨b2, rfl, hp2, hb2⟩; have HB2 := Lib.hid (below_step HB1.out hb2); have HR2 := Lib.hid (pw_own_below HR1.out hb2); have HP2 := Lib.hid hp2; clear hb2 hp2) | (at_builtin; refine print_append_row (w0 := w) w.heap.size rfl (.tmp 7) (.tmp 11) 35 5 .u8 1 rfl Try.underlying35 hinfo5 (by decide) (.slice (some ⟨w.heap.size, 0, none⟩) 1 1) [aid] [dig (cur / 64), dig cur] (some ⟨b2, 0, none⟩) 2 2 rfl rfl HR2.out (reads_two HP2.out) HB2.out HB2.out.size (by simp) ?_; intro v3 w3 hown3 hb3 hg3 hat3; have HB3 := Lib.hid hb3; have HR3 := Lib.hid (show w3.ownsRow w.heap.size 5 1 v3 (headL cur aid).length (nu (headL cur aid)) from hown3); clear hown3 hb3 hg3 hat3) | (go_at_call 29; with_reducible refine (formatted_p (HI.out.later HB3.out)).mono ?_; rintro e w4 ⟨rfl, hb4⟩; rw [hf]; have HB4 := Lib.hid (below_step HB3.out hb4); have HR4 := Lib.hid (pw_own_below HR3.out hb4); clear hb4) | (go_at_call 30; with_reducible refine (fields_p (HI.out.later HB4.out)).mono ?_; rintro e w5 ⟨v5, rfl, ho5, hb5⟩; obtain ⟨A5, c5, rfl, hc5, hrd5⟩ := own_reads_of_le (enc := Value.int .u8) (d := (0 : Int)) (xs := fieldsL cs) ho5; have HD5 := Lib.hid (readsInt_of.2 hrd5); have HB5 := Lib.hid (below_step HB4.out hb5); have HR5 := Lib.hid (pw_own_below HR4.out hb5); clear hb5 ho5 hrd5) | (at_builtin; refine print_append_row (w0 := w) w.heap.size rfl (.tmp 15) (.tmp 17) 35 5 .u8 1 rfl Try.underlying35 hinfo5 (by decide) v3 (headL cur aid) (fieldsL cs) A5 (fieldsL cs).length c5 rfl rfl HR5.out HD5.out HB5.out HB5.out.size (by simp only [headL, List.length_cons, List.length_nil]; omega) ?_; intro v6 w6 hown6 hb6 hg6 hat6; have HB6 := Lib.hid hb6; have HR6 := Lib.hid hown6; clear hown6 hb6 hg6 hat6) | go_in)
  go_ret
  exact ⟨_, rfl, HR6.out, HB6.out⟩
end
end Go.Proofs.Ytnifkdcjphekpaa.H
