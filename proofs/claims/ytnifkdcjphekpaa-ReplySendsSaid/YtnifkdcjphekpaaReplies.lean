/- reply.All, Read, of a plane with fields. -/
/- reply.Buffer, Read, For. -/
/- reply.Read, For. -/
/- reply.whole; reply.All, Read, of any plane. -/
import Derived.Test.YtnifkdcjphekpaaFields
namespace Go.Proofs.Ytnifkdcjphekpaa.H
open Go.RowKit Go.Proofs.YtnifkdcjphekpaaW.PrintWords Go.Proofs.YtnifkdcjphekpaaW.PrintLast
set_option linter.unusedVariables false
set_option linter.unusedSimpArgs false
section
variable {w : World} {g c0 : Nat} {A0 : Option Addr} {r c cur : Int} {cs : List A.S34}
def formB (cs : List A.S34) : Bool := decide (0 ≤ lookF cs 0 1 cs.length 0)
set_option maxHeartbeats 1000000 in
theorem formatted_p (hI : IsP w g A0 c0 r c cs cur) : Reads 29 #[.pointer (some ⟨g, 0, none⟩)] w (.bool (formB cs)) := by
  have hn1 := hI.n1
  have HI := Lib.hid hI
  clear hI
  go_enter Try.func29, Try.ntmps29
  go_wp2_with (go_at_call 50; with_reducible refine (look_p HI.out 0 1 (by omega) (by omega) (.inl rfl)).mono ?_; rintro e w1 ⟨rfl, hb⟩; have HB := Lib.hid hb; clear hb)
  go_ret
  exact ⟨rfl, HB.out⟩
theorem fields_p (hI : IsP w g A0 c0 r c cs cur) : Calls Try.prog 30 #[.pointer (some ⟨g, 0, none⟩)] w fun e W' => ∃ v, e = .returned v ∧ W'.ownsRow w.heap.size 5 1 v (fieldsL cs).length (nu (fieldsL cs)) ∧ Below w.heap.size w W' := callsIn_wide.1 (fields_in g c0 A0 r c cur cs w hI)
/-- An attention key, and the cursor's place. -/
def headL (cur aid : Int) : List Int := [aid, dig (cur / 64), dig cur]
theorem fieldsL_le (cs : List A.S34) (h : cs.length ≤ 4096) : (fieldsL cs).length ≤ 33566720 := by
  have h1 := flat_le (fldOut cs) 8195 (fun x => fldOut_le cs x h) (startsTo cs cs.length)
  have h2 := starts_len cs cs.length
  have h4 : (fieldsL cs).length = ((startsTo cs cs.length).flatMap (fldOut cs)).length := rfl
  rw [h4]
  generalize ((startsTo cs cs.length).flatMap (fldOut cs)).length = n at h1 ⊢
  omega
set_option maxHeartbeats 2000000 in
set_option maxRecDepth 100000 in
theorem all_p (hI : IsP w g A0 c0 r c cs cur) (hf : formB cs = true) (hc0 : 0 ≤ cur) (hc1 : cur < cs.length) (aid : Int) : Calls Try.prog 10 #[.pointer (some ⟨g, 0, none⟩), .int .u8 aid] w fun e W' => ∃ v, e = .returned v ∧ W'.ownsRow w.heap.size 5 1 v (headL cur aid ++ fieldsL cs).length (nu (headL cur aid ++ fieldsL cs)) ∧ Below w.heap.size w W' := by
  have hsm := hI.small
  have hfl := fieldsL_le cs hsm
  have HI := Lib.hid hI
  clear hI
  have hb0 := below_alloc (Below.refl w.heap.size w) (.cells #[.int .u8 aid] 5)
  have HB0 := Lib.hid hb0
  have hrow0 : (w.alloc (.cells #[.int .u8 aid] 5)).ownsRow w.heap.size 5 1 (.slice (some ⟨w.heap.size, 0, none⟩) 1 1) [aid].length (nu [aid]) := ⟨rfl, .inr ⟨_, 1, _, rfl, Nat.le_refl _, heap_alloc_new _ _, Nat.le_refl _, by decide, rfl, rfl⟩⟩
  have HR0 := Lib.hid hrow0
  clear hb0 hrow0
  go_enter Try.func10, Try.ntmps10
  go_wp2_with (first | (go_at_call 28; with_reducible refine (cursor_p (HI.out.later HB0.out)).mono ?_; rintro e w1 ⟨rfl, hb1⟩; have HB1 := Lib.hid (below_step HB0.out hb1); have HR1 := Lib.hid (pw_own_below HR0.out hb1); clear hb1) | (go_at_call 27; with_reducible refine (place_p (HI.out.later HB1.out) cur hc0 hc1).mono ?_; rintro e w2 ⟨b2, rfl, hp2, hb2⟩; have HB2 := Lib.hid (below_step HB1.out hb2); have HR2 := Lib.hid (pw_own_below HR1.out hb2); have HP2 := Lib.hid hp2; clear hb2 hp2) | (at_builtin; refine print_append_row (w0 := w) w.heap.size rfl (.tmp 7) (.tmp 11) 35 5 .u8 1 rfl Try.underlying35 hinfo5 (by decide) (.slice (some ⟨w.heap.size, 0, none⟩) 1 1) [aid] [dig (cur / 64), dig cur] (some ⟨b2, 0, none⟩) 2 2 rfl rfl HR2.out (reads_two HP2.out) HB2.out HB2.out.size (by simp) ?_; intro v3 w3 hown3 hb3 hg3 hat3; have HB3 := Lib.hid hb3; have HR3 := Lib.hid (show w3.ownsRow w.heap.size 5 1 v3 (headL cur aid).length (nu (headL cur aid)) from hown3); clear hown3 hb3 hg3 hat3) | (go_at_call 29; with_reducible refine (formatted_p (HI.out.later HB3.out)).mono ?_; rintro e w4 ⟨rfl, hb4⟩; rw [hf]; have HB4 := Lib.hid (below_step HB3.out hb4); have HR4 := Lib.hid (pw_own_below HR3.out hb4); clear hb4) | (go_at_call 30; with_reducible refine (fields_p (HI.out.later HB4.out)).mono ?_; rintro e w5 ⟨v5, rfl, ho5, hb5⟩; obtain ⟨A5, c5, rfl, hc5, hrd5⟩ := own_reads_of_le (enc := Value.int .u8) (d := (0 : Int)) (xs := fieldsL cs) ho5; have HD5 := Lib.hid (readsInt_of.2 hrd5); have HB5 := Lib.hid (below_step HB4.out hb5); have HR5 := Lib.hid (pw_own_below HR4.out hb5); clear hb5 ho5 hrd5) | (at_builtin; refine print_append_row (w0 := w) w.heap.size rfl (.tmp 15) (.tmp 17) 35 5 .u8 1 rfl Try.underlying35 hinfo5 (by decide) v3 (headL cur aid) (fieldsL cs) A5 (fieldsL cs).length c5 rfl rfl HR5.out HD5.out HB5.out HB5.out.size (by simp only [headL, List.length_cons, List.length_nil]; omega) ?_; intro v6 w6 hown6 hb6 hg6 hat6; have HB6 := Lib.hid hb6; have HR6 := Lib.hid hown6; clear hown6 hb6 hg6 hat6) | go_in)
  go_ret
  exact ⟨_, rfl, HR6.out, HB6.out⟩
end
end Go.Proofs.Ytnifkdcjphekpaa.H

namespace Go.Proofs.Ytnifkdcjphekpaa.H
open Go.RowKit Go.Proofs.YtnifkdcjphekpaaW.PrintWords Go.Proofs.YtnifkdcjphekpaaW.PrintLast
set_option linter.unusedVariables false
set_option linter.unusedSimpArgs false
section
variable {w : World} {g c0 : Nat} {A0 : Option Addr} {r c cur : Int} {cs : List A.S34}
theorem attr_ok (a : Int) : ∃ r, A.attr_Byte.f a = some r := by
  unfold A.attr_Byte.f
  obtain ⟨r, h⟩ := dig_ok (wrap64 a)
  exact ⟨r, by rw [h]; rfl⟩
def attrB (a : Int) : Int := (A.attr_Byte.f a).getD 0
theorem attr_f (a : Int) : A.attr_Byte.f a = some (attrB a) := by
  obtain ⟨r, h⟩ := attr_ok a
  rw [attrB, h]
  rfl
/-- What is sent of a cell, of all cells. -/
def bufOut (cs : List A.S34) (k : Nat) : List Int := if (A.rd_T34 cs (k : Int)).f2 = true then [29, attrB (A.rd_T34 cs (k : Int)).f0] else bytesL (A.rd_T34 cs (k : Int))
def bufTo (cs : List A.S34) (k : Nat) : List Int := (List.range k).flatMap (bufOut cs)
theorem buf_succ (cs : List A.S34) (k : Nat) : bufTo cs (k + 1) = bufTo cs k ++ bufOut cs k := by simp [bufTo, List.range_succ]
theorem bufOut_le (cs : List A.S34) (k : Nat) : (bufOut cs k).length ≤ 2 := by
  unfold bufOut
  split
  · simp
  · exact bytes_le _
theorem buf_le (cs : List A.S34) (k : Nat) : (bufTo cs k).length ≤ k * 2 := by
  have := flat_le (bufOut cs) 2 (bufOut_le cs) (List.range k)
  simpa [bufTo] using this
set_option maxHeartbeats 4000000 in
set_option maxRecDepth 100000 in
theorem buffer_p (hI : IsP w g A0 c0 r c cs cur) (hc0 : 0 ≤ cur) (hc1 : cur < cs.length) (aid : Int) : Calls Try.prog 12 #[.pointer (some ⟨g, 0, none⟩), .int .u8 aid] w fun e W' => ∃ v, e = .returned v ∧ W'.ownsRow w.heap.size 5 1 v (headL cur aid ++ bufTo cs cs.length).length (nu (headL cur aid ++ bufTo cs cs.length)) ∧ Below w.heap.size w W' := by
  have hsm := hI.small
  have HI := Lib.hid hI
  clear hI
  have hb0 := below_alloc (Below.refl w.heap.size w) (.cells #[.int .u8 aid] 5)
  have HB0 := Lib.hid hb0
  have hrow0 : (w.alloc (.cells #[.int .u8 aid] 5)).ownsRow w.heap.size 5 1 (.slice (some ⟨w.heap.size, 0, none⟩) 1 1) [aid].length (nu [aid]) := ⟨rfl, .inr ⟨_, 1, _, rfl, Nat.le_refl _, heap_alloc_new _ _, Nat.le_refl _, by decide, rfl, rfl⟩⟩
  have HR0 := Lib.hid hrow0
  clear hb0 hrow0
  go_enter Try.func12, Try.ntmps12
  go_wp2_with (first |   (go_at_call 28; with_reducible refine (cursor_p (HI.out.later HB0.out)).mono ?_; rintro e w1 ⟨rfl, hb1⟩; have HB1 := Lib.hid (below_step HB0.out hb1); have HR1 := Lib.hid (pw_own_below HR0.out hb1); clear hb1) | (go_at_call 27; with_reducible refine (place_p (HI.out.later HB1.out) cur hc0 hc1).mono ?_; rintro e w2 ⟨b2, rfl, hp2, hb2⟩; have HB2 := Lib.hid (below_step HB1.out hb2); have HR2 := Lib.hid (pw_own_below HR1.out hb2); have HP2 := Lib.hid hp2; clear hb2 hp2) | (at_builtin; refine print_append_row (w0 := w) w.heap.size rfl (.tmp 9) (.tmp 13) 35 5 .u8 1 rfl Try.underlying35 hinfo5 (by decide) (.slice (some ⟨w.heap.size, 0, none⟩) 1 1) [aid] [dig (cur / 64), dig cur] (some ⟨b2, 0, none⟩) 2 2 rfl rfl HR2.out (reads_two HP2.out) HB2.out HB2.out.size (by simp) ?_; intro v3 w3 hown3 hb3 hg3 hat3; have HB3 := Lib.hid hb3; have HR3 := Lib.hid (show w3.ownsRow w.heap.size 5 1 v3 (headL cur aid).length (nu (headL cur aid)) from hown3); clear hown3 hb3 hg3 hat3) | (go_at_call 20; with_reducible refine (len_e (HI.out.later HB3.out)).mono ?_; rintro e w4 ⟨rfl, rfl⟩))
  clear HB0 HR0 HB1 HR1 HB2 HR2 HP2
  go_loopw [5, 17] (fun v5 v17 wr => ∃ k : Nat, k ≤ cs.length ∧ v17 = .int .i64 k ∧ wr.ownsRow w.heap.size 5 1 v5 (headL cur aid ++ bufTo cs k).length (nu (headL cur aid ++ bufTo cs k)) ∧ Below w.heap.size w wr) (fun _ v17 _ => cs.length - (intOf v17).toNat)
  case atStart => exact ⟨0, Nat.zero_le _, rfl, by simpa [bufTo] using HR3.out, HB3.out⟩
  case round =>
    clear HR3 HB3
    obtain ⟨k, hk, rfl, hr4, hb4⟩ := hrel
    have HR4 := Lib.hid hr4
    have HB4 := Lib.hid hb4
    clear hr4 hb4
    by_cases hlt : k < cs.length
    · have hbl := buf_le cs k
      have HSU := Lib.hid (buf_succ cs k)
      have HBL : Hid ((headL cur aid ++ bufTo cs k).length ≤ 10000) := Lib.hid (by simp only [headL, List.length_append, List.length_cons, List.length_nil]; omega)
      have HBO := Lib.hid (bufOut_le cs k)
      clear hbl
      obtain ⟨xs, hxs⟩ : ∃ xs, headL cur aid ++ bufTo cs k = xs := ⟨_, rfl⟩
      rw [hxs] at HR4 HBL
      have HXS : Hid (headL cur aid ++ bufTo cs (k + 1) = xs ++ bufOut cs k) := Lib.hid (by rw [HSU.out, ← List.append_assoc, hxs])
      clear hxs HSU
      cases hst : (A.rd_T34 cs (k : Int)).f2
      · have HOU : Hid (bufOut cs k = bytesL (A.rd_T34 cs (k : Int))) := Lib.hid (by rw [bufOut, if_neg (by rw [hst]; decide)])
        have hbf := bytes_f (A.rd_T34 cs (k : Int))
        rw [hst] at hbf
        go_wp2_with (first | (go_at_call 15; with_reducible refine (at_p (HI.out.later HB4.out) (k : Int) (by omega) (by omega)).mono ?_; rintro e w5 ⟨rfl, hb5⟩; have hb6 := below_alloc hb5 (.cells #[.int .u8 (A.rd_T34 cs (k : Int)).f0, .bool (A.rd_T34 cs (k : Int)).f1, .bool false, .int .u8 (A.rd_T34 cs (k : Int)).f3, .int .u8 (A.rd_T34 cs (k : Int)).f4] 34); have HB6 := Lib.hid (below_step HB4.out hb6); have HR6 := Lib.hid (pw_own_below HR4.out hb6); simp only [cellV, hst]; clear hb5 hb6) | (go_at_call 34; (with_reducible refine (A.reply_bytes.calls 10 _ _ _ _ _ _ _ hbf).mono ?_); rintro e w7 ⟨v7, rfl, hr7, hb7⟩; obtain ⟨A7, c7, rfl, hc7, hrd7⟩ := own_reads_of_le (enc := Value.int .u8) (d := (0 : Int)) (xs := bytesL (A.rd_T34 cs (k : Int))) (Kd.own_of_R hr7); have HD7 := Lib.hid (readsInt_of.2 hrd7); have HB7 := Lib.hid (below_step HB6.out hb7); have HR7 := Lib.hid (pw_own_below HR6.out hb7); clear hb7 hr7 hrd7) | (at_builtin; refine print_append_row (w0 := w) w.heap.size rfl (.tmp 31) (.tmp 33) 35 5 .u8 1 rfl Try.underlying35 hinfo5 (by decide) _ xs (bytesL (A.rd_T34 cs (k : Int))) A7 (bytesL (A.rd_T34 cs (k : Int))).length c7 rfl rfl HR7.out HD7.out HB7.out HB7.out.size (by have := HBL.out; have := bytes_le (A.rd_T34 cs (k : Int)); omega) ?_; intro v8 w8 hown8 hb8 hg8 hat8; have HB8 := Lib.hid hb8; have HR8 := Lib.hid hown8; clear hown8 hb8 hg8 hat8))
        go_roundw
        case rel => exact ⟨k + 1, by omega, by go_num, by rw [HXS.out, HOU.out]; exact HR8.out, HB8.out⟩
        case measure => simp [intOf]; omega
      · have HOU : Hid (bufOut cs k = [29, attrB (A.rd_T34 cs (k : Int)).f0]) := Lib.hid (by rw [bufOut, if_pos hst])
        go_wp2_with (first | (go_at_call 15; with_reducible refine (at_p (HI.out.later HB4.out) (k : Int) (by omega) (by omega)).mono ?_; rintro e w5 ⟨rfl, hb5⟩; have hb6 := below_alloc hb5 (.cells #[.int .u8 (A.rd_T34 cs (k : Int)).f0, .bool (A.rd_T34 cs (k : Int)).f1, .bool true, .int .u8 (A.rd_T34 cs (k : Int)).f3, .int .u8 (A.rd_T34 cs (k : Int)).f4] 34); have HB6 := Lib.hid (below_step HB4.out hb6); have HR6 := Lib.hid (pw_own_below HR4.out hb6); simp only [cellV, hst]; clear hb5 hb6) | (go_at_call 33; with_reducible refine (A.attr_Byte.calls _ _ _ (attr_f (A.rd_T34 cs (k : Int)).f0)).mono ?_; rintro e w7 ⟨rfl, hd7⟩; obtain ⟨m7, rfl⟩ := hd7.out; have hb7 := fun (W : World) => below_alloc (pw_below_drewN (Below.refl W.heap.size W) m7) (.cells #[.int .u8 29, .int .u8 (attrB (A.rd_T34 cs (k : Int)).f0)] 5); have HB7 := Lib.hid (below_step HB6.out (hb7 _)); have HR7 := Lib.hid (pw_own_below HR6.out (hb7 _)); have HL7 := Lib.hid (show (((w5.alloc (.cells #[.int .u8 (A.rd_T34 cs (k : Int)).f0, .bool (A.rd_T34 cs (k : Int)).f1, .bool true, .int .u8 (A.rd_T34 cs (k : Int)).f3, .int .u8 (A.rd_T34 cs (k : Int)).f4] 34)).drewN m7).alloc (.cells #[.int .u8 29, .int .u8 (attrB (A.rd_T34 cs (k : Int)).f0)] 5)).heap[w5.heap.size + 1]? = some (.cells #[.int .u8 29, .int .u8 (attrB (A.rd_T34 cs (k : Int)).f0)] 5 (0, 0)) from by have h9 := heap_alloc_new ((w5.alloc (.cells #[.int .u8 (A.rd_T34 cs (k : Int)).f0, .bool (A.rd_T34 cs (k : Int)).f1, .bool true, .int .u8 (A.rd_T34 cs (k : Int)).f3, .int .u8 (A.rd_T34 cs (k : Int)).f4] 34)).drewN m7) (.cells #[.int .u8 29, .int .u8 (attrB (A.rd_T34 cs (k : Int)).f0)] 5); simpa using h9); clear hb7 hd7) | (at_builtin; refine print_append_row (w0 := w) w.heap.size rfl (.tmp 25) (.tmp 29) 35 5 .u8 1 rfl Try.underlying35 hinfo5 (by decide) _ xs [29, attrB (A.rd_T34 cs (k : Int)).f0] (some ⟨w5.heap.size + 1, 0, none⟩) 2 2 rfl rfl HR7.out (reads_two HL7.out) HB7.out HB7.out.size (by have := HBL.out; omega) ?_; intro v8 w8 hown8 hb8 hg8 hat8; have HB8 := Lib.hid hb8; have HR8 := Lib.hid hown8; clear hown8 hb8 hg8 hat8))
        go_roundw
        case rel => exact ⟨k + 1, by omega, by go_num, by rw [HXS.out, HOU.out]; exact HR8.out, HB8.out⟩
        case measure => simp [intOf]; omega
    · obtain rfl : k = cs.length := by omega
      go_wp2
      go_ret
      exact ⟨_, rfl, HR4.out, HB4.out⟩
end
end Go.Proofs.Ytnifkdcjphekpaa.H

namespace Go.Proofs.Ytnifkdcjphekpaa.H
open Go.RowKit Go.Proofs.YtnifkdcjphekpaaW.PrintWords Go.Proofs.YtnifkdcjphekpaaW.PrintLast
set_option linter.unusedVariables false
set_option linter.unusedSimpArgs false
section
variable {w : World} {g c0 : Nat} {A0 : Option Addr} {r c cur : Int} {cs : List A.S34}
/-- A call that hands back bytes of its own. -/
abbrev Gives (f : FuncId) (args : Array Value) (w : World) (xs : List Int) : Prop := Calls Try.prog f args w fun e W' => ∃ v, e = .returned v ∧ W'.ownsRow w.heap.size 5 1 v xs.length (nu xs) ∧ Below w.heap.size w W'
set_option maxHeartbeats 1000000 in
theorem read_p (hI : IsP w g A0 c0 r c cs cur) (hf : formB cs = true) (hc0 : 0 ≤ cur) (hc1 : cur < cs.length) (aid : Int) (hs : A.keyboard_Short.f aid = some false) : Gives 11 #[.pointer (some ⟨g, 0, none⟩), .int .u8 aid] w (headL cur aid ++ fieldsL cs) := by
  have HI := Lib.hid hI
  have HS := Lib.hid hs
  clear hI hs
  go_enter Try.func11, Try.ntmps11
  go_wp2_with (first | (go_at_call 32; (with_reducible refine (A.keyboard_Short.calls _ _ _ HS.out).mono ?_); rintro e w1 ⟨rfl, hd⟩; obtain ⟨m1, rfl⟩ := hd.out; have HB1 := Lib.hid (pw_below_drewN (Below.refl w.heap.size w) m1)) | (go_at_call 10; (with_reducible refine (all_p (HI.out.later HB1.out) hf hc0 hc1 aid).mono ?_); rintro e w2 ⟨v, rfl, ho, hb⟩; have HO := Lib.hid ho; have HB2 := Lib.hid (below_step HB1.out hb); clear ho hb))
  go_ret
  exact ⟨_, rfl, HO.out, HB2.out⟩
set_option maxHeartbeats 1000000 in
theorem read_s (aid : Int) (hs : A.keyboard_Short.f aid = some true) : Gives 11 #[.pointer (some ⟨g, 0, none⟩), .int .u8 aid] w [aid] := by
  have HS := Lib.hid hs
  clear hs
  go_enter Try.func11, Try.ntmps11
  go_wp2_with (first | (go_at_call 32; (with_reducible refine (A.keyboard_Short.calls _ _ _ HS.out).mono ?_); rintro e w1 ⟨rfl, hd⟩; obtain ⟨m1, rfl⟩ := hd.out; have HB1 := Lib.hid (pw_below_drewN (Below.refl w.heap.size w) m1)))
  go_ret
  exact ⟨_, rfl, ⟨rfl, .inr ⟨_, 1, _, rfl, HB1.out.size, heap_alloc_new _ _, Nat.le_refl _, by decide, rfl, rfl⟩⟩, below_alloc HB1.out _⟩
set_option maxHeartbeats 1000000 in
theorem for_rb (hI : IsP w g A0 c0 r c cs cur) (hc0 : 0 ≤ cur) (hc1 : cur < cs.length) (aid : Int) : Calls Try.prog 18 #[.pointer (some ⟨g, 0, none⟩), .int .u8 aid, .int .u8 242] w fun e W' => ∃ v, e = .returned (.tuple #[v, .int .i64 0]) ∧ W'.ownsRow w.heap.size 5 1 v (headL cur aid ++ bufTo cs cs.length).length (nu (headL cur aid ++ bufTo cs cs.length)) ∧ Below w.heap.size w W' := by
  have HI := Lib.hid hI
  clear hI
  go_enter Try.func18, Try.ntmps18
  go_wp2_with (go_at_call 12; (with_reducible refine (buffer_p HI.out hc0 hc1 aid).mono ?_); rintro e w2 ⟨v, rfl, ho, hb⟩; have HO := Lib.hid ho; have HB2 := Lib.hid hb; clear ho hb)
  go_ret2
  exact ⟨_, rfl, HO.out, HB2.out⟩
set_option maxHeartbeats 1000000 in
theorem for_no (aid : Int) : Calls Try.prog 18 #[.pointer (some ⟨g, 0, none⟩), .int .u8 aid, .int .u8 0] w fun e W' => e = .returned (.tuple #[.slice none 0 0, .int .i64 30]) ∧ W' = w := by
  go_enter Try.func18, Try.ntmps18
  go_wp2
  go_ret2
  exact ⟨rfl, rfl⟩
end
end Go.Proofs.Ytnifkdcjphekpaa.H

namespace Go.Proofs.Ytnifkdcjphekpaa.H
open Go.RowKit Go.Proofs.YtnifkdcjphekpaaW.PrintWords Go.Proofs.YtnifkdcjphekpaaW.PrintLast
set_option linter.unusedVariables false
set_option linter.unusedSimpArgs false
section
variable {w : World} {g c0 : Nat} {A0 : Option Addr} {r c cur : Int} {cs : List A.S34}
/-- What is sent of the first cells. -/
def wholeTo (cs : List A.S34) (k : Nat) : List Int := (List.range k).flatMap fun (i : Nat) => cellOut cs (i : Int)
theorem whole_succ (cs : List A.S34) (k : Nat) : wholeTo cs (k + 1) = wholeTo cs k ++ cellOut cs (k : Int) := by simp [wholeTo, List.range_succ]
theorem whole_le (cs : List A.S34) (k : Nat) : (wholeTo cs k).length ≤ k * 2 := by
  have := flat_le (fun (i : Nat) => cellOut cs (i : Int)) 2 (fun i => cellOut_le cs i) (List.range k)
  simpa [wholeTo] using this
set_option maxHeartbeats 4000000 in
set_option maxRecDepth 100000 in
theorem whole_p (hI : IsP w g A0 c0 r c cs cur) : Calls Try.prog 31 #[.pointer (some ⟨g, 0, none⟩)] w fun e W' => ∃ v, e = .returned v ∧ W'.ownsRow w.heap.size 5 1 v (wholeTo cs cs.length).length (nu (wholeTo cs cs.length)) ∧ Below w.heap.size w W' := by
  have hsm := hI.small
  have HI := Lib.hid hI
  clear hI
  go_enter Try.func31, Try.ntmps31
  go_wp2_with (go_at_call 20; (with_reducible refine (len_p HI.out).mono ?_); rintro e w1 ⟨rfl, hb1⟩; have HB1 := Lib.hid hb1; clear hb1)
  go_loopw [3, 8] (fun v3 v8 wr => ∃ k : Nat, k ≤ cs.length ∧ v8 = .int .i64 k ∧ wr.ownsRow w.heap.size 5 1 v3 (wholeTo cs k).length (nu (wholeTo cs k)) ∧ Below w.heap.size w wr) (fun _ v8 _ => cs.length - (intOf v8).toNat)
  case atStart => exact ⟨0, Nat.zero_le _, rfl, own_nil _ _ _ _, HB1.out⟩
  case round =>
    clear HB1
    obtain ⟨k, hk, rfl, hr4, hb4⟩ := hrel
    have HR4 := Lib.hid hr4
    have HB4 := Lib.hid hb4
    clear hr4 hb4
    by_cases hlt : k < cs.length
    · have HBL : Hid ((wholeTo cs k).length ≤ 10000) := Lib.hid (by have := whole_le cs k; omega)
      have HSU := Lib.hid (whole_succ cs k)
      obtain ⟨xs, hxs⟩ : ∃ xs, wholeTo cs k = xs := ⟨_, rfl⟩
      rw [hxs] at HR4 HBL HSU
      clear hxs
      cases he : emptyB (A.rd_T34 cs (k : Int))
      · have HOU : Hid (cellOut cs (k : Int) = bytesL (A.rd_T34 cs (k : Int))) := Lib.hid (by rw [cellOut, if_neg (by rw [he]; decide)])
        have hbf := bytes_f (A.rd_T34 cs (k : Int))
        go_wp2_with (first | (go_at_call 15; (with_reducible refine (at_p (HI.out.later HB4.out) (k : Int) (by omega) (by omega)).mono ?_); rintro e w5 ⟨rfl, hb5⟩; have hb6 := below_alloc hb5 (.cells #[.int .u8 (A.rd_T34 cs (k : Int)).f0, .bool (A.rd_T34 cs (k : Int)).f1, .bool (A.rd_T34 cs (k : Int)).f2, .int .u8 (A.rd_T34 cs (k : Int)).f3, .int .u8 (A.rd_T34 cs (k : Int)).f4] 34); have HB6 := Lib.hid (below_step HB4.out hb6); have HR6 := Lib.hid (pw_own_below HR4.out hb6); have HZ6 := Lib.hid (heap_alloc_new w5 (.cells #[.int .u8 (A.rd_T34 cs (k : Int)).f0, .bool (A.rd_T34 cs (k : Int)).f1, .bool (A.rd_T34 cs (k : Int)).f2, .int .u8 (A.rd_T34 cs (k : Int)).f3, .int .u8 (A.rd_T34 cs (k : Int)).f4] 34)); simp only [cellV]; clear hb5 hb6) | (go_at_call 56; (with_reducible refine (A.reply_empty.calls _ _ _ _ _ _ _ (empty_f (A.rd_T34 cs (k : Int)))).mono ?_); rintro e w6 ⟨rfl, hb6⟩; rw [he]; have HB7 := Lib.hid (below_step HB6.out hb6); have HR7 := Lib.hid (pw_own_below HR6.out hb6); have HZ7 := Lib.hid (blk_below HZ6.out hb6); have q0 := (blk_cell HZ7.out 0).trans rfl; have q1 := (blk_cell HZ7.out 1).trans rfl; have q2 := (blk_cell HZ7.out 2).trans rfl; have q3 := (blk_cell HZ7.out 3).trans rfl; have q4 := (blk_cell HZ7.out 4).trans rfl; clear hb6) | (go_at_call 34; (with_reducible refine (A.reply_bytes.calls 10 _ _ _ _ _ _ _ hbf).mono ?_); rintro e w7 ⟨v7, rfl, hr7, hb7⟩; obtain ⟨A7, c7, rfl, hc7, hrd7⟩ := own_reads_of_le (enc := Value.int .u8) (d := (0 : Int)) (xs := bytesL (A.rd_T34 cs (k : Int))) (Kd.own_of_R hr7); have HD7 := Lib.hid (readsInt_of.2 hrd7); have HB8 := Lib.hid (below_step HB7.out hb7); have HR8 := Lib.hid (pw_own_below HR7.out hb7); clear hb7 hr7 hrd7) | (at_builtin; refine print_append_row (w0 := w) w.heap.size rfl (.tmp 17) (.tmp 19) 35 5 .u8 1 rfl Try.underlying35 hinfo5 (by decide) _ xs (bytesL (A.rd_T34 cs (k : Int))) A7 (bytesL (A.rd_T34 cs (k : Int))).length c7 rfl rfl HR8.out HD7.out HB8.out HB8.out.size (by have := HBL.out; have := bytes_le (A.rd_T34 cs (k : Int)); omega) ?_; intro v8 w8 hown8 hb8 hg8 hat8; have HB9 := Lib.hid hb8; have HR9 := Lib.hid hown8; clear hown8 hb8 hg8 hat8))
        go_roundw
        case rel => exact ⟨k + 1, by omega, by go_num, by rw [HSU.out, HOU.out]; exact HR9.out, HB9.out⟩
        case measure => simp [intOf]; omega
      · have HOU : Hid (cellOut cs (k : Int) = []) := Lib.hid (by rw [cellOut, if_pos he])
        go_wp2_with (first | (go_at_call 15; (with_reducible refine (at_p (HI.out.later HB4.out) (k : Int) (by omega) (by omega)).mono ?_); rintro e w5 ⟨rfl, hb5⟩; have hb6 := below_alloc hb5 (.cells #[.int .u8 (A.rd_T34 cs (k : Int)).f0, .bool (A.rd_T34 cs (k : Int)).f1, .bool (A.rd_T34 cs (k : Int)).f2, .int .u8 (A.rd_T34 cs (k : Int)).f3, .int .u8 (A.rd_T34 cs (k : Int)).f4] 34); have HB6 := Lib.hid (below_step HB4.out hb6); have HR6 := Lib.hid (pw_own_below HR4.out hb6); have HZ6 := Lib.hid (heap_alloc_new w5 (.cells #[.int .u8 (A.rd_T34 cs (k : Int)).f0, .bool (A.rd_T34 cs (k : Int)).f1, .bool (A.rd_T34 cs (k : Int)).f2, .int .u8 (A.rd_T34 cs (k : Int)).f3, .int .u8 (A.rd_T34 cs (k : Int)).f4] 34)); simp only [cellV]; clear hb5 hb6) | (go_at_call 56; (with_reducible refine (A.reply_empty.calls _ _ _ _ _ _ _ (empty_f (A.rd_T34 cs (k : Int)))).mono ?_); rintro e w6 ⟨rfl, hb6⟩; rw [he]; have HB7 := Lib.hid (below_step HB6.out hb6); have HR7 := Lib.hid (pw_own_below HR6.out hb6); have HZ7 := Lib.hid (blk_below HZ6.out hb6); have q0 := (blk_cell HZ7.out 0).trans rfl; have q1 := (blk_cell HZ7.out 1).trans rfl; have q2 := (blk_cell HZ7.out 2).trans rfl; have q3 := (blk_cell HZ7.out 3).trans rfl; have q4 := (blk_cell HZ7.out 4).trans rfl; clear hb6))
        go_roundw
        case rel => exact ⟨k + 1, by omega, by go_num, by rw [HSU.out, HOU.out, List.append_nil]; exact HR7.out, HB7.out⟩
        case measure => simp [intOf]; omega
    · obtain rfl : k = cs.length := by omega
      go_wp2
      go_ret
      exact ⟨_, rfl, HR4.out, HB4.out⟩
set_option maxHeartbeats 2000000 in
set_option maxRecDepth 100000 in
theorem all_w (hI : IsP w g A0 c0 r c cs cur) (hf : formB cs = false) (hc0 : 0 ≤ cur) (hc1 : cur < cs.length) (aid : Int) : Calls Try.prog 10 #[.pointer (some ⟨g, 0, none⟩), .int .u8 aid] w fun e W' => ∃ v, e = .returned v ∧ W'.ownsRow w.heap.size 5 1 v (headL cur aid ++ wholeTo cs cs.length).length (nu (headL cur aid ++ wholeTo cs cs.length)) ∧ Below w.heap.size w W' := by
  have hsm := hI.small
  have hfl := whole_le cs cs.length
  have HI := Lib.hid hI
  clear hI
  have hb0 := below_alloc (Below.refl w.heap.size w) (.cells #[.int .u8 aid] 5)
  have HB0 := Lib.hid hb0
  have hrow0 : (w.alloc (.cells #[.int .u8 aid] 5)).ownsRow w.heap.size 5 1 (.slice (some ⟨w.heap.size, 0, none⟩) 1 1) [aid].length (nu [aid]) := ⟨rfl, .inr ⟨_, 1, _, rfl, Nat.le_refl _, heap_alloc_new _ _, Nat.le_refl _, by decide, rfl, rfl⟩⟩
  have HR0 := Lib.hid hrow0
  clear hb0 hrow0
  go_enter Try.func10, Try.ntmps10
  go_wp2_with (first | (go_at_call 28; with_reducible refine (cursor_p (HI.out.later HB0.out)).mono ?_; rintro e w1 ⟨rfl, hb1⟩; have HB1 := Lib.hid (below_step HB0.out hb1); have HR1 := Lib.hid (pw_own_below HR0.out hb1); clear hb1) | (go_at_call 27; with_reducible refine (place_p (HI.out.later HB1.out) cur hc0 hc1).mono ?_; rintro e w2 ⟨b2, rfl, hp2, hb2⟩; have HB2 := Lib.hid (below_step HB1.out hb2); have HR2 := Lib.hid (pw_own_below HR1.out hb2); have HP2 := Lib.hid hp2; clear hb2 hp2) | (at_builtin; refine print_append_row (w0 := w) w.heap.size rfl (.tmp 7) (.tmp 11) 35 5 .u8 1 rfl Try.underlying35 hinfo5 (by decide) (.slice (some ⟨w.heap.size, 0, none⟩) 1 1) [aid] [dig (cur / 64), dig cur] (some ⟨b2, 0, none⟩) 2 2 rfl rfl HR2.out (reads_two HP2.out) HB2.out HB2.out.size (by simp) ?_; intro v3 w3 hown3 hb3 hg3 hat3; have HB3 := Lib.hid hb3; have HR3 := Lib.hid (show w3.ownsRow w.heap.size 5 1 v3 (headL cur aid).length (nu (headL cur aid)) from hown3); clear hown3 hb3 hg3 hat3) | (go_at_call 29; with_reducible refine (formatted_p (HI.out.later HB3.out)).mono ?_; rintro e w4 ⟨rfl, hb4⟩; rw [hf]; have HB4 := Lib.hid (below_step HB3.out hb4); have HR4 := Lib.hid (pw_own_below HR3.out hb4); clear hb4) | (go_at_call 31; with_reducible refine (whole_p (HI.out.later HB4.out)).mono ?_; rintro e w5 ⟨v5, rfl, ho5, hb5⟩; obtain ⟨A5, c5, rfl, hc5, hrd5⟩ := own_reads_of_le (enc := Value.int .u8) (d := (0 : Int)) (xs := wholeTo cs cs.length) ho5; have HD5 := Lib.hid (readsInt_of.2 hrd5); have HB5 := Lib.hid (below_step HB4.out hb5); have HR5 := Lib.hid (pw_own_below HR4.out hb5); clear hb5 ho5 hrd5) | (at_builtin; refine print_append_row (w0 := w) w.heap.size rfl (.tmp 19) (.tmp 21) 35 5 .u8 1 rfl Try.underlying35 hinfo5 (by decide) v3 (headL cur aid) (wholeTo cs cs.length) A5 (wholeTo cs cs.length).length c5 rfl rfl HR5.out HD5.out HB5.out HB5.out.size (by simp only [headL, List.length_cons, List.length_nil]; omega) ?_; intro v6 w6 hown6 hb6 hg6 hat6; have HB6 := Lib.hid hb6; have HR6 := Lib.hid hown6; clear hown6 hb6 hg6 hat6) | go_in)
  go_ret
  exact ⟨_, rfl, HR6.out, HB6.out⟩
/-- What is sent of what was modified. -/
def allL (cs : List A.S34) (cur aid : Int) : List Int := headL cur aid ++ if formB cs = true then fieldsL cs else wholeTo cs cs.length
theorem all_a (hI : IsP w g A0 c0 r c cs cur) (hc0 : 0 ≤ cur) (hc1 : cur < cs.length) (aid : Int) : Gives 10 #[.pointer (some ⟨g, 0, none⟩), .int .u8 aid] w (allL cs cur aid) := by
  unfold allL
  cases hf : formB cs
  · rw [if_neg (by decide)]
    exact all_w hI hf hc0 hc1 aid
  · rw [if_pos rfl]
    exact all_p hI hf hc0 hc1 aid
def readL (cs : List A.S34) (cur aid : Int) : List Int := if A.keyboard_Short.f aid = some true then [aid] else allL cs cur aid
theorem short_ok (aid : Int) : A.keyboard_Short.f aid = some true ∨ A.keyboard_Short.f aid = some false := by
  have h : ∃ b, A.keyboard_Short.f aid = some b := by
    unfold A.keyboard_Short.f
    obtain ⟨s, hs⟩ : ∃ s, A.keyboard_plain.f aid = some s := by
      unfold A.keyboard_plain.f
      (repeat' split) <;> exact ⟨_, rfl⟩
    rw [hs, Option.bind_some]
    split <;> exact ⟨_, rfl⟩
  obtain ⟨b, h⟩ := h
  cases b
  · exact .inr h
  · exact .inl h
set_option maxHeartbeats 1000000 in
theorem read_a (hI : IsP w g A0 c0 r c cs cur) (hc0 : 0 ≤ cur) (hc1 : cur < cs.length) (aid : Int) : Gives 11 #[.pointer (some ⟨g, 0, none⟩), .int .u8 aid] w (readL cs cur aid) := by
  unfold readL
  rcases short_ok aid with hs | hs
  · rw [if_pos hs]
    exact read_s aid hs
  · rw [if_neg (by rw [hs]; decide)]
    have HI := Lib.hid hI
    have HS := Lib.hid hs
    clear hI hs
    go_enter Try.func11, Try.ntmps11
    go_wp2_with (first | (go_at_call 32; (with_reducible refine (A.keyboard_Short.calls _ _ _ HS.out).mono ?_); rintro e w1 ⟨rfl, hd⟩; obtain ⟨m1, rfl⟩ := hd.out; have HB1 := Lib.hid (pw_below_drewN (Below.refl w.heap.size w) m1)) | (go_at_call 10; (with_reducible refine (all_a (HI.out.later HB1.out) hc0 hc1 aid).mono ?_); rintro e w2 ⟨v, rfl, ho, hb⟩; have HO := Lib.hid ho; have HB2 := Lib.hid (below_step HB1.out hb); clear ho hb))
    go_ret
    exact ⟨_, rfl, HO.out, HB2.out⟩
end
end Go.Proofs.Ytnifkdcjphekpaa.H

