/- reply.Buffer, Read, For. -/
import Derived.Test.YtnifkdcjphekpaaAll
namespace Go.Proofs.Ytnifkdcjphekpaa.H
open Go.RowKit Go.Proofs.YtnifkdcjphekpaaW.PrintWords Go.Proofs.YtnifkdcjphekpaaW.PrintLast
set_option linter.unusedVariables false
set_option linter.unusedSimpArgs false
section
variable {w : World} {g c0 : Nat} {A0 : Option Addr} {r c cur : Int} {cs : List A.S34}
theorem attr_ok (a : Int) : ∃ r, A.attr_Byte.f a = some r := by
  unfold A.attr_Byte.f
  obtain ⟨r, h⟩ := dig_ok (wrap64 a)
  exact ⟨r, by rw [h]; rfl⟩
def attrB (a : Int) : Int := (A.attr_Byte.f a).getD 0
theorem attr_f (a : Int) : A.attr_Byte.f a = some (attrB a) := by
  obtain ⟨r, h⟩ := attr_ok a
  rw [attrB, h]
  rfl
/-- What is sent of a cell, of all cells. -/
def bufOut (cs : List A.S34) (k : Nat) : List Int := if (A.rd_T34 cs (k : Int)).f2 = true then [29, attrB (A.rd_T34 cs (k : Int)).f0] else bytesL (A.rd_T34 cs (k : Int))
def bufTo (cs : List A.S34) (k : Nat) : List Int := (List.range k).flatMap (bufOut cs)
theorem buf_succ (cs : List A.S34) (k : Nat) : bufTo cs (k + 1) = bufTo cs k ++ bufOut cs k := by simp [bufTo, List.range_succ]
theorem bufOut_le (cs : List A.S34) (k : Nat) : (bufOut cs k).length ≤ 2 := by
  unfold bufOut
  split
  · simp
  · exact bytes_le _
theorem buf_le (cs : List A.S34) (k : Nat) : (bufTo cs k).length ≤ k * 2 := by
  have := flat_le (bufOut cs) 2 (bufOut_le cs) (List.range k)
  simpa [bufTo] using this
set_option maxHeartbeats 4000000 in
set_option maxRecDepth 100000 in
theorem buffer_p (hI : IsP w g A0 c0 r c cs cur) (hc0 : 0 ≤ cur) (hc1 : cur < cs.length) (aid : Int) : Calls Try.prog 12 #[.pointer (some ⟨g, 0, none⟩), .int .u8 aid] w fun e W' => ∃ v, e = .returned v ∧ W'.ownsRow w.heap.size 5 1 v (headL cur aid ++ bufTo cs cs.length).length (nu (headL cur aid ++ bufTo cs cs.length)) ∧ Below w.heap.size w W' := by
  have hsm := hI.small
  have HI := Lib.hid hI
  clear hI
  have hb0 := below_alloc (Below.refl w.heap.size w) (.cells #[.int .u8 aid] 5)
  have HB0 := Lib.hid hb0
  have hrow0 : (w.alloc (.cells #[.int .u8 aid] 5)).ownsRow w.heap.size 5 1 (.slice (some ⟨w.heap.size, 0, none⟩) 1 1) [aid].length (nu [aid]) := ⟨rfl, .inr ⟨_, 1, _, rfl, Nat.le_refl _, heap_alloc_new _ _, Nat.le_refl _, by decide, rfl, rfl⟩⟩
  have HR0 := Lib.hid hrow0
  clear hb0 hrow0
  go_enter Try.func12, Try.ntmps12
  go_wp2_with (first |   (go_at_call 28; with_reducible refine (cursor_p (HI.out.later HB0.out)).mono ?_; rintro e w1 ⟨rfl, hb1⟩; have HB1 := Lib.hid (below_step HB0.out hb1); have HR1 := Lib.hid (pw_own_below HR0.out hb1); clear hb1) | (go_at_call 27; with_reducible refine (place_p (HI.out.later HB1.out) cur hc0 hc1).mono ?_; rintro e w2 ⟨b2, rfl, hp2, hb2⟩; have HB2 := Lib.hid (below_step HB1.out hb2); have HR2 := Lib.hid (pw_own_below HR1.out hb2); have HP2 := Lib.hid hp2; clear hb2 hp2) | (at_builtin; refine print_append_row (w0 := w) w.heap.size rfl (.tmp 9) (.tmp 13) 35 5 .u8 1 rfl Try.underlying35 hinfo5 (by decide) (.slice (some ⟨w.heap.size, 0, none⟩) 1 1) [aid] [dig (cur / 64), dig cur] (some ⟨b2, 0, none⟩) 2 2 rfl rfl HR2.out (reads_two HP2.out) HB2.out HB2.out.size (by simp) ?_; intro v3 w3 hown3 hb3 hg3 hat3; have HB3 := Lib.hid hb3; have HR3 := Lib.hid (show w3.ownsRow w.heap.size 5 1 v3 (headL cur aid).length (nu (headL cur aid)) from hown3); clear hown3 hb3 hg3 hat3) | (go_at_call 20; with_reducible refine (len_e (HI.out.later HB3.out)).mono ?_; rintro e w4 ⟨rfl, rfl⟩))
  clear HB0 HR0 HB1 HR1 HB2 HR2 HP2
  go_loopw [5, 17] (fun v5 v17 wr => ∃ k : Nat, k ≤ cs.length ∧ v17 = .int .i64 k ∧ wr.ownsRow w.heap.size 5 1 v5 (headL cur aid ++ bufTo cs k).length (nu (headL cur aid ++ bufTo cs k)) ∧ Below w.heap.size w wr) (fun _ v17 _ => cs.length - (intOf v17).toNat)
  case atStart => exact ⟨0, Nat.zero_le _, rfl, by simpa [bufTo] using HR3.out, HB3.out⟩
  case round =>
    clear HR3 HB3
    obtain ⟨k, hk, rfl, hr4, hb4⟩ := hrel
    have HR4 := Lib.hid hr4
    have HB4 := Lib.hid hb4
    clear hr4 hb4
    by_cases hlt : k < cs.length
    · have hbl := buf_le cs k
      have HSU := Lib.hid (buf_succ cs k)
      have HBL : Hid ((headL cur aid ++ bufTo cs k).length ≤ 10000) := Lib.hid (by simp only [headL, List.length_append, List.length_cons, List.length_nil]; omega)
      have HBO := Lib.hid (bufOut_le cs k)
      clear hbl
      obtain ⟨xs, hxs⟩ : ∃ xs, headL cur aid ++ bufTo cs k = xs := ⟨_, rfl⟩
      rw [hxs] at HR4 HBL
      have HXS : Hid (headL cur aid ++ bufTo cs (k + 1) = xs ++ bufOut cs k) := Lib.hid (by rw [HSU.out, ← List.append_assoc, hxs])
      clear hxs HSU
      cases hst : (A.rd_T34 cs (k : Int)).f2
      · have HOU : Hid (bufOut cs k = bytesL (A.rd_T34 cs (k : Int))) := Lib.hid (by rw [bufOut, if_neg (by rw [hst]; decide)])
        have hbf := bytes_f (A.rd_T34 cs (k : Int))
        rw [hst] at hbf
        go_wp2_with (first | (go_at_call 15; with_reducible refine (at_p (HI.out.later HB4.out) (k : Int) (by omega) (by omega)).mono ?_; rintro e w5 ⟨rfl, hb5⟩; have hb6 := below_alloc hb5 (.cells #[.int .u8 (A.rd_T34 cs (k : Int)).f0, .bool (A.rd_T34 cs (k : Int)).f1, .bool false, .int .u8 (A.rd_T34 cs (k : Int)).f3, .int .u8 (A.rd_T34 cs (k : Int)).f4] 34); have HB6 := Lib.hid (below_step HB4.out hb6); have HR6 := Lib.hid (pw_own_below HR4.out hb6); simp only [cellV, hst]; clear hb5 hb6) | (go_at_call 34; (with_reducible refine (A.reply_bytes.calls 10 _ _ _ _ _ _ _ hbf).mono ?_); rintro e w7 ⟨v7, rfl, hr7, hb7⟩; obtain ⟨A7, c7, rfl, hc7, hrd7⟩ := own_reads_of_le (enc := Value.int .u8) (d := (0 : Int)) (xs := bytesL (A.rd_T34 cs (k : Int))) (Kd.own_of_R hr7); have HD7 := Lib.hid (readsInt_of.2 hrd7); have HB7 := Lib.hid (below_step HB6.out hb7); have HR7 := Lib.hid (pw_own_below HR6.out hb7); clear hb7 hr7 hrd7) | (at_builtin; refine print_append_row (w0 := w) w.heap.size rfl (.tmp 31) (.tmp 33) 35 5 .u8 1 rfl Try.underlying35 hinfo5 (by decide) _ xs (bytesL (A.rd_T34 cs (k : Int))) A7 (bytesL (A.rd_T34 cs (k : Int))).length c7 rfl rfl HR7.out HD7.out HB7.out HB7.out.size (by have := HBL.out; have := bytes_le (A.rd_T34 cs (k : Int)); omega) ?_; intro v8 w8 hown8 hb8 hg8 hat8; have HB8 := Lib.hid hb8; have HR8 := Lib.hid hown8; clear hown8 hb8 hg8 hat8))
        go_roundw
        case rel => exact ⟨k + 1, by omega, by go_num, by rw [HXS.out, HOU.out]; exact HR8.out, HB8.out⟩
        case measure => simp [intOf]; omega
      · have HOU : Hid (bufOut cs k = [29, attrB (A.rd_T34 cs (k : Int)).f0]) := Lib.hid (by rw [bufOut, if_pos hst])
        go_wp2_with (first | (go_at_call 15; with_reducible refine (at_p (HI.out.later HB4.out) (k : Int) (by omega) (by omega)).mono ?_; rintro e w5 ⟨rfl, hb5⟩; have hb6 := below_alloc hb5 (.cells #[.int .u8 (A.rd_T34 cs (k : Int)).f0, .bool (A.rd_T34 cs (k : Int)).f1, .bool true, .int .u8 (A.rd_T34 cs (k : Int)).f3, .int .u8 (A.rd_T34 cs (k : Int)).f4] 34); have HB6 := Lib.hid (below_step HB4.out hb6); have HR6 := Lib.hid (pw_own_below HR4.out hb6); simp only [cellV, hst]; clear hb5 hb6) | (go_at_call 33; with_reducible refine (A.attr_Byte.calls _ _ _ (attr_f (A.rd_T34 cs (k : Int)).f0)).mono ?_; rintro e w7 ⟨rfl, hd7⟩; obtain ⟨m7, rfl⟩ := hd7.out; have hb7 := fun (W : World) => below_alloc (pw_below_drewN (Below.refl W.heap.size W) m7) (.cells #[.int .u8 29, .int .u8 (attrB (A.rd_T34 cs (k : Int)).f0)] 5); have HB7 := Lib.hid (below_step HB6.out (hb7 _)); have HR7 := Lib.hid (pw_own_below HR6.out (hb7 _)); have HL7 := Lib.hid (show (((w5.alloc (.cells #[.int .u8 (A.rd_T34 cs (k : Int)).f0, .bool (A.rd_T34 cs (k : Int)).f1, .bool true, .int .u8 (A.rd_T34 cs (k : Int)).f3, .int .u8 (A.rd_T34 cs (k : Int)).f4] 34)).drewN m7).alloc (.cells #[.int .u8 29, .int .u8 (attrB (A.rd_T34 cs (k : Int)).f0)] 5)).heap[w5.heap.size + 1]? = some (.cells #[.int .u8 29, .int .u8 (attrB (A.rd_T34 cs (k : Int)).f0)] 5 (0, 0)) from by have h9 := heap_alloc_new ((w5.alloc (.cells #[.int .u8 (A.rd_T34 cs (k : Int)).f0, .bool (A.rd_T34 cs (k : Int)).f1, .bool true, .int .u8 (A.rd_T34 cs (k : Int)).f3, .int .u8 (A.rd_T34 cs (k : Int)).f4] 34)).drewN m7) (.cells #[.int .u8 29, .int .u8 (attrB (A.rd_T34 cs (k : Int)).f0)] 5); simpa using h9); clear hb7 hd7) | (at_builtin; refine print_append_row (w0 := w) w.heap.size rfl (.tmp 25) (.tmp 29) 35 5 .u8 1 rfl Try.underlying35 hinfo5 (by decide) _ xs [29, attrB (A.rd_T34 cs (k : Int)).f0] (some ⟨w5.heap.size + 1, 0, none⟩) 2 2 rfl rfl HR7.out (reads_two HL7.out) HB7.out HB7.out.size (by have := HBL.out; omega) ?_; intro v8 w8 hown8 hb8 hg8 hat8; have HB8 := Lib.hid hb8; have HR8 := Lib.hid hown8; clear hown8 hb8 hg8 hat8))
        go_roundw
        case rel => exact ⟨k + 1, by omega, by go_num, by rw [HXS.out, HOU.out]; exact HR8.out, HB8.out⟩
        case measure => simp [intOf]; omega
    · obtain rfl : k = cs.length := by omega
      go_wp2
      go_ret
      exact ⟨_, rfl, HR4.out, HB4.out⟩
end
end Go.Proofs.Ytnifkdcjphekpaa.H
