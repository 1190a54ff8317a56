/- field.All, field.Places: the iterators. -/
/- field.Places: the iterator. -/
/- field.All, field.Places: what they hand back; their sequences. -/
import Derived.LoopNIn
import Derived.LoopIn
import Derived.Maps.AppendAt
import Derived.Maps.OwnIn
import Derived.Deep.DeepMust
import Derived.KernelRfl
import Derived.RangeFuncBox
import Derived.RangeFuncNested
import Derived.RangeFuncBound
import Derived.RangeFuncCalls
import Derived.RangeFuncLeaves
import Derived.Test.YtnifkdcjphekpaaExact
import Derived.Stop.RegionWithIn
import Derived.Sort.CutIn
namespace Go.Proofs.Ytnifkdcjphekpaa.H
open Go.RowKit Go.Proofs.YtnifkdcjphekpaaW.PrintWords Go.Proofs.YtnifkdcjphekpaaW.PrintLast
set_option linter.unusedVariables false
set_option linter.unusedSimpArgs false
attribute [local go_sem] Oper.semAt_some

/-- What a round of a loop over a plane keeps. -/
def KpB (w0 : World) (L : List Nat) (A A' : World) : Prop := Below w0.heap.size A A' ∧ ∀ b, b ∈ L → A'.heap[b]? = A.heap[b]?
theorem KpB.trans {w0 A B C : World} {L : List Nat} (h : KpB w0 L A B) (k : KpB w0 L B C) : KpB w0 L A C := ⟨h.1.trans k.1, fun b hb => (k.2 b hb).trans (h.2 b hb)⟩
/-- The places with an attribute, ahead of the k-th. -/
def startsTo (cs : List A.S34) (k : Nat) : List Int := ((List.range k).map (fun (i : Nat) => (i : Int))).filter (fun i => (A.rd_T34 cs i).f2)
theorem starts_succ (cs : List A.S34) (k : Nat) : startsTo cs (k + 1) = startsTo cs k ++ (if (A.rd_T34 cs (k : Int)).f2 = true then [(k : Int)] else []) := by
  unfold startsTo
  rw [List.range_succ, List.map_append, List.filter_append]
  congr 1
  simp only [List.map_cons, List.map_nil, List.filter_cons, List.filter_nil]
theorem starts_len (cs : List A.S34) : ∀ k, (startsTo cs k).length ≤ k := fun k => by
  have := List.length_filter_le (fun i => (A.rd_T34 cs i).f2) ((List.range k).map (fun (i : Nat) => (i : Int)))
  simpa [startsTo] using this
theorem starts_pre (cs : List A.S34) (k : Nat) : ∀ m, startsTo cs k <+: startsTo cs (k + m)
  | 0 => List.prefix_refl _
  | m + 1 => (starts_pre cs k m).trans (by rw [← Nat.add_assoc, starts_succ]; exact List.prefix_append _ _)
theorem boxed_cell {W : World} {b : Nat} {v : Value} {t : TypeId} (h : W.heap[b]? = some (.cells #[v] t (0, 0))) : W.cell? ⟨b, 0, none⟩ = some v := (blk_cell h 0).trans rfl

set_option maxHeartbeats 2000000 in
set_option maxRecDepth 100000 in
theorem all1_in (n : Nat) (hn : 1 ≤ n) (l pb g c0 : Nat) (A0 : Option Addr) (r c cur : Int) (cs : List A.S34) (w0 : World) (hI : IsP w0 g A0 c0 r c cs cur) (L : List Nat) (hL : pb ∈ L) (J Jx : List Int → World → Prop) (W : World) (hJ : AbidesFrom W.heap.size J)
    (hY : ∀ pre (x : Int) W, J pre W → pre.length < 4096 → 0 ≤ x → x < (cs.length : Int) → YieldAt Fence.wide (n - 1) Try.prog l #[fldV cs x] W fun e W' =>
      (e = .returned (.bool true) ∧ J (pre ++ [x]) W' ∧ KpB w0 L W W') ∨ (e = .returned (.bool false) ∧ Jx (pre ++ [x]) W'))
    (hW : Below w0.heap.size w0 W) (hB : W.heap[pb]? = some (.cells #[.pointer (some ⟨g, 0, none⟩)] 28 (0, 0))) (h0 : J [] W) :
    CallsIn Fence.wide n Try.prog 65 #[.func (.yield l) #[] #[], .pointer (some ⟨pb, 0, none⟩)] W fun e W' => (∃ v, e = .returned v) ∧
      ((∃ ys, ys = startsTo cs cs.length ∧ J ys W') ∨ (∃ pre, pre <+: startsTo cs cs.length ∧ Jx pre W')) := by
  have hf2 := run_f2
  have hsm := hI.small
  have HI := Lib.hid hI
  have HJ := Lib.hid hJ
  have HY := Lib.hid hY
  have HW := Lib.hid hW
  have HBX := Lib.hid hB
  have hc0 := boxed_cell hB
  have HJ0 := Lib.hid h0
  clear hI hJ hY hW hB h0
  refine callsIn_of_wp Try.func65 rfl trivial ?_ rfl
  simp only [Try.ntmps65, List.size_toArray, List.length_cons, List.length_nil, Nat.reduceAdd, Nat.reduceSub, Array.replicate_succ, Array.replicate_zero, List.push_toArray, List.append_toArray, List.nil_append, List.cons_append]
  gi_wp2_with (refine ⟨trivial, ?_⟩; gi_at_call 20; refine (callsIn_wide.2 (len_p (HI.out.later HW.out))).mono ?_; rintro e w1 ⟨rfl, hb1⟩; have HJ1 := Lib.hid (HJ.out [] W w1 none HJ0.out (grown_of_below hb1 none) (fun _ h => by cases h)); have HW1 := Lib.hid (HW.out.trans (hb1.mono HW.out.size)); have HB1 := Lib.hid (blk_below HBX.out hb1); have HS1 := Lib.hid hb1.size; clear hb1)
  gi_loopw [6] (fun v wr => ∃ k : Nat, k ≤ cs.length ∧ v = .int .i64 k ∧ Hid (Below w0.heap.size w0 wr) ∧ Hid (wr.heap[pb]? = some (.cells #[.pointer (some ⟨g, 0, none⟩)] 28 (0, 0))) ∧ Hid (J (startsTo cs k) wr) ∧ Hid (W.heap.size ≤ wr.heap.size)) (fun v _ => cs.length - (intOf v).toNat)
  case atStart => exact ⟨0, Nat.zero_le _, rfl, HW1, HB1, HJ1, HS1⟩
  case round =>
    clear HJ1 HW1 HB1 HS1
    obtain ⟨k, hk, rfl, HW1, HB1, HJ1, HS1⟩ := hrel
    clear hc0
    have hc0 := boxed_cell HB1.out
    by_cases hlt : k < cs.length
    · have hsu := starts_succ cs k
      by_cases hst : (A.rd_T34 cs (k : Int)).f2 = true
      · rw [if_pos hst] at hsu
        have HSU := Lib.hid hsu
        clear hsu
        gi_wp2_with (refine ⟨trivial, ?_⟩; (first | (gi_at_call 15; refine (callsIn_wide.2 (at_p (HI.out.later HW1.out) (k : Int) (by omega) (by omega))).mono ?_; rintro e w2 ⟨rfl, hb2⟩; have HJ2 := Lib.hid (HJ.out _ _ w2 none HJ1.out (grown_of_below hb2 none) (fun _ h => by cases h)); have HW2 := Lib.hid (HW1.out.trans (hb2.mono HW1.out.size)); have HB2 := Lib.hid (blk_below HB1.out hb2); have HS2 := Lib.hid (Nat.le_trans HS1.out hb2.size); have hc2 := boxed_cell HB2.out; clear hb2) | (gi_at_call 66; refine (callsIn_wide.2 (fld_p (HI.out.later HW2.out) (k : Int) (by omega) (by omega))).mono ?_; rintro e w3 ⟨rfl, hb3⟩; have HJ3 := Lib.hid (HJ.out _ _ w3 none HJ2.out (grown_of_below hb3 none) (fun _ h => by cases h)); have HW3 := Lib.hid (HW2.out.trans (hb3.mono HW2.out.size)); have HB3 := Lib.hid (blk_below HB2.out hb3); have HS3 := Lib.hid (Nat.le_trans HS2.out hb3.size); obtain ⟨fn, tmps, assign, body, hy, hR⟩ := HY.out (startsTo cs k) (k : Int) w3 HJ3.out (by have := starts_len cs k; omega) (by omega) (by omega); clear hb3)))
        refine hR.mono ?_
        rintro e W4 (⟨rfl, hj4, hk4⟩ | ⟨rfl, hjx4⟩)
        · have HJ4 := Lib.hid hj4
          have HK4 := Lib.hid hk4
          clear hj4 hk4 hy hR
          gi_wp2
          go_roundw
          case rel => exact ⟨k + 1, by omega, by go_num, Lib.hid (HW3.out.trans HK4.out.1), Lib.hid ((HK4.out.2 pb hL).trans HB3.out), Lib.hid (by rw [HSU.out]; exact HJ4.out), Lib.hid (Nat.le_trans HS3.out HK4.out.1.size)⟩
          case measure => simp [intOf]; omega
        · have HJ4 := Lib.hid hjx4
          clear hjx4 hy hR
          gi_wp2
          refine bodyPost_ret (results_none rfl _ _ _) rfl ?_
          exact ⟨⟨_, rfl⟩, .inr ⟨_, by rw [← HSU.out]; have := starts_pre cs (k + 1) (cs.length - (k + 1)); rwa [show k + 1 + (cs.length - (k + 1)) = cs.length by omega] at this, HJ4.out⟩⟩
      · rw [if_neg hst, List.append_nil] at hsu
        have hst := Bool.eq_false_iff.2 hst
        have HSU := Lib.hid hsu
        clear hsu
        gi_wp2_with (refine ⟨trivial, ?_⟩; (gi_at_call 15; refine (callsIn_wide.2 (at_p (HI.out.later HW1.out) (k : Int) (by omega) (by omega))).mono ?_; rintro e w2 ⟨rfl, hb2⟩; have HJ2 := Lib.hid (HJ.out _ _ w2 none HJ1.out (grown_of_below hb2 none) (fun _ h => by cases h)); have HW2 := Lib.hid (HW1.out.trans (hb2.mono HW1.out.size)); have HB2 := Lib.hid (blk_below HB1.out hb2); have HS2 := Lib.hid (Nat.le_trans HS1.out hb2.size); clear hb2))
        refine ⟨trivial, ?_⟩
        gi_wp2
        refine ⟨fun _ h => (by cases h), ?_⟩
        gi_wp2
        go_roundw
        case rel => exact ⟨k + 1, by omega, by go_num, HW2, HB2, Lib.hid (by rw [HSU.out]; exact HJ2.out), HS2⟩
        case measure => simp [intOf]; omega
    · obtain rfl : k = cs.length := by omega
      gi_wp2
      go_end0
      exact ⟨⟨_, rfl⟩, .inl ⟨_, rfl, HJ1.out⟩⟩
end Go.Proofs.Ytnifkdcjphekpaa.H

namespace Go.Proofs.Ytnifkdcjphekpaa.H
open Go.RowKit Go.Proofs.YtnifkdcjphekpaaW.PrintWords Go.Proofs.YtnifkdcjphekpaaW.PrintLast
set_option linter.unusedVariables false
set_option linter.unusedSimpArgs false
attribute [local go_sem] Oper.semAt_some
open Go.Proofs.YtnifkdcjphekpaaW.PrintMore
attribute [local go_sem] max2_int min2_int max_two min_two

/-- The places behind one, so many. -/
def placesTo (cs : List A.S34) (a : Int) (k : Nat) : List Int := (List.range k).map (fun (i : Nat) => (a + ((i : Int) + 1)) % cs.length)
theorem places_succ (cs : List A.S34) (a : Int) (k : Nat) : placesTo cs a (k + 1) = placesTo cs a k ++ [(a + ((k : Int) + 1)) % cs.length] := by
  unfold placesTo
  rw [List.range_succ, List.map_append]
  rfl
theorem placesTo_len (cs : List A.S34) (a : Int) (k : Nat) : (placesTo cs a k).length = k := by simp [placesTo]
theorem places_pre (cs : List A.S34) (a : Int) (k : Nat) : ∀ m, placesTo cs a k <+: placesTo cs a (k + m)
  | 0 => List.prefix_refl _
  | m + 1 => (places_pre cs a k m).trans (by rw [← Nat.add_assoc, places_succ]; exact List.prefix_append _ _)
/-- How many cells a field has. -/
def fldMany (cs : List A.S34) (len : Int) : Nat := (if (cs.length : Int) < (if len < 0 then 0 else len) then (cs.length : Int) else (if len < 0 then 0 else len)).toNat

set_option maxHeartbeats 1000000 in
theorem len_e {w : World} {g c0 : Nat} {A0 : Option Addr} {r c cur : Int} {cs : List A.S34} (hI : IsP w g A0 c0 r c cs cur) : Calls Try.prog 20 #[.pointer (some ⟨g, 0, none⟩)] w fun e w' => e = .returned (.int .i64 cs.length) ∧ w' = w := by
  have c2 : w.cell? ⟨g, 2, none⟩ = some (.slice A0 cs.length c0) := (blk_cell hI.p 2).trans rfl
  clear hI
  go_enter Try.func20, Try.ntmps20
  go_wp2
  go_ret
  exact ⟨rfl, rfl⟩
theorem bdw {n : Nat} {W : World} : Below n W W.drew := ⟨rfl, rfl, rfl, Nat.le_refl _, fun _ _ => rfl⟩
set_option maxHeartbeats 2000000 in
set_option maxRecDepth 100000 in
theorem places1_in (n : Nat) (hn : 1 ≤ n) (l fb pb g c0 : Nat) (A0 : Option Addr) (r c cur : Int) (cs : List A.S34) (a len at_ : Int) (ha0 : 0 ≤ a) (ha1 : a < cs.length) (w0 : World) (hI : IsP w0 g A0 c0 r c cs cur) (L : List Nat) (hL : pb ∈ L) (hLf : fb ∈ L) (J Jx : List Int → World → Prop) (W : World) (hJ : AbidesFrom W.heap.size J)
    (hY : ∀ pre (x : Int) W, J pre W → pre.length < 4096 → 0 ≤ x → x < (cs.length : Int) → YieldAt Fence.wide (n - 1) Try.prog l #[.int .i64 x] W fun e W' =>
      (e = .returned (.bool true) ∧ J (pre ++ [x]) W' ∧ KpB w0 L W W') ∨ (e = .returned (.bool false) ∧ Jx (pre ++ [x]) W'))
    (hW : Below w0.heap.size w0 W) (hB : W.heap[pb]? = some (.cells #[.pointer (some ⟨g, 0, none⟩)] 28 (0, 0))) (hF : W.heap[fb]? = some (.cells #[.int .i64 a, .int .i64 len, .int .u8 at_] 86 (0, 0))) (h0 : J [] W) :
    CallsIn Fence.wide n Try.prog 67 #[.func (.yield l) #[] #[], .pointer (some ⟨fb, 0, none⟩), .pointer (some ⟨pb, 0, none⟩)] W fun e W' => (∃ v, e = .returned v) ∧
      ((∃ ys, ys = placesTo cs a (fldMany cs len) ∧ J ys W') ∨ (∃ pre, pre <+: placesTo cs a (fldMany cs len) ∧ Jx pre W')) := by
  have hsm := hI.small
  have HI := Lib.hid hI
  have HJ := Lib.hid hJ
  have HY := Lib.hid hY
  have HW := Lib.hid hW
  have HBX := Lib.hid hB
  have HFX := Lib.hid hF
  have hc0 := boxed_cell hB
  have hf0 : W.cell? ⟨fb, 0, none⟩ = some (.int .i64 a) := (blk_cell hF 0).trans rfl
  have hf1 : W.cell? ⟨fb, 1, none⟩ = some (.int .i64 len) := (blk_cell hF 1).trans rfl
  have e1 : decide (a < 0) = false := by simp; omega
  have e2 : decide ((cs.length : Int) ≤ a) = false := by simp; omega
  have HJ0 := Lib.hid h0
  clear hI hJ hY hW hB h0 hF
  obtain ⟨M, hM⟩ : ∃ M, fldMany cs len = M := ⟨_, rfl⟩
  have hMl : M ≤ cs.length := by rw [← hM]; unfold fldMany; split <;> split <;> omega
  have hmm : (if (cs.length : Int) < (if len < 0 then 0 else len) then (cs.length : Int) else (if len < 0 then 0 else len)) = (M : Int) := by rw [← hM]; unfold fldMany; split <;> split <;> omega
  rw [hM]
  clear hM
  obtain ⟨X, hX⟩ : ∃ X, (if len < 0 then (0 : Int) else len) = X := ⟨_, rfl⟩
  rw [hX] at hmm
  refine callsIn_of_wp Try.func67 rfl trivial ?_ rfl
  simp only [Try.ntmps67, List.size_toArray, List.length_cons, List.length_nil, Nat.reduceAdd, Nat.reduceSub, Array.replicate_succ, Array.replicate_zero, List.push_toArray, List.append_toArray, List.nil_append, List.cons_append]
  have HWd := Lib.hid (HW.out.trans (bdw (n := w0.heap.size) (W := W)))
  gi_wp2
  gi_cut [14] from 5 (fun v14 wx => v14 = .bool false ∧ wx = W.drew)
  case first =>
    gi_region_with (refine ⟨trivial, ?_⟩; gi_at_call 20; refine (callsIn_wide.2 (len_e (HI.out.later HWd.out))).mono ?_; rintro e w1 ⟨rfl, rfl⟩)
    all_goals
      gi_wp2
      gi_meet
      case rel => exact ⟨rfl, rfl⟩
  case rest =>
    obtain ⟨rfl, rfl⟩ := hcut
    rename_i Ka ka Kb kb
    refine kb _ _ ?_
    clear kb Kb
    gi_wp2
    have HWd2 := Lib.hid (HWd.out.trans (bdw (n := w0.heap.size) (W := W.drew)))
    gi_cut [20, 21] from 15 (fun v20 v21 wx => v20 = .int .i64 M ∧ v21 = .int .i64 0 ∧ wx = W.drew.drew)
    case first =>
      gi_region_with (refine ⟨trivial, ?_⟩; gi_at_call 20; refine (callsIn_wide.2 (len_e (HI.out.later HWd2.out))).mono ?_; rintro e w1 ⟨rfl, rfl⟩)
      all_goals
        gi_wp2
        gi_meet
        case rel => exact ⟨rfl, rfl, rfl⟩
    case rest =>
      obtain ⟨rfl, rfl, rfl⟩ := hcut
      rename_i Kc kc Kd kd
      refine kd _ _ ?_
      clear kd Kd
      clear hmm hX e1 e2 hc0 hf0 hf1
      have HJ1 := Lib.hid (HJ.out [] W W.drew.drew none HJ0.out (grown_of_below (w1 := W.drew.drew) (show Below W.heap.size W W.drew.drew from ⟨rfl, rfl, rfl, Nat.le_refl _, fun _ _ => rfl⟩) none) (fun _ h => by cases h))
      gi_wp2
      gi_loopw [21] (fun v wr => ∃ k : Nat, k ≤ M ∧ v = .int .i64 k ∧ Hid (Below w0.heap.size w0 wr) ∧ Hid (wr.heap[pb]? = some (.cells #[.pointer (some ⟨g, 0, none⟩)] 28 (0, 0))) ∧ Hid (wr.heap[fb]? = some (.cells #[.int .i64 a, .int .i64 len, .int .u8 at_] 86 (0, 0))) ∧ Hid (J (placesTo cs a k) wr) ∧ Hid (W.heap.size ≤ wr.heap.size)) (fun v _ => M - (intOf v).toNat)
      case atStart => exact ⟨0, Nat.zero_le _, rfl, HWd2, HBX, HFX, HJ1, Lib.hid (Nat.le_refl _)⟩
      case round =>
        clear HJ1 HWd2 HWd HBX HFX HW HJ0
        obtain ⟨k, hk, rfl, HW1, HB1, HF1, HJ1, HS1⟩ := hrel
        by_cases hlt : k < M
        · have HSU := Lib.hid (places_succ cs a k)
          have hc0 := boxed_cell HB1.out
          have hf0 : wr.cell? ⟨fb, 0, none⟩ = some (.int .i64 a) := (blk_cell HF1.out 0).trans rfl
          have hwk : IntKind.i64.wrap ((k : Int) + 1) = (k : Int) + 1 := by rw [Go.Proofs.YtnifkdcjphekpaaW.PrintLast.i64_w]; exact wrap_of (by omega) (by omega)
          have HD := Lib.hid (HW1.out.trans (bdw (n := w0.heap.size) (W := wr)))
          gi_wp2
          gi_region_with (first | (refine ⟨trivial, ?_⟩; gi_at_call 54; refine (callsIn_wide.2 (size_p (HI.out.later HD.out))).mono ?_; rintro e w2 ⟨rfl, hb2⟩; have HJ2 := Lib.hid (HJ.out _ _ w2 none HJ1.out (grown_of_below (w1 := w2) (show Below wr.heap.size wr w2 from (bdw (n := wr.heap.size) (W := wr)).trans hb2) none) (fun _ h => by cases h)); have HW2 := Lib.hid (HD.out.trans (hb2.mono HD.out.size)); have HB2 := Lib.hid (blk_below (w := wr) HB1.out ((bdw (n := wr.heap.size) (W := wr)).trans hb2)); have HF2 := Lib.hid (blk_below (w := wr) HF1.out ((bdw (n := wr.heap.size) (W := wr)).trans hb2)); have HS2 := Lib.hid (show W.heap.size ≤ w2.heap.size from Nat.le_trans HS1.out hb2.size); have hf2 : w2.cell? ⟨fb, 0, none⟩ = some (.int .i64 a) := (blk_cell HF2.out 0).trans rfl; clear hb2) | (refine ⟨trivial, ?_⟩; gi_at_call 53; refine (callsIn_wide.2 (move_c (HI.out.later HW2.out) _ _)).mono ?_; rintro e w3 ⟨rfl, hb3⟩; have HJ3 := Lib.hid (HJ.out _ _ w3 none HJ2.out (grown_of_below hb3 none) (fun _ h => by cases h)); have HW3 := Lib.hid (HW2.out.trans (hb3.mono HW2.out.size)); have HB3 := Lib.hid (blk_below HB2.out hb3); have HF3 := Lib.hid (blk_below HF2.out hb3); have HS3 := Lib.hid (Nat.le_trans HS2.out hb3.size); obtain ⟨fn, tmps, assign, body, hy, hR⟩ := HY.out (placesTo cs a k) ((a + ((k : Int) + 1)) % cs.length) w3 HJ3.out (by rw [placesTo_len]; omega) (Int.emod_nonneg _ (by omega)) (Int.emod_lt_of_pos _ (by omega)); clear hb3) | (refine hR.mono ?_; rintro e w4 hor; obtain ⟨bb, rfl, hor2⟩ : ∃ bb, e = .returned (.bool bb) ∧ Hid ((bb = true ∧ J (placesTo cs a k ++ [(a + ((k : Int) + 1)) % cs.length]) w4 ∧ KpB w0 L w3 w4) ∨ (bb = false ∧ Jx (placesTo cs a k ++ [(a + ((k : Int) + 1)) % cs.length]) w4)) := (by rcases hor with ⟨rfl, h1, h2⟩ | ⟨rfl, h1⟩; exact ⟨true, rfl, Lib.hid (.inl ⟨rfl, h1, h2⟩)⟩; exact ⟨false, rfl, Lib.hid (.inr ⟨rfl, h1⟩)⟩); clear hor))
          all_goals
            cases bb
            · have hjx : Hid (Jx (placesTo cs a k ++ [(a + ((k : Int) + 1)) % cs.length]) w4) := Lib.hid (by rcases hor2.out with ⟨h, _⟩ | ⟨_, h⟩; cases h; exact h)
              clear hor2 hy hR
              gi_wp2
              refine bodyPost_ret (results_none rfl _ _ _) rfl ?_
              exact ⟨⟨_, rfl⟩, .inr ⟨_, by rw [← HSU.out]; have := places_pre cs a (k + 1) (M - (k + 1)); rwa [show k + 1 + (M - (k + 1)) = M by omega] at this, hjx.out⟩⟩
            · have hj : Hid (J (placesTo cs a k ++ [(a + ((k : Int) + 1)) % cs.length]) w4 ∧ KpB w0 L w3 w4) := Lib.hid (by rcases hor2.out with ⟨_, h⟩ | ⟨h, _⟩; exact h; cases h)
              clear hor2 hy hR
              gi_wp2
              go_roundw
              case rel => exact ⟨k + 1, by omega, by go_num, Lib.hid (HW3.out.trans hj.out.2.1), Lib.hid ((hj.out.2.2 pb hL).trans HB3.out), Lib.hid ((hj.out.2.2 fb hLf).trans HF3.out), Lib.hid (by rw [HSU.out]; exact hj.out.1), Lib.hid (Nat.le_trans HS3.out hj.out.2.1.size)⟩
              case measure => simp [intOf]; omega
        · obtain rfl : k = M := by omega
          gi_wp2
          go_end0
          exact ⟨⟨_, rfl⟩, .inl ⟨_, rfl, HJ1.out⟩⟩
end Go.Proofs.Ytnifkdcjphekpaa.H

namespace Go.Proofs.Ytnifkdcjphekpaa.H
open Go.RowKit Go.Proofs.YtnifkdcjphekpaaW.PrintWords Go.Proofs.YtnifkdcjphekpaaW.PrintLast
set_option linter.unusedVariables false
set_option linter.unusedSimpArgs false
attribute [local go_sem] Oper.semAt_some

/-- A place of a plane. -/
abbrev Pl (cs : List A.S34) : Type := { x : Int // 0 ≤ x ∧ x < cs.length }
def vals {cs : List A.S34} (l : List (Pl cs)) : List Int := l.map (fun x => x.1)
theorem vals_snoc {cs : List A.S34} (l : List (Pl cs)) (x : Pl cs) : vals (l ++ [x]) = vals l ++ [x.1] := by simp [vals]
theorem all_stops (n : Nat) (hn : 1 ≤ n) (pb g c0 : Nat) (A0 : Option Addr) (r c cur : Int) (cs : List A.S34) (w0 w : World) (hI : IsP w0 g A0 c0 r c cs cur) (L : List Nat) (hL : pb ∈ L) (hW : Below w0.heap.size w0 w) (hB : w.heap[pb]? = some (.cells #[.pointer (some ⟨g, 0, none⟩)] 28 (0, 0))) :
    SeqStopsK Fence.wide n Try.prog 65 #[.pointer (some ⟨pb, 0, none⟩)] (fun x : Pl cs => #[fldV cs x.1]) (KpB w0 L) (fun ys => vals ys = startsTo cs cs.length) (fun pre => vals pre <+: startsTo cs cs.length) 4096 w := fun l J Jx W hWW hJ _ hY h0 => by
  refine (all1_in n hn l pb g c0 A0 r c cur cs w0 hI L hL (fun pre W => ∃ p : List (Pl cs), vals p = pre ∧ J p W) (fun pre W => ∃ p : List (Pl cs), vals p = pre ∧ Jx p W) W ?_ ?_ (hW.trans (hWW.mono hW.size)) (blk_below hB hWW) ⟨[], rfl, h0⟩).mono ?_
  · rintro s A B row ⟨p, rfl, hp⟩ hg hr
    exact ⟨p, rfl, hJ p A B row hp hg hr⟩
  · rintro pre x W1 ⟨p, rfl, hp⟩ hlen hx0 hx1
    obtain ⟨fn, tmps, assign, body, hy, hR⟩ := hY p ⟨x, hx0, hx1⟩ W1 hp (by simpa [vals] using hlen)
    refine ⟨fn, tmps, assign, body, hy, hR.mono ?_⟩
    rintro e W2 (⟨rfl, h1, h2⟩ | ⟨rfl, h1⟩)
    · exact .inl ⟨rfl, ⟨_, vals_snoc _ _, h1⟩, h2⟩
    · exact .inr ⟨rfl, ⟨_, vals_snoc _ _, h1⟩⟩
  · rintro e W2 ⟨hv, ⟨ys, rfl, p, hp, hj⟩ | ⟨pre, hpre, p, rfl, hj⟩⟩
    · exact ⟨hv, .inl ⟨p, hp, hj⟩⟩
    · exact ⟨hv, .inr ⟨p, hpre, hj⟩⟩
theorem places_stops (n : Nat) (hn : 1 ≤ n) (fb pb g c0 : Nat) (A0 : Option Addr) (r c cur : Int) (cs : List A.S34) (a len at_ : Int) (ha0 : 0 ≤ a) (ha1 : a < cs.length) (w0 w : World) (hI : IsP w0 g A0 c0 r c cs cur) (L : List Nat) (hL : pb ∈ L) (hLf : fb ∈ L) (hW : Below w0.heap.size w0 w)
    (hB : w.heap[pb]? = some (.cells #[.pointer (some ⟨g, 0, none⟩)] 28 (0, 0))) (hF : w.heap[fb]? = some (.cells #[.int .i64 a, .int .i64 len, .int .u8 at_] 86 (0, 0))) :
    SeqStopsK Fence.wide n Try.prog 67 #[.pointer (some ⟨fb, 0, none⟩), .pointer (some ⟨pb, 0, none⟩)] (fun x : Pl cs => #[Value.int .i64 x.1]) (KpB w0 L) (fun ys => vals ys = placesTo cs a (fldMany cs len)) (fun pre => vals pre <+: placesTo cs a (fldMany cs len)) 4096 w := fun l J Jx W hWW hJ _ hY h0 => by
  refine (places1_in n hn l fb pb g c0 A0 r c cur cs a len at_ ha0 ha1 w0 hI L hL hLf (fun pre W => ∃ p : List (Pl cs), vals p = pre ∧ J p W) (fun pre W => ∃ p : List (Pl cs), vals p = pre ∧ Jx p W) W ?_ ?_ (hW.trans (hWW.mono hW.size)) (blk_below hB hWW) (blk_below hF hWW) ⟨[], rfl, h0⟩).mono ?_
  · rintro s A B row ⟨p, rfl, hp⟩ hg hr
    exact ⟨p, rfl, hJ p A B row hp hg hr⟩
  · rintro pre x W1 ⟨p, rfl, hp⟩ hlen hx0 hx1
    obtain ⟨fn, tmps, assign, body, hy, hR⟩ := hY p ⟨x, hx0, hx1⟩ W1 hp (by simpa [vals] using hlen)
    refine ⟨fn, tmps, assign, body, hy, hR.mono ?_⟩
    rintro e W2 (⟨rfl, h1, h2⟩ | ⟨rfl, h1⟩)
    · exact .inl ⟨rfl, ⟨_, vals_snoc _ _, h1⟩, h2⟩
    · exact .inr ⟨rfl, ⟨_, vals_snoc _ _, h1⟩⟩
  · rintro e W2 ⟨hv, ⟨ys, rfl, p, hp, hj⟩ | ⟨pre, hpre, p, rfl, hj⟩⟩
    · exact ⟨hv, .inl ⟨p, hp, hj⟩⟩
    · exact ⟨hv, .inr ⟨p, hpre, hj⟩⟩
set_option maxHeartbeats 1000000 in
theorem all_c (n : Nat) (g : Nat) (w : World) :
    CallsIn Fence.wide n Try.prog 51 #[.pointer (some ⟨g, 0, none⟩)] w fun e w' => e = .returned (.func (.func 65) #[] #[.pointer (some ⟨w.heap.size, 0, none⟩)]) ∧ w' = w.alloc (.cells #[.pointer (some ⟨g, 0, none⟩)] 28) := by
  refine callsIn_of_wp Try.func51 rfl trivial ?_ rfl
  simp only [Try.ntmps51, List.size_toArray, List.length_cons, List.length_nil, Nat.reduceAdd, Nat.reduceSub, Array.replicate_succ, Array.replicate_zero, List.push_toArray, List.append_toArray, List.nil_append, List.cons_append]
  gi_wp2
  go_ret
  exact ⟨rfl, rfl⟩
set_option maxHeartbeats 1000000 in
theorem places_c (n : Nat) (g : Nat) (a len at_ : Int) (w : World) :
    CallsIn Fence.wide n Try.prog 55 #[.pointer (some ⟨g, 0, none⟩), .agg #[.int .i64 a, .int .i64 len, .int .u8 at_]] w fun e w' => e = .returned (.func (.func 67) #[] #[.pointer (some ⟨w.heap.size + 1, 0, none⟩), .pointer (some ⟨w.heap.size, 0, none⟩)]) ∧
      w' = (w.alloc (.cells #[.pointer (some ⟨g, 0, none⟩)] 28)).alloc (.cells #[.int .i64 a, .int .i64 len, .int .u8 at_] 86) := by
  have hu86 := Try.underlying86
  refine callsIn_of_wp Try.func55 rfl trivial ?_ rfl
  simp only [Try.ntmps55, List.size_toArray, List.length_cons, List.length_nil, Nat.reduceAdd, Nat.reduceSub, Array.replicate_succ, Array.replicate_zero, List.push_toArray, List.append_toArray, List.nil_append, List.cons_append]
  gi_wp2
  go_ret
  exact ⟨rfl, rfl⟩
end Go.Proofs.Ytnifkdcjphekpaa.H

