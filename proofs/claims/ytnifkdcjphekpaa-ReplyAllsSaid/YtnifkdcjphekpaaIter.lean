/- field.All, field.Places: the iterators. -/
import Derived.LoopNIn
import Derived.LoopIn
import Derived.Maps.AppendAt
import Derived.Maps.OwnIn
import Derived.Deep.DeepMust
import Derived.KernelRfl
import Derived.RangeFuncBox
import Derived.RangeFuncNested
import Derived.RangeFuncBound
import Derived.RangeFuncCalls
import Derived.RangeFuncLeaves
import Derived.Test.YtnifkdcjphekpaaExact
namespace Go.Proofs.Ytnifkdcjphekpaa.H
open Go.RowKit Go.Proofs.YtnifkdcjphekpaaW.PrintWords Go.Proofs.YtnifkdcjphekpaaW.PrintLast
set_option linter.unusedVariables false
set_option linter.unusedSimpArgs false
attribute [local go_sem] Oper.semAt_some

/-- What a round of a loop over a plane keeps. -/
def KpB (w0 : World) (L : List Nat) (A A' : World) : Prop := Below w0.heap.size A A' ∧ ∀ b, b ∈ L → A'.heap[b]? = A.heap[b]?
theorem KpB.trans {w0 A B C : World} {L : List Nat} (h : KpB w0 L A B) (k : KpB w0 L B C) : KpB w0 L A C := ⟨h.1.trans k.1, fun b hb => (k.2 b hb).trans (h.2 b hb)⟩
/-- The places with an attribute, ahead of the k-th. -/
def startsTo (cs : List A.S34) (k : Nat) : List Int := ((List.range k).map (fun (i : Nat) => (i : Int))).filter (fun i => (A.rd_T34 cs i).f2)
theorem starts_succ (cs : List A.S34) (k : Nat) : startsTo cs (k + 1) = startsTo cs k ++ (if (A.rd_T34 cs (k : Int)).f2 = true then [(k : Int)] else []) := by
  unfold startsTo
  rw [List.range_succ, List.map_append, List.filter_append]
  congr 1
  simp only [List.map_cons, List.map_nil, List.filter_cons, List.filter_nil]
theorem starts_len (cs : List A.S34) : ∀ k, (startsTo cs k).length ≤ k := fun k => by
  have := List.length_filter_le (fun i => (A.rd_T34 cs i).f2) ((List.range k).map (fun (i : Nat) => (i : Int)))
  simpa [startsTo] using this
theorem starts_pre (cs : List A.S34) (k : Nat) : ∀ m, startsTo cs k <+: startsTo cs (k + m)
  | 0 => List.prefix_refl _
  | m + 1 => (starts_pre cs k m).trans (by rw [← Nat.add_assoc, starts_succ]; exact List.prefix_append _ _)
theorem boxed_cell {W : World} {b : Nat} {v : Value} {t : TypeId} (h : W.heap[b]? = some (.cells #[v] t (0, 0))) : W.cell? ⟨b, 0, none⟩ = some v := (blk_cell h 0).trans rfl

set_option maxHeartbeats 2000000 in
set_option maxRecDepth 100000 in
theorem all1_in (n : Nat) (hn : 1 ≤ n) (l pb g c0 : Nat) (A0 : Option Addr) (r c cur : Int) (cs : List A.S34) (w0 : World) (hI : IsP w0 g A0 c0 r c cs cur) (L : List Nat) (hL : pb ∈ L) (J Jx : List Int → World → Prop) (W : World) (hJ : AbidesFrom W.heap.size J)
    (hY : ∀ pre (x : Int) W, J pre W → pre.length < 4096 → 0 ≤ x → x < (cs.length : Int) → YieldAt Fence.wide (n - 1) Try.prog l #[fldV cs x] W fun e W' =>
      (e = .returned (.bool true) ∧ J (pre ++ [x]) W' ∧ KpB w0 L W W') ∨ (e = .returned (.bool false) ∧ Jx (pre ++ [x]) W'))
    (hW : Below w0.heap.size w0 W) (hB : W.heap[pb]? = some (.cells #[.pointer (some ⟨g, 0, none⟩)] 28 (0, 0))) (h0 : J [] W) :
    CallsIn Fence.wide n Try.prog 65 #[.func (.yield l) #[] #[], .pointer (some ⟨pb, 0, none⟩)] W fun e W' => (∃ v, e = .returned v) ∧
      ((∃ ys, ys = startsTo cs cs.length ∧ J ys W') ∨ (∃ pre, pre <+: startsTo cs cs.length ∧ Jx pre W')) := by
  have hf2 := run_f2
  have hsm := hI.small
  have HI := Lib.hid hI
  have HJ := Lib.hid hJ
  have HY := Lib.hid hY
  have HW := Lib.hid hW
  have HBX := Lib.hid hB
  have hc0 := boxed_cell hB
  have HJ0 := Lib.hid h0
  clear hI hJ hY hW hB h0
  refine callsIn_of_wp Try.func65 rfl trivial ?_ rfl
  simp only [Try.ntmps65, List.size_toArray, List.length_cons, List.length_nil, Nat.reduceAdd, Nat.reduceSub, Array.replicate_succ, Array.replicate_zero, List.push_toArray, List.append_toArray, List.nil_append, List.cons_append]
  gi_wp2_with (refine ⟨trivial, ?_⟩; gi_at_call 20; refine (callsIn_wide.2 (len_p (HI.out.later HW.out))).mono ?_; rintro e w1 ⟨rfl, hb1⟩; have HJ1 := Lib.hid (HJ.out [] W w1 none HJ0.out (grown_of_below hb1 none) (fun _ h => by cases h)); have HW1 := Lib.hid (HW.out.trans (hb1.mono HW.out.size)); have HB1 := Lib.hid (blk_below HBX.out hb1); have HS1 := Lib.hid hb1.size; clear hb1)
  gi_loopw [6] (fun v wr => ∃ k : Nat, k ≤ cs.length ∧ v = .int .i64 k ∧ Hid (Below w0.heap.size w0 wr) ∧ Hid (wr.heap[pb]? = some (.cells #[.pointer (some ⟨g, 0, none⟩)] 28 (0, 0))) ∧ Hid (J (startsTo cs k) wr) ∧ Hid (W.heap.size ≤ wr.heap.size)) (fun v _ => cs.length - (intOf v).toNat)
  case atStart => exact ⟨0, Nat.zero_le _, rfl, HW1, HB1, HJ1, HS1⟩
  case round =>
    clear HJ1 HW1 HB1 HS1
    obtain ⟨k, hk, rfl, HW1, HB1, HJ1, HS1⟩ := hrel
    clear hc0
    have hc0 := boxed_cell HB1.out
    by_cases hlt : k < cs.length
    · have hsu := starts_succ cs k
      by_cases hst : (A.rd_T34 cs (k : Int)).f2 = true
      · rw [if_pos hst] at hsu
        have HSU := Lib.hid hsu
        clear hsu
        gi_wp2_with (refine ⟨trivial, ?_⟩; (first | (gi_at_call 15; refine (callsIn_wide.2 (at_p (HI.out.later HW1.out) (k : Int) (by omega) (by omega))).mono ?_; rintro e w2 ⟨rfl, hb2⟩; have HJ2 := Lib.hid (HJ.out _ _ w2 none HJ1.out (grown_of_below hb2 none) (fun _ h => by cases h)); have HW2 := Lib.hid (HW1.out.trans (hb2.mono HW1.out.size)); have HB2 := Lib.hid (blk_below HB1.out hb2); have HS2 := Lib.hid (Nat.le_trans HS1.out hb2.size); have hc2 := boxed_cell HB2.out; clear hb2) | (gi_at_call 66; refine (callsIn_wide.2 (fld_p (HI.out.later HW2.out) (k : Int) (by omega) (by omega))).mono ?_; rintro e w3 ⟨rfl, hb3⟩; have HJ3 := Lib.hid (HJ.out _ _ w3 none HJ2.out (grown_of_below hb3 none) (fun _ h => by cases h)); have HW3 := Lib.hid (HW2.out.trans (hb3.mono HW2.out.size)); have HB3 := Lib.hid (blk_below HB2.out hb3); have HS3 := Lib.hid (Nat.le_trans HS2.out hb3.size); obtain ⟨fn, tmps, assign, body, hy, hR⟩ := HY.out (startsTo cs k) (k : Int) w3 HJ3.out (by have := starts_len cs k; omega) (by omega) (by omega); clear hb3)))
        refine hR.mono ?_
        rintro e W4 (⟨rfl, hj4, hk4⟩ | ⟨rfl, hjx4⟩)
        · have HJ4 := Lib.hid hj4
          have HK4 := Lib.hid hk4
          clear hj4 hk4 hy hR
          gi_wp2
          go_roundw
          case rel => exact ⟨k + 1, by omega, by go_num, Lib.hid (HW3.out.trans HK4.out.1), Lib.hid ((HK4.out.2 pb hL).trans HB3.out), Lib.hid (by rw [HSU.out]; exact HJ4.out), Lib.hid (Nat.le_trans HS3.out HK4.out.1.size)⟩
          case measure => simp [intOf]; omega
        · have HJ4 := Lib.hid hjx4
          clear hjx4 hy hR
          gi_wp2
          refine bodyPost_ret (results_none rfl _ _ _) rfl ?_
          exact ⟨⟨_, rfl⟩, .inr ⟨_, by rw [← HSU.out]; have := starts_pre cs (k + 1) (cs.length - (k + 1)); rwa [show k + 1 + (cs.length - (k + 1)) = cs.length by omega] at this, HJ4.out⟩⟩
      · rw [if_neg hst, List.append_nil] at hsu
        have hst := Bool.eq_false_iff.2 hst
        have HSU := Lib.hid hsu
        clear hsu
        gi_wp2_with (refine ⟨trivial, ?_⟩; (gi_at_call 15; refine (callsIn_wide.2 (at_p (HI.out.later HW1.out) (k : Int) (by omega) (by omega))).mono ?_; rintro e w2 ⟨rfl, hb2⟩; have HJ2 := Lib.hid (HJ.out _ _ w2 none HJ1.out (grown_of_below hb2 none) (fun _ h => by cases h)); have HW2 := Lib.hid (HW1.out.trans (hb2.mono HW1.out.size)); have HB2 := Lib.hid (blk_below HB1.out hb2); have HS2 := Lib.hid (Nat.le_trans HS1.out hb2.size); clear hb2))
        refine ⟨trivial, ?_⟩
        gi_wp2
        refine ⟨fun _ h => (by cases h), ?_⟩
        gi_wp2
        go_roundw
        case rel => exact ⟨k + 1, by omega, by go_num, HW2, HB2, Lib.hid (by rw [HSU.out]; exact HJ2.out), HS2⟩
        case measure => simp [intOf]; omega
    · obtain rfl : k = cs.length := by omega
      gi_wp2
      go_end0
      exact ⟨⟨_, rfl⟩, .inl ⟨_, rfl, HJ1.out⟩⟩
end Go.Proofs.Ytnifkdcjphekpaa.H
