/- header.Counter: what Got does. -/
import Derived.Test.YtnhogaelhggheaaHand
namespace Go.Proofs.Ytnhogaelhggheaa.P
open Go.RowKit Go.Proofs.YtnhogaelhggheaaW.PrintWords Go.Proofs.YtnhogaelhggheaaW.PrintLast Go.Proofs.YtnhogaelhggheaaW.PrintMore
set_option linter.unusedVariables false
set_option linter.unusedSimpArgs false

open Go.Sort (Holds putRow putCells mapBlock)
attribute [local go_sem] max2_int min2_int max_two min_two max_three min_three max_four min_four
set_option maxHeartbeats 2000000 in
set_option maxRecDepth 100000 in
theorem got_calls (g : Nat) (n : Int) (xs : List Int) (a : Int) (w0 w : World) (hI : IsS50 w0 w g n xs) (hB : Below w0.heap.size w0 w) (hlim : xs.length < 100000) :
    Calls Try.prog 21 #[.pointer (some ⟨g, 0, none⟩), .int .u16 a] w fun e w' => e = .returned (.bool (decide (a ∈ xs))) ∧ IsS50 w0 w' g n (xs.erase a) ∧ Below w0.heap.size w0 w' ∧ KeepT w w' g 23 := by
  have hI' := Aside0.mk hI
  have hB' := Aside0.mk hB
  obtain ⟨v, hb, hg, hq⟩ := hI
  obtain ⟨Aa, c, rfl, hle⟩ := Kd.Q_slice hq
  have hc1 : w.cell? ⟨g, 1, none⟩ = some (.slice Aa xs.length c) := (blk_cell hb 1).trans rfl
  have hf1 := blk_frozen hb 1
  have HC := Aside0.mk (Kd.Q_reads' hq).2.2
  have HQ := Aside0.mk hq
  have HBK := Aside0.mk hb
  clear hq hb hB
  obtain ⟨r, hix, hr⟩ := index_f xs a hlim xs.length (xs.length + 1) 0 (by omega) (by omega) (fun t ht => by omega)
  have HIX := Aside0.mk (show A.slices_Index_uint16_uint16.f (xs.length + 1) xs a = some r from hix)
  clear hix
  rcases hr with ⟨hnot, rfl⟩ | ⟨j, rfl, hj, hja, hjn⟩
  · go_enter Try.func21, Try.ntmps21
    go_wp2_with (first | ((with_reducible refine gate_callee (f := 26) rfl ?_); refine goesL_ (some 11) rfl rfl Try.func26 (by kernel_rfl) rfl #[.slice Aa xs.length c, .int .u16 a] rfl (by (try simp only [List.map_toArray, List.map_cons, List.map_nil]); first | done | rfl) ?_; (with_reducible refine (A.slices_Index_uint16_uint16.calls (xs.length + 1) Aa c xs a (-1) _ HC.out hle HIX.out).mono ?_); rintro e w1 ⟨rfl, ⟨nd, rfl⟩⟩; refine ⟨_, rfl, ?_⟩) | go_in)
    go_ret
    rw [List.erase_of_not_mem hnot]
    exact ⟨by simp [hnot], hI'.out.drewN _, pw_below_drewN hB'.out _, KeepT.of_below _ _ (pw_below_drewN (Below.refl _ _) _)⟩
  · have HJA := Aside0.mk hja
    have HJN := Aside0.mk hjn
    clear hja hjn
    obtain ⟨p, o, cap, hv, hp0, hpl, cells, hpc⟩ := Kd.Q_form HQ.out (by omega)
    injection hv with e1 e2 e3
    subst e1 e3
    have hpg : p ≠ g := Kd.Q_ok HQ.out p rfl
    have hH : Holds (Value.int .u16) w p o xs.toArray := fun t ht => by
      have h := Kd.Q_cell (0 : Int) HQ.out (t : Int) (by omega) (by simp at ht; omega)
      simp only [Int.toNat_natCast] at h
      have e : rdOf (0 : Int) xs (t : Int) = xs.toArray[t]! := by
        simp at ht
        simp [rdOf, List.getD, ht]
      rw [e] at h
      exact h
    obtain ⟨inner, ⟨hl1, hor⟩, hreps⟩ := HQ.out.2
    rcases hor with ⟨h0, _⟩ | ⟨p', off, cap', cur, hv2, hb0, hbp, hn, hmx, hcs, hct⟩
    · omega
    simp only [Kd.int, Kd.scalar, Nat.mul_one] at hv2 hcs hct
    injection hv2 with e1 e2 e3
    injection e1 with e1
    injection e1 with e1 e4
    subst e1 e3 e4
    have hmax : c ≤ 9223372036854775807 := by simp only [maxLen] at hmx; omega
    have HHO := Aside0.mk hH
    have HBP := Aside0.mk hbp
    clear hH hbp hreps hl1 hct
    have hw1 : wrap64 ((j : Int) + 1) = (j : Int) + 1 := by unfold wrap64; omega
    have HDL := Aside0.mk (fun (W : World) (hW : Holds (Value.int .u16) W p o xs.toArray) => delete_calls p o c j xs.toArray W hW (by simpa using hle) hmax (by simpa using hj))
    simp only [List.size_toArray] at HDL
    have HPUT := Aside0.mk (show ∀ nd q W2, W2 = putRow (Value.int .u16) (Go.Sort.ahead (w.drewN nd) q) p o (xs.toArray.toList.take j ++ xs.toArray.toList.drop (j + 1) ++ [0]).toArray →
        W2.heap[g]? = some (.cells #[.int .u16 n, .slice (some ⟨p, o, none⟩) xs.length c] 50 (0, 0)) ∧ W2.heap[p]? = some (.cells (putCells (Value.int .u16) o (xs.toArray.toList.take j ++ xs.toArray.toList.drop (j + 1) ++ [0]).toArray cur) 23 (0, 0)) ∧ (∀ i, i ≠ p → W2.heap[i]? = w.heap[i]?) ∧ W2.heap.size = w.heap.size ∧ Below w0.heap.size w0 W2 from by
      rintro nd q W2 rfl
      have ho : ∀ i, i ≠ p → (putRow (Value.int .u16) (Go.Sort.ahead (w.drewN nd) q) p o (xs.toArray.toList.take j ++ xs.toArray.toList.drop (j + 1) ++ [0]).toArray).heap[i]? = w.heap[i]? := fun i hi => heap_putRow_other _ _ _ _ _ hi
      refine ⟨(ho g (Ne.symm hpg)).trans HBK.out, heap_putRow_same _ _ _ _ _ HBP.out, ho, by simp [Go.Sort.ahead], ⟨hB'.out.os, hB'.out.tape, hB'.out.output, by have := hB'.out.size; simpa [Go.Sort.ahead] using this, fun i hi => (ho i (by omega)).trans (hB'.out.block i hi)⟩⟩)
    have HMX := Aside0.mk hmx
    have HCS := Aside0.mk hcs
    have HPG := Aside0.mk hpg
    clear hmx hmax hcs hpc hb0 hp0 hpl hn hpg cells
    go_enter Try.func21, Try.ntmps21
    go_wp2_with (first | ((with_reducible refine gate_callee (f := 26) rfl ?_); refine goesL_ (some 11) rfl rfl Try.func26 (by kernel_rfl) rfl #[.slice (some ⟨p, o, none⟩) xs.length c, .int .u16 a] rfl (by (try simp only [List.map_toArray, List.map_cons, List.map_nil]); first | done | rfl) ?_; (with_reducible refine (A.slices_Index_uint16_uint16.calls (xs.length + 1) _ c xs a j _ HC.out hle HIX.out).mono ?_); rintro e w1 ⟨rfl, ⟨nd, rfl⟩⟩; refine ⟨_, rfl, ?_⟩) | ((with_reducible refine gate_callee (f := 27) rfl ?_); refine goesL_ (some 22) rfl rfl Try.func27 (by kernel_rfl) rfl #[.slice (some ⟨p, o, none⟩) xs.length c, .int .i64 j, .int .i64 ((j : Int) + 1)] rfl (by (try simp only [List.map_toArray, List.map_cons, List.map_nil]); first | done | rfl) ?_; refine (HDL.out (w.drewN nd) HHO.out).mono ?_; rintro e w2 ⟨rfl, q, hw2⟩; refine ⟨_, rfl, ?_⟩; have HF := Aside0.mk (HPUT.out nd q w2 hw2); clear hw2; have hc2 := (blk_cell HF.out.1 1).trans rfl; have hf2 := blk_frozen HF.out.1 1))
    go_ret
    obtain ⟨q1, q2, q3, q4, q5⟩ := HF.out
    have hmx := HMX.out
    have hcs := HCS.out
    have hpg := HPG.out
    have hp0 : w0.heap.size ≤ p := (Kd.Q_base HQ.out) p rfl
    have he := erase_first xs j HJA.out HJN.out
    have hlen : (xs.erase a).length = xs.length - 1 := by rw [← he]; simp; omega
    have hmem : decide (a ∈ xs) = true := decide_eq_true (List.mem_of_getElem? HJA.out)
    have hk3 := blk_set q1 1 (.slice (some ⟨p, o, none⟩) (xs.length - 1) c)
    simp only [List.setIfInBounds_toArray, List.set_cons_zero, List.set_cons_succ] at hk3
    refine ⟨by rw [hmem]; rfl, ⟨_, hk3, hg, ?_⟩, Below.setCell q5 (p := ⟨g, 1, none⟩) hg _, ?_⟩
    · refine ⟨fun k hk => ?_, encs (Value.int .u16) (xs.erase a), ⟨?_, .inr ⟨p, o, c, _, ?_, hp0, (Below.heap_setCell _ _ _ p hpg).trans q2, by rw [hlen]; omega, hmx, ?_, ?_⟩⟩, Kd.reps_scalar _⟩
      · simp [Value.ownBlock] at hk
        omega
      · simp [encs, Kd.int, Kd.scalar]
      · simp [hlen, Kd.int, Kd.scalar]
      · simpa [putCells, Kd.int, Kd.scalar] using hcs
      · simp only [Kd.int, Kd.scalar, Nat.mul_one]
        have h := put_take (Value.int .u16) o (xs.erase a) 0 cur (by omega)
        rw [show (xs.toArray.toList.take j ++ xs.toArray.toList.drop (j + 1) ++ [0]) = xs.erase a ++ [0] by rw [← he]]
        exact h
    · refine ⟨by simp [q4], fun i hi hig hty => ?_⟩
      rw [Below.heap_setCell _ _ _ _ hig, q3 i (fun e => ?_)]
      subst e
      exact hty _ _ HBP.out
end Go.Proofs.Ytnhogaelhggheaa.P
