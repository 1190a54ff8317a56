/- reply.place: a place's two bytes. -/
import Derived.Test.YtnifkdcjphekpaaAx2
import Derived.Lib.Hide
namespace Go.Proofs.Ytnifkdcjphekpaa.H
open Go.RowKit Go.Proofs.YtnifkdcjphekpaaW.PrintWords Go.Proofs.YtnifkdcjphekpaaW.PrintLast Go.Proofs.YtnifkdcjphekpaaW.PrintMore
set_option linter.unusedVariables false
set_option linter.unusedSimpArgs false
theorem dig_ok (a : Int) : ∃ r, A.addr_Digit.f a = some r := by
  unfold A.addr_Digit.f
  repeat (first | exact ⟨_, rfl⟩ | split)
/-- A digit's byte. -/
def dig (a : Int) : Int := (A.addr_Digit.f a).getD 0
theorem dig_f (a : Int) : A.addr_Digit.f a = some (dig a) := by
  obtain ⟨r, h⟩ := dig_ok a
  rw [dig, h]
  rfl
set_option maxHeartbeats 1000000 in
theorem encode_calls (a n : Int) (w : World) (h0 : 0 ≤ a) (ha : a < n) (hn : n ≤ 4096) :
    Calls Try.prog 49 #[.int .i64 a, .int .i64 n] w fun e w' => e = .returned (.tuple #[.agg #[.int .u8 (dig (a / 64)), .int .u8 (dig a)], .int .i64 0]) ∧ Below w.heap.size w w' := by
  have e1 : decide (n < 1) = false := by simp; omega
  have e2 : decide (16384 < n) = false := by simp; omega
  have e3 : decide (a < 0) = false := by simp; omega
  have e4 : decide (n ≤ a) = false := by simp; omega
  have e5 : decide (4096 < n) = false := by simp; omega
  go_enter Try.func49, Try.ntmps49
  go_wp2_with (go_at_call 58; with_reducible refine (A.addr_Digit.calls _ _ _ (dig_f _)).mono ?_; rintro e w1 ⟨rfl, hm⟩; first | (have hg := m1; clear hg; obtain ⟨m2, rfl⟩ := hm.out; clear hm) | (obtain ⟨m1, rfl⟩ := hm.out; clear hm))
  have h0 := heap_alloc_new w (Obj.cells #[.int .u8 0, .int .u8 0] 74)
  have h1 := blk_drewN h0 (m1 + m2)
  have h2 := blk_set h1 0 (.int .u8 (dig (a / 64)))
  have h3 := blk_set h2 1 (.int .u8 (dig a))
  simp only [List.setIfInBounds_toArray, List.set_cons_zero, List.set_cons_succ] at h3
  refine bodyPost_ret (results_ct rfl _ _ w.heap.size 74 #[.int .u8 (dig (a / 64)), .int .u8 (dig a)] (0, 0) _ rfl h3 Try.underlying74 rfl (by kernel_rfl)) rfl ?_
  exact ⟨rfl, Below.setCell (Below.setCell (pw_below_drewN (below_alloc (Below.refl _ _) _) _) (Nat.le_refl _) _) (Nat.le_refl _) _⟩
theorem place_calls (g : Nat) (r c cur : Int) (cs : List A.S34) (a : Int) (w0 w : World) (hI : A.IsS65 w0 w g r c cs cur) (hB : Below w0.heap.size w0 w) (h0 : 0 ≤ a) (ha : a < cs.length) (hn : cs.length ≤ 4096) :
    Calls Try.prog 27 #[.pointer (some ⟨g, 0, none⟩), .int .i64 a] w fun e w' => ∃ b, e = .returned (.slice (some ⟨b, 0, none⟩) 2 2) ∧ w'.heap[b]? = some (.cells #[.int .u8 (dig (a / 64)), .int .u8 (dig a)] 74 (0, 0)) ∧ w.heap.size ≤ b ∧ A.IsS65 w0 w' g r c cs cur ∧ Below w0.heap.size w0 w' ∧ KeepBut w w' g none := by
  have HI := Lib.hid hI
  have HB := Lib.hid hB
  clear hI hB
  go_enter Try.func27, Try.ntmps27
  go_wp2_with (first | (go_at_call 20; with_reducible refine (A.plane_Plane_Len.calls g r c cs cur cs.length r c cur w0 _ HI.out HB.out rfl).mono ?_; rintro e w1 ⟨rfl, hi1, hb1, hk1⟩; have HI1 := Lib.hid hi1; have HB1 := Lib.hid hb1; have HK1 := Lib.hid hk1; clear hi1 hb1 hk1) | (go_at_call 49; with_reducible refine (encode_calls a cs.length _ h0 ha (by omega)).mono ?_; rintro e w2 ⟨rfl, hb2⟩; have HB2 := Lib.hid hb2; clear hb2))
  go_ret
  exact ⟨_, rfl, heap_alloc_new _ _, Nat.le_trans HK1.out.1 HB2.out.size, (HI1.out.below HB2.out).alloc _, below_alloc (HB1.out.trans (HB2.out.mono HB1.out.size)) _, by
    refine ⟨?_, fun i hi hig hr => ?_⟩
    · have h1 := HK1.out.1
      have h2 := HB2.out.size
      simp
      omega
    · have h1 := HK1.out.1
      have h2 := HB2.out.size
      rw [Below.heap_alloc _ _ _ (by omega), HB2.out.block i (by omega), HK1.out.2 i hi hig hr]⟩
end Go.Proofs.Ytnifkdcjphekpaa.H
