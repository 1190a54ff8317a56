/- The document's Encode, head. -/
import Derived.Test.YtnifkdcjphekpaaMade
import Derived.Test.YtnifkdcjphekpaaLook
namespace Go.Proofs.Ytnifkdcjphekpaa.H
open Go.RowKit Go.Proofs.YtnifkdcjphekpaaW.PrintWords Go.Proofs.YtnifkdcjphekpaaW.PrintLast
set_option linter.unusedVariables false
set_option linter.unusedSimpArgs false
theorem and63 (a : Int) : Go.bits .and .i64 a 63 = a % 64 := by
  unfold Go.bits
  simp only [BitVec.toNat_and, BitVec.toNat_ofInt]
  have e1 : ((63 : Int) % ((2 ^ IntKind.i64.bits : Nat) : Int)).toNat = 2 ^ 6 - 1 := by decide
  rw [e1, Nat.and_two_pow_sub_one_eq_mod]
  have h : (((a % ((2 ^ IntKind.i64.bits : Nat) : Int)).toNat % 2 ^ 6 : Nat) : Int) = a % 64 := by
    have e2 : ((2 ^ IntKind.i64.bits : Nat) : Int) = 18446744073709551616 := by decide
    rw [e2]
    omega
  rw [h, IntKind.wrap_i64]
  omega
theorem dig_mod (a : Int) : dig (a % 64) = dig a := by
  unfold dig A.addr_Digit.f
  rw [and63 (a % 64), and63 a, Int.emod_emod_of_dvd a (by decide)]
theorem fin_dig : ∀ q : Fin 64, A.greenscreenref02_Digit.f ((q.val : Nat) : Int) = A.addr_Digit.f ((q.val : Nat) : Int) := by decide +kernel
theorem ref_dig (a : Int) (h0 : 0 ≤ a) (h : a < 64) : A.greenscreenref02_Digit.f a = some (dig a) := by
  have := fin_dig ⟨a.toNat, by omega⟩
  rw [show ((a.toNat : Nat) : Int) = a by omega] at this
  rw [this, dig_f]
set_option maxHeartbeats 2000000 in
set_option maxRecDepth 100000 in
theorem rencode_p (a n : Int) (w : World) (h0 : 0 ≤ a) (ha : a < n) (hn : n ≤ 4096) :
    Calls Try.prog 43 #[.int .i64 a, .int .i64 n] w fun e w' => e = .returned (.tuple #[.agg #[.int .u8 (dig (a / 64)), .int .u8 (dig a)], .int .i64 0]) ∧ Below w.heap.size w w' := by
  have hu74 := Try.underlying74
  have e1 : decide (n < 1) = false := by simp; omega
  have e2 : decide (n > 16384) = false := by simp; omega
  have e3 : decide (a < 0) = false := by simp; omega
  have e4 : decide (a ≥ n) = false := by simp; omega
  have e5 : decide (n > 4096) = false := by simp; omega
  have e6 : Int.tdiv a 64 = a / 64 := Int.tdiv_eq_ediv_of_nonneg h0
  have e7 : Int.tmod a 64 = a % 64 := Int.tmod_eq_emod_of_nonneg h0
  have e8 : wrap64 (a / 64) = a / 64 := wrap_of (by omega) (by omega)
  have e9 : wrap64 (a % 64) = a % 64 := wrap_of (by omega) (by omega)
  have h1 := ref_dig (a / 64) (by omega) (by omega)
  have h2 := ref_dig (a % 64) (by omega) (by omega)
  rw [dig_mod] at h2
  have H12 := Lib.hid (And.intro h1 h2)
  clear h1 h2
  go_enter Try.func43, Try.ntmps43
  go_wp2_with (go_at_call 45; first | ((with_reducible refine (A.greenscreenref02_Digit.calls (a / 64) _ _ H12.out.1).mono ?_); rintro e w1 ⟨rfl, hm⟩; obtain ⟨m1, rfl⟩ := hm.out; clear hm) | ((with_reducible refine (A.greenscreenref02_Digit.calls (a % 64) _ _ H12.out.2).mono ?_); rintro e w1 ⟨rfl, hm⟩; obtain ⟨m2, rfl⟩ := hm.out; clear hm))
  have h0 := heap_alloc_new w (Obj.cells #[.int .u8 0, .int .u8 0] 74)
  have h1 := blk_drewN h0 (m1 + m2)
  have h2 := blk_set h1 0 (.int .u8 (dig (a / 64)))
  have h3 := blk_set h2 1 (.int .u8 (dig a))
  simp only [List.setIfInBounds_toArray, List.set_cons_zero, List.set_cons_succ] at h3
  refine bodyPost_ret (results_ct rfl _ _ w.heap.size 74 #[.int .u8 (dig (a / 64)), .int .u8 (dig a)] (0, 0) _ rfl h3 Try.underlying74 rfl (by kernel_rfl)) rfl ?_
  exact ⟨rfl, Below.setCell (Below.setCell (pw_below_drewN (below_alloc (Below.refl _ _) _) _) (Nat.le_refl _) _) (Nat.le_refl _) _⟩
section
variable {w : World} {c2 n : Nat} {A : Option Addr} {r c cur : Int}
set_option maxHeartbeats 2000000 in
set_option maxRecDepth 100000 in
theorem rhead_p (h0 : 0 ≤ cur) (h1 : cur < n) (h4 : n ≤ 4096) (aid : Int) : Calls Try.prog 39 #[.agg #[.int .i64 r, .int .i64 c, .slice A n c2, .int .i64 cur], .int .u8 aid] w fun e W' => ∃ v, e = .returned v ∧ W'.ownsRow w.heap.size 5 1 v (headL cur aid).length (nu (headL cur aid)) ∧ Below w.heap.size w W' := by
  have hu30 := Try.underlying30
  have hu74 := Try.underlying74
  have hb0 := below_alloc (Below.refl w.heap.size w) (.cells #[.int .i64 r, .int .i64 c, .slice A n c2, .int .i64 cur] 30)
  have HB0 := Lib.hid hb0
  clear hb0
  go_enter Try.func39, Try.ntmps39
  go_wp2_with (go_at_call 43; (with_reducible refine (rencode_p cur n _ h0 h1 (by omega)).mono ?_); rintro e w1 ⟨rfl, hb⟩; have HB1 := Lib.hid (below_step HB0.out hb); clear hb)
  go_ret
  exact ⟨_, rfl, ⟨rfl, .inr ⟨_, 3, _, rfl, by have := HB1.out.size; omega, by have h := heap_alloc_new (w1.alloc (.cells #[.int .u8 (dig (cur / 64)), .int .u8 (dig cur)] 74)) (.cells #[.int .u8 aid, .int .u8 (dig (cur / 64)), .int .u8 (dig cur)] 5); simpa using h, Nat.le_refl _, by decide, rfl, rfl⟩⟩, below_alloc (below_alloc HB1.out _) _⟩
end
end Go.Proofs.Ytnifkdcjphekpaa.H
