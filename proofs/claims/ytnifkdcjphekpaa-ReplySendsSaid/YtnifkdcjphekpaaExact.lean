/- plane.Plane, field: what the readers of a plane hand back, nothing being turned. -/
import Derived.Test.YtnifkdcjphekpaaPlace
namespace Go.Proofs.Ytnifkdcjphekpaa.H
open Go.RowKit Go.Proofs.YtnifkdcjphekpaaW.PrintWords Go.Proofs.YtnifkdcjphekpaaW.PrintLast Go.Proofs.YtnifkdcjphekpaaW.PrintMore
set_option linter.unusedVariables false
set_option linter.unusedSimpArgs false
def cells (s0 s1 : Int) : Int := if s0 < 1 ∨ s0 > 43 ∨ s1 < 1 ∨ s1 > 132 ∨ s0 * s1 > 4096 then 0 else s0 * s1
theorem cells_f (s0 s1 : Int) : A.addr_Cells.f s0 s1 = some (cells s0 s1) := by
  unfold A.addr_Cells.f cells
  by_cases h1 : s0 < 1
  · simp [h1]
  by_cases h2 : s0 > 43
  · simp [h1, h2]
  by_cases h3 : s1 < 1
  · simp [h1, h2, h3]
  by_cases h4 : s1 > 132
  · simp [h1, h2, h3, h4]
  have hb : 1 ≤ s0 * s1 ∧ s0 * s1 ≤ 43 * 132 := by
    constructor
    · exact Int.le_trans (by decide) (Int.mul_le_mul (show (1 : Int) ≤ s0 by omega) (show (1 : Int) ≤ s1 by omega) (by decide) (by omega))
    · exact Int.mul_le_mul (by omega) (by omega) (by omega) (by decide)
  have hw : wrap64 (s0 * s1) = s0 * s1 := by unfold wrap64; omega
  by_cases h5 : s0 * s1 > 4096
  · simp [h1, h2, h3, h4, h5, hw]
  · simp [h1, h2, h3, h4, h5, hw]
theorem cells_range (s0 s1 : Int) : 0 ≤ cells s0 s1 ∧ cells s0 s1 ≤ 4096 := by
  unfold cells
  split
  · omega
  · rename_i h
    have h1 : (1 : Int) ≤ s0 := by omega
    have h3 : (1 : Int) ≤ s1 := by omega
    have : 1 ≤ s0 * s1 := Int.le_trans (by decide) (Int.mul_le_mul h1 h3 (by decide) (by omega))
    omega

theorem tmod_emod' (s n : Int) : Int.tmod s n % n = s % n := by
  rw [Int.tmod_def, show s - n * s.tdiv n = s + n * (- s.tdiv n) from by rw [Int.mul_neg]; omega, Int.add_mul_emod_self_left]
theorem tmod_range (a : Int) {n : Int} (hn : 0 < n) : -n < Int.tmod a n ∧ Int.tmod a n < n := by
  by_cases h : 0 ≤ a
  · rw [Int.tmod_eq_emod_of_nonneg h]
    have := Int.emod_nonneg a (Int.ne_of_gt hn)
    have := Int.emod_lt_of_pos a hn
    omega
  · have e := Int.neg_tmod (-a) n
    rw [Int.neg_neg] at e
    rw [e, Int.tmod_eq_emod_of_nonneg (by omega)]
    have := Int.emod_nonneg (-a) (Int.ne_of_gt hn)
    have := Int.emod_lt_of_pos (-a) hn
    omega
theorem wrap_of {a : Int} (h1 : -9223372036854775808 ≤ a) (h2 : a < 9223372036854775808) : wrap64 a = a := by unfold wrap64; omega
theorem move_mod (s0 s1 a b : Int) (h : 0 < cells s0 s1) : A.addr_Move.f s0 s1 a b = some ((a + b) % cells s0 s1) := by
  have hr := cells_range s0 s1
  rw [A.addr_Move.f, cells_f, Option.bind_some]
  generalize cells s0 s1 = n at *
  rw [if_neg (by omega)]
  obtain ⟨a1, a2⟩ := tmod_range a h
  obtain ⟨b1, b2⟩ := tmod_range b h
  have e1 := tmod_emod' a n
  have e2 := tmod_emod' b n
  generalize Int.tmod a n = x at *
  generalize Int.tmod b n = y at *
  rw [wrap_of (a := x + y) (by omega) (by omega)]
  obtain ⟨c1, c2⟩ := tmod_range (x + y) h
  have e3 := tmod_emod' (x + y) n
  generalize Int.tmod (x + y) n = z at *
  rw [wrap_of (by omega) (by omega), Int.tmod_eq_emod_of_nonneg (by omega), Int.add_emod_right, e3, Int.add_emod, e1, e2, ← Int.add_emod]


/-- A plane in memory. -/
structure IsP (W : World) (g : Nat) (A0 : Option Addr) (c0 : Nat) (r c : Int) (cs : List A.S34) (cur : Int) : Prop where
  p : W.heap[g]? = some (.cells #[.int .i64 r, .int .i64 c, .slice A0 cs.length c0, .int .i64 cur] 65 (0, 0))
  k : Kd.C A.k34 W A0 cs.length cs
  n : cells r c = cs.length
  n1 : 1 ≤ cs.length
section
variable {W W1 w : World} {g c0 : Nat} {A0 : Option Addr} {r c cur : Int} {cs : List A.S34}
theorem IsP.later (h : IsP W g A0 c0 r c cs cur) (hb : Below W.heap.size W W1) : IsP W1 g A0 c0 r c cs cur := ⟨blk_below h.p hb, Kd.C_below h.k hb, h.n, h.n1⟩
theorem IsP.small (h : IsP W g A0 c0 r c cs cur) : cs.length ≤ 4096 := by
  have := h.n
  have := cells_range r c
  omega
theorem IsP.of_65 {w0 : World} (h : A.IsS65 w0 W g r c cs cur) (hB : Below w0.heap.size w0 W) (hn : cells r c = cs.length) (h1 : 1 ≤ cs.length) : ∃ A0 c0, IsP W g A0 c0 r c cs cur := by
  obtain ⟨A2, c2, hp, _, hk⟩ := h
  exact ⟨A2, c2, hp, Kd.C_below hk hB, hn, h1⟩
/-- Calls that only read. -/
abbrev Reads (f : FuncId) (args : Array Value) (w : World) (v : Value) : Prop := Calls Try.prog f args w fun e w' => e = .returned v ∧ Below w.heap.size w w'
set_option maxHeartbeats 1000000 in
theorem len_p (hI : IsP w g A0 c0 r c cs cur) : Reads 20 #[.pointer (some ⟨g, 0, none⟩)] w (.int .i64 cs.length) := by
  have c2 : w.cell? ⟨g, 2, none⟩ = some (.slice A0 cs.length c0) := (blk_cell hI.p 2).trans rfl
  clear hI
  go_enter Try.func20, Try.ntmps20
  go_wp2
  go_ret
  exact ⟨rfl, Below.refl _ _⟩
set_option maxHeartbeats 1000000 in
theorem cursor_p (hI : IsP w g A0 c0 r c cs cur) : Reads 28 #[.pointer (some ⟨g, 0, none⟩)] w (.int .i64 cur) := by
  have c3 : w.cell? ⟨g, 3, none⟩ = some (.int .i64 cur) := (blk_cell hI.p 3).trans rfl
  clear hI
  go_enter Try.func28, Try.ntmps28
  go_wp2
  go_ret
  exact ⟨rfl, Below.refl _ _⟩
set_option maxHeartbeats 1000000 in
theorem has_p (hI : IsP w g A0 c0 r c cs cur) (i : Int) (h0 : 0 ≤ i) (hi : i < cs.length) : Reads 36 #[.pointer (some ⟨g, 0, none⟩), .int .i64 i] w (.bool true) := by
  have c2 : w.cell? ⟨g, 2, none⟩ = some (.slice A0 cs.length c0) := (blk_cell hI.p 2).trans rfl
  clear hI
  have e1 : decide (0 ≤ i) = true := decide_eq_true h0
  have e2 : decide (i < (cs.length : Int)) = true := decide_eq_true hi
  go_enter Try.func36, Try.ntmps36
  go_wp2
  go_ret
  exact ⟨rfl, Below.refl _ _⟩
set_option maxHeartbeats 1000000 in
set_option maxRecDepth 100000 in
theorem size_p (hI : IsP w g A0 c0 r c cs cur) : Reads 54 #[.pointer (some ⟨g, 0, none⟩)] w (.agg #[.int .i64 r, .int .i64 c]) := by
  have hJ := hI.later (below_alloc (Below.refl w.heap.size w) (.cells #[.int .i64 0, .int .i64 0] 26))
  have c2 : (w.alloc (.cells #[.int .i64 0, .int .i64 0] 26)).cell? ⟨g, 0, none⟩ = some (.int .i64 r) := (blk_cell hJ.p 0).trans rfl
  have c3 : (w.alloc (.cells #[.int .i64 0, .int .i64 0] 26)).cell? ⟨g, 1, none⟩ = some (.int .i64 c) := (blk_cell hJ.p 1).trans rfl
  clear hJ
  clear hI
  have hu26 := Try.underlying26
  go_enter Try.func54, Try.ntmps54
  go_wp2
  refine bodyPost_ret (results_cell_row rfl _ _ w.heap.size 26 #[.int .i64 r, .int .i64 c] (0, 0) _ rfl (heap_alloc_new _ _) Try.underlying26 rfl (by kernel_rfl)) rfl ?_
  exact ⟨rfl, below_alloc (Below.refl _ _) _⟩
/-- A cell's value. -/
def cellV (x : A.S34) : Value := .agg #[.int .u8 x.f0, .bool x.f1, .bool x.f2, .int .u8 x.f3, .int .u8 x.f4]
set_option maxHeartbeats 1000000 in
set_option maxRecDepth 100000 in
theorem at_p (hI : IsP w g A0 c0 r c cs cur) (i : Int) (h0 : 0 ≤ i) (hi : i < cs.length) : Reads 15 #[.pointer (some ⟨g, 0, none⟩), .int .i64 i] w (cellV (A.rd_T34 cs i)) := by
  have hu34 := Try.underlying34
  have HI := Lib.hid hI
  clear hI
  go_enter Try.func15, Try.ntmps15
  go_wp2_with fail
  refine (has_p (HI.out.later (below_alloc (Below.refl _ _) _)) i h0 hi).mono ?_
  rintro e w1 ⟨rfl, hb1⟩
  have HB := Lib.hid (below_step (below_alloc (Below.refl w.heap.size w) (.cells #[.int .u8 0, .bool false, .bool false, .int .u8 0, .int .u8 0] 34)) hb1)
  have H1 := Lib.hid ((HI.out.later (below_alloc (Below.refl _ _) (.cells #[.int .u8 0, .bool false, .bool false, .int .u8 0, .int .u8 0] 34))).later hb1)
  have HZ := Lib.hid (blk_below (heap_alloc_new w (.cells #[.int .u8 0, .bool false, .bool false, .int .u8 0, .int .u8 0] 34)) hb1)
  clear hb1
  have c2 : w1.cell? ⟨g, 2, none⟩ = some (.slice A0 cs.length c0) := (blk_cell H1.out.p 2).trans rfl
  obtain ⟨ad, rfl, d0, d1, d2, d3, d4⟩ := A.at_T34 H1.out.k i h0 hi
  have u0 := blk_frozen HZ.out 0; have u1 := blk_frozen HZ.out 1; have u2 := blk_frozen HZ.out 2; have u3 := blk_frozen HZ.out 3; have u4 := blk_frozen HZ.out 4
  have z0 := (blk_cell HZ.out 0).trans rfl; have z1 := (blk_cell HZ.out 1).trans rfl; have z2 := (blk_cell HZ.out 2).trans rfl; have z3 := (blk_cell HZ.out 3).trans rfl; have z4 := (blk_cell HZ.out 4).trans rfl
  go_wp2
  have y0 := blk_set HZ.out 0 (.int .u8 (A.rd_T34 cs i).f0)
  have y1 := blk_set y0 1 (.bool (A.rd_T34 cs i).f1)
  have y2 := blk_set y1 2 (.bool (A.rd_T34 cs i).f2)
  have y3 := blk_set y2 3 (.int .u8 (A.rd_T34 cs i).f3)
  have y4 := blk_set y3 4 (.int .u8 (A.rd_T34 cs i).f4)
  simp only [List.setIfInBounds_toArray, List.set_cons_zero, List.set_cons_succ] at y4
  refine bodyPost_ret (results_cell_row rfl _ _ w.heap.size 34 _ (0, 0) _ rfl y4 Try.underlying34 rfl (by kernel_rfl)) rfl ?_
  exact ⟨rfl, Below.setCell (Below.setCell (Below.setCell (Below.setCell (Below.setCell HB.out (Nat.le_refl _) _) (Nat.le_refl _) _) (Nat.le_refl _) _) (Nat.le_refl _) _) (Nat.le_refl _) _⟩

theorem move_c (hI : IsP W g A0 c0 r c cs cur) (a b : Int) : Reads 53 #[.agg #[.int .i64 r, .int .i64 c], .int .i64 a, .int .i64 b] w (.int .i64 ((a + b) % cs.length)) := by
  have h1 := hI.n
  have h2 := hI.n1
  rw [← h1]
  exact A.addr_Move.calls r c a b _ w (move_mod r c a b (by omega))
/-- The first place with an attribute, from the k-th step on. -/
def lookF (cs : List A.S34) (a step : Int) : Nat → Nat → Int
  | 0, _ => -1
  | m + 1, k => if (A.rd_T34 cs ((a + k * step) % cs.length)).f2 = true then (a + k * step) % cs.length else lookF cs a step m (k + 1)
theorem run_f2 (x : A.S34) (w : World) : (Instr.field 34 (cellV x) 2).run Try.prog w = .ok (.bool x.f2) w := A.run_field34_2 _ _ _ _ _ w
theorem run_f0 (x : A.S34) (w : World) : (Instr.field 34 (cellV x) 0).run Try.prog w = .ok (.int .u8 x.f0) w := A.run_field34_0 _ _ _ _ _ w
set_option maxHeartbeats 2000000 in
set_option maxRecDepth 100000 in
theorem look_p (hI : IsP w g A0 c0 r c cs cur) (a step : Int) (h0 : 0 ≤ a) (ha : a < cs.length) (hs : step = 1 ∨ step = -1) : Reads 50 #[.pointer (some ⟨g, 0, none⟩), .int .i64 a, .int .i64 step] w (.int .i64 (lookF cs a step cs.length 0)) := by
  have hf2 := run_f2
  have e1 : decide (a < 0) = false := by simp; omega
  have e2 : decide ((cs.length : Int) ≤ a) = false := by simp; omega
  have HI := Lib.hid hI
  have hsm := hI.small
  have hn1 := hI.n1
  obtain ⟨R, hR⟩ : ∃ R, lookF cs a step cs.length 0 = R := ⟨_, rfl⟩
  have HR := Lib.hid hR
  rw [hR]
  clear hI hR
  go_enter Try.func50, Try.ntmps50
  go_wp2_with (go_at_call 20; (first | (with_reducible refine (len_p HI.out).mono ?_; rintro e w1 ⟨rfl, hb⟩; have HB1 := Lib.hid hb; clear hb) | (with_reducible refine (len_p (HI.out.later HB1.out)).mono ?_; rintro e w2 ⟨rfl, hb⟩; have HB2 := Lib.hid (below_step HB1.out hb); clear hb)))
  clear e1 e2
  go_loopw [19] (fun v wr => ∃ k : Nat, k ≤ cs.length ∧ v = .int .i64 k ∧ lookF cs a step (cs.length - k) k = R ∧ Below w.heap.size w wr) (fun v _ => cs.length - (intOf v).toNat)
  case atStart => exact ⟨0, Nat.zero_le _, rfl, HR.out, HB2.out⟩
  case round =>
    clear HB1 HB2
    obtain ⟨k, hk, rfl, hl, hb⟩ := hrel
    have HB := Lib.hid hb
    have HL := Lib.hid hl
    have HW := Lib.hid (HI.out.later hb)
    clear hb hl
    by_cases hlt : k < cs.length
    · have hw : wrap64 ((k : Int) * step) = (k : Int) * step := by
        rcases hs with rfl | rfl <;> (unfold wrap64; omega)
      have hl := HL.out
      obtain ⟨m, hm⟩ : ∃ m, cs.length - k = m + 1 := ⟨cs.length - k - 1, by omega⟩
      rw [hm, lookF] at hl
      obtain ⟨p, hp⟩ : ∃ p, (a + (k : Int) * step) % cs.length = p := ⟨_, rfl⟩
      rw [hp] at hl
      have hp0 : 0 ≤ p := by rw [← hp]; exact Int.emod_nonneg _ (by omega)
      have hp1 : p < cs.length := by rw [← hp]; exact Int.emod_lt_of_pos _ (by omega)
      have HL2 := Lib.hid hl
      have HM := Lib.hid hm
      have HP := Lib.hid hp
      clear hl hm hp HL
      by_cases hst : (A.rd_T34 cs p).f2 = true
      · have hl := HL2.out
        rw [if_pos hst] at hl
        subst hl
        go_wp2_with (first | (go_at_call 54; with_reducible refine (size_p HW.out).mono ?_; rintro e w3 ⟨rfl, hb⟩; have HB3 := Lib.hid hb; clear hb) | (go_at_call 53; with_reducible refine (move_c HW.out _ _).mono ?_; rintro e w4 ⟨rfl, hb⟩; rw [HP.out]; have HB4 := Lib.hid (below_step HB3.out hb); clear hb) | (go_at_call 15; with_reducible refine (at_p (HW.out.later HB4.out) p hp0 hp1).mono ?_; rintro e w5 ⟨rfl, hb⟩; have HB5 := Lib.hid (below_step HB4.out hb); clear hb))
        go_ret
        exact ⟨rfl, below_step HB.out HB5.out⟩
      · have hl := HL2.out
        rw [if_neg hst] at hl
        have hst := Bool.eq_false_iff.2 hst
        have HL3 := Lib.hid hl
        clear hl
        go_wp2_with (first | (go_at_call 54; with_reducible refine (size_p HW.out).mono ?_; rintro e w3 ⟨rfl, hb⟩; have HB3 := Lib.hid hb; clear hb) | (go_at_call 53; with_reducible refine (move_c HW.out _ _).mono ?_; rintro e w4 ⟨rfl, hb⟩; rw [HP.out]; have HB4 := Lib.hid (below_step HB3.out hb); clear hb) | (go_at_call 15; with_reducible refine (at_p (HW.out.later HB4.out) p hp0 hp1).mono ?_; rintro e w5 ⟨rfl, hb⟩; have HB5 := Lib.hid (below_step HB4.out hb); clear hb))
        go_roundw
        case rel => exact ⟨k + 1, by omega, by go_num, by rw [show cs.length - (k + 1) = m by have := HM.out; omega]; exact HL3.out, below_step HB.out HB5.out⟩
        case measure => simp [intOf]; omega
    · obtain rfl : k = cs.length := by omega
      have hl := HL.out
      rw [Nat.sub_self, lookF] at hl
      subst hl
      go_wp2
      go_ret
      exact ⟨rfl, HB.out⟩
/-- The place of the next attribute. -/
def afterF (cs : List A.S34) (a : Int) : Int := lookF cs ((a + 1) % cs.length) 1 cs.length 0
set_option maxHeartbeats 2000000 in
set_option maxRecDepth 100000 in
theorem after_p (hI : IsP w g A0 c0 r c cs cur) (a : Int) (h0 : 0 ≤ a) (ha : a < cs.length) : Reads 68 #[.pointer (some ⟨g, 0, none⟩), .int .i64 a] w (.int .i64 (afterF cs a)) := by
  have e1 : decide (a < 0) = false := by simp; omega
  have e2 : decide ((cs.length : Int) ≤ a) = false := by simp; omega
  have HI := Lib.hid hI
  have hn1 := hI.n1
  have hp0 : 0 ≤ (a + 1) % (cs.length : Int) := Int.emod_nonneg _ (by omega)
  have hp1 : (a + 1) % (cs.length : Int) < cs.length := Int.emod_lt_of_pos _ (by omega)
  have HA := Lib.hid (And.intro hp0 hp1)
  clear hI hp0 hp1
  go_enter Try.func68, Try.ntmps68
  go_wp2_with (first | (go_at_call 20; with_reducible refine (len_p HI.out).mono ?_; rintro e w1 ⟨rfl, hb⟩; have HB1 := Lib.hid hb; clear hb) | (go_at_call 54; with_reducible refine (size_p (HI.out.later HB1.out)).mono ?_; rintro e w3 ⟨rfl, hb⟩; have HB3 := Lib.hid (below_step HB1.out hb); clear hb) | (go_at_call 53; with_reducible refine (move_c (HI.out.later HB3.out) _ _).mono ?_; rintro e w4 ⟨rfl, hb⟩; have HB4 := Lib.hid (below_step HB3.out hb); clear hb) | (go_at_call 50; with_reducible refine (look_p (HI.out.later HB4.out) _ _ HA.out.1 HA.out.2 (.inl rfl)).mono ?_; rintro e w5 ⟨rfl, hb⟩; have HB5 := Lib.hid (below_step HB4.out hb); clear hb))
  go_ret
  exact ⟨rfl, HB5.out⟩
theorem look_range (cs : List A.S34) (a step : Int) (hn : 1 ≤ cs.length) : ∀ m k, -1 ≤ lookF cs a step m k ∧ lookF cs a step m k < cs.length
  | 0, _ => by unfold lookF; omega
  | m + 1, k => by
    unfold lookF
    split
    · have h1 := Int.emod_nonneg (a + k * step) (show (cs.length : Int) ≠ 0 by omega)
      have h2 := Int.emod_lt_of_pos (a + k * step) (show (0 : Int) < cs.length by omega)
      omega
    · exact look_range cs a step hn m (k + 1)
/-- A field's length. -/
def fldLen (cs : List A.S34) (a : Int) : Int := if afterF cs a - a - 1 < 0 then afterF cs a - a - 1 + cs.length else afterF cs a - a - 1
def fldAttr (cs : List A.S34) (a : Int) : Int := Go.bits .and .u8 (A.rd_T34 cs a).f0 63
def fldV (cs : List A.S34) (a : Int) : Value := .agg #[.int .i64 a, .int .i64 (fldLen cs a), .int .u8 (fldAttr cs a)]
set_option maxHeartbeats 2000000 in
set_option maxRecDepth 100000 in
theorem fld_p (hI : IsP w g A0 c0 r c cs cur) (a : Int) (h0 : 0 ≤ a) (ha : a < cs.length) : Reads 66 #[.pointer (some ⟨g, 0, none⟩), .int .i64 a] w (fldV cs a) := by
  have hf0 := run_f0
  have hu86 := Try.underlying86
  have hsm := hI.small
  have hr := look_range cs ((a + 1) % cs.length) 1 hI.n1 cs.length 0
  have HI := Lib.hid hI
  have hz := below_alloc (Below.refl w.heap.size w) (.cells #[.int .i64 0, .int .i64 0, .int .u8 0] 86)
  have HZ := Lib.hid hz
  clear hI hz
  obtain ⟨z, hz⟩ : ∃ z, afterF cs a = z := ⟨_, rfl⟩
  have hz2 : lookF cs ((a + 1) % cs.length) 1 cs.length 0 = z := hz
  rw [hz2] at hr
  clear hz2
  have w1 : wrap64 (z - a) = z - a := by unfold wrap64; omega
  have w2 : wrap64 (z - a - 1) = z - a - 1 := by unfold wrap64; omega
  have w3 : wrap64 (z - a - 1 + cs.length) = z - a - 1 + cs.length := by unfold wrap64; omega
  have HV := Lib.hid hz
  clear hz
  by_cases hneg : z - a - 1 < 0
  · have hlen : Hid (fldLen cs a = z - a - 1 + cs.length) := Lib.hid (by rw [fldLen, HV.out, if_pos hneg])
    go_enter Try.func66, Try.ntmps66
    go_wp2_with (first | (go_at_call 68; with_reducible refine (after_p (HI.out.later HZ.out) a h0 ha).mono ?_; rintro e w1 ⟨rfl, hb⟩; rw [HV.out]; have HB1 := Lib.hid (below_step HZ.out hb); have HY := Lib.hid (blk_below (heap_alloc_new w (.cells #[.int .i64 0, .int .i64 0, .int .u8 0] 86)) hb); clear hb) | (go_at_call 20; with_reducible refine (len_p (HI.out.later HB1.out)).mono ?_; rintro e w2 ⟨rfl, hb⟩; have HB2 := Lib.hid (below_step HB1.out hb); have HY2 := Lib.hid (blk_below HY.out hb); clear hb) | (go_at_call 15; with_reducible refine (at_p (HI.out.later HB2.out) a h0 ha).mono ?_; rintro e w5 ⟨rfl, hb⟩; have HB5 := Lib.hid (below_step HB2.out hb); have HY5 := Lib.hid (blk_below HY2.out hb); clear hb; have u0 := blk_frozen HY5.out 0; have u1 := blk_frozen HY5.out 1; have u2 := blk_frozen HY5.out 2; have z0 := (blk_cell HY5.out 0).trans rfl; have z1 := (blk_cell HY5.out 1).trans rfl; have z2 := (blk_cell HY5.out 2).trans rfl))
    have y0 := blk_set HY5.out 0 (.int .i64 a)
    have y1 := blk_set y0 1 (.int .i64 (z - a - 1 + cs.length))
    have y2 := blk_set y1 2 (.int .u8 (Go.bits .and .u8 (A.rd_T34 cs a).f0 63))
    simp only [List.setIfInBounds_toArray, List.set_cons_zero, List.set_cons_succ] at y2
    refine bodyPost_ret (results_cell_row rfl _ _ w.heap.size 86 _ (0, 0) _ rfl y2 Try.underlying86 rfl (by kernel_rfl)) rfl ?_
    exact ⟨by rw [fldV, hlen.out, fldAttr], Below.setCell (Below.setCell (Below.setCell HB5.out (Nat.le_refl _) _) (Nat.le_refl _) _) (Nat.le_refl _) _⟩
  · have hlen : Hid (fldLen cs a = z - a - 1) := Lib.hid (by rw [fldLen, HV.out, if_neg hneg])
    go_enter Try.func66, Try.ntmps66
    go_wp2_with (first | (go_at_call 68; with_reducible refine (after_p (HI.out.later HZ.out) a h0 ha).mono ?_; rintro e w1 ⟨rfl, hb⟩; rw [HV.out]; have HB2 := Lib.hid (below_step HZ.out hb); have HY2 := Lib.hid (blk_below (heap_alloc_new w (.cells #[.int .i64 0, .int .i64 0, .int .u8 0] 86)) hb); clear hb) | (go_at_call 15; with_reducible refine (at_p (HI.out.later HB2.out) a h0 ha).mono ?_; rintro e w5 ⟨rfl, hb⟩; have HB5 := Lib.hid (below_step HB2.out hb); have HY5 := Lib.hid (blk_below HY2.out hb); clear hb; have u0 := blk_frozen HY5.out 0; have u1 := blk_frozen HY5.out 1; have u2 := blk_frozen HY5.out 2; have z0 := (blk_cell HY5.out 0).trans rfl; have z1 := (blk_cell HY5.out 1).trans rfl; have z2 := (blk_cell HY5.out 2).trans rfl))
    have y0 := blk_set HY5.out 0 (.int .i64 a)
    have y1 := blk_set y0 1 (.int .i64 (z - a - 1))
    have y2 := blk_set y1 2 (.int .u8 (Go.bits .and .u8 (A.rd_T34 cs a).f0 63))
    simp only [List.setIfInBounds_toArray, List.set_cons_zero, List.set_cons_succ] at y2
    refine bodyPost_ret (results_cell_row rfl _ _ w.heap.size 86 _ (0, 0) _ rfl y2 Try.underlying86 rfl (by kernel_rfl)) rfl ?_
    exact ⟨by rw [fldV, hlen.out, fldAttr], Below.setCell (Below.setCell (Below.setCell HB5.out (Nat.le_refl _) _) (Nat.le_refl _) _) (Nat.le_refl _) _⟩
end
end Go.Proofs.Ytnifkdcjphekpaa.H
