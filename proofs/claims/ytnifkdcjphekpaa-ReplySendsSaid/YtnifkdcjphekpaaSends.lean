/- plane.Same of equal planes; reply.For, the document's For. -/
import Derived.Test.YtnifkdcjphekpaaRefWalk
namespace Go.Proofs.Ytnifkdcjphekpaa.H
open Go.RowKit Go.Proofs.YtnifkdcjphekpaaW.PrintWords Go.Proofs.YtnifkdcjphekpaaW.PrintLast
set_option linter.unusedVariables false
set_option linter.unusedSimpArgs false
theorem eqC34 (d : Nat) (w : World) (x0 : Int) (x1 : Bool) (x2 : Bool) (x3 x4 : Int) :
    (Op.equalIn (d + 2) 34 (.agg #[.int .u8 x0, .bool x1, .bool x2, .int .u8 x3, .int .u8 x4]) (.agg #[.int .u8 x0, .bool x1, .bool x2, .int .u8 x3, .int .u8 x4])).run Try.prog w = .ok true w := by
  have h : (Op.equalIn (d + 2) 34 (.agg #[.int .u8 x0, .bool x1, .bool x2, .int .u8 x3, .int .u8 x4]) (.agg #[.int .u8 x0, .bool x1, .bool x2, .int .u8 x3, .int .u8 x4])).run Try.prog w = .ok (x0 == x0 && (x1 == x1 && (x2 == x2 && (x3 == x3 && (x4 == x4))))) w := by
    refine eqA_of Try.underlying34 (by kernel_rfl) ?_
    refine eqf_cons (by rfl) (by go_simp; rfl) (by go_simp; rfl) (by go_simp) ?_
    refine eqf_cons (by rfl) (by go_simp; rfl) (by go_simp; rfl) (by go_simp) ?_
    refine eqf_cons (by rfl) (by go_simp; rfl) (by go_simp; rfl) (by go_simp) ?_
    refine eqf_cons (by rfl) (by go_simp; rfl) (by go_simp; rfl) (by go_simp) ?_
    exact eqf_last (by rfl) (by go_simp; rfl) (by go_simp; rfl) (by go_simp)
  rw [h]
  simp
theorem eqC26 (d : Nat) (w : World) (x0 x1 : Int) :
    (Op.equalIn (d + 2) 26 (.agg #[.int .i64 x0, .int .i64 x1]) (.agg #[.int .i64 x0, .int .i64 x1])).run Try.prog w = .ok true w := by
  have h : (Op.equalIn (d + 2) 26 (.agg #[.int .i64 x0, .int .i64 x1]) (.agg #[.int .i64 x0, .int .i64 x1])).run Try.prog w = .ok (x0 == x0 && (x1 == x1)) w := by
    refine eqA_of Try.underlying26 (by kernel_rfl) ?_
    refine eqf_cons (by rfl) (by go_simp; rfl) (by go_simp; rfl) (by go_simp) ?_
    exact eqf_last (by rfl) (by go_simp; rfl) (by go_simp; rfl) (by go_simp)
  rw [h]
  simp
section
variable {w : World} {cs : List A.S34} {A0 A1 : Option Addr} {c0 c1 : Nat}
set_option maxHeartbeats 2000000 in
set_option maxRecDepth 100000 in
theorem cellsEq_p (h0 : Kd.C A.k34 w A0 cs.length cs) (h1 : Kd.C A.k34 w A1 cs.length cs) (hn : cs.length ≤ 4096) : Calls Try.prog 38 #[.slice A0 cs.length c0, .slice A1 cs.length c1] w fun e w' => e = .returned (.bool true) ∧ Below w.heap.size w w' := by
  have hu34 := Try.underlying34
  have hq := eqC34 9998
  have H0 := Lib.hid h0
  have H1 := Lib.hid h1
  clear h0 h1
  go_enter Try.func38, Try.ntmps38
  go_wp2
  go_loopw [13] (fun v13 wr => ∃ k : Nat, k ≤ cs.length ∧ v13 = .int .i64 k ∧ Below w.heap.size w wr) (fun v13 _ => cs.length - (intOf v13).toNat)
  case atStart => exact ⟨0, Nat.zero_le _, rfl, Below.refl _ _⟩
  case round =>
    obtain ⟨k, hk, rfl, hb⟩ := hrel
    have HB := Lib.hid hb
    have HBD := Lib.hid (below_drew hb)
    by_cases hlt : k < cs.length
    · obtain ⟨a0, rfl, d0, d1, d2, d3, d4⟩ := A.at_T34 (Kd.C_below H0.out hb) (k : Int) (by omega) (by omega)
      obtain ⟨a1, rfl, f0, f1, f2, f3, f4⟩ := A.at_T34 (Kd.C_below H1.out hb) (k : Int) (by omega) (by omega)
      simp only [Int.toNat_natCast] at d0 d1 d2 d3 d4 f0 f1 f2 f3 f4
      obtain ⟨x, hx⟩ : ∃ x, A.rd_T34 cs (k : Int) = x := ⟨_, rfl⟩
      rw [hx] at d0 d1 d2 d3 d4 f0 f1 f2 f3 f4
      obtain ⟨b0, b1, b2, b3, b4⟩ := x
      clear hb hx
      go_wp2_with fail
      go_quiet (fail)
      go_wp2_with fail
      go_roundw
      case rel => exact ⟨k + 1, by omega, by go_num, pw_below_drewN HB.out _⟩
      case measure => simp [intOf]; omega
    · obtain rfl : k = cs.length := by omega
      clear hb
      go_wp2_with fail
      go_ret
      exact ⟨rfl, HB.out⟩
end
section
variable {w : World} {g g2 c0 c1 : Nat} {A0 A1 : Option Addr} {r c cur : Int} {cs : List A.S34}
set_option maxHeartbeats 2000000 in
set_option maxRecDepth 100000 in
theorem same_p (hP : IsP w g A0 c0 r c cs cur) (hQ : IsP w g2 A1 c1 r c cs cur) : Calls Try.prog 21 #[.pointer (some ⟨g, 0, none⟩), .pointer (some ⟨g2, 0, none⟩)] w fun e w' => e = .returned (.bool true) ∧ Below w.heap.size w w' := by
  have hu26 := Try.underlying26
  have hu65 := Try.underlying65
  have hq := eqC26 9998
  have hs0 : Hid (w.drew.cell? ⟨g, 0, none⟩ = some (.int .i64 r) ∧ w.drew.cell? ⟨g, 1, none⟩ = some (.int .i64 c) ∧ w.drew.cell? ⟨g, 2, none⟩ = some (.slice A0 cs.length c0) ∧ w.drew.cell? ⟨g, 3, none⟩ = some (.int .i64 cur) ∧ w.drew.cell? ⟨g2, 0, none⟩ = some (.int .i64 r) ∧ w.drew.cell? ⟨g2, 1, none⟩ = some (.int .i64 c) ∧ w.drew.cell? ⟨g2, 2, none⟩ = some (.slice A1 cs.length c1) ∧ w.drew.cell? ⟨g2, 3, none⟩ = some (.int .i64 cur)) := Lib.hid ⟨(blk_cell hP.p 0).trans rfl, (blk_cell hP.p 1).trans rfl, (blk_cell hP.p 2).trans rfl, (blk_cell hP.p 3).trans rfl, (blk_cell hQ.p 0).trans rfl, (blk_cell hQ.p 1).trans rfl, (blk_cell hQ.p 2).trans rfl, (blk_cell hQ.p 3).trans rfl⟩
  have HP := Lib.hid hP
  have HQ := Lib.hid hQ
  clear hP hQ
  go_enter Try.func21, Try.ntmps21
  go_wp2_with fail
  refine start_ (n := 32) (S := fun W' => W'.cell? ⟨g, 0, none⟩ = some (.int .i64 r) ∧ W'.cell? ⟨g, 1, none⟩ = some (.int .i64 c) ∧ W'.cell? ⟨g, 2, none⟩ = some (.slice A0 cs.length c0) ∧ W'.cell? ⟨g, 3, none⟩ = some (.int .i64 cur) ∧ W'.cell? ⟨g2, 0, none⟩ = some (.int .i64 r) ∧ W'.cell? ⟨g2, 1, none⟩ = some (.int .i64 c) ∧ W'.cell? ⟨g2, 2, none⟩ = some (.slice A1 cs.length c1) ∧ W'.cell? ⟨g2, 3, none⟩ = some (.int .i64 cur)) (ds := []) #[false, false, false, false, false, false, false, false, false, false, false, false, false, false, false, false, false, false, false, false, false, false, false, false, false, false, false, false, false, false, false, false] (by kernel_rfl) rfl rfl hs0.out (fun hHeld => ?_)
  refine pure_ (i := 0) (N := some 5) (v := ?_) (a' := ?_) #[true, false, false, false, false, false, false, false, false, false, false, false, false, false, false, false, false, false, false, false, false, false, false, false, false, false, false, false, false, false, false, false] rfl rfl (by kernel_rfl) (fun _ _ _ h => h) (Or.inl ⟨by rfl, ?_⟩) ?_ ?_
  rotate_left
  · intro w'
    go_simp
    with_reducible rfl
  rotate_left
  · simp only [Act.put, List.setIfInBounds_toArray, List.set_cons_zero, List.set_cons_succ, i64_w, i32_w]
    try rfl
  refine pure_ (i := 1) (N := some 6) (v := ?_) (a' := ?_) #[true, true, false, false, false, false, false, false, false, false, false, false, false, false, false, false, false, false, false, false, false, false, false, false, false, false, false, false, false, false, false, false] rfl rfl (by kernel_rfl) (fun _ _ _ h => h) (Or.inl ⟨by rfl, ?_⟩) ?_ ?_
  rotate_left
  · intro w'
    go_simp
    with_reducible rfl
  rotate_left
  · simp only [Act.put, List.setIfInBounds_toArray, List.set_cons_zero, List.set_cons_succ, i64_w, i32_w]
    try rfl
  refine pure_ (i := 2) (N := some 7) (v := ?_) (a' := ?_) #[true, true, true, false, false, false, false, false, false, false, false, false, false, false, false, false, false, false, false, false, false, false, false, false, false, false, false, false, false, false, false, false] rfl rfl (by kernel_rfl) (fun _ _ _ h => h) (Or.inl ⟨by rfl, ?_⟩) ?_ ?_
  rotate_left
  · intro w'
    go_simp
    with_reducible rfl
  rotate_left
  · simp only [Act.put, List.setIfInBounds_toArray, List.set_cons_zero, List.set_cons_succ, i64_w, i32_w]
    try rfl
  refine take_ (i := 3) (N := some 8) (v := ?_) (a' := ?_) #[true, true, true, true, false, false, false, false, false, false, false, false, false, false, false, false, false, false, false, false, false, false, false, false, false, false, false, false, false, false, false, false] rfl rfl (by kernel_rfl) (fun _ _ _ h => h) (Or.inl ⟨by rfl, ?_⟩) hHeld ?_ ?_
  rotate_left
  · rintro w' ⟨s0, s1, s2, s3, s4, s5, s6, s7⟩
    go_simp
    with_reducible rfl
  rotate_left
  · simp only [Act.put, List.setIfInBounds_toArray, List.set_cons_zero, List.set_cons_succ, i64_w, i32_w]
    try rfl
  refine pure_ (i := 4) (N := some 9) (v := ?_) (a' := ?_) #[true, true, true, true, true, false, false, false, false, false, false, false, false, false, false, false, false, false, false, false, false, false, false, false, false, false, false, false, false, false, false, false] rfl rfl (by kernel_rfl) (fun _ _ _ h => h) (Or.inl ⟨by rfl, ?_⟩) ?_ ?_
  rotate_left
  · intro w'
    go_simp
    with_reducible rfl
  rotate_left
  · simp only [Act.put, List.setIfInBounds_toArray, List.set_cons_zero, List.set_cons_succ, i64_w, i32_w]
    try rfl
  refine pure_ (i := 5) (N := some 10) (v := ?_) (a' := ?_) #[true, true, true, true, true, true, false, false, false, false, false, false, false, false, false, false, false, false, false, false, false, false, false, false, false, false, false, false, false, false, false, false] rfl rfl (by kernel_rfl) (fun _ _ _ h => h) (Or.inl ⟨by rfl, ?_⟩) ?_ ?_
  rotate_left
  · intro w'
    go_simp
    with_reducible rfl
  rotate_left
  · simp only [Act.put, List.setIfInBounds_toArray, List.set_cons_zero, List.set_cons_succ, i64_w, i32_w]
    try rfl
  refine pure_ (i := 6) (N := some 11) (v := ?_) (a' := ?_) #[true, true, true, true, true, true, true, false, false, false, false, false, false, false, false, false, false, false, false, false, false, false, false, false, false, false, false, false, false, false, false, false] rfl rfl (by kernel_rfl) (fun _ _ _ h => h) (Or.inl ⟨by rfl, ?_⟩) ?_ ?_
  rotate_left
  · intro w'
    go_simp
    with_reducible rfl
  rotate_left
  · simp only [Act.put, List.setIfInBounds_toArray, List.set_cons_zero, List.set_cons_succ, i64_w, i32_w]
    try rfl
  refine take_ (i := 7) (N := some 12) (v := ?_) (a' := ?_) #[true, true, true, true, true, true, true, true, false, false, false, false, false, false, false, false, false, false, false, false, false, false, false, false, false, false, false, false, false, false, false, false] rfl rfl (by kernel_rfl) (fun _ _ _ h => h) (Or.inl ⟨by rfl, ?_⟩) hHeld ?_ ?_
  rotate_left
  · rintro w' ⟨s0, s1, s2, s3, s4, s5, s6, s7⟩
    go_simp
    with_reducible rfl
  rotate_left
  · simp only [Act.put, List.setIfInBounds_toArray, List.set_cons_zero, List.set_cons_succ, i64_w, i32_w]
    try rfl
  refine pure_ (i := 8) (N := some 13) (v := ?_) (a' := ?_) #[true, true, true, true, true, true, true, true, true, false, false, false, false, false, false, false, false, false, false, false, false, false, false, false, false, false, false, false, false, false, false, false] rfl rfl (by kernel_rfl) (fun _ _ _ h => h) (Or.inl ⟨by rfl, ?_⟩) ?_ ?_
  rotate_left
  · intro w'
    go_simp
    with_reducible rfl
  rotate_left
  · simp only [Act.put, List.setIfInBounds_toArray, List.set_cons_zero, List.set_cons_succ, i64_w, i32_w]
    try rfl
  refine pure_ (i := 9) (N := some 14) (v := ?_) (a' := ?_) #[true, true, true, true, true, true, true, true, true, true, false, false, false, false, false, false, false, false, false, false, false, false, false, false, false, false, false, false, false, false, false, false] rfl rfl (by kernel_rfl) (fun _ _ _ h => h) (Or.inl ⟨by rfl, ?_⟩) ?_ ?_
  rotate_left
  · intro w'
    go_simp
    with_reducible rfl
  rotate_left
  · simp only [Act.put, List.setIfInBounds_toArray, List.set_cons_zero, List.set_cons_succ, i64_w, i32_w]
    try rfl
  refine pure_ (i := 10) (N := some 15) (v := ?_) (a' := ?_) #[true, true, true, true, true, true, true, true, true, true, true, false, false, false, false, false, false, false, false, false, false, false, false, false, false, false, false, false, false, false, false, false] rfl rfl (by kernel_rfl) (fun _ _ _ h => h) (Or.inl ⟨by rfl, ?_⟩) ?_ ?_
  rotate_left
  · intro w'
    go_simp
    with_reducible rfl
  rotate_left
  · simp only [Act.put, List.setIfInBounds_toArray, List.set_cons_zero, List.set_cons_succ, i64_w, i32_w]
    try rfl
  refine pure_ (i := 11) (N := some 16) (v := ?_) (a' := ?_) #[true, true, true, true, true, true, true, true, true, true, true, true, false, false, false, false, false, false, false, false, false, false, false, false, false, false, false, false, false, false, false, false] rfl rfl (by kernel_rfl) (fun _ _ _ h => h) (Or.inl ⟨by rfl, ?_⟩) ?_ ?_
  rotate_left
  · intro w'
    go_simp
    with_reducible rfl
  rotate_left
  · simp only [Act.put, List.setIfInBounds_toArray, List.set_cons_zero, List.set_cons_succ, i64_w, i32_w]
    try rfl
  refine pure_ (i := 12) (N := some 17) (v := ?_) (a' := ?_) #[true, true, true, true, true, true, true, true, true, true, true, true, true, false, false, false, false, false, false, false, false, false, false, false, false, false, false, false, false, false, false, false] rfl rfl (by kernel_rfl) (fun _ _ _ h => h) (Or.inl ⟨by rfl, ?_⟩) ?_ ?_
  rotate_left
  · intro w'
    go_simp
    with_reducible rfl
  rotate_left
  · simp only [Act.put, List.setIfInBounds_toArray, List.set_cons_zero, List.set_cons_succ, i64_w, i32_w]
    try rfl
  refine take_ (i := 13) (N := some 18) (v := ?_) (a' := ?_) #[true, true, true, true, true, true, true, true, true, true, true, true, true, true, false, false, false, false, false, false, false, false, false, false, false, false, false, false, false, false, false, false] rfl rfl (by kernel_rfl) (fun _ _ _ h => h) (Or.inl ⟨by rfl, ?_⟩) hHeld ?_ ?_
  rotate_left
  · rintro w' ⟨s0, s1, s2, s3, s4, s5, s6, s7⟩
    go_simp
    with_reducible rfl
  rotate_left
  · simp only [Act.put, List.setIfInBounds_toArray, List.set_cons_zero, List.set_cons_succ, i64_w, i32_w]
    try rfl
  refine pure_ (i := 14) (N := some 19) (v := ?_) (a' := ?_) #[true, true, true, true, true, true, true, true, true, true, true, true, true, true, true, false, false, false, false, false, false, false, false, false, false, false, false, false, false, false, false, false] rfl rfl (by kernel_rfl) (fun _ _ _ h => h) (Or.inl ⟨by rfl, ?_⟩) ?_ ?_
  rotate_left
  · intro w'
    go_simp
    with_reducible rfl
  rotate_left
  · simp only [Act.put, List.setIfInBounds_toArray, List.set_cons_zero, List.set_cons_succ, i64_w, i32_w]
    try rfl
  refine pure_ (i := 15) (N := some 20) (v := ?_) (a' := ?_) #[true, true, true, true, true, true, true, true, true, true, true, true, true, true, true, true, false, false, false, false, false, false, false, false, false, false, false, false, false, false, false, false] rfl rfl (by kernel_rfl) (fun _ _ _ h => h) (Or.inl ⟨by rfl, ?_⟩) ?_ ?_
  rotate_left
  · intro w'
    go_simp
    with_reducible rfl
  rotate_left
  · simp only [Act.put, List.setIfInBounds_toArray, List.set_cons_zero, List.set_cons_succ, i64_w, i32_w]
    try rfl
  refine pure_ (i := 16) (N := some 21) (v := ?_) (a' := ?_) #[true, true, true, true, true, true, true, true, true, true, true, true, true, true, true, true, true, false, false, false, false, false, false, false, false, false, false, false, false, false, false, false] rfl rfl (by kernel_rfl) (fun _ _ _ h => h) (Or.inl ⟨by rfl, ?_⟩) ?_ ?_
  rotate_left
  · intro w'
    go_simp
    with_reducible rfl
  rotate_left
  · simp only [Act.put, List.setIfInBounds_toArray, List.set_cons_zero, List.set_cons_succ, i64_w, i32_w]
    try rfl
  refine take_ (i := 17) (N := some 22) (v := ?_) (a' := ?_) #[true, true, true, true, true, true, true, true, true, true, true, true, true, true, true, true, true, true, false, false, false, false, false, false, false, false, false, false, false, false, false, false] rfl rfl (by kernel_rfl) (fun _ _ _ h => h) (Or.inl ⟨by rfl, ?_⟩) hHeld ?_ ?_
  rotate_left
  · rintro w' ⟨s0, s1, s2, s3, s4, s5, s6, s7⟩
    go_simp
    with_reducible rfl
  rotate_left
  · simp only [Act.put, List.setIfInBounds_toArray, List.set_cons_zero, List.set_cons_succ, i64_w, i32_w]
    try rfl
  refine pure_ (i := 18) (N := some 23) (v := ?_) (a' := ?_) #[true, true, true, true, true, true, true, true, true, true, true, true, true, true, true, true, true, true, true, false, false, false, false, false, false, false, false, false, false, false, false, false] rfl rfl (by kernel_rfl) (fun _ _ _ h => h) (Or.inl ⟨by rfl, ?_⟩) ?_ ?_
  rotate_left
  · intro w'
    go_simp
    with_reducible rfl
  rotate_left
  · simp only [Act.put, List.setIfInBounds_toArray, List.set_cons_zero, List.set_cons_succ, i64_w, i32_w]
    try rfl
  refine pure_ (i := 19) (N := some 24) (v := ?_) (a' := ?_) #[true, true, true, true, true, true, true, true, true, true, true, true, true, true, true, true, true, true, true, true, false, false, false, false, false, false, false, false, false, false, false, false] rfl rfl (by kernel_rfl) (fun _ _ _ h => h) (Or.inl ⟨by rfl, ?_⟩) ?_ ?_
  rotate_left
  · intro w'
    go_simp
    with_reducible rfl
  rotate_left
  · simp only [Act.put, List.setIfInBounds_toArray, List.set_cons_zero, List.set_cons_succ, i64_w, i32_w]
    try rfl
  refine pure_ (i := 20) (N := some 25) (v := ?_) (a' := ?_) #[true, true, true, true, true, true, true, true, true, true, true, true, true, true, true, true, true, true, true, true, true, false, false, false, false, false, false, false, false, false, false, false] rfl rfl (by kernel_rfl) (fun _ _ _ h => h) (Or.inl ⟨by rfl, ?_⟩) ?_ ?_
  rotate_left
  · intro w'
    go_simp
    with_reducible rfl
  rotate_left
  · simp only [Act.put, List.setIfInBounds_toArray, List.set_cons_zero, List.set_cons_succ, i64_w, i32_w]
    try rfl
  refine pure_ (i := 21) (N := some 26) (v := ?_) (a' := ?_) #[true, true, true, true, true, true, true, true, true, true, true, true, true, true, true, true, true, true, true, true, true, true, false, false, false, false, false, false, false, false, false, false] rfl rfl (by kernel_rfl) (fun _ _ _ h => h) (Or.inl ⟨by rfl, ?_⟩) ?_ ?_
  rotate_left
  · intro w'
    go_simp
    with_reducible rfl
  rotate_left
  · simp only [Act.put, List.setIfInBounds_toArray, List.set_cons_zero, List.set_cons_succ, i64_w, i32_w]
    try rfl
  refine pure_ (i := 22) (N := some 27) (v := ?_) (a' := ?_) #[true, true, true, true, true, true, true, true, true, true, true, true, true, true, true, true, true, true, true, true, true, true, true, false, false, false, false, false, false, false, false, false] rfl rfl (by kernel_rfl) (fun _ _ _ h => h) (Or.inl ⟨by rfl, ?_⟩) ?_ ?_
  rotate_left
  · intro w'
    go_simp
    with_reducible rfl
  rotate_left
  · simp only [Act.put, List.setIfInBounds_toArray, List.set_cons_zero, List.set_cons_succ, i64_w, i32_w]
    try rfl
  refine pure_ (i := 23) (N := some 28) (v := ?_) (a' := ?_) #[true, true, true, true, true, true, true, true, true, true, true, true, true, true, true, true, true, true, true, true, true, true, true, true, false, false, false, false, false, false, false, false] rfl rfl (by kernel_rfl) (fun _ _ _ h => h) (Or.inl ⟨by rfl, ?_⟩) ?_ ?_
  rotate_left
  · intro w'
    go_simp
    with_reducible rfl
  rotate_left
  · simp only [Act.put, List.setIfInBounds_toArray, List.set_cons_zero, List.set_cons_succ, i64_w, i32_w]
    try rfl
  refine take_ (i := 24) (N := some 29) (v := ?_) (a' := ?_) #[true, true, true, true, true, true, true, true, true, true, true, true, true, true, true, true, true, true, true, true, true, true, true, true, true, false, false, false, false, false, false, false] rfl rfl (by kernel_rfl) (fun _ _ _ h => h) (Or.inl ⟨by rfl, ?_⟩) hHeld ?_ ?_
  rotate_left
  · rintro w' ⟨s0, s1, s2, s3, s4, s5, s6, s7⟩
    go_simp
    with_reducible rfl
  rotate_left
  · simp only [Act.put, List.setIfInBounds_toArray, List.set_cons_zero, List.set_cons_succ, i64_w, i32_w]
    try rfl
  refine pure_ (i := 25) (N := some 30) (v := ?_) (a' := ?_) #[true, true, true, true, true, true, true, true, true, true, true, true, true, true, true, true, true, true, true, true, true, true, true, true, true, true, false, false, false, false, false, false] rfl rfl (by kernel_rfl) (fun _ _ _ h => h) (Or.inl ⟨by rfl, ?_⟩) ?_ ?_
  rotate_left
  · intro w'
    go_simp
    with_reducible rfl
  rotate_left
  · simp only [Act.put, List.setIfInBounds_toArray, List.set_cons_zero, List.set_cons_succ, i64_w, i32_w]
    try rfl
  refine pure_ (i := 26) (N := some 31) (v := ?_) (a' := ?_) #[true, true, true, true, true, true, true, true, true, true, true, true, true, true, true, true, true, true, true, true, true, true, true, true, true, true, true, false, false, false, false, false] rfl rfl (by kernel_rfl) (fun _ _ _ h => h) (Or.inl ⟨by rfl, ?_⟩) ?_ ?_
  rotate_left
  · intro w'
    go_simp
    with_reducible rfl
  rotate_left
  · simp only [Act.put, List.setIfInBounds_toArray, List.set_cons_zero, List.set_cons_succ, i64_w, i32_w]
    try rfl
  refine pure_ (i := 27) (N := some 32) (v := ?_) (a' := ?_) #[true, true, true, true, true, true, true, true, true, true, true, true, true, true, true, true, true, true, true, true, true, true, true, true, true, true, true, true, false, false, false, false] rfl rfl (by kernel_rfl) (fun _ _ _ h => h) (Or.inl ⟨by rfl, ?_⟩) ?_ ?_
  rotate_left
  · intro w'
    go_simp
    with_reducible rfl
  rotate_left
  · simp only [Act.put, List.setIfInBounds_toArray, List.set_cons_zero, List.set_cons_succ, i64_w, i32_w]
    try rfl
  refine take_ (i := 28) (N := some 33) (v := ?_) (a' := ?_) #[true, true, true, true, true, true, true, true, true, true, true, true, true, true, true, true, true, true, true, true, true, true, true, true, true, true, true, true, true, false, false, false] rfl rfl (by kernel_rfl) (fun _ _ _ h => h) (Or.inl ⟨by rfl, ?_⟩) hHeld ?_ ?_
  rotate_left
  · rintro w' ⟨s0, s1, s2, s3, s4, s5, s6, s7⟩
    go_simp
    with_reducible rfl
  rotate_left
  · simp only [Act.put, List.setIfInBounds_toArray, List.set_cons_zero, List.set_cons_succ, i64_w, i32_w]
    try rfl
  refine one_ (i := 29) (N := some 34) #[true, true, true, true, true, true, true, true, true, true, true, true, true, true, true, true, true, true, true, true, true, true, true, true, true, true, true, true, true, true, false, false] rfl rfl (by kernel_rfl) (by decide) (fun K hK => ?_)
  refine goes_ Try.func38 (by kernel_rfl) rfl #[.slice A0 cs.length c0, .slice A1 cs.length c1] (by rfl) rfl rfl (by (try simp only [List.map_toArray, List.map_cons, List.map_nil]); first | done | rfl) ?_
  refine (cellsEq_p (Kd.C_below HP.out.k (below_drew (Below.refl _ w))) (Kd.C_below HQ.out.k (below_drew (Below.refl _ w))) HP.out.small).mono ?_
  rintro e w1 ⟨rfl, hb⟩
  have hb2 := below_step (below_drew (Below.refl w.heap.size w)) hb
  have HB := Lib.hid hb2
  have HP1 := Lib.hid (HP.out.later hb2)
  have HQ1 := Lib.hid (HQ.out.later hb2)
  clear hb hb2
  refine ⟨_, rfl, ?_⟩
  refine hK.out _ _ ⟨(blk_cell HP1.out.p 0).trans rfl, (blk_cell HP1.out.p 1).trans rfl, (blk_cell HP1.out.p 2).trans rfl, (blk_cell HP1.out.p 3).trans rfl, (blk_cell HQ1.out.p 0).trans rfl, (blk_cell HQ1.out.p 1).trans rfl, (blk_cell HQ1.out.p 2).trans rfl, (blk_cell HQ1.out.p 3).trans rfl⟩ (fun hHeld => ?_)
  clear hK K
  refine norm_ (a' := ?_) ?_ ?_
  rotate_left
  · show Act.put _ (some 34) _ = _
    simp only [Act.put, List.setIfInBounds_toArray, List.set_cons_zero, List.set_cons_succ, i64_w, i32_w]
    try rfl
  refine pure_ (i := 30) (N := some 35) (v := ?_) (a' := ?_) #[true, true, true, true, true, true, true, true, true, true, true, true, true, true, true, true, true, true, true, true, true, true, true, true, true, true, true, true, true, true, true, false] rfl rfl (by kernel_rfl) (fun _ _ _ h => h) (Or.inl ⟨by rfl, ?_⟩) ?_ ?_
  rotate_left
  · intro w'
    go_simp
    with_reducible rfl
  rotate_left
  · simp only [Act.put, List.setIfInBounds_toArray, List.set_cons_zero, List.set_cons_succ, i64_w, i32_w]
    try rfl
  refine pure_ (i := 31) (N := some 4) (v := ?_) (a' := ?_) #[true, true, true, true, true, true, true, true, true, true, true, true, true, true, true, true, true, true, true, true, true, true, true, true, true, true, true, true, true, true, true, true] rfl rfl (by kernel_rfl) (fun _ _ _ h => h) (Or.inl ⟨by rfl, ?_⟩) ?_ ?_
  rotate_left
  · intro w'
    go_simp
    with_reducible rfl
  rotate_left
  · simp only [Act.put, List.setIfInBounds_toArray, List.set_cons_zero, List.set_cons_succ, i64_w, i32_w]
    try rfl
  refine done_ (by kernel_rfl) ?_
  go_wp2
  go_ret
  exact ⟨rfl, HB.out⟩
end
section
variable {w : World} {g c0 : Nat} {A0 : Option Addr} {r c cur : Int} {cs : List A.S34}
/-- What For hands back. -/
def forL (cs : List A.S34) (cur aid op : Int) : List Int := if op = 242 then headL cur aid ++ bufTo cs cs.length else if op = 246 then readL cs cur aid else if op = 110 then allL cs cur aid else []
def forE (op : Int) : Int := if op = 242 then 0 else if op = 246 then 0 else if op = 110 then 0 else 30
set_option maxHeartbeats 2000000 in
theorem for_a (hI : IsP w g A0 c0 r c cs cur) (h0 : 0 ≤ cur) (h1 : cur < cs.length) (aid op : Int) : Calls Try.prog 18 #[.pointer (some ⟨g, 0, none⟩), .int .u8 aid, .int .u8 op] w fun e W' => ∃ v, e = .returned (.tuple #[v, .int .i64 (forE op)]) ∧ W'.ownsRow w.heap.size 5 1 v (forL cs cur aid op).length (nu (forL cs cur aid op)) ∧ Below w.heap.size w W' := by
  have HI := Lib.hid hI
  clear hI
  unfold forL forE
  by_cases e1 : op = 242
  · subst e1
    rw [if_pos rfl, if_pos rfl]
    exact for_rb HI.out h0 h1 aid
  · have d1 : (op == 242) = false := beq_eq_false_iff_ne.2 e1
    rw [if_neg e1, if_neg e1]
    by_cases e2 : op = 246
    · subst e2
      rw [if_pos rfl, if_pos rfl]
      clear e1 d1
      go_enter Try.func18, Try.ntmps18
      go_wp2_with (go_at_call 11; (with_reducible refine (read_a HI.out h0 h1 aid).mono ?_); rintro e w2 ⟨v, rfl, ho, hb⟩; have HO := Lib.hid ho; have HB := Lib.hid hb; clear ho hb)
      go_ret2
      exact ⟨_, rfl, HO.out, HB.out⟩
    · have d2 : (op == 246) = false := beq_eq_false_iff_ne.2 e2
      rw [if_neg e2, if_neg e2]
      by_cases e3 : op = 110
      · subst e3
        rw [if_pos rfl, if_pos rfl]
        clear e1 e2 d1 d2
        go_enter Try.func18, Try.ntmps18
        go_wp2_with (go_at_call 10; (with_reducible refine (all_a HI.out h0 h1 aid).mono ?_); rintro e w2 ⟨v, rfl, ho, hb⟩; have HO := Lib.hid ho; have HB := Lib.hid hb; clear ho hb)
        go_ret2
        exact ⟨_, rfl, HO.out, HB.out⟩
      · have d3 : (op == 110) = false := beq_eq_false_iff_ne.2 e3
        rw [if_neg e3, if_neg e3]
        clear e1 e2 e3
        go_enter Try.func18, Try.ntmps18
        go_wp2_with fail
        go_ret2
        exact ⟨_, rfl, own_nil _ _ _ _, Below.refl _ _⟩
end
section
variable {w : World} {c2 : Nat} {ad : Addr} {r c cur : Int} {cs : List A.S34}
set_option maxHeartbeats 2000000 in
set_option maxRecDepth 100000 in
theorem rfor_a (hw : wfB cs) (hk : Kd.C A.k34 w (some ad) cs.length cs) (hc2 : cs.length ≤ c2) (h4 : cs.length ≤ 4096) (h0 : 0 ≤ cur) (h1 : cur < cs.length) (aid op : Int) (ha0 : 0 ≤ aid) (ha1 : aid < 256) : Calls Try.prog 19 #[.agg #[.int .i64 r, .int .i64 c, .slice (some ad) cs.length c2, .int .i64 cur], .int .u8 aid, .int .u8 op] w fun e W' => ∃ v, e = .returned (.tuple #[v, .int .i64 (forE op)]) ∧ W'.ownsRow w.heap.size 5 1 v (forL cs cur aid op).length (nu (forL cs cur aid op)) ∧ Below w.heap.size w W' := by
  have hu30 := Try.underlying30
  have HK := Lib.hid (Kd.C_below hk (below_alloc (Below.refl w.heap.size w) (.cells #[.int .i64 r, .int .i64 c, .slice (some ad) cs.length c2, .int .i64 cur] 30)))
  have HBW := Lib.hid (below_alloc (Below.refl w.heap.size w) (.cells #[.int .i64 r, .int .i64 c, .slice (some ad) cs.length c2, .int .i64 cur] 30))
  have hsh := ref_short aid ha0 ha1
  clear hk
  unfold forL forE
  by_cases e1 : op = 242
  · subst e1
    rw [if_pos rfl, if_pos rfl]
    clear hsh
    go_enter Try.func19, Try.ntmps19
    go_wp2_with (go_at_call 23; (with_reducible refine (rbuf_p hw HK.out h4 h0 h1 aid).mono ?_); rintro e w2 ⟨v, rfl, ho, hb⟩; have HO := Lib.hid (own_weaken ho HBW.out.size); have HB := Lib.hid (below_step HBW.out hb); clear ho hb)
    go_ret2
    exact ⟨_, rfl, HO.out, HB.out⟩
  · have d1 : (op == 242) = false := beq_eq_false_iff_ne.2 e1
    rw [if_neg e1, if_neg e1]
    by_cases e2 : op = 246
    · subst e2
      rw [if_pos rfl, if_pos rfl]
      clear e1 d1
      unfold readL
      rcases short_ok aid with hs | hs
      · rw [if_pos hs]
        rw [hs] at hsh
        clear hs
        go_enter Try.func19, Try.ntmps19
        go_wp2_with (go_at_call 37; (with_reducible refine (A.greenscreenref23_Short.calls aid _ _ hsh).mono ?_); rintro e w1 ⟨rfl, hd⟩; obtain ⟨m1, rfl⟩ := hd.out; have HB1 := Lib.hid (pw_below_drewN HBW.out m1))
        go_ret2
        exact ⟨_, rfl, ⟨rfl, .inr ⟨_, 1, #[.int .u8 aid], rfl, Nat.le_succ _, by have h := heap_alloc_new ((w.alloc (.cells #[.int .i64 r, .int .i64 c, .slice (some ad) cs.length c2, .int .i64 cur] 30)).drewN m1) (.cells #[.int .u8 aid] 5); simpa using h, Nat.le_refl _, by decide, rfl, rfl⟩⟩, below_alloc HB1.out _⟩
      · rw [if_neg (by rw [hs]; decide)]
        rw [hs] at hsh
        clear hs
        have HK1 := HK
        go_enter Try.func19, Try.ntmps19
        go_wp2_with (first
          | (go_at_call 37; (with_reducible refine (A.greenscreenref23_Short.calls aid _ _ hsh).mono ?_); rintro e w1 ⟨rfl, hd⟩; obtain ⟨m1, rfl⟩ := hd.out; have hbm := fun (W : World) => pw_below_drewN (Below.refl W.heap.size W) m1; have HB1 := Lib.hid (below_step HBW.out (hbm _)); have HK2 := Lib.hid (Kd.C_below HK.out (hbm _)); clear hbm hd)
          | (go_at_call 22; (with_reducible refine (rall_p hw HK2.out hc2 h4 h0 h1 aid).mono ?_); rintro e w2 ⟨v, rfl, ho, hb⟩; have HO := Lib.hid (own_weaken ho HB1.out.size); have HB := Lib.hid (below_step HB1.out hb); clear ho hb))
        go_ret2
        exact ⟨_, rfl, HO.out, HB.out⟩
    · have d2 : (op == 246) = false := beq_eq_false_iff_ne.2 e2
      rw [if_neg e2, if_neg e2]
      by_cases e3 : op = 110
      · subst e3
        rw [if_pos rfl, if_pos rfl]
        clear e1 e2 d1 d2 hsh
        go_enter Try.func19, Try.ntmps19
        go_wp2_with (go_at_call 22; (with_reducible refine (rall_p hw HK.out hc2 h4 h0 h1 aid).mono ?_); rintro e w2 ⟨v, rfl, ho, hb⟩; have HO := Lib.hid (own_weaken ho HBW.out.size); have HB := Lib.hid (below_step HBW.out hb); clear ho hb)
        go_ret2
        exact ⟨_, rfl, HO.out, HB.out⟩
      · have d3 : (op == 110) = false := beq_eq_false_iff_ne.2 e3
        rw [if_neg e3, if_neg e3]
        clear e1 e2 e3 hsh
        go_enter Try.func19, Try.ntmps19
        go_wp2_with fail
        go_ret2
        exact ⟨_, rfl, own_nil _ _ _ _, HBW.out⟩
end
end Go.Proofs.Ytnifkdcjphekpaa.H
