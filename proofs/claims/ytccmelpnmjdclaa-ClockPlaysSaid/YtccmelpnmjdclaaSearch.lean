/- order, slices.BinarySearchFunc. -/
import Derived.Test.YtccmelpnmjdclaaDrop
namespace Go.Proofs.Ytccmelpnmjdclaa.H
open Go.RowKit Go.Proofs.YtccmelpnmjdclaaW.PrintWords Go.Proofs.YtccmelpnmjdclaaW.PrintLast
set_option linter.unusedVariables false
set_option linter.unusedSimpArgs false
/-- Which of two alarms comes first. -/
def ordV (a b : A.S62) : Int := if a.f1 < b.f1 then -1 else if a.f1 > b.f1 then 1 else if a.f0 < b.f0 then -1 else if a.f0 > b.f0 then 1 else 0
def ltA (a b : A.S62) : Prop := a.f1 < b.f1 ∨ a.f1 = b.f1 ∧ a.f0 < b.f0
theorem ord_lt (a b : A.S62) : ordV a b < 0 ↔ ltA a b := by
  unfold ordV ltA
  (repeat' split) <;> omega
theorem lt_trans' {a b c : A.S62} (h1 : ltA a b) (h2 : ltA b c) : ltA a c := by
  unfold ltA at *
  omega
theorem order_f (a b : A.S62) : A.clock_order.f 10 a.f0 a.f1 b.f0 b.f1 = some (ordV a b) := by
  have hn : ∀ x : Int, A.cmp_isNaN_int64.f x = some false := fun x => by simp [A.cmp_isNaN_int64.f]
  have hm : ∀ x : Int, A.cmp_isNaN_int.f x = some false := fun x => by simp [A.cmp_isNaN_int.f]
  unfold A.clock_order.f A.cmp_Compare_int64.f A.cmp_Compare_int.f ordV
  simp only [hn, hm, Option.bind_some]
  have hor : ∀ p q : Int, (p = -1 ∨ p = 0 ∨ p = 1) → (q = -1 ∨ q = 0 ∨ q = 1) → A.cmp_Or_int.f 10 [p, q] = some (if p = 0 then q else p) := by
    rintro p q (rfl | rfl | rfl) (rfl | rfl | rfl) <;> decide +kernel
  by_cases h1 : a.f1 < b.f1 <;> by_cases h2 : a.f1 > b.f1 <;> by_cases h3 : a.f0 < b.f0 <;> by_cases h4 : a.f0 > b.f0 <;> first | (exfalso; omega) | (simp only [h1, h2, h3, h4, if_true, if_false, Bool.false_eq_true, Option.bind_some]; rw [hor _ _ (by decide) (by decide)]; rfl)
theorem order_p (a b : A.S62) (w : World) : Calls Try.prog 23 #[.agg #[.int .i64 a.f0, .int .i64 a.f1], .agg #[.int .i64 b.f0, .int .i64 b.f1]] w fun e w' => e = .returned (.int .i64 (ordV a b)) ∧ Below w.heap.size w w' := A.clock_order.calls 10 _ _ _ _ _ w (order_f a b)
section
variable {w : World} {A0 : Option Addr} {c0 : Nat} {xs : List A.S62}
set_option maxHeartbeats 2000000 in
set_option maxRecDepth 100000 in
theorem search_p (hC : Kd.C A.k62 w A0 xs.length xs) (hl : xs.length ≤ 64) (hs : xs.Pairwise ltA) (t : A.S62) : Calls Try.prog 22 #[.slice A0 xs.length c0, .agg #[.int .i64 t.f0, .int .i64 t.f1], .func (.func 23) #[] #[]] w fun e w' => ∃ (i : Nat) (b : Bool), e = .returned (.tuple #[.int .i64 i, .bool b]) ∧ i ≤ xs.length ∧ (∀ q : Nat, q < i → ltA (A.rd_T62 xs (q : Int)) t) ∧ (∀ q : Nat, i ≤ q → q < xs.length → ¬ ltA (A.rd_T62 xs (q : Int)) t) ∧ Below w.heap.size w w' := by
  have hu62 := Try.underlying62
  obtain ⟨W1, hW1⟩ : ∃ W1, W1 = w.alloc (.cells #[.int .i64 t.f0, .int .i64 t.f1] 62) := ⟨_, rfl⟩
  have HB1 : Hid (Below w.heap.size w W1) := Lib.hid (by rw [hW1]; exact below_alloc (Below.refl _ _) _)
  have HX : Hid (W1.heap[w.heap.size]? = some (.cells #[.int .i64 t.f0, .int .i64 t.f1] 62 (0, 0))) := Lib.hid (by rw [hW1]; exact heap_alloc_new _ _)
  have HC := Lib.hid (Kd.C_below hC HB1.out)
  have HW1 := Lib.hid hW1
  have HS := Lib.hid hs
  clear hC hW1 hs
  go_enter Try.func22, Try.ntmps22
  go_wp2_with fail
  rw [← HW1.out]
  go_loopw [9, 10] (fun v9 v10 wr => ∃ a b : Nat, a ≤ b ∧ b ≤ xs.length ∧ v9 = .int .i64 a ∧ v10 = .int .i64 b ∧ Hid (∀ q : Nat, q < a → ltA (A.rd_T62 xs (q : Int)) t) ∧ Hid (∀ q : Nat, b ≤ q → q < xs.length → ¬ ltA (A.rd_T62 xs (q : Int)) t) ∧ Below W1.heap.size W1 wr) (fun v9 v10 _ => (intOf v10).toNat - (intOf v9).toNat)
  case atStart => exact ⟨0, xs.length, Nat.zero_le _, Nat.le_refl _, rfl, rfl, Lib.hid (fun q h => absurd h (Nat.not_lt_zero q)), Lib.hid (fun q h1 h2 => by omega), Below.refl _ _⟩
  case round =>
    obtain ⟨a, b, hab, hbn, rfl, rfl, HA, HB, hbw⟩ := hrel
    have HBW := Lib.hid hbw
    have hx := blk_below HX.out hbw
    by_cases hlt : a < b
    · obtain ⟨h, hh⟩ : ∃ h, (a + b) / 2 = h := ⟨_, rfl⟩
      have ha1 : a ≤ h := by omega
      have hb1 : h < b := by omega
      have hm : ((a : Int) + (b : Int)) / 2 = (h : Int) := by omega
      obtain ⟨ad, had, d0, d1⟩ := A.at_T62 (Kd.C_below HC.out hbw) (h : Int) (by omega) (by omega)
      subst had
      simp only [Int.toNat_natCast] at d0 d1
      have t0 := (blk_cell hx 0).trans rfl
      have t1 := (blk_cell hx 1).trans rfl
      have hor := order_p (A.rd_T62 xs (h : Int)) t
      have hol := ord_lt (A.rd_T62 xs (h : Int)) t
      obtain ⟨o, ho⟩ : ∃ o, ordV (A.rd_T62 xs (h : Int)) t = o := ⟨_, rfl⟩
      rw [ho] at hor hol
      have hmono : ∀ q q2 : Nat, q < q2 → q2 < xs.length → ltA (A.rd_T62 xs (q : Int)) (A.rd_T62 xs (q2 : Int)) := fun q q2 h1 h2 => by
        rw [rd_at xs q (by omega), rd_at xs q2 h2]
        exact List.pairwise_iff_getElem.1 HS.out q q2 (by omega) h2 h1
      by_cases hless : ltA (A.rd_T62 xs (h : Int)) t
      · have HLESS := Lib.hid (show ∀ q : Nat, q ≤ h → ltA (A.rd_T62 xs (q : Int)) t from fun q hq => by
          rcases Nat.lt_or_ge q h with h1 | h1
          · exact lt_trans' (hmono q h h1 (by omega)) hless
          · obtain rfl : q = h := by omega
            exact hless)
        have hd : decide (o < 0) = true := decide_eq_true (hol.2 hless)
        obtain ⟨x, hx2⟩ : ∃ x, A.rd_T62 xs (h : Int) = x := ⟨_, rfl⟩
        rw [hx2] at d0 d1 hor
        obtain ⟨x0, x1⟩ := x
        have HOR : Hid (∀ W : World, Calls Try.prog 23 #[.agg #[.int .i64 x0, .int .i64 x1], .agg #[.int .i64 t.f0, .int .i64 t.f1]] W fun e w' => e = .returned (.int .i64 o) ∧ Below W.heap.size W w') := Lib.hid hor
        have hhx : h < xs.length := by omega
        clear hor hol ho hmono hless hx2 hbw hh
        go_wp2_with fail
        refine start_ (n := 8) (S := fun W' => W'.cell? (ad.add (h * 2)) = some (.int .i64 x0) ∧ W'.cell? ⟨(ad.add (h * 2)).block, (ad.add (h * 2)).off + 1, none⟩ = some (.int .i64 x1) ∧ W'.cell? ⟨w.heap.size, 0, none⟩ = some (.int .i64 t.f0) ∧ W'.cell? ⟨w.heap.size, 1, none⟩ = some (.int .i64 t.f1)) (ds := []) #[false, false, false, false, false, false, false, false] (by kernel_rfl) rfl rfl ⟨d0, d1, t0, t1⟩ (fun hHeld => ?_)
        refine pure_ (i := 0) (N := some 24) (v := ?_) (a' := ?_) #[true, false, false, false, false, false, false, false] rfl rfl (by kernel_rfl) (fun _ _ _ h => h) (Or.inl ⟨by rfl, ?_⟩) ?_ ?_
        rotate_left
        · intro w'
          go_simp
          with_reducible rfl
        rotate_left
        · simp only [Act.put, List.setIfInBounds_toArray, List.set_cons_zero, List.set_cons_succ, i64_w, i32_w]
          try rfl
        refine pure_ (i := 1) (N := some 25) (v := ?_) (a' := ?_) #[true, true, false, false, false, false, false, false] rfl rfl (by kernel_rfl) (fun _ _ _ h => h) (Or.inl ⟨by rfl, ?_⟩) ?_ ?_
        rotate_left
        · intro w'
          go_simp
          with_reducible rfl
        rotate_left
        · simp only [Act.put, List.setIfInBounds_toArray, List.set_cons_zero, List.set_cons_succ, i64_w, i32_w]
          try rfl
        refine pure_ (i := 2) (N := some 26) (v := ?_) (a' := ?_) #[true, true, true, false, false, false, false, false] rfl rfl (by kernel_rfl) (fun _ _ _ h => h) (Or.inl ⟨by rfl, ?_⟩) ?_ ?_
        rotate_left
        · intro w'
          go_simp
          with_reducible rfl
        rotate_left
        · simp only [Act.put, List.setIfInBounds_toArray, List.set_cons_zero, List.set_cons_succ, i64_w, i32_w]
          try rfl
        refine pure_ (i := 3) (N := some 27) (v := ?_) (a' := ?_) #[true, true, true, true, false, false, false, false] rfl rfl (by kernel_rfl) (fun _ _ _ h => h) (Or.inl ⟨by rfl, ?_⟩) ?_ ?_
        rotate_left
        · intro w'
          go_simp
          with_reducible rfl
        rotate_left
        · simp only [Act.put, List.setIfInBounds_toArray, List.set_cons_zero, List.set_cons_succ, i64_w, i32_w]
          try rfl
        refine take_ (i := 4) (N := some 28) (v := ?_) (a' := ?_) #[true, true, true, true, true, false, false, false] rfl rfl (by kernel_rfl) (fun _ _ _ h => h) (Or.inl ⟨by rfl, ?_⟩) hHeld ?_ ?_
        rotate_left
        · rintro w' ⟨s0, s1, s2, s3⟩
          go_simp
          with_reducible rfl
        rotate_left
        · simp only [Act.put, List.setIfInBounds_toArray, List.set_cons_zero, List.set_cons_succ, i64_w, i32_w]
          try rfl
        refine take_ (i := 5) (N := some 29) (v := ?_) (a' := ?_) #[true, true, true, true, true, true, false, false] rfl rfl (by kernel_rfl) (fun _ _ _ h => h) (Or.inl ⟨by rfl, ?_⟩) hHeld ?_ ?_
        rotate_left
        · rintro w' ⟨s0, s1, s2, s3⟩
          go_simp
          with_reducible rfl
        rotate_left
        · simp only [Act.put, List.setIfInBounds_toArray, List.set_cons_zero, List.set_cons_succ, i64_w, i32_w]
          try rfl
        refine one_ (i := 6) (N := some 30) #[true, true, true, true, true, true, true, false] rfl rfl (by kernel_rfl) (by decide) (fun K hK => ?_)
        refine call_ 23 #[.agg #[.int .i64 x0, .int .i64 x1], .agg #[.int .i64 t.f0, .int .i64 t.f1]] (by rfl) rfl (by go_simp) ?_
        refine (HOR.out wr.drew).mono ?_
        rintro e w3 ⟨rfl, hb3⟩
        have hb4 : Below wr.heap.size wr w3 := below_step (below_drew (Below.refl _ wr)) hb3
        have HB3 := Lib.hid (below_step HBW.out hb4)
        refine ⟨_, rfl, ?_⟩
        refine hK.out _ _ ⟨pw_cell_below hb4 d0, pw_cell_below hb4 d1, pw_cell_below hb4 t0, pw_cell_below hb4 t1⟩ (fun hHeld => ?_)
        clear hK K
        refine norm_ (a' := ?_) ?_ ?_
        rotate_left
        · show Act.put _ (some 30) _ = _
          simp only [Act.put, List.setIfInBounds_toArray, List.set_cons_zero, List.set_cons_succ, i64_w, i32_w]
          try rfl
        refine pure_ (i := 7) (N := some 31) (v := ?_) (a' := ?_) #[true, true, true, true, true, true, true, true] rfl rfl (by kernel_rfl) (fun _ _ _ h => h) (Or.inl ⟨by rfl, ?_⟩) ?_ ?_
        rotate_left
        · intro w'
          go_simp
          with_reducible rfl
        rotate_left
        · simp only [Act.put, List.setIfInBounds_toArray, List.set_cons_zero, List.set_cons_succ, i64_w, i32_w]
          try rfl
        refine done_ (by kernel_rfl) ?_
        clear hb3 hb4
        go_wp2
        go_roundw
        case rel => exact ⟨h + 1, b, by omega, hbn, by go_num, rfl, Lib.hid (fun q hq => HLESS.out q (by omega)), HB, HB3.out⟩
        case measure => simp [intOf]; omega
      · have HMORE := Lib.hid (show ∀ q : Nat, h ≤ q → q < xs.length → ¬ ltA (A.rd_T62 xs (q : Int)) t from fun q hq h2 => by
          rcases Nat.lt_or_ge h q with h1 | h1
          · exact fun hc => hless (lt_trans' (hmono h q h1 h2) hc)
          · obtain rfl : q = h := by omega
            exact hless)
        have hd : decide (o < 0) = false := decide_eq_false (fun hc => hless (hol.1 hc))
        obtain ⟨x, hx2⟩ : ∃ x, A.rd_T62 xs (h : Int) = x := ⟨_, rfl⟩
        rw [hx2] at d0 d1 hor
        obtain ⟨x0, x1⟩ := x
        have HOR : Hid (∀ W : World, Calls Try.prog 23 #[.agg #[.int .i64 x0, .int .i64 x1], .agg #[.int .i64 t.f0, .int .i64 t.f1]] W fun e w' => e = .returned (.int .i64 o) ∧ Below W.heap.size W w') := Lib.hid hor
        have hhx : h < xs.length := by omega
        clear hor hol ho hmono hless hx2 hbw hh
        go_wp2_with fail
        refine start_ (n := 8) (S := fun W' => W'.cell? (ad.add (h * 2)) = some (.int .i64 x0) ∧ W'.cell? ⟨(ad.add (h * 2)).block, (ad.add (h * 2)).off + 1, none⟩ = some (.int .i64 x1) ∧ W'.cell? ⟨w.heap.size, 0, none⟩ = some (.int .i64 t.f0) ∧ W'.cell? ⟨w.heap.size, 1, none⟩ = some (.int .i64 t.f1)) (ds := []) #[false, false, false, false, false, false, false, false] (by kernel_rfl) rfl rfl ⟨d0, d1, t0, t1⟩ (fun hHeld => ?_)
        refine pure_ (i := 0) (N := some 24) (v := ?_) (a' := ?_) #[true, false, false, false, false, false, false, false] rfl rfl (by kernel_rfl) (fun _ _ _ h => h) (Or.inl ⟨by rfl, ?_⟩) ?_ ?_
        rotate_left
        · intro w'
          go_simp
          with_reducible rfl
        rotate_left
        · simp only [Act.put, List.setIfInBounds_toArray, List.set_cons_zero, List.set_cons_succ, i64_w, i32_w]
          try rfl
        refine pure_ (i := 1) (N := some 25) (v := ?_) (a' := ?_) #[true, true, false, false, false, false, false, false] rfl rfl (by kernel_rfl) (fun _ _ _ h => h) (Or.inl ⟨by rfl, ?_⟩) ?_ ?_
        rotate_left
        · intro w'
          go_simp
          with_reducible rfl
        rotate_left
        · simp only [Act.put, List.setIfInBounds_toArray, List.set_cons_zero, List.set_cons_succ, i64_w, i32_w]
          try rfl
        refine pure_ (i := 2) (N := some 26) (v := ?_) (a' := ?_) #[true, true, true, false, false, false, false, false] rfl rfl (by kernel_rfl) (fun _ _ _ h => h) (Or.inl ⟨by rfl, ?_⟩) ?_ ?_
        rotate_left
        · intro w'
          go_simp
          with_reducible rfl
        rotate_left
        · simp only [Act.put, List.setIfInBounds_toArray, List.set_cons_zero, List.set_cons_succ, i64_w, i32_w]
          try rfl
        refine pure_ (i := 3) (N := some 27) (v := ?_) (a' := ?_) #[true, true, true, true, false, false, false, false] rfl rfl (by kernel_rfl) (fun _ _ _ h => h) (Or.inl ⟨by rfl, ?_⟩) ?_ ?_
        rotate_left
        · intro w'
          go_simp
          with_reducible rfl
        rotate_left
        · simp only [Act.put, List.setIfInBounds_toArray, List.set_cons_zero, List.set_cons_succ, i64_w, i32_w]
          try rfl
        refine take_ (i := 4) (N := some 28) (v := ?_) (a' := ?_) #[true, true, true, true, true, false, false, false] rfl rfl (by kernel_rfl) (fun _ _ _ h => h) (Or.inl ⟨by rfl, ?_⟩) hHeld ?_ ?_
        rotate_left
        · rintro w' ⟨s0, s1, s2, s3⟩
          go_simp
          with_reducible rfl
        rotate_left
        · simp only [Act.put, List.setIfInBounds_toArray, List.set_cons_zero, List.set_cons_succ, i64_w, i32_w]
          try rfl
        refine take_ (i := 5) (N := some 29) (v := ?_) (a' := ?_) #[true, true, true, true, true, true, false, false] rfl rfl (by kernel_rfl) (fun _ _ _ h => h) (Or.inl ⟨by rfl, ?_⟩) hHeld ?_ ?_
        rotate_left
        · rintro w' ⟨s0, s1, s2, s3⟩
          go_simp
          with_reducible rfl
        rotate_left
        · simp only [Act.put, List.setIfInBounds_toArray, List.set_cons_zero, List.set_cons_succ, i64_w, i32_w]
          try rfl
        refine one_ (i := 6) (N := some 30) #[true, true, true, true, true, true, true, false] rfl rfl (by kernel_rfl) (by decide) (fun K hK => ?_)
        refine call_ 23 #[.agg #[.int .i64 x0, .int .i64 x1], .agg #[.int .i64 t.f0, .int .i64 t.f1]] (by rfl) rfl (by go_simp) ?_
        refine (HOR.out wr.drew).mono ?_
        rintro e w3 ⟨rfl, hb3⟩
        have hb4 : Below wr.heap.size wr w3 := below_step (below_drew (Below.refl _ wr)) hb3
        have HB3 := Lib.hid (below_step HBW.out hb4)
        refine ⟨_, rfl, ?_⟩
        refine hK.out _ _ ⟨pw_cell_below hb4 d0, pw_cell_below hb4 d1, pw_cell_below hb4 t0, pw_cell_below hb4 t1⟩ (fun hHeld => ?_)
        clear hK K
        refine norm_ (a' := ?_) ?_ ?_
        rotate_left
        · show Act.put _ (some 30) _ = _
          simp only [Act.put, List.setIfInBounds_toArray, List.set_cons_zero, List.set_cons_succ, i64_w, i32_w]
          try rfl
        refine pure_ (i := 7) (N := some 31) (v := ?_) (a' := ?_) #[true, true, true, true, true, true, true, true] rfl rfl (by kernel_rfl) (fun _ _ _ h => h) (Or.inl ⟨by rfl, ?_⟩) ?_ ?_
        rotate_left
        · intro w'
          go_simp
          with_reducible rfl
        rotate_left
        · simp only [Act.put, List.setIfInBounds_toArray, List.set_cons_zero, List.set_cons_succ, i64_w, i32_w]
          try rfl
        refine done_ (by kernel_rfl) ?_
        clear hb3 hb4
        go_wp2
        go_roundw
        case rel => exact ⟨a, h, ha1, by omega, rfl, rfl, HA, Lib.hid (fun q h1 h2 => HMORE.out q h1 h2), HB3.out⟩
        case measure => simp [intOf]; omega
    · obtain rfl : a = b := by omega
      by_cases han : a < xs.length
      · have hdn : decide ((a : Int) < (xs.length : Int)) = true := decide_eq_true (by omega)
        obtain ⟨ad, had, d0, d1⟩ := A.at_T62 (Kd.C_below HC.out hbw) (a : Int) (by omega) (by omega)
        subst had
        simp only [Int.toNat_natCast] at d0 d1
        have t0 := (blk_cell hx 0).trans rfl
        have t1 := (blk_cell hx 1).trans rfl
        have hor := order_p (A.rd_T62 xs (a : Int)) t
        obtain ⟨o, ho⟩ : ∃ o, ordV (A.rd_T62 xs (a : Int)) t = o := ⟨_, rfl⟩
        rw [ho] at hor
        obtain ⟨x, hx2⟩ : ∃ x, A.rd_T62 xs (a : Int) = x := ⟨_, rfl⟩
        rw [hx2] at d0 d1 hor
        obtain ⟨x0, x1⟩ := x
        have HOR : Hid (∀ W : World, Calls Try.prog 23 #[.agg #[.int .i64 x0, .int .i64 x1], .agg #[.int .i64 t.f0, .int .i64 t.f1]] W fun e w' => e = .returned (.int .i64 o) ∧ Below W.heap.size W w') := Lib.hid hor
        clear hor ho hx2 hbw
        go_wp2_with fail
        refine start_ (n := 16) (S := fun W' => W'.cell? (ad.add (a * 2)) = some (.int .i64 x0) ∧ W'.cell? ⟨(ad.add (a * 2)).block, (ad.add (a * 2)).off + 1, none⟩ = some (.int .i64 x1) ∧ W'.cell? ⟨w.heap.size, 0, none⟩ = some (.int .i64 t.f0) ∧ W'.cell? ⟨w.heap.size, 1, none⟩ = some (.int .i64 t.f1)) (ds := []) #[false, false, false, false, false, false, false, false, false, false, false, false, false, false, false, false] (by kernel_rfl) rfl rfl ⟨d0, d1, t0, t1⟩ (fun hHeld => ?_)
        refine pure_ (i := 0) (N := some 35) (v := ?_) (a' := ?_) #[true, false, false, false, false, false, false, false, false, false, false, false, false, false, false, false] rfl rfl (by kernel_rfl) (fun _ _ _ h => h) (Or.inl ⟨by rfl, ?_⟩) ?_ ?_
        rotate_left
        · intro w'
          go_simp
          with_reducible rfl
        rotate_left
        · simp only [Act.put, List.setIfInBounds_toArray, List.set_cons_zero, List.set_cons_succ, i64_w, i32_w]
          try rfl
        refine pure_ (i := 1) (N := some 36) (v := ?_) (a' := ?_) #[true, true, false, false, false, false, false, false, false, false, false, false, false, false, false, false] rfl rfl (by kernel_rfl) (fun _ _ _ h => h) (Or.inl ⟨by rfl, ?_⟩) ?_ ?_
        rotate_left
        · intro w'
          go_simp
          with_reducible rfl
        rotate_left
        · simp only [Act.put, List.setIfInBounds_toArray, List.set_cons_zero, List.set_cons_succ, i64_w, i32_w]
          try rfl
        refine pure_ (i := 2) (N := some 37) (v := ?_) (a' := ?_) #[true, true, true, false, false, false, false, false, false, false, false, false, false, false, false, false] rfl rfl (by kernel_rfl) (fun _ _ _ h => h) (Or.inl ⟨by rfl, ?_⟩) ?_ ?_
        rotate_left
        · intro w'
          go_simp
          with_reducible rfl
        rotate_left
        · simp only [Act.put, List.setIfInBounds_toArray, List.set_cons_zero, List.set_cons_succ, i64_w, i32_w]
          try rfl
        refine pure_ (i := 3) (N := some 38) (v := ?_) (a' := ?_) #[true, true, true, true, false, false, false, false, false, false, false, false, false, false, false, false] rfl rfl (by kernel_rfl) (fun _ _ _ h => h) (Or.inl ⟨by rfl, ?_⟩) ?_ ?_
        rotate_left
        · intro w'
          go_simp
          with_reducible rfl
        rotate_left
        · simp only [Act.put, List.setIfInBounds_toArray, List.set_cons_zero, List.set_cons_succ, i64_w, i32_w]
          try rfl
        refine pure_ (i := 4) (N := some 39) (v := ?_) (a' := ?_) #[true, true, true, true, true, false, false, false, false, false, false, false, false, false, false, false] rfl rfl (by kernel_rfl) (fun _ _ _ h => h) (Or.inl ⟨by rfl, ?_⟩) ?_ ?_
        rotate_left
        · intro w'
          go_simp
          with_reducible rfl
        rotate_left
        · simp only [Act.put, List.setIfInBounds_toArray, List.set_cons_zero, List.set_cons_succ, i64_w, i32_w]
          try rfl
        refine pure_ (i := 5) (N := some 40) (v := ?_) (a' := ?_) #[true, true, true, true, true, true, false, false, false, false, false, false, false, false, false, false] rfl rfl (by kernel_rfl) (fun _ _ _ h => h) (Or.inl ⟨by rfl, ?_⟩) ?_ ?_
        rotate_left
        · intro w'
          go_simp
          with_reducible rfl
        rotate_left
        · simp only [Act.put, List.setIfInBounds_toArray, List.set_cons_zero, List.set_cons_succ, i64_w, i32_w]
          try rfl
        refine pure_ (i := 6) (N := some 41) (v := ?_) (a' := ?_) #[true, true, true, true, true, true, true, false, false, false, false, false, false, false, false, false] rfl rfl (by kernel_rfl) (fun _ _ _ h => h) (Or.inl ⟨by rfl, ?_⟩) ?_ ?_
        rotate_left
        · intro w'
          go_simp
          with_reducible rfl
        rotate_left
        · simp only [Act.put, List.setIfInBounds_toArray, List.set_cons_zero, List.set_cons_succ, i64_w, i32_w]
          try rfl
        refine pure_ (i := 7) (N := some 42) (v := ?_) (a' := ?_) #[true, true, true, true, true, true, true, true, false, false, false, false, false, false, false, false] rfl rfl (by kernel_rfl) (fun _ _ _ h => h) (Or.inl ⟨by rfl, ?_⟩) ?_ ?_
        rotate_left
        · intro w'
          go_simp
          with_reducible rfl
        rotate_left
        · simp only [Act.put, List.setIfInBounds_toArray, List.set_cons_zero, List.set_cons_succ, i64_w, i32_w]
          try rfl
        refine pure_ (i := 8) (N := some 43) (v := ?_) (a' := ?_) #[true, true, true, true, true, true, true, true, true, false, false, false, false, false, false, false] rfl rfl (by kernel_rfl) (fun _ _ _ h => h) (Or.inl ⟨by rfl, ?_⟩) ?_ ?_
        rotate_left
        · intro w'
          go_simp
          with_reducible rfl
        rotate_left
        · simp only [Act.put, List.setIfInBounds_toArray, List.set_cons_zero, List.set_cons_succ, i64_w, i32_w]
          try rfl
        refine take_ (i := 9) (N := some 44) (v := ?_) (a' := ?_) #[true, true, true, true, true, true, true, true, true, true, false, false, false, false, false, false] rfl rfl (by kernel_rfl) (fun _ _ _ h => h) (Or.inl ⟨by rfl, ?_⟩) hHeld ?_ ?_
        rotate_left
        · rintro w' ⟨s0, s1, s2, s3⟩
          go_simp
          with_reducible rfl
        rotate_left
        · simp only [Act.put, List.setIfInBounds_toArray, List.set_cons_zero, List.set_cons_succ, i64_w, i32_w]
          try rfl
        refine take_ (i := 10) (N := some 45) (v := ?_) (a' := ?_) #[true, true, true, true, true, true, true, true, true, true, true, false, false, false, false, false] rfl rfl (by kernel_rfl) (fun _ _ _ h => h) (Or.inl ⟨by rfl, ?_⟩) hHeld ?_ ?_
        rotate_left
        · rintro w' ⟨s0, s1, s2, s3⟩
          go_simp
          with_reducible rfl
        rotate_left
        · simp only [Act.put, List.setIfInBounds_toArray, List.set_cons_zero, List.set_cons_succ, i64_w, i32_w]
          try rfl
        refine one_ (i := 11) (N := some 46) #[true, true, true, true, true, true, true, true, true, true, true, true, false, false, false, false] rfl rfl (by kernel_rfl) (by decide) (fun K hK => ?_)
        refine call_ 23 #[.agg #[.int .i64 x0, .int .i64 x1], .agg #[.int .i64 t.f0, .int .i64 t.f1]] (by rfl) rfl (by go_simp) ?_
        refine (HOR.out wr.drew).mono ?_
        rintro e w3 ⟨rfl, hb3⟩
        have hb4 : Below wr.heap.size wr w3 := below_step (below_drew (Below.refl _ wr)) hb3
        have HB3 := Lib.hid (below_step HBW.out hb4)
        refine ⟨_, rfl, ?_⟩
        refine hK.out _ _ ⟨pw_cell_below hb4 d0, pw_cell_below hb4 d1, pw_cell_below hb4 t0, pw_cell_below hb4 t1⟩ (fun hHeld => ?_)
        clear hK K
        refine norm_ (a' := ?_) ?_ ?_
        rotate_left
        · show Act.put _ (some 46) _ = _
          simp only [Act.put, List.setIfInBounds_toArray, List.set_cons_zero, List.set_cons_succ, i64_w, i32_w]
          try rfl
        refine pure_ (i := 12) (N := some 47) (v := ?_) (a' := ?_) #[true, true, true, true, true, true, true, true, true, true, true, true, true, false, false, false] rfl rfl (by kernel_rfl) (fun _ _ _ h => h) (Or.inl ⟨by rfl, ?_⟩) ?_ ?_
        rotate_left
        · intro w'
          go_simp
          with_reducible rfl
        rotate_left
        · simp only [Act.put, List.setIfInBounds_toArray, List.set_cons_zero, List.set_cons_succ, i64_w, i32_w]
          try rfl
        refine pure_ (i := 13) (N := some 48) (v := ?_) (a' := ?_) #[true, true, true, true, true, true, true, true, true, true, true, true, true, true, false, false] rfl rfl (by kernel_rfl) (fun _ _ _ h => h) (Or.inl ⟨by rfl, ?_⟩) ?_ ?_
        rotate_left
        · intro w'
          go_simp
          with_reducible rfl
        rotate_left
        · simp only [Act.put, List.setIfInBounds_toArray, List.set_cons_zero, List.set_cons_succ, i64_w, i32_w]
          try rfl
        refine pure_ (i := 14) (N := some 6) (v := ?_) (a' := ?_) #[true, true, true, true, true, true, true, true, true, true, true, true, true, true, true, false] rfl rfl (by kernel_rfl) (fun _ _ _ h => h) (Or.inl ⟨by rfl, ?_⟩) ?_ ?_
        rotate_left
        · intro w'
          go_simp
          with_reducible rfl
        rotate_left
        · simp only [Act.put, List.setIfInBounds_toArray, List.set_cons_zero, List.set_cons_succ, i64_w, i32_w]
          try rfl
        refine pure_ (i := 15) (N := some 7) (v := ?_) (a' := ?_) #[true, true, true, true, true, true, true, true, true, true, true, true, true, true, true, true] rfl rfl (by kernel_rfl) (fun _ _ _ h => h) (Or.inl ⟨by rfl, ?_⟩) ?_ ?_
        rotate_left
        · intro w'
          go_simp
          with_reducible rfl
        rotate_left
        · simp only [Act.put, List.setIfInBounds_toArray, List.set_cons_zero, List.set_cons_succ, i64_w, i32_w]
          try rfl
        refine done_ (by kernel_rfl) ?_
        clear hb3 hb4
        go_wp2
        go_ret2
        exact ⟨a, _, rfl, hbn, HA.out, HB.out, below_step HB1.out HB3.out⟩
      · have hdn : decide ((a : Int) < (xs.length : Int)) = false := decide_eq_false (by omega)
        clear hbw
        go_wp2_with fail
        refine start_ (n := 16) (S := fun _ => True) (ds := []) #[false, false, false, false, false, false, false, false, false, false, false, false, false, false, false, false] (by kernel_rfl) rfl rfl trivial (fun hHeld => ?_)
        refine pure_ (i := 0) (N := some 35) (v := ?_) (a' := ?_) #[true, false, false, false, false, false, false, false, false, false, false, false, false, false, false, false] rfl rfl (by kernel_rfl) (fun _ _ _ h => h) (Or.inl ⟨by rfl, ?_⟩) ?_ ?_
        rotate_left
        · intro w'
          go_simp
          with_reducible rfl
        rotate_left
        · simp only [Act.put, List.setIfInBounds_toArray, List.set_cons_zero, List.set_cons_succ, i64_w, i32_w]
          try rfl
        refine pure_ (i := 1) (N := some 36) (v := ?_) (a' := ?_) #[true, true, false, false, false, false, false, false, false, false, false, false, false, false, false, false] rfl rfl (by kernel_rfl) (fun _ _ _ h => h) (Or.inl ⟨by rfl, ?_⟩) ?_ ?_
        rotate_left
        · intro w'
          go_simp
          with_reducible rfl
        rotate_left
        · simp only [Act.put, List.setIfInBounds_toArray, List.set_cons_zero, List.set_cons_succ, i64_w, i32_w]
          try rfl
        refine pure_ (i := 2) (N := some 37) (v := ?_) (a' := ?_) #[true, true, true, false, false, false, false, false, false, false, false, false, false, false, false, false] rfl rfl (by kernel_rfl) (fun _ _ _ h => h) (Or.inl ⟨by rfl, ?_⟩) ?_ ?_
        rotate_left
        · intro w'
          go_simp
          with_reducible rfl
        rotate_left
        · simp only [Act.put, List.setIfInBounds_toArray, List.set_cons_zero, List.set_cons_succ, i64_w, i32_w]
          try rfl
        refine pure_ (i := 3) (N := some 38) (v := ?_) (a' := ?_) #[true, true, true, true, false, false, false, false, false, false, false, false, false, false, false, false] rfl rfl (by kernel_rfl) (fun _ _ _ h => h) (Or.inl ⟨by rfl, ?_⟩) ?_ ?_
        rotate_left
        · intro w'
          go_simp
          with_reducible rfl
        rotate_left
        · simp only [Act.put, List.setIfInBounds_toArray, List.set_cons_zero, List.set_cons_succ, i64_w, i32_w]
          try rfl
        refine pure_ (i := 4) (N := some 39) (v := ?_) (a' := ?_) #[true, true, true, true, true, false, false, false, false, false, false, false, false, false, false, false] rfl rfl (by kernel_rfl) (fun _ _ _ h => h) (Or.inl ⟨by rfl, ?_⟩) ?_ ?_
        rotate_left
        · intro w'
          go_simp
          with_reducible rfl
        rotate_left
        · simp only [Act.put, List.setIfInBounds_toArray, List.set_cons_zero, List.set_cons_succ, i64_w, i32_w]
          try rfl
        refine pure_ (i := 5) (N := some 40) (v := undef) (a' := ?_) #[true, true, true, true, true, true, false, false, false, false, false, false, false, false, false, false] rfl rfl (by kernel_rfl) (fun _ _ _ h => h) (Or.inr ⟨by rfl, rfl⟩) ?_ ?_
        rotate_left
        · simp only [Act.put, List.setIfInBounds_toArray, List.set_cons_zero, List.set_cons_succ, i64_w, i32_w]
          try rfl
        refine pure_ (i := 6) (N := some 41) (v := undef) (a' := ?_) #[true, true, true, true, true, true, true, false, false, false, false, false, false, false, false, false] rfl rfl (by kernel_rfl) (fun _ _ _ h => h) (Or.inr ⟨by rfl, rfl⟩) ?_ ?_
        rotate_left
        · simp only [Act.put, List.setIfInBounds_toArray, List.set_cons_zero, List.set_cons_succ, i64_w, i32_w]
          try rfl
        refine pure_ (i := 7) (N := some 42) (v := undef) (a' := ?_) #[true, true, true, true, true, true, true, true, false, false, false, false, false, false, false, false] rfl rfl (by kernel_rfl) (fun _ _ _ h => h) (Or.inr ⟨by rfl, rfl⟩) ?_ ?_
        rotate_left
        · simp only [Act.put, List.setIfInBounds_toArray, List.set_cons_zero, List.set_cons_succ, i64_w, i32_w]
          try rfl
        refine pure_ (i := 8) (N := some 43) (v := undef) (a' := ?_) #[true, true, true, true, true, true, true, true, true, false, false, false, false, false, false, false] rfl rfl (by kernel_rfl) (fun _ _ _ h => h) (Or.inr ⟨by rfl, rfl⟩) ?_ ?_
        rotate_left
        · simp only [Act.put, List.setIfInBounds_toArray, List.set_cons_zero, List.set_cons_succ, i64_w, i32_w]
          try rfl
        refine pure_ (i := 9) (N := some 44) (v := undef) (a' := ?_) #[true, true, true, true, true, true, true, true, true, true, false, false, false, false, false, false] rfl rfl (by kernel_rfl) (fun _ _ _ h => h) (Or.inr ⟨by rfl, rfl⟩) ?_ ?_
        rotate_left
        · simp only [Act.put, List.setIfInBounds_toArray, List.set_cons_zero, List.set_cons_succ, i64_w, i32_w]
          try rfl
        refine pure_ (i := 10) (N := some 45) (v := undef) (a' := ?_) #[true, true, true, true, true, true, true, true, true, true, true, false, false, false, false, false] rfl rfl (by kernel_rfl) (fun _ _ _ h => h) (Or.inr ⟨by rfl, rfl⟩) ?_ ?_
        rotate_left
        · simp only [Act.put, List.setIfInBounds_toArray, List.set_cons_zero, List.set_cons_succ, i64_w, i32_w]
          try rfl
        refine pure_ (i := 11) (N := some 46) (v := undef) (a' := ?_) #[true, true, true, true, true, true, true, true, true, true, true, true, false, false, false, false] rfl rfl (by kernel_rfl) (fun _ _ _ h => h) (Or.inr ⟨by rfl, rfl⟩) ?_ ?_
        rotate_left
        · simp only [Act.put, List.setIfInBounds_toArray, List.set_cons_zero, List.set_cons_succ, i64_w, i32_w]
          try rfl
        refine pure_ (i := 12) (N := some 47) (v := undef) (a' := ?_) #[true, true, true, true, true, true, true, true, true, true, true, true, true, false, false, false] rfl rfl (by kernel_rfl) (fun _ _ _ h => h) (Or.inr ⟨by rfl, rfl⟩) ?_ ?_
        rotate_left
        · simp only [Act.put, List.setIfInBounds_toArray, List.set_cons_zero, List.set_cons_succ, i64_w, i32_w]
          try rfl
        refine pure_ (i := 13) (N := some 48) (v := ?_) (a' := ?_) #[true, true, true, true, true, true, true, true, true, true, true, true, true, true, false, false] rfl rfl (by kernel_rfl) (fun _ _ _ h => h) (Or.inl ⟨by rfl, ?_⟩) ?_ ?_
        rotate_left
        · intro w'
          go_simp
          with_reducible rfl
        rotate_left
        · simp only [Act.put, List.setIfInBounds_toArray, List.set_cons_zero, List.set_cons_succ, i64_w, i32_w]
          try rfl
        refine pure_ (i := 14) (N := some 6) (v := ?_) (a' := ?_) #[true, true, true, true, true, true, true, true, true, true, true, true, true, true, true, false] rfl rfl (by kernel_rfl) (fun _ _ _ h => h) (Or.inl ⟨by rfl, ?_⟩) ?_ ?_
        rotate_left
        · intro w'
          go_simp
          with_reducible rfl
        rotate_left
        · simp only [Act.put, List.setIfInBounds_toArray, List.set_cons_zero, List.set_cons_succ, i64_w, i32_w]
          try rfl
        refine pure_ (i := 15) (N := some 7) (v := ?_) (a' := ?_) #[true, true, true, true, true, true, true, true, true, true, true, true, true, true, true, true] rfl rfl (by kernel_rfl) (fun _ _ _ h => h) (Or.inl ⟨by rfl, ?_⟩) ?_ ?_
        rotate_left
        · intro w'
          go_simp
          with_reducible rfl
        rotate_left
        · simp only [Act.put, List.setIfInBounds_toArray, List.set_cons_zero, List.set_cons_succ, i64_w, i32_w]
          try rfl
        refine done_ (by kernel_rfl) ?_
        go_wp2
        go_ret2
        exact ⟨a, _, rfl, hbn, HA.out, HB.out, below_step HB1.out (below_drew HBW.out)⟩
end
end Go.Proofs.Ytccmelpnmjdclaa.H
