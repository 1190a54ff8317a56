/- ReplyAlls: the walk. -/
import Derived.Test.YtnifkdcjphekpaaAlls
import Derived.Test.YtnifkdcjphekpaaAlive
namespace Go.Proofs.Ytnifkdcjphekpaa.H
open Go.RowKit Go.Proofs.YtnifkdcjphekpaaW.PrintWords Go.Proofs.YtnifkdcjphekpaaW.PrintLast
set_option linter.unusedVariables false
set_option linter.unusedSimpArgs false
theorem bytes_count (x : A.S34) : ∃ r, A.reply_bytes.f 10 x.f0 x.f1 x.f2 x.f3 x.f4 = some r ∧ r.length = if x.f1 = true then 2 else 1 := by
  unfold A.reply_bytes.f
  simp only [A.reply_bytes.j0, A.order_Plain.f]
  cases h1 : x.f1
  · rw [if_neg (by decide)]
    repeat (first | exact ⟨_, rfl, by simp⟩ | split | simp only [Option.bind_some])
    all_goals contradiction
  · rw [if_pos rfl]
    repeat (first | exact ⟨_, rfl, by simp⟩ | split | simp only [Option.bind_some])
    all_goals contradiction
theorem bytes_len (x : A.S34) : (bytesL x).length = if x.f1 = true then 2 else 1 := by
  obtain ⟨r, h, hl⟩ := bytes_count x
  rw [bytes_f] at h
  obtain rfl := Option.some.inj h
  exact hl
def cntTo (cs : List A.S34) : Nat → Nat
  | 0 => 0
  | k + 1 => cntTo cs k + (if (A.rd_T34 cs (k : Int)).f2 = true then 1 else if (A.rd_T34 cs (k : Int)).f1 = true then 1 else 0)
theorem cnt_le (cs : List A.S34) : ∀ k, cntTo cs k ≤ k
  | 0 => Nat.le_refl _
  | k + 1 => by
    have := cnt_le cs k
    unfold cntTo
    split
    · omega
    · split <;> omega
theorem buf_len (cs : List A.S34) : ∀ k, (bufTo cs k).length = k + cntTo cs k
  | 0 => rfl
  | k + 1 => by
    rw [buf_succ, List.length_append, buf_len cs k, cntTo, bufOut]
    split
    · simp; omega
    · rw [bytes_len]
      split <;> omega
theorem read_cases (cs : List A.S34) (cur aid : Int) : (readL cs cur aid).length ≤ (allL cs cur aid).length ∧ (allL cs cur aid).take (readL cs cur aid).length = readL cs cur aid ∧ ((readL cs cur aid).length = 1 ∨ (readL cs cur aid).length = (allL cs cur aid).length) ∧ 3 ≤ (allL cs cur aid).length := by
  unfold readL
  split
  · refine ⟨?_, ?_, .inl rfl, ?_⟩ <;> simp [allL, headL]
  · refine ⟨Nat.le_refl _, List.take_length, .inr rfl, ?_⟩
    simp [allL, headL]
theorem all_size (cs : List A.S34) (cur aid : Int) (h : cs.length ≤ 4096) : (allL cs cur aid).length ≤ 40000000 := by
  have h1 := fieldsL_le cs h
  have h2 := whole_le cs cs.length
  unfold allL
  split <;> simp [headL] <;> omega
theorem start_n {cs : List A.S34} (h : cs.length ≤ 120) : wrap64 (3 + (cs.length : Int)) = ((3 + cs.length + cntTo cs 0 : Nat) : Int) := by
  rw [wrap_of (by omega) (by omega), cntTo]
  omega
section
variable {w : World} {g R c0 : Nat} {r c p : Int} {cs : List A.S34}
theorem alls_c (hO : OwnP w g R c0 r c cs p) (h0 : 0 ≤ p) (h1 : p < cs.length) (aid : Int) : Calls Try.prog 10 #[.pointer (some ⟨g, 0, none⟩), .int .u8 aid] w fun e w' => ∃ ga ca, e = .returned (.slice (some ⟨ga, 0, none⟩) (allL cs p aid).length ca) ∧ w'.ownsRow w.heap.size 5 1 (.slice (some ⟨ga, 0, none⟩) (allL cs p aid).length ca) (allL cs p aid).length (nu (allL cs p aid)) ∧ Below w.heap.size w w' := by
  refine (all_a hO.isP h0 h1 aid).mono ?_
  rintro e w' ⟨v, rfl, ho, hb⟩
  have h3 := (read_cases cs p aid).2.2.2
  obtain ⟨ga, ca, rfl, _⟩ := ho.form (by omega)
  exact ⟨ga, ca, rfl, ho, hb⟩
theorem reads_c (hO : OwnP w g R c0 r c cs p) (h0 : 0 ≤ p) (h1 : p < cs.length) (aid : Int) : Calls Try.prog 11 #[.pointer (some ⟨g, 0, none⟩), .int .u8 aid] w fun e w' => ∃ ga ca, e = .returned (.slice ga (readL cs p aid).length ca) ∧ w'.ownsRow w.heap.size 5 1 (.slice ga (readL cs p aid).length ca) (readL cs p aid).length (nu (readL cs p aid)) ∧ Below w.heap.size w w' := by
  refine (read_a hO.isP h0 h1 aid).mono ?_
  rintro e w' ⟨v, rfl, ho, hb⟩
  rcases ho.2 with ⟨hv, hz⟩ | ⟨ga, ca, cur, hv, hr⟩
  · subst hv
    exact ⟨none, 0, by rw [hz], by rw [hz] at ho ⊢; exact ho, hb⟩
  · subst hv
    exact ⟨_, _, rfl, ho, hb⟩
theorem buf_c (hO : OwnP w g R c0 r c cs p) (h0 : 0 ≤ p) (h1 : p < cs.length) (aid : Int) : Calls Try.prog 12 #[.pointer (some ⟨g, 0, none⟩), .int .u8 aid] w fun e w' => ∃ ga ca, e = .returned (.slice ga (3 + cs.length + cntTo cs cs.length) ca) ∧ Below w.heap.size w w' := by
  refine (buffer_p hO.isP h0 h1 aid).mono ?_
  rintro e w' ⟨v, rfl, ho, hb⟩
  have hl : (headL p aid ++ bufTo cs cs.length).length = 3 + cs.length + cntTo cs cs.length := by
    rw [List.length_append, buf_len]
    simp [headL]
    omega
  rw [hl] at ho
  rcases ho.2 with ⟨hv, hz⟩ | ⟨ga, ca, cur, hv, hr⟩
  · omega
  · subst hv
    exact ⟨_, _, rfl, hb⟩
end
set_option maxHeartbeats 4000000 in
set_option maxRecDepth 100000 in
theorem alls_walk (r c a aid : Int) (xs : List A.S34) (A1 : Option Addr) (c1 : Nat) (w : World) (hC : Kd.C A.k34 w A1 xs.length xs) :
    Calls Try.prog 4 #[.agg #[.int .i64 r, .int .i64 c], .slice A1 xs.length c1, .int .i64 a, .int .u8 aid] w fun e w' => e = .returned (.bool true) ∧ Below w.heap.size w w' := by
  have hu26 := Try.underlying26
  have hu30 := Try.underlying30
  have hu34 := Try.underlying34
  have HC := Lib.hid hC
  have HB0 := Lib.hid (below_alloc (Below.refl w.heap.size w) (.cells #[.int .i64 r, .int .i64 c] 26))
  have HS0 := Lib.hid (heap_alloc_new w (.cells #[.int .i64 r, .int .i64 c] 26))
  clear hC
  by_cases hn : cells r c = 0 ∨ 120 < cells r c
  · go_enter Try.func4, Try.ntmps4
    go_wp2_with (first
      | (go_at_call 7; (with_reducible refine (alive_p _).mono ?_); rintro e w1 ⟨rfl, hb⟩; have HB1 := Lib.hid (below_step HB0.out hb); have hs := blk_below HS0.out hb; have s0 := (blk_cell hs 0).trans rfl; have s1 := (blk_cell hs 1).trans rfl; clear hb hs)
      | (go_at_call 9; (with_reducible refine (made_no r c a hn xs A1 c1 _).mono ?_); rintro e w2 ⟨x0, x1, A2, n2, c2, x3, rfl, hb⟩; have HB2 := Lib.hid (below_step HB1.out hb); clear hb))
    go_ret
    exact ⟨rfl, below_alloc HB2.out _⟩
  · have hr := cells_range r c
    have hn1 : 1 ≤ cells r c := by omega
    have hn2 : cells r c ≤ 120 := by omega
    have HN12 := Lib.hid (And.intro hn1 hn2)
    clear hn hr hn1 hn2
    go_enter Try.func4, Try.ntmps4
    go_wp2_with (first
      | (go_at_call 7; (with_reducible refine (alive_p _).mono ?_); rintro e w1 ⟨rfl, hb⟩; have HB1 := Lib.hid (below_step HB0.out hb); have hs := blk_below HS0.out hb; have s0 := (blk_cell hs 0).trans rfl; have s1 := (blk_cell hs 1).trans rfl; clear hb hs)
      | (go_at_call 9; (with_reducible refine (made_q r c a HN12.out.1 HN12.out.2 xs A1 c1 _ (Kd.C_below HC.out HB1.out)).mono ?_); rintro e w2 ⟨cs, p, g, R, c0, R2, c2, rfl, hg, hf, ho, hq, hb⟩; have HB2 := Lib.hid (below_step HB1.out hb); have HO2 := Lib.hid ho; have HQ2 := Lib.hid hq; have HF2 := Lib.hid hf; clear hb ho hq hg hf))
    obtain ⟨W3, hW3⟩ : ∃ W3, W3 = w2.alloc (.cells #[.int .i64 r, .int .i64 c, .slice (some ⟨R2, 0, none⟩) cs.length c2, .int .i64 p] 30) := ⟨_, rfl⟩
    have HB3 : Hid (Below w.heap.size w W3) := Lib.hid (by rw [hW3]; exact below_alloc HB2.out _)
    have HO3 : Hid (OwnP W3 g R c0 r c cs p) := Lib.hid (by rw [hW3]; exact HO2.out.later (below_alloc (Below.refl _ _) _))
    have HQ3 : Hid (Row34 W3 R2 cs) := Lib.hid (by rw [hW3]; exact HQ2.out.later (below_alloc (Below.refl _ _) _))
    have hf := HF2.out
    have h120 : cs.length ≤ 120 := hf.2.2.1
    rw [← hW3]
    clear hW3 HB2 HO2 HQ2 hf
    go_loopw [12, 36] (fun v12 v36 wr => ∃ k : Nat, k ≤ cs.length ∧ v36 = .int .i64 k ∧ v12 = .int .i64 ((3 + cs.length + cntTo cs k : Nat) : Int) ∧ Below W3.heap.size W3 wr) (fun _ v36 _ => cs.length - (intOf v36).toNat)
    case atStart => exact ⟨0, Nat.zero_le _, rfl, congrArg (Value.int .i64) (start_n h120), Below.refl _ _⟩
    case round =>
      obtain ⟨k, hk, rfl, rfl, hb⟩ := hrel
      have hck := cnt_le cs k
      have HB4 := Lib.hid hb
      have HQ4 := Lib.hid (HQ3.out.later hb)
      clear hb
      by_cases hlt : k < cs.length
      · obtain ⟨ad, had, d0, d1, d2, d3, d4⟩ := A.at_T34 (HQ4.out.C (by omega)) (k : Int) (by omega) (by omega)
        obtain rfl : ⟨R2, 0, none⟩ = ad := by injection had
        simp only [addr_mk, Int.toNat_natCast] at d0 d1 d2 d3 d4
        obtain ⟨j, hj⟩ : ∃ j, k * 5 = j := ⟨_, rfl⟩
        have ha : (⟨R2, 0, none⟩ : Addr).add (k * 5) = ⟨R2, j, none⟩ := by rw [addr_mk, hj]
        rw [hj] at d0 d1 d2 d3 d4
        have hcs : cntTo cs (k + 1) = cntTo cs k + (if (A.rd_T34 cs (k : Int)).f2 = true then 1 else if (A.rd_T34 cs (k : Int)).f1 = true then 1 else 0) := rfl
        obtain ⟨⟨b0, b1, b2, b3, b4⟩, hx⟩ : ∃ x, A.rd_T34 cs (k : Int) = x := ⟨_, rfl⟩
        rw [hx] at d0 d1 d2 d3 d4 hcs
        have HCS := Lib.hid hcs
        clear hcs hx had
        cases b2
        · cases b1
          · go_wp2_with fail
            go_roundw
            case rel => exact ⟨k + 1, by omega, by go_num, by rw [HCS.out]; rfl, below_alloc HB4.out _⟩
            case measure => simp [intOf]; omega
          · go_wp2_with fail
            go_roundw
            case rel => exact ⟨k + 1, by omega, by go_num, by rw [HCS.out]; simp; omega, below_alloc HB4.out _⟩
            case measure => simp [intOf]; omega
        · go_wp2_with fail
          go_roundw
          case rel => exact ⟨k + 1, by omega, by go_num, by rw [HCS.out]; simp; omega, below_alloc HB4.out _⟩
          case measure => simp [intOf]; omega
      · obtain rfl : k = cs.length := by omega
        have HO4 := Lib.hid (HO3.out.later HB4.out)
        have HBW := Lib.hid (below_step HB3.out HB4.out)
        have h0p := HF2.out.2.2.2.1
        have h1p := HF2.out.2.2.2.2.1
        have hrc := read_cases cs p aid
        have has := all_size cs p aid (by omega)
        have hcell : ∀ (W : World) (ga ca B : Nat), W.ownsRow B 5 1 (.slice (some ⟨ga, 0, none⟩) (allL cs p aid).length ca) (allL cs p aid).length (nu (allL cs p aid)) → W.cell? ⟨ga, 0, none⟩ = some (.int .u8 aid) := fun W ga ca B h => h.cells (g := ga) rfl 0 _ (by simp [nu, nums, allL, headL])
        have HP01 := Lib.hid (And.intro h0p h1p)
        clear h0p h1p HB4 HQ4
        obtain ⟨al, hal⟩ : ∃ al, allL cs p aid = al := ⟨_, rfl⟩
        obtain ⟨rl, hrl⟩ : ∃ rl, readL cs p aid = rl := ⟨_, rfl⟩
        have HALL := Lib.hid hal
        have HREAD := Lib.hid hrl
        rw [hal, hrl] at hrc
        rw [hal] at has hcell
        clear hal hrl
        have HRC := Lib.hid hrc
        have e1 : decide ((al.length : Int) < 3) = false := by have := hrc.2.2.2; simp; omega
        have e2 : decide ((rl.length : Int) > al.length) = false := by have := hrc.1; simp; omega
        have e4 : ¬ al.length < rl.length := by have := hrc.1; omega
        have e3 : 0 < al.length := by have := hrc.2.2.2; omega
        clear hrc
        go_wp2_with (first
          | (go_at_call 10; (with_reducible refine (alls_c HO4.out HP01.out.1 HP01.out.2 aid).mono ?_); rw [HALL.out]; rintro e w5 ⟨ga, ca, rfl, ho, hb⟩; have HW5 := Lib.hid ho; have HB5 := Lib.hid hb; clear ho hb)
          | (go_at_call 11; (with_reducible refine (reads_c (HO4.out.later HB5.out) HP01.out.1 HP01.out.2 aid).mono ?_); rw [HREAD.out]; rintro e w6 ⟨gr, cr, rfl, ho, hb⟩; have HR6 := Lib.hid ho; have HW6 := Lib.hid (pw_own_below HW5.out hb); have HB6 := Lib.hid (below_step HB5.out hb); clear ho hb)
          | (go_at_call 12; (with_reducible refine (buf_c (HO4.out.later HB6.out) HP01.out.1 HP01.out.2 aid).mono ?_); rintro e w7 ⟨gb, cb, rfl, hb⟩; have HR7 := Lib.hid (pw_own_below HR6.out hb); have HW7 := Lib.hid (pw_own_below HW6.out hb); have HB7 := Lib.hid (below_step HB6.out hb); have c0a := hcell _ _ _ _ HW7.out; clear hb))
        have cv1 : (convert 35 9 (.slice (some ⟨ga, 0, none⟩) rl.length ca)).run Try.prog w7.drew = .ok (.string (strOfNums rl)) w7.drew := by
          have h := own_take (pw_own_below HW7.out (below_drew (Below.refl _ w7))) HRC.out.1
          have ht := HRC.out.2.1
          rw [Nat.mul_one] at h
          have h2 : (nu al).take rl.length = nu rl := by
            show List.take rl.length (nums .u8 al) = nums .u8 rl
            unfold nums
            rw [← List.map_take, ht]
          rw [h2] at h
          exact own_string Try.underlying35 Try.underlying5 Try.underlying9 h
        have cv2 : (convert 35 9 (.slice gr rl.length cr)).run Try.prog w7.drew = .ok (.string (strOfNums rl)) w7.drew := own_string Try.underlying35 Try.underlying5 Try.underlying9 (pw_own_below HR7.out (below_drew (Below.refl _ w7)))
        obtain ⟨st, hst⟩ : ∃ st, strOfNums rl = st := ⟨_, rfl⟩
        rw [hst] at cv1 cv2
        have q3 : rl.length ≤ ca := Nat.le_trans HRC.out.1 (own_le HW7.out)
        have q4 : (rl.length : Int) ≤ ca := by omega
        clear hst c0a hcell
        by_cases h1 : rl.length = 1
        · have q1 : ((rl.length : Int) == 1) = true := beq_iff_eq.2 (by omega)
          clear h1
          refine start_ (n := 21) (S := fun w' => w' = w7.drew) (ds := []) #[false, false, false, false, false, false, false, false, false, false, false, false, false, false, false, false, false, false, false, false, false] (by kernel_rfl) rfl rfl rfl (fun hHeld => ?_)
          refine pure_ (i := 0) (N := some 80) (v := ?_) (a' := ?_) #[true, false, false, false, false, false, false, false, false, false, false, false, false, false, false, false, false, false, false, false, false] rfl rfl (by kernel_rfl) (fun _ _ _ h => h) (Or.inl ⟨by rfl, ?_⟩) ?_ ?_
          rotate_left
          · intro w'
            go_simp
            with_reducible rfl
          rotate_left
          · simp only [Act.put, List.setIfInBounds_toArray, List.set_cons_zero, List.set_cons_succ, i64_w, i32_w]
            try rfl
          refine pure_ (i := 1) (N := some 81) (v := ?_) (a' := ?_) #[true, true, false, false, false, false, false, false, false, false, false, false, false, false, false, false, false, false, false, false, false] rfl rfl (by kernel_rfl) (fun _ _ _ h => h) (Or.inl ⟨by rfl, ?_⟩) ?_ ?_
          rotate_left
          · intro w'
            go_simp
            with_reducible rfl
          rotate_left
          · simp only [Act.put, List.setIfInBounds_toArray, List.set_cons_zero, List.set_cons_succ, i64_w, i32_w]
            try rfl
          refine pure_ (i := 2) (N := some 82) (v := ?_) (a' := ?_) #[true, true, true, false, false, false, false, false, false, false, false, false, false, false, false, false, false, false, false, false, false] rfl rfl (by kernel_rfl) (fun _ _ _ h => h) (Or.inl ⟨by rfl, ?_⟩) ?_ ?_
          rotate_left
          · intro w'
            go_simp
            with_reducible rfl
          rotate_left
          · simp only [Act.put, List.setIfInBounds_toArray, List.set_cons_zero, List.set_cons_succ, i64_w, i32_w]
            try rfl
          refine pure_ (i := 3) (N := some 83) (v := ?_) (a' := ?_) #[true, true, true, true, false, false, false, false, false, false, false, false, false, false, false, false, false, false, false, false, false] rfl rfl (by kernel_rfl) (fun _ _ _ h => h) (Or.inl ⟨by rfl, ?_⟩) ?_ ?_
          rotate_left
          · intro w'
            go_simp
            with_reducible rfl
          rotate_left
          · simp only [Act.put, List.setIfInBounds_toArray, List.set_cons_zero, List.set_cons_succ, i64_w, i32_w]
            try rfl
          refine take_ (i := 4) (N := some 84) (v := ?_) (a' := ?_) #[true, true, true, true, true, false, false, false, false, false, false, false, false, false, false, false, false, false, false, false, false] rfl rfl (by kernel_rfl) (fun _ _ _ h => h) (Or.inl ⟨by rfl, ?_⟩) hHeld ?_ ?_
          rotate_left
          · rintro w' rfl
            have hcv := cv1
            go_simp
            with_reducible rfl
          rotate_left
          · simp only [Act.put, List.setIfInBounds_toArray, List.set_cons_zero, List.set_cons_succ, i64_w, i32_w]
            try rfl
          refine pure_ (i := 5) (N := some 85) (v := ?_) (a' := ?_) #[true, true, true, true, true, true, false, false, false, false, false, false, false, false, false, false, false, false, false, false, false] rfl rfl (by kernel_rfl) (fun _ _ _ h => h) (Or.inl ⟨by rfl, ?_⟩) ?_ ?_
          rotate_left
          · intro w'
            go_simp
            with_reducible rfl
          rotate_left
          · simp only [Act.put, List.setIfInBounds_toArray, List.set_cons_zero, List.set_cons_succ, i64_w, i32_w]
            try rfl
          refine take_ (i := 6) (N := some 86) (v := ?_) (a' := ?_) #[true, true, true, true, true, true, true, false, false, false, false, false, false, false, false, false, false, false, false, false, false] rfl rfl (by kernel_rfl) (fun _ _ _ h => h) (Or.inl ⟨by rfl, ?_⟩) hHeld ?_ ?_
          rotate_left
          · rintro w' rfl
            have hcv := cv2
            go_simp
            with_reducible rfl
          rotate_left
          · simp only [Act.put, List.setIfInBounds_toArray, List.set_cons_zero, List.set_cons_succ, i64_w, i32_w]
            try rfl
          refine pure_ (i := 7) (N := some 87) (v := ?_) (a' := ?_) #[true, true, true, true, true, true, true, true, false, false, false, false, false, false, false, false, false, false, false, false, false] rfl rfl (by kernel_rfl) (fun _ _ _ h => h) (Or.inl ⟨by rfl, ?_⟩) ?_ ?_
          rotate_left
          · intro w'
            go_simp
            with_reducible rfl
          rotate_left
          · simp only [Act.put, List.setIfInBounds_toArray, List.set_cons_zero, List.set_cons_succ, i64_w, i32_w]
            try rfl
          refine pure_ (i := 8) (N := some 88) (v := ?_) (a' := ?_) #[true, true, true, true, true, true, true, true, true, false, false, false, false, false, false, false, false, false, false, false, false] rfl rfl (by kernel_rfl) (fun _ _ _ h => h) (Or.inl ⟨by rfl, ?_⟩) ?_ ?_
          rotate_left
          · intro w'
            go_simp
            with_reducible rfl
          rotate_left
          · simp only [Act.put, List.setIfInBounds_toArray, List.set_cons_zero, List.set_cons_succ, i64_w, i32_w]
            try rfl
          refine pure_ (i := 9) (N := some 89) (v := ?_) (a' := ?_) #[true, true, true, true, true, true, true, true, true, true, false, false, false, false, false, false, false, false, false, false, false] rfl rfl (by kernel_rfl) (fun _ _ _ h => h) (Or.inl ⟨by rfl, ?_⟩) ?_ ?_
          rotate_left
          · intro w'
            go_simp
            with_reducible rfl
          rotate_left
          · simp only [Act.put, List.setIfInBounds_toArray, List.set_cons_zero, List.set_cons_succ, i64_w, i32_w]
            try rfl
          refine pure_ (i := 10) (N := some 90) (v := ?_) (a' := ?_) #[true, true, true, true, true, true, true, true, true, true, true, false, false, false, false, false, false, false, false, false, false] rfl rfl (by kernel_rfl) (fun _ _ _ h => h) (Or.inl ⟨by rfl, ?_⟩) ?_ ?_
          rotate_left
          · intro w'
            go_simp
            with_reducible rfl
          rotate_left
          · simp only [Act.put, List.setIfInBounds_toArray, List.set_cons_zero, List.set_cons_succ, i64_w, i32_w]
            try rfl
          refine pure_ (i := 11) (N := some 91) (v := ?_) (a' := ?_) #[true, true, true, true, true, true, true, true, true, true, true, true, false, false, false, false, false, false, false, false, false] rfl rfl (by kernel_rfl) (fun _ _ _ h => h) (Or.inl ⟨by rfl, ?_⟩) ?_ ?_
          rotate_left
          · intro w'
            go_simp
            with_reducible rfl
          rotate_left
          · simp only [Act.put, List.setIfInBounds_toArray, List.set_cons_zero, List.set_cons_succ, i64_w, i32_w]
            try rfl
          refine pure_ (i := 12) (N := some 92) (v := ?_) (a' := ?_) #[true, true, true, true, true, true, true, true, true, true, true, true, true, false, false, false, false, false, false, false, false] rfl rfl (by kernel_rfl) (fun _ _ _ h => h) (Or.inl ⟨by rfl, ?_⟩) ?_ ?_
          rotate_left
          · intro w'
            go_simp
            with_reducible rfl
          rotate_left
          · simp only [Act.put, List.setIfInBounds_toArray, List.set_cons_zero, List.set_cons_succ, i64_w, i32_w]
            try rfl
          refine pure_ (i := 13) (N := some 93) (v := undef) (a' := ?_) #[true, true, true, true, true, true, true, true, true, true, true, true, true, true, false, false, false, false, false, false, false] rfl rfl (by kernel_rfl) (fun _ _ _ h => h) (Or.inr ⟨by rfl, rfl⟩) ?_ ?_
          rotate_left
          · simp only [Act.put, List.setIfInBounds_toArray, List.set_cons_zero, List.set_cons_succ, i64_w, i32_w]
            try rfl
          refine pure_ (i := 14) (N := some 94) (v := undef) (a' := ?_) #[true, true, true, true, true, true, true, true, true, true, true, true, true, true, true, false, false, false, false, false, false] rfl rfl (by kernel_rfl) (fun _ _ _ h => h) (Or.inr ⟨by rfl, rfl⟩) ?_ ?_
          rotate_left
          · simp only [Act.put, List.setIfInBounds_toArray, List.set_cons_zero, List.set_cons_succ, i64_w, i32_w]
            try rfl
          refine pure_ (i := 15) (N := some 95) (v := undef) (a' := ?_) #[true, true, true, true, true, true, true, true, true, true, true, true, true, true, true, true, false, false, false, false, false] rfl rfl (by kernel_rfl) (fun _ _ _ h => h) (Or.inr ⟨by rfl, rfl⟩) ?_ ?_
          rotate_left
          · simp only [Act.put, List.setIfInBounds_toArray, List.set_cons_zero, List.set_cons_succ, i64_w, i32_w]
            try rfl
          refine pure_ (i := 16) (N := some 96) (v := undef) (a' := ?_) #[true, true, true, true, true, true, true, true, true, true, true, true, true, true, true, true, true, false, false, false, false] rfl rfl (by kernel_rfl) (fun _ _ _ h => h) (Or.inr ⟨by rfl, rfl⟩) ?_ ?_
          rotate_left
          · simp only [Act.put, List.setIfInBounds_toArray, List.set_cons_zero, List.set_cons_succ, i64_w, i32_w]
            try rfl
          refine pure_ (i := 17) (N := some 97) (v := undef) (a' := ?_) #[true, true, true, true, true, true, true, true, true, true, true, true, true, true, true, true, true, true, false, false, false] rfl rfl (by kernel_rfl) (fun _ _ _ h => h) (Or.inr ⟨by rfl, rfl⟩) ?_ ?_
          rotate_left
          · simp only [Act.put, List.setIfInBounds_toArray, List.set_cons_zero, List.set_cons_succ, i64_w, i32_w]
            try rfl
          refine pure_ (i := 18) (N := some 98) (v := ?_) (a' := ?_) #[true, true, true, true, true, true, true, true, true, true, true, true, true, true, true, true, true, true, true, false, false] rfl rfl (by kernel_rfl) (fun _ _ _ h => h) (Or.inl ⟨by rfl, ?_⟩) ?_ ?_
          rotate_left
          · intro w'
            go_simp
            with_reducible rfl
          rotate_left
          · simp only [Act.put, List.setIfInBounds_toArray, List.set_cons_zero, List.set_cons_succ, i64_w, i32_w]
            try rfl
          refine pure_ (i := 19) (N := some 99) (v := ?_) (a' := ?_) #[true, true, true, true, true, true, true, true, true, true, true, true, true, true, true, true, true, true, true, true, false] rfl rfl (by kernel_rfl) (fun _ _ _ h => h) (Or.inl ⟨by rfl, ?_⟩) ?_ ?_
          rotate_left
          · intro w'
            go_simp
            with_reducible rfl
          rotate_left
          · simp only [Act.put, List.setIfInBounds_toArray, List.set_cons_zero, List.set_cons_succ, i64_w, i32_w]
            try rfl
          refine pure_ (i := 20) (N := some 8) (v := ?_) (a' := ?_) #[true, true, true, true, true, true, true, true, true, true, true, true, true, true, true, true, true, true, true, true, true] rfl rfl (by kernel_rfl) (fun _ _ _ h => h) (Or.inl ⟨by rfl, ?_⟩) ?_ ?_
          rotate_left
          · intro w'
            go_simp
            with_reducible rfl
          rotate_left
          · simp only [Act.put, List.setIfInBounds_toArray, List.set_cons_zero, List.set_cons_succ, i64_w, i32_w]
            try rfl
          refine done_ (by kernel_rfl) ?_
          go_wp2
          go_ret
          exact ⟨rfl, below_drew (below_step HBW.out HB7.out)⟩
        · have q1 : ((rl.length : Int) == 1) = false := by rw [beq_eq_false_iff_ne]; omega
          have q2 : ((rl.length : Int) == al.length) = true := beq_iff_eq.2 (by have := HRC.out.2.2.1; omega)
          clear h1
          refine start_ (n := 21) (S := fun w' => w' = w7.drew) (ds := []) #[false, false, false, false, false, false, false, false, false, false, false, false, false, false, false, false, false, false, false, false, false] (by kernel_rfl) rfl rfl rfl (fun hHeld => ?_)
          refine pure_ (i := 0) (N := some 80) (v := ?_) (a' := ?_) #[true, false, false, false, false, false, false, false, false, false, false, false, false, false, false, false, false, false, false, false, false] rfl rfl (by kernel_rfl) (fun _ _ _ h => h) (Or.inl ⟨by rfl, ?_⟩) ?_ ?_
          rotate_left
          · intro w'
            go_simp
            with_reducible rfl
          rotate_left
          · simp only [Act.put, List.setIfInBounds_toArray, List.set_cons_zero, List.set_cons_succ, i64_w, i32_w]
            try rfl
          refine pure_ (i := 1) (N := some 81) (v := ?_) (a' := ?_) #[true, true, false, false, false, false, false, false, false, false, false, false, false, false, false, false, false, false, false, false, false] rfl rfl (by kernel_rfl) (fun _ _ _ h => h) (Or.inl ⟨by rfl, ?_⟩) ?_ ?_
          rotate_left
          · intro w'
            go_simp
            with_reducible rfl
          rotate_left
          · simp only [Act.put, List.setIfInBounds_toArray, List.set_cons_zero, List.set_cons_succ, i64_w, i32_w]
            try rfl
          refine pure_ (i := 2) (N := some 82) (v := ?_) (a' := ?_) #[true, true, true, false, false, false, false, false, false, false, false, false, false, false, false, false, false, false, false, false, false] rfl rfl (by kernel_rfl) (fun _ _ _ h => h) (Or.inl ⟨by rfl, ?_⟩) ?_ ?_
          rotate_left
          · intro w'
            go_simp
            with_reducible rfl
          rotate_left
          · simp only [Act.put, List.setIfInBounds_toArray, List.set_cons_zero, List.set_cons_succ, i64_w, i32_w]
            try rfl
          refine pure_ (i := 3) (N := some 83) (v := ?_) (a' := ?_) #[true, true, true, true, false, false, false, false, false, false, false, false, false, false, false, false, false, false, false, false, false] rfl rfl (by kernel_rfl) (fun _ _ _ h => h) (Or.inl ⟨by rfl, ?_⟩) ?_ ?_
          rotate_left
          · intro w'
            go_simp
            with_reducible rfl
          rotate_left
          · simp only [Act.put, List.setIfInBounds_toArray, List.set_cons_zero, List.set_cons_succ, i64_w, i32_w]
            try rfl
          refine take_ (i := 4) (N := some 84) (v := ?_) (a' := ?_) #[true, true, true, true, true, false, false, false, false, false, false, false, false, false, false, false, false, false, false, false, false] rfl rfl (by kernel_rfl) (fun _ _ _ h => h) (Or.inl ⟨by rfl, ?_⟩) hHeld ?_ ?_
          rotate_left
          · rintro w' rfl
            have hcv := cv1
            go_simp
            with_reducible rfl
          rotate_left
          · simp only [Act.put, List.setIfInBounds_toArray, List.set_cons_zero, List.set_cons_succ, i64_w, i32_w]
            try rfl
          refine pure_ (i := 5) (N := some 85) (v := ?_) (a' := ?_) #[true, true, true, true, true, true, false, false, false, false, false, false, false, false, false, false, false, false, false, false, false] rfl rfl (by kernel_rfl) (fun _ _ _ h => h) (Or.inl ⟨by rfl, ?_⟩) ?_ ?_
          rotate_left
          · intro w'
            go_simp
            with_reducible rfl
          rotate_left
          · simp only [Act.put, List.setIfInBounds_toArray, List.set_cons_zero, List.set_cons_succ, i64_w, i32_w]
            try rfl
          refine take_ (i := 6) (N := some 86) (v := ?_) (a' := ?_) #[true, true, true, true, true, true, true, false, false, false, false, false, false, false, false, false, false, false, false, false, false] rfl rfl (by kernel_rfl) (fun _ _ _ h => h) (Or.inl ⟨by rfl, ?_⟩) hHeld ?_ ?_
          rotate_left
          · rintro w' rfl
            have hcv := cv2
            go_simp
            with_reducible rfl
          rotate_left
          · simp only [Act.put, List.setIfInBounds_toArray, List.set_cons_zero, List.set_cons_succ, i64_w, i32_w]
            try rfl
          refine pure_ (i := 7) (N := some 87) (v := ?_) (a' := ?_) #[true, true, true, true, true, true, true, true, false, false, false, false, false, false, false, false, false, false, false, false, false] rfl rfl (by kernel_rfl) (fun _ _ _ h => h) (Or.inl ⟨by rfl, ?_⟩) ?_ ?_
          rotate_left
          · intro w'
            go_simp
            with_reducible rfl
          rotate_left
          · simp only [Act.put, List.setIfInBounds_toArray, List.set_cons_zero, List.set_cons_succ, i64_w, i32_w]
            try rfl
          refine pure_ (i := 8) (N := some 88) (v := ?_) (a' := ?_) #[true, true, true, true, true, true, true, true, true, false, false, false, false, false, false, false, false, false, false, false, false] rfl rfl (by kernel_rfl) (fun _ _ _ h => h) (Or.inl ⟨by rfl, ?_⟩) ?_ ?_
          rotate_left
          · intro w'
            go_simp
            with_reducible rfl
          rotate_left
          · simp only [Act.put, List.setIfInBounds_toArray, List.set_cons_zero, List.set_cons_succ, i64_w, i32_w]
            try rfl
          refine pure_ (i := 9) (N := some 89) (v := ?_) (a' := ?_) #[true, true, true, true, true, true, true, true, true, true, false, false, false, false, false, false, false, false, false, false, false] rfl rfl (by kernel_rfl) (fun _ _ _ h => h) (Or.inl ⟨by rfl, ?_⟩) ?_ ?_
          rotate_left
          · intro w'
            go_simp
            with_reducible rfl
          rotate_left
          · simp only [Act.put, List.setIfInBounds_toArray, List.set_cons_zero, List.set_cons_succ, i64_w, i32_w]
            try rfl
          refine pure_ (i := 10) (N := some 90) (v := ?_) (a' := ?_) #[true, true, true, true, true, true, true, true, true, true, true, false, false, false, false, false, false, false, false, false, false] rfl rfl (by kernel_rfl) (fun _ _ _ h => h) (Or.inl ⟨by rfl, ?_⟩) ?_ ?_
          rotate_left
          · intro w'
            go_simp
            with_reducible rfl
          rotate_left
          · simp only [Act.put, List.setIfInBounds_toArray, List.set_cons_zero, List.set_cons_succ, i64_w, i32_w]
            try rfl
          refine pure_ (i := 11) (N := some 91) (v := ?_) (a' := ?_) #[true, true, true, true, true, true, true, true, true, true, true, true, false, false, false, false, false, false, false, false, false] rfl rfl (by kernel_rfl) (fun _ _ _ h => h) (Or.inl ⟨by rfl, ?_⟩) ?_ ?_
          rotate_left
          · intro w'
            go_simp
            with_reducible rfl
          rotate_left
          · simp only [Act.put, List.setIfInBounds_toArray, List.set_cons_zero, List.set_cons_succ, i64_w, i32_w]
            try rfl
          refine pure_ (i := 12) (N := some 92) (v := ?_) (a' := ?_) #[true, true, true, true, true, true, true, true, true, true, true, true, true, false, false, false, false, false, false, false, false] rfl rfl (by kernel_rfl) (fun _ _ _ h => h) (Or.inl ⟨by rfl, ?_⟩) ?_ ?_
          rotate_left
          · intro w'
            go_simp
            with_reducible rfl
          rotate_left
          · simp only [Act.put, List.setIfInBounds_toArray, List.set_cons_zero, List.set_cons_succ, i64_w, i32_w]
            try rfl
          refine pure_ (i := 13) (N := some 93) (v := ?_) (a' := ?_) #[true, true, true, true, true, true, true, true, true, true, true, true, true, true, false, false, false, false, false, false, false] rfl rfl (by kernel_rfl) (fun _ _ _ h => h) (Or.inl ⟨by rfl, ?_⟩) ?_ ?_
          rotate_left
          · intro w'
            go_simp
            with_reducible rfl
          rotate_left
          · simp only [Act.put, List.setIfInBounds_toArray, List.set_cons_zero, List.set_cons_succ, i64_w, i32_w]
            try rfl
          refine pure_ (i := 14) (N := some 94) (v := ?_) (a' := ?_) #[true, true, true, true, true, true, true, true, true, true, true, true, true, true, true, false, false, false, false, false, false] rfl rfl (by kernel_rfl) (fun _ _ _ h => h) (Or.inl ⟨by rfl, ?_⟩) ?_ ?_
          rotate_left
          · intro w'
            go_simp
            with_reducible rfl
          rotate_left
          · simp only [Act.put, List.setIfInBounds_toArray, List.set_cons_zero, List.set_cons_succ, i64_w, i32_w]
            try rfl
          refine pure_ (i := 15) (N := some 95) (v := ?_) (a' := ?_) #[true, true, true, true, true, true, true, true, true, true, true, true, true, true, true, true, false, false, false, false, false] rfl rfl (by kernel_rfl) (fun _ _ _ h => h) (Or.inl ⟨by rfl, ?_⟩) ?_ ?_
          rotate_left
          · intro w'
            go_simp
            with_reducible rfl
          rotate_left
          · simp only [Act.put, List.setIfInBounds_toArray, List.set_cons_zero, List.set_cons_succ, i64_w, i32_w]
            try rfl
          refine pure_ (i := 16) (N := some 96) (v := ?_) (a' := ?_) #[true, true, true, true, true, true, true, true, true, true, true, true, true, true, true, true, true, false, false, false, false] rfl rfl (by kernel_rfl) (fun _ _ _ h => h) (Or.inl ⟨by rfl, ?_⟩) ?_ ?_
          rotate_left
          · intro w'
            go_simp
            with_reducible rfl
          rotate_left
          · simp only [Act.put, List.setIfInBounds_toArray, List.set_cons_zero, List.set_cons_succ, i64_w, i32_w]
            try rfl
          refine pure_ (i := 17) (N := some 97) (v := ?_) (a' := ?_) #[true, true, true, true, true, true, true, true, true, true, true, true, true, true, true, true, true, true, false, false, false] rfl rfl (by kernel_rfl) (fun _ _ _ h => h) (Or.inl ⟨by rfl, ?_⟩) ?_ ?_
          rotate_left
          · intro w'
            go_simp
            with_reducible rfl
          rotate_left
          · simp only [Act.put, List.setIfInBounds_toArray, List.set_cons_zero, List.set_cons_succ, i64_w, i32_w]
            try rfl
          refine pure_ (i := 18) (N := some 98) (v := ?_) (a' := ?_) #[true, true, true, true, true, true, true, true, true, true, true, true, true, true, true, true, true, true, true, false, false] rfl rfl (by kernel_rfl) (fun _ _ _ h => h) (Or.inl ⟨by rfl, ?_⟩) ?_ ?_
          rotate_left
          · intro w'
            go_simp
            with_reducible rfl
          rotate_left
          · simp only [Act.put, List.setIfInBounds_toArray, List.set_cons_zero, List.set_cons_succ, i64_w, i32_w]
            try rfl
          refine pure_ (i := 19) (N := some 99) (v := ?_) (a' := ?_) #[true, true, true, true, true, true, true, true, true, true, true, true, true, true, true, true, true, true, true, true, false] rfl rfl (by kernel_rfl) (fun _ _ _ h => h) (Or.inl ⟨by rfl, ?_⟩) ?_ ?_
          rotate_left
          · intro w'
            go_simp
            with_reducible rfl
          rotate_left
          · simp only [Act.put, List.setIfInBounds_toArray, List.set_cons_zero, List.set_cons_succ, i64_w, i32_w]
            try rfl
          refine pure_ (i := 20) (N := some 8) (v := ?_) (a' := ?_) #[true, true, true, true, true, true, true, true, true, true, true, true, true, true, true, true, true, true, true, true, true] rfl rfl (by kernel_rfl) (fun _ _ _ h => h) (Or.inl ⟨by rfl, ?_⟩) ?_ ?_
          rotate_left
          · intro w'
            go_simp
            with_reducible rfl
          rotate_left
          · simp only [Act.put, List.setIfInBounds_toArray, List.set_cons_zero, List.set_cons_succ, i64_w, i32_w]
            try rfl
          refine done_ (by kernel_rfl) ?_
          go_wp2
          go_ret
          exact ⟨rfl, below_drew (below_step HBW.out HB7.out)⟩
end Go.Proofs.Ytnifkdcjphekpaa.H
namespace Go.Proofs.Ytnifkdcjphekpaa.A
open Go.RowKit Go.Proofs.YtnifkdcjphekpaaW.PrintWords
set_option linter.unusedVariables false
def greenscreenlaw23_ReplyAlls.f (_ _ : Int) (_ : List S34) (_ _ : Int) : Option Bool := some true
theorem greenscreenlaw23_ReplyAlls.calls (a0_0 a0_1 : Int) (A1 : Option Addr) (c1 : Nat) (l1 : List S34) (a2 a3 : Int) (r : Bool) (hr_ : r = true) (w : World) (hC1 : Kd.C k34 w A1 l1.length l1) (hcl1 : l1.length ≤ c1) (_ : greenscreenlaw23_ReplyAlls.f a0_0 a0_1 l1 a2 a3 = some r) :
    Calls Try.prog 4 #[.agg #[.int .i64 a0_0, .int .i64 a0_1], .slice A1 l1.length c1, .int .i64 a2, .int .u8 a3] w fun e w' => e = .returned (.bool r) ∧ Below w.heap.size w w' := by
  subst hr_
  exact H.alls_walk a0_0 a0_1 a2 a3 l1 A1 c1 w hC1
end Go.Proofs.Ytnifkdcjphekpaa.A
