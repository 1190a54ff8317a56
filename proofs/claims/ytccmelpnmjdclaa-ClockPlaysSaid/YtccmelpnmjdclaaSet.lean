/- Clock.Set. -/
import Derived.Test.YtccmelpnmjdclaaInsC
namespace Go.Proofs.Ytccmelpnmjdclaa.H
open Go.RowKit Go.Proofs.YtccmelpnmjdclaaW.PrintWords Go.Proofs.YtccmelpnmjdclaaW.PrintLast
set_option linter.unusedVariables false
set_option linter.unusedSimpArgs false
instance (a b : A.S62) : Decidable (ltA a b) := by unfold ltA; infer_instance
/-- With an alarm more, in its place. -/
def insL : List A.S62 → A.S62 → List A.S62
  | [], x => [x]
  | y :: ys, x => if ltA y x then y :: insL ys x else x :: y :: ys
theorem ins_at {t : A.S62} : ∀ (xs : List A.S62) (i : Nat), i ≤ xs.length → (∀ q : Nat, q < i → ltA (A.rd_T62 xs (q : Int)) t) → (∀ q : Nat, i ≤ q → q < xs.length → ¬ ltA (A.rd_T62 xs (q : Int)) t) → xs.take i ++ t :: xs.drop i = insL xs t
  | [], i, hi, _, _ => by
    obtain rfl : i = 0 := by simpa using hi
    rfl
  | y :: ys, 0, hi, h1, h2 => by
    have h := h2 0 (Nat.le_refl _) (by simp)
    have h' : ¬ ltA y t := h
    simp [insL, h']
  | y :: ys, i + 1, hi, h1, h2 => by
    have h : ltA y t := h1 0 (by omega)
    have ih := ins_at ys i (by simpa using hi) (fun q hq => by have := h1 (q + 1) (by omega); simpa [A.rd_T62] using this) (fun q h3 h4 => by have := h2 (q + 1) (by omega) (by simpa using h4); simpa [A.rd_T62] using this)
    rw [List.take_succ_cons, List.drop_succ_cons, insL, if_pos h, List.cons_append, ih]
theorem insL_length (t : A.S62) : ∀ xs : List A.S62, (insL xs t).length = xs.length + 1
  | [] => rfl
  | y :: ys => by
    unfold insL
    split
    · simp [insL_length t ys]
    · simp
theorem Rw.ne {W : World} {v : Value} {xs : List A.S62} (h : Rw W v xs) {g : Nat} {cs : Array Value} (hp : W.heap[g]? = some (.cells cs 27 (0, 0))) : v.ownBlock ≠ some g := by
  intro e
  rcases h with ⟨rfl, _⟩ | ⟨R, off, cap, pre, post, rfl, hb, _⟩
  · cases e
  · obtain rfl : R = g := by simpa [Value.ownBlock] using e
    exact blk_ne hp hb (by decide) rfl
section
variable {w : World} {g : Nat} {now : Int} {v : Value} {xs : List A.S62}
theorem find_t (hI : IsC w g now v xs) (id : Int) (h : hasL xs id = true) : Calls Try.prog 21 #[.pointer (some ⟨g, 0, none⟩), .int .i64 id] w fun e w' => ∃ k : Nat, e = .returned (.int .i64 k) ∧ k < xs.length ∧ (A.rd_T62 xs (k : Int)).f0 = id ∧ (∀ j : Nat, j < k → (A.rd_T62 xs (j : Int)).f0 ≠ id) ∧ Below w.heap.size w w' := by
  refine (find_p hI id).mono ?_
  rintro e w' ⟨r, rfl, hi | ⟨rfl, hn⟩, hb⟩
  · obtain ⟨k, hk, rfl, he, hn⟩ := hi
    exact ⟨k, rfl, hk, he, hn, hb⟩
  · rw [(idx_none hn).2] at h
    cases h
theorem find_f (hI : IsC w g now v xs) (id : Int) (h : hasL xs id = false) : Calls Try.prog 21 #[.pointer (some ⟨g, 0, none⟩), .int .i64 id] w fun e w' => e = .returned (.int .i64 (-1)) ∧ Below w.heap.size w w' := by
  refine (find_p hI id).mono ?_
  rintro e w' ⟨r, rfl, hi | ⟨rfl, hn⟩, hb⟩
  · obtain ⟨k, hk, rfl, he, hn⟩ := hi
    rw [(idx_some hk he hn).2] at h
    cases h
  · exact ⟨rfl, hb⟩
theorem dropL_length (xs : List A.S62) (id : Int) : (dropL xs id).length ≤ xs.length := List.length_eraseP_le
theorem dropL_has {xs : List A.S62} {id : Int} (h : hasL xs id = true) : (dropL xs id).length + 1 = xs.length := by
  unfold hasL at h
  obtain ⟨x, hx, hp⟩ := List.any_eq_true.1 h
  have := List.length_eraseP_of_mem (p := fun x : A.S62 => x.f0 == id) hx hp
  have hpos := List.length_pos_of_mem hx
  unfold dropL
  omega
theorem dropL_sorted {xs : List A.S62} (id : Int) (h : xs.Pairwise ltA) : (dropL xs id).Pairwise ltA := h.sublist (List.eraseP_sublist)
/-- What Set answers. -/
def setE (xs : List A.S62) (id wait : Int) : Int := if wait < 0 then 1 else if hasL xs id = false ∧ 64 ≤ xs.length then 3 else 0
/-- Where it rings. -/
def atV (now wait : Int) : Int := now + if 1099511627776 - now < wait then 1099511627776 - now else wait
def setL (xs : List A.S62) (now id wait : Int) : List A.S62 := if setE xs id wait = 0 then insL (dropL xs id) ⟨id, atV now wait⟩ else xs
set_option maxHeartbeats 2000000 in
set_option maxRecDepth 100000 in
theorem set_a (hI : IsC w g now v xs) (id wait : Int) (h : wait < 0) : Calls Try.prog 8 #[.pointer (some ⟨g, 0, none⟩), .int .i64 id, .int .i64 wait] w fun e w' => e = .returned (.int .i64 1) ∧ Below w.heap.size w w' := by
  go_enter Try.func8, Try.ntmps8
  go_wp2_with fail
  go_ret
  exact ⟨rfl, Below.refl _ _⟩
set_option maxHeartbeats 2000000 in
set_option maxRecDepth 100000 in
theorem set_b (hI : IsC w g now v xs) (id wait : Int) (h : ¬ wait < 0) (hh : hasL xs id = false) (h64 : 64 ≤ xs.length) : Calls Try.prog 8 #[.pointer (some ⟨g, 0, none⟩), .int .i64 id, .int .i64 wait] w fun e w' => e = .returned (.int .i64 3) ∧ Below w.heap.size w w' := by
  have hl := hI.l
  obtain ⟨A0, c0, rfl, hc, hC⟩ := hI.r.C (by omega)
  have HF := Lib.hid (find_f hI id hh)
  have HP := Lib.hid hI.p
  have h64' : (64 : Int) ≤ (xs.length : Int) := by omega
  clear hC hc hI
  go_enter Try.func8, Try.ntmps8
  go_wp2_with (go_at_call 21; (with_reducible refine HF.out.mono ?_); rintro e w1 ⟨rfl, hb1⟩; have HB1 := Lib.hid hb1; have c1 := (blk_cell (blk_below HP.out hb1) 1).trans rfl; clear hb1)
  go_ret
  exact ⟨rfl, HB1.out⟩
set_option maxHeartbeats 2000000 in
set_option maxRecDepth 100000 in
theorem set_c (hI : IsC w g now v xs) (hs : xs.Pairwise ltA) (h0 : 0 ≤ now) (h1 : now ≤ 1099511627776) (id wait : Int) (hw63 : wait ≤ 9223372036854775807) (h : ¬ wait < 0) (hh : hasL xs id = true ∨ ¬ 64 ≤ xs.length) : Calls Try.prog 8 #[.pointer (some ⟨g, 0, none⟩), .int .i64 id, .int .i64 wait] w fun e w' => ∃ v', e = .returned (.int .i64 0) ∧ IsC w' g now v' (insL (dropL xs id) ⟨id, atV now wait⟩) ∧ Frm w w' g v.ownBlock ∧ (v'.ownBlock = v.ownBlock ∨ ∃ R, v'.ownBlock = some R ∧ w.heap.size ≤ R) := by
  have hl := hI.l
  obtain ⟨A0, c0, rfl, hc, hC⟩ := hI.r.C (by omega)
  have HI := Lib.hid hI
  have HS := Lib.hid hs
  have hm1 : wrap64 (1099511627776 - now) = 1099511627776 - now := by unfold wrap64; omega
  have hm2 : wrap64 (now + if 1099511627776 - now < wait then 1099511627776 - now else wait) = atV now wait := by unfold wrap64 atV; split <;> omega
  clear hC hc hI hs
  cases hhv : hasL xs id
  · have h64 : ¬ (64 : Int) ≤ (xs.length : Int) := by rw [hhv] at hh; rcases hh with h | h; cases h; omega
    have HL := Lib.hid (show (dropL xs id).length ≤ 63 by have := dropL_length xs id; omega)
    have HF := Lib.hid (find_f HI.out id hhv)
    have HP := Lib.hid HI.out.p
    clear hhv hh
    go_enter Try.func8, Try.ntmps8
    go_upto_region 5 with (go_at_call 21; (with_reducible refine HF.out.mono ?_); rintro e w1 ⟨rfl, hb1⟩; have HB1 := Lib.hid hb1; have HI1 := Lib.hid (HI.out.later hb1); have c1 := (blk_cell (blk_below HP.out hb1) 1).trans rfl; clear hb1)
    clear c1 h64
    go_upto_region 6 with (go_at_call 12; (with_reducible refine (drop_p HI1.out id).mono ?_); rintro e w2 ⟨v1, rfl, hi2, hf2, hv2⟩; have HI2 := Lib.hid hi2; have HF2 := Lib.hid ((Frm.of_below HB1.out g _).trans hf2 (.inl rfl)); have HV2 := Lib.hid hv2; clear hi2 hf2 hv2)
    clear HI1 HB1
    obtain ⟨ys, hys⟩ : ∃ ys, dropL xs id = ys := ⟨_, rfl⟩
    rw [hys] at HI2 HL
    have HYS := Lib.hid hys
    have HSY := Lib.hid (show ys.Pairwise ltA by rw [← hys]; exact dropL_sorted id HS.out)
    obtain ⟨A1, k1, rfl, hk1, hC1⟩ := HI2.out.r.C (by have := HL.out; omega)
    have HC1 := Lib.hid hC1
    clear hC1 hk1 hys HF
    have c0 := (blk_cell HI2.out.p 0).trans rfl
    have hn0 := Nat.ne_of_lt (blk_lt HI2.out.p)
    have HN0 := Lib.hid hn0
    refine start_ (n := 16) (S := fun W' => W'.cell? ⟨g, 0, none⟩ = some (.int .i64 now)) (ds := []) #[false, false, false, false, false, false, false, false, false, false, false, false, false, false, false, false] (by kernel_rfl) rfl rfl c0 (fun hHeld => ?_)
    refine pure_ (i := 0) (N := some 29) (v := ?_) (a' := ?_) #[true, false, false, false, false, false, false, false, false, false, false, false, false, false, false, false] rfl rfl (by kernel_rfl) (fun _ _ _ h => h) (Or.inl ⟨by rfl, ?_⟩) ?_ ?_
    rotate_left
    · intro w'
      go_simp
      with_reducible rfl
    rotate_left
    · simp only [Act.put, List.setIfInBounds_toArray, List.set_cons_zero, List.set_cons_succ, i64_w, i32_w]
      try rfl
    refine pure_ (i := 1) (N := some 30) (v := ?_) (a' := ?_) #[true, true, false, false, false, false, false, false, false, false, false, false, false, false, false, false] rfl rfl (by kernel_rfl) (fun _ _ _ h => h) (Or.inl ⟨by rfl, ?_⟩) ?_ ?_
    rotate_left
    · intro w'
      go_simp
      with_reducible rfl
    rotate_left
    · simp only [Act.put, List.setIfInBounds_toArray, List.set_cons_zero, List.set_cons_succ, i64_w, i32_w]
      try rfl
    refine pure_ (i := 2) (N := some 31) (v := ?_) (a' := ?_) #[true, true, true, false, false, false, false, false, false, false, false, false, false, false, false, false] rfl rfl (by kernel_rfl) (fun _ _ _ h => h) (Or.inl ⟨by rfl, ?_⟩) ?_ ?_
    rotate_left
    · intro w'
      go_simp
      with_reducible rfl
    rotate_left
    · simp only [Act.put, List.setIfInBounds_toArray, List.set_cons_zero, List.set_cons_succ, i64_w, i32_w]
      try rfl
    refine pure_ (i := 3) (N := some 32) (v := ?_) (a' := ?_) #[true, true, true, true, false, false, false, false, false, false, false, false, false, false, false, false] rfl rfl (by kernel_rfl) (fun _ _ _ h => h) (Or.inl ⟨by rfl, ?_⟩) ?_ ?_
    rotate_left
    · intro w'
      go_simp
      with_reducible rfl
    rotate_left
    · simp only [Act.put, List.setIfInBounds_toArray, List.set_cons_zero, List.set_cons_succ, i64_w, i32_w]
      try rfl
    refine take_ (i := 4) (N := some 33) (v := ?_) (a' := ?_) #[true, true, true, true, true, false, false, false, false, false, false, false, false, false, false, false] rfl rfl (by kernel_rfl) (fun _ _ _ h => h) (Or.inl ⟨by rfl, ?_⟩) hHeld ?_ ?_
    rotate_left
    · rintro w' s0
      go_simp
      with_reducible rfl
    rotate_left
    · simp only [Act.put, List.setIfInBounds_toArray, List.set_cons_zero, List.set_cons_succ, i64_w, i32_w]
      try rfl
    refine pure_ (i := 5) (N := some 34) (v := ?_) (a' := ?_) #[true, true, true, true, true, true, false, false, false, false, false, false, false, false, false, false] rfl rfl (by kernel_rfl) (fun _ _ _ h => h) (Or.inl ⟨by rfl, ?_⟩) ?_ ?_
    rotate_left
    · intro w'
      go_simp
      with_reducible rfl
    rotate_left
    · simp only [Act.put, List.setIfInBounds_toArray, List.set_cons_zero, List.set_cons_succ, i64_w, i32_w]
      try rfl
    refine pure_ (i := 6) (N := some 35) (v := ?_) (a' := ?_) #[true, true, true, true, true, true, true, false, false, false, false, false, false, false, false, false] rfl rfl (by kernel_rfl) (fun _ _ _ h => h) (Or.inl ⟨by rfl, ?_⟩) ?_ ?_
    rotate_left
    · intro w'
      go_simp
      with_reducible rfl
    rotate_left
    · simp only [Act.put, List.setIfInBounds_toArray, List.set_cons_zero, List.set_cons_succ, i64_w, i32_w]
      try rfl
    refine pure_ (i := 7) (N := some 36) (v := ?_) (a' := ?_) #[true, true, true, true, true, true, true, true, false, false, false, false, false, false, false, false] rfl rfl (by kernel_rfl) (fun _ _ _ h => h) (Or.inl ⟨by rfl, ?_⟩) ?_ ?_
    rotate_left
    · intro w'
      go_simp
      with_reducible rfl
    rotate_left
    · simp only [Act.put, List.setIfInBounds_toArray, List.set_cons_zero, List.set_cons_succ, i64_w, i32_w]
      try rfl
    refine pure_ (i := 8) (N := some 37) (v := ?_) (a' := ?_) #[true, true, true, true, true, true, true, true, true, false, false, false, false, false, false, false] rfl rfl (by kernel_rfl) (fun _ _ _ h => h) (Or.inl ⟨by rfl, ?_⟩) ?_ ?_
    rotate_left
    · intro w'
      go_simp
      with_reducible rfl
    rotate_left
    · simp only [Act.put, List.setIfInBounds_toArray, List.set_cons_zero, List.set_cons_succ, i64_w, i32_w]
      try rfl
    refine take_ (i := 9) (N := some 38) (v := ?_) (a' := ?_) #[true, true, true, true, true, true, true, true, true, true, false, false, false, false, false, false] rfl rfl (by kernel_rfl) (fun _ _ _ h => h) (Or.inl ⟨by rfl, ?_⟩) hHeld ?_ ?_
    rotate_left
    · rintro w' s0
      go_simp
      with_reducible rfl
    rotate_left
    · simp only [Act.put, List.setIfInBounds_toArray, List.set_cons_zero, List.set_cons_succ, i64_w, i32_w]
      try rfl
    refine pure_ (i := 10) (N := some 39) (v := ?_) (a' := ?_) #[true, true, true, true, true, true, true, true, true, true, true, false, false, false, false, false] rfl rfl (by kernel_rfl) (fun _ _ _ h => h) (Or.inl ⟨by rfl, ?_⟩) ?_ ?_
    rotate_left
    · intro w'
      go_simp
      with_reducible rfl
    rotate_left
    · simp only [Act.put, List.setIfInBounds_toArray, List.set_cons_zero, List.set_cons_succ, i64_w, i32_w]
      try rfl
    refine pure_ (i := 11) (N := some 40) (v := ?_) (a' := ?_) #[true, true, true, true, true, true, true, true, true, true, true, true, false, false, false, false] rfl rfl (by kernel_rfl) (fun _ _ _ h => h) (Or.inl ⟨by rfl, ?_⟩) ?_ ?_
    rotate_left
    · intro w'
      go_simp
      with_reducible rfl
    rotate_left
    · simp only [Act.put, List.setIfInBounds_toArray, List.set_cons_zero, List.set_cons_succ, i64_w, i32_w]
      try rfl
    refine pure_ (i := 12) (N := some 41) (v := ?_) (a' := ?_) #[true, true, true, true, true, true, true, true, true, true, true, true, true, false, false, false] rfl rfl (by kernel_rfl) (fun _ _ _ h => h) (Or.inl ⟨by rfl, ?_⟩) ?_ ?_
    rotate_left
    · intro w'
      go_simp
      with_reducible rfl
    rotate_left
    · simp only [Act.put, List.setIfInBounds_toArray, List.set_cons_zero, List.set_cons_succ, i64_w, i32_w]
      try rfl
    refine pure_ (i := 13) (N := some 42) (v := ?_) (a' := ?_) #[true, true, true, true, true, true, true, true, true, true, true, true, true, true, false, false] rfl rfl (by kernel_rfl) (fun _ _ _ h => h) (Or.inl ⟨by rfl, ?_⟩) ?_ ?_
    rotate_left
    · intro w'
      go_simp
      with_reducible rfl
    rotate_left
    · simp only [Act.put, List.setIfInBounds_toArray, List.set_cons_zero, List.set_cons_succ, i64_w, i32_w]
      try rfl
    refine one_ (i := 14) (N := some 7) #[true, true, true, true, true, true, true, true, true, true, true, true, true, true, true, false] rfl rfl (by kernel_rfl) (by decide) (fun K hK => ?_)
    refine value_ (v := ?_) (w1 := ?_) (by rfl) rfl ?_ ?_
    rotate_left
    rotate_left
    · go_simp
      first | (constructor <;> with_reducible rfl) | with_reducible rfl
    refine hK.out _ _ ((blk_cell (blk_drew (blk_alloc HI2.out.p _)) 0).trans rfl) (fun hHeld => ?_)
    clear hK K
    refine norm_ (a' := ?_) ?_ ?_
    rotate_left
    · show Act.put _ (some 7) _ = _
      simp only [Act.put, List.setIfInBounds_toArray, List.set_cons_zero, List.set_cons_succ, i64_w, i32_w]
      try rfl
    refine one_ (i := 15) (N := none) #[true, true, true, true, true, true, true, true, true, true, true, true, true, true, true, true] rfl rfl (by kernel_rfl) (by decide) (fun K hK => ?_)
    refine skip_ (w1 := ?_) (by rfl) rfl ?_ ?_
    rotate_left
    · go_simp
      rfl
    refine hK.out _ _ ((blk_cell (blk_drew (blk_alloc HI2.out.p _)) 0).trans rfl) (fun hHeld => ?_)
    clear hK K
    refine done_ (by kernel_rfl) ?_
    clear hn0 c0
    simp only [hm2]
    have hx1 := blk_drew (blk_new w2 (.cells #[.int .i64 id, .int .i64 (atV now wait)] 62))
    have hb4 : Below w2.heap.size w2 (w2.alloc (.cells #[.int .i64 id, .int .i64 (atV now wait)] 62)).drew := below_drew (below_alloc (Below.refl _ _) _)
    generalize (w2.alloc (.cells #[.int .i64 id, .int .i64 (atV now wait)] 62)).drew = w4 at hx1 hb4 ⊢
    have HX4 := Lib.hid hx1
    have HB4 := Lib.hid hb4
    have e0 := (blk_cell (blk_drew (blk_below HI2.out.p hb4)) 1).trans rfl
    have e1 := (blk_cell (blk_drew hx1) 0).trans rfl
    have e2 := (blk_cell (blk_drew hx1) 1).trans rfl
    clear hx1 hb4
    go_upto_region 7 with fail
    refine start_ (n := 11) (S := fun W' => W'.cell? ⟨g, 1, none⟩ = some (.slice A1 ys.length k1) ∧ W'.cell? ⟨w2.heap.size, 0, none⟩ = some (.int .i64 id) ∧ W'.cell? ⟨w2.heap.size, 1, none⟩ = some (.int .i64 (atV now wait))) (ds := []) #[false, false, false, false, false, false, false, false, false, false, false] (by kernel_rfl) rfl rfl ⟨e0, e1, e2⟩ (fun hHeld => ?_)
    refine pure_ (i := 0) (N := some 44) (v := ?_) (a' := ?_) #[true, false, false, false, false, false, false, false, false, false, false] rfl rfl (by kernel_rfl) (fun _ _ _ h => h) (Or.inl ⟨by rfl, ?_⟩) ?_ ?_
    rotate_left
    · intro w'
      go_simp
      with_reducible rfl
    rotate_left
    · simp only [Act.put, List.setIfInBounds_toArray, List.set_cons_zero, List.set_cons_succ, i64_w, i32_w]
      try rfl
    refine pure_ (i := 1) (N := some 45) (v := ?_) (a' := ?_) #[true, true, false, false, false, false, false, false, false, false, false] rfl rfl (by kernel_rfl) (fun _ _ _ h => h) (Or.inl ⟨by rfl, ?_⟩) ?_ ?_
    rotate_left
    · intro w'
      go_simp
      with_reducible rfl
    rotate_left
    · simp only [Act.put, List.setIfInBounds_toArray, List.set_cons_zero, List.set_cons_succ, i64_w, i32_w]
      try rfl
    refine pure_ (i := 2) (N := some 46) (v := ?_) (a' := ?_) #[true, true, true, false, false, false, false, false, false, false, false] rfl rfl (by kernel_rfl) (fun _ _ _ h => h) (Or.inl ⟨by rfl, ?_⟩) ?_ ?_
    rotate_left
    · intro w'
      go_simp
      with_reducible rfl
    rotate_left
    · simp only [Act.put, List.setIfInBounds_toArray, List.set_cons_zero, List.set_cons_succ, i64_w, i32_w]
      try rfl
    refine take_ (i := 3) (N := some 47) (v := ?_) (a' := ?_) #[true, true, true, true, false, false, false, false, false, false, false] rfl rfl (by kernel_rfl) (fun _ _ _ h => h) (Or.inl ⟨by rfl, ?_⟩) hHeld ?_ ?_
    rotate_left
    · rintro w' ⟨s0, s1, s2⟩
      go_simp
      with_reducible rfl
    rotate_left
    · simp only [Act.put, List.setIfInBounds_toArray, List.set_cons_zero, List.set_cons_succ, i64_w, i32_w]
      try rfl
    refine take_ (i := 4) (N := some 48) (v := ?_) (a' := ?_) #[true, true, true, true, true, false, false, false, false, false, false] rfl rfl (by kernel_rfl) (fun _ _ _ h => h) (Or.inl ⟨by rfl, ?_⟩) hHeld ?_ ?_
    rotate_left
    · rintro w' ⟨s0, s1, s2⟩
      go_simp
      with_reducible rfl
    rotate_left
    · simp only [Act.put, List.setIfInBounds_toArray, List.set_cons_zero, List.set_cons_succ, i64_w, i32_w]
      try rfl
    refine one_ (i := 5) (N := some 49) #[true, true, true, true, true, true, false, false, false, false, false] rfl rfl (by kernel_rfl) (by decide) (fun K hK => ?_)
    refine goes_ Try.func22 (by kernel_rfl) rfl #[.slice A1 ys.length k1, .agg #[.int .i64 id, .int .i64 (atV now wait)], .func (.func 23) #[] #[]] (by rfl) rfl rfl (by (try simp only [List.map_toArray, List.map_cons, List.map_nil]); first | done | rfl) ?_
    refine (search_p (Kd.C_below HC1.out (below_drew HB4.out)) (by have := HL.out; omega) HSY.out ⟨id, atV now wait⟩).mono ?_
    rintro e w5 ⟨i, bb, rfl, hi, hq1, hq2, hb5⟩
    refine ⟨_, rfl, ?_⟩
    refine hK.out _ _ ⟨pw_cell_below hb5 e0, pw_cell_below hb5 e1, pw_cell_below hb5 e2⟩ (fun hHeld => ?_)
    clear hK K
    refine norm_ (a' := ?_) ?_ ?_
    rotate_left
    · show Act.put _ (some 49) _ = _
      simp only [Act.put, List.setIfInBounds_toArray, List.set_cons_zero, List.set_cons_succ, i64_w, i32_w]
      try rfl
    refine pure_ (i := 6) (N := some 43) (v := ?_) (a' := ?_) #[true, true, true, true, true, true, true, false, false, false, false] rfl rfl (by kernel_rfl) (fun _ _ _ h => h) (Or.inl ⟨by rfl, ?_⟩) ?_ ?_
    rotate_left
    · intro w'
      go_simp
      with_reducible rfl
    rotate_left
    · simp only [Act.put, List.setIfInBounds_toArray, List.set_cons_zero, List.set_cons_succ, i64_w, i32_w]
      try rfl
    refine pure_ (i := 7) (N := some 50) (v := ?_) (a' := ?_) #[true, true, true, true, true, true, true, true, false, false, false] rfl rfl (by kernel_rfl) (fun _ _ _ h => h) (Or.inl ⟨by rfl, ?_⟩) ?_ ?_
    rotate_left
    · intro w'
      go_simp
      with_reducible rfl
    rotate_left
    · simp only [Act.put, List.setIfInBounds_toArray, List.set_cons_zero, List.set_cons_succ, i64_w, i32_w]
      try rfl
    refine pure_ (i := 8) (N := some 51) (v := ?_) (a' := ?_) #[true, true, true, true, true, true, true, true, true, false, false] rfl rfl (by kernel_rfl) (fun _ _ _ h => h) (Or.inl ⟨by rfl, ?_⟩) ?_ ?_
    rotate_left
    · intro w'
      go_simp
      with_reducible rfl
    rotate_left
    · simp only [Act.put, List.setIfInBounds_toArray, List.set_cons_zero, List.set_cons_succ, i64_w, i32_w]
      try rfl
    refine pure_ (i := 9) (N := some 8) (v := ?_) (a' := ?_) #[true, true, true, true, true, true, true, true, true, true, false] rfl rfl (by kernel_rfl) (fun _ _ _ h => h) (Or.inl ⟨by rfl, ?_⟩) ?_ ?_
    rotate_left
    · intro w'
      go_simp
      with_reducible rfl
    rotate_left
    · simp only [Act.put, List.setIfInBounds_toArray, List.set_cons_zero, List.set_cons_succ, i64_w, i32_w]
      try rfl
    refine pure_ (i := 10) (N := some 9) (v := ?_) (a' := ?_) #[true, true, true, true, true, true, true, true, true, true, true] rfl rfl (by kernel_rfl) (fun _ _ _ h => h) (Or.inl ⟨by rfl, ?_⟩) ?_ ?_
    rotate_left
    · intro w'
      go_simp
      with_reducible rfl
    rotate_left
    · simp only [Act.put, List.setIfInBounds_toArray, List.set_cons_zero, List.set_cons_succ, i64_w, i32_w]
      try rfl
    refine done_ (by kernel_rfl) ?_
    have HB5 := Lib.hid (below_step (below_drew HB4.out) hb5)
    have HX5 := Lib.hid (blk_below (blk_drew HX4.out) hb5)
    have HI5 := Lib.hid hi
    have HIN := Lib.hid (ins_at (t := ⟨id, atV now wait⟩) ys i hi hq1 hq2)
    clear hb5 hi hq1 hq2 e0 e1 e2 HB4 HX4 HC1 HSY
    have HG5 := Lib.hid (blk_below HI2.out.p HB5.out)
    have HNG := Lib.hid (show some g ≠ (Value.slice A1 ys.length k1).ownBlock from Ne.symm (HI2.out.r.ne HI2.out.p))
    have HNN := Lib.hid (show ∀ k, w2.heap.size ≤ k → some k ≠ (Value.slice A1 ys.length k1).ownBlock from fun k hk e => by have := HI2.out.r.lt k e.symm; omega)
    have e0 := (blk_cell (blk_drew (blk_below HI2.out.p HB5.out)) 1).trans rfl
    have e1 := (blk_cell (blk_drew HX5.out) 0).trans rfl
    have e2 := (blk_cell (blk_drew HX5.out) 1).trans rfl
    go_upto_region 8 with fail
    refine start_ (n := 12) (S := fun W' => W'.cell? ⟨g, 1, none⟩ = some (.slice A1 ys.length k1) ∧ W'.cell? ⟨w2.heap.size, 0, none⟩ = some (.int .i64 id) ∧ W'.cell? ⟨w2.heap.size, 1, none⟩ = some (.int .i64 (atV now wait))) (ds := [11]) #[false, false, false, false, false, false, false, false, false, false, false, false] (by kernel_rfl) rfl rfl ⟨e0, e1, e2⟩ (fun hHeld => ?_)
    refine pure_ (i := 0) (N := some 52) (v := ?_) (a' := ?_) #[true, false, false, false, false, false, false, false, false, false, false, false] rfl rfl (by kernel_rfl) (fun _ _ _ h => h) (Or.inl ⟨by rfl, ?_⟩) ?_ ?_
    rotate_left
    · intro w'
      go_simp
      with_reducible rfl
    rotate_left
    · simp only [Act.put, List.setIfInBounds_toArray, List.set_cons_zero, List.set_cons_succ, i64_w, i32_w]
      try rfl
    refine pure_ (i := 1) (N := some 53) (v := ?_) (a' := ?_) #[true, true, false, false, false, false, false, false, false, false, false, false] rfl rfl (by kernel_rfl) (fun _ _ _ h => h) (Or.inl ⟨by rfl, ?_⟩) ?_ ?_
    rotate_left
    · intro w'
      go_simp
      with_reducible rfl
    rotate_left
    · simp only [Act.put, List.setIfInBounds_toArray, List.set_cons_zero, List.set_cons_succ, i64_w, i32_w]
      try rfl
    refine pure_ (i := 2) (N := some 54) (v := ?_) (a' := ?_) #[true, true, true, false, false, false, false, false, false, false, false, false] rfl rfl (by kernel_rfl) (fun _ _ _ h => h) (Or.inl ⟨by rfl, ?_⟩) ?_ ?_
    rotate_left
    · intro w'
      go_simp
      with_reducible rfl
    rotate_left
    · simp only [Act.put, List.setIfInBounds_toArray, List.set_cons_zero, List.set_cons_succ, i64_w, i32_w]
      try rfl
    refine pure_ (i := 3) (N := some 55) (v := ?_) (a' := ?_) #[true, true, true, true, false, false, false, false, false, false, false, false] rfl rfl (by kernel_rfl) (fun _ _ _ h => h) (Or.inl ⟨by rfl, ?_⟩) ?_ ?_
    rotate_left
    · intro w'
      go_simp
      with_reducible rfl
    rotate_left
    · simp only [Act.put, List.setIfInBounds_toArray, List.set_cons_zero, List.set_cons_succ, i64_w, i32_w]
      try rfl
    refine take_ (i := 4) (N := some 56) (v := ?_) (a' := ?_) #[true, true, true, true, true, false, false, false, false, false, false, false] rfl rfl (by kernel_rfl) (fun _ _ _ h => h) (Or.inl ⟨by rfl, ?_⟩) hHeld ?_ ?_
    rotate_left
    · rintro w' ⟨s0, s1, s2⟩
      go_simp
      with_reducible rfl
    rotate_left
    · simp only [Act.put, List.setIfInBounds_toArray, List.set_cons_zero, List.set_cons_succ, i64_w, i32_w]
      try rfl
    refine pure_ (i := 5) (N := some 57) (v := ?_) (a' := ?_) #[true, true, true, true, true, true, false, false, false, false, false, false] rfl rfl (by kernel_rfl) (fun _ _ _ h => h) (Or.inl ⟨by rfl, ?_⟩) ?_ ?_
    rotate_left
    · intro w'
      go_simp
      with_reducible rfl
    rotate_left
    · simp only [Act.put, List.setIfInBounds_toArray, List.set_cons_zero, List.set_cons_succ, i64_w, i32_w]
      try rfl
    refine take_ (i := 6) (N := some 58) (v := ?_) (a' := ?_) #[true, true, true, true, true, true, true, false, false, false, false, false] rfl rfl (by kernel_rfl) (fun _ _ _ h => h) (Or.inl ⟨by rfl, ?_⟩) hHeld ?_ ?_
    rotate_left
    · rintro w' ⟨s0, s1, s2⟩
      go_simp
      with_reducible rfl
    rotate_left
    · simp only [Act.put, List.setIfInBounds_toArray, List.set_cons_zero, List.set_cons_succ, i64_w, i32_w]
      try rfl
    refine one_ (i := 7) (N := some 59) #[true, true, true, true, true, true, true, true, false, false, false, false] rfl rfl (by kernel_rfl) (by decide) (fun K hK => ?_)
    refine value_ (v := ?_) (w1 := ?_) (by rfl) rfl ?_ ?_
    rotate_left
    rotate_left
    · go_simp
      first | (constructor <;> with_reducible rfl) | with_reducible rfl
    refine hK.out _ _ ⟨(blk_cell (blk_drew (blk_alloc HG5.out _)) 1).trans rfl, (blk_cell (blk_drew (blk_alloc HX5.out _)) 0).trans rfl, (blk_cell (blk_drew (blk_alloc HX5.out _)) 1).trans rfl⟩ (fun hHeld => ?_)
    clear hK K
    refine norm_ (a' := ?_) ?_ ?_
    rotate_left
    · show Act.put _ (some 59) _ = _
      simp only [Act.put, List.setIfInBounds_toArray, List.set_cons_zero, List.set_cons_succ, i64_w, i32_w]
      try rfl
    have hg6 := blk_drew (blk_alloc HG5.out (.cells #[.int .i64 id, .int .i64 (atV now wait)] 62))
    have hx6 := blk_drew (blk_alloc HX5.out (.cells #[.int .i64 id, .int .i64 (atV now wait)] 62))
    have hv6 := blk_drew (blk_new w5 (.cells #[.int .i64 id, .int .i64 (atV now wait)] 62))
    have hb6 := below_drew (below_alloc HB5.out (.cells #[.int .i64 id, .int .i64 (atV now wait)] 62))
    generalize (w5.alloc (.cells #[.int .i64 id, .int .i64 (atV now wait)] 62)).drew = w6 at hg6 hx6 hv6 hb6 hHeld ⊢
    have HG6 := Lib.hid hg6
    have HX6 := Lib.hid hx6
    have HV6 := Lib.hid hv6
    have HB6 := Lib.hid hb6
    clear hg6 hx6 hv6 hb6 HG5 HX5 e0 e1 e2
    refine one_ (i := 8) (N := some 60) #[true, true, true, true, true, true, true, true, true, false, false, false] rfl rfl (by kernel_rfl) (by decide) (fun K hK => ?_)
    refine goes_ Try.func24 (by kernel_rfl) rfl #[.slice A1 ys.length k1, .int .i64 i, .slice (some ⟨w5.heap.size, 0, none⟩) 1 1] (by rfl) rfl rfl (by (try simp only [List.map_toArray, List.map_cons, List.map_nil]); first | done | rfl) ?_
    refine (insert_p (x := ⟨id, atV now wait⟩) (HI2.out.r.later HB6.out) (by have := HL.out; omega) HV6.out (HNN.out _ HB5.out.size) i HI5.out).mono ?_
    rintro e w7 ⟨v', rfl, hr7, hg7, ho7⟩
    rw [HIN.out] at hr7
    obtain ⟨zs, hzs⟩ : ∃ zs, insL ys ⟨id, atV now wait⟩ = zs := ⟨_, rfl⟩
    rw [hzs] at hr7
    have hzl : zs.length ≤ 64 := by rw [← hzs, insL_length]; have := HL.out; omega
    obtain ⟨A7, c7, rfl, hc7, hC7⟩ := hr7.C (by omega)
    clear hc7 hC7
    have hgg := blk_grown HG6.out hg7 HNG.out
    have hxx := blk_grown HX6.out hg7 (HNN.out _ (Nat.le_refl _))
    have HR7 := Lib.hid hr7
    have HG7 := Lib.hid hg7
    have HO7 := Lib.hid ho7
    have HGG := Lib.hid hgg
    have HZS := Lib.hid hzs
    have HZL := Lib.hid hzl
    clear hr7 hg7 ho7 hzs hzl
    refine ⟨_, rfl, ?_⟩
    refine hK.out _ _ ⟨(blk_cell hgg 1).trans rfl, (blk_cell hxx 0).trans rfl, (blk_cell hxx 1).trans rfl⟩ (fun hHeld => ?_)
    clear hK K
    refine norm_ (a' := ?_) ?_ ?_
    rotate_left
    · show Act.put _ (some 60) _ = _
      simp only [Act.put, List.setIfInBounds_toArray, List.set_cons_zero, List.set_cons_succ, i64_w, i32_w]
      try rfl
    clear hgg hxx
    refine pure_ (i := 9) (N := some 61) (v := ?_) (a' := ?_) #[true, true, true, true, true, true, true, true, true, true, false, false] rfl rfl (by kernel_rfl) (fun _ _ _ h => h) (Or.inl ⟨by rfl, ?_⟩) ?_ ?_
    rotate_left
    · intro w'
      go_simp
      with_reducible rfl
    rotate_left
    · simp only [Act.put, List.setIfInBounds_toArray, List.set_cons_zero, List.set_cons_succ, i64_w, i32_w]
      try rfl
    refine pure_ (i := 10) (N := some 62) (v := ?_) (a' := ?_) #[true, true, true, true, true, true, true, true, true, true, true, false] rfl rfl (by kernel_rfl) (fun _ _ _ h => h) (Or.inl ⟨by rfl, ?_⟩) ?_ ?_
    rotate_left
    · intro w'
      go_simp
      with_reducible rfl
    rotate_left
    · simp only [Act.put, List.setIfInBounds_toArray, List.set_cons_zero, List.set_cons_succ, i64_w, i32_w]
      try rfl
    have gs := (blk_cell HGG.out 1).trans rfl
    have gf := blk_frozen HGG.out 1
    refine last_ (i := 11) (N := none) #[true, true, true, true, true, true, true, true, true, true, true, true] rfl rfl (by kernel_rfl) (by decide) (fun K hK => ?_)
    refine skip_ (w1 := ?_) (by rfl) rfl ?_ ?_
    rotate_left
    · go_simp
      rfl
    refine hK.out _ _ ?_
    clear hK K gs gf
    refine done_ (by kernel_rfl) ?_
    clear hHeld
    go_wp2
    all_goals
      go_ret
      have hne7 := HR7.out.ne HGG.out
      have hF := (((HF2.out.trans (Frm.of_below HB6.out g _) (.inl rfl)).trans (Frm.of_grown HG7.out) (.inl HV2.out)).set 1 (.slice A7 zs.length c7))
      refine ⟨rfl, _, ⟨blk_set HGG.out 1 _, ?_, ?_⟩, hF, ?_⟩
      · rw [HYS.out, HZS.out]
        exact HR7.out.keep (fun R' hR' => Below.heap_setCell _ _ _ R' (fun e => hne7 (by rw [hR']; exact congrArg some e)))
      · rw [HYS.out, HZS.out]
        exact HZL.out
      · rcases HO7.out with h | h
        · exact .inl (h.trans HV2.out)
        · exact .inr ⟨_, h, Nat.le_trans HF2.out.size HB6.out.size⟩
  · have HL := Lib.hid (show (dropL xs id).length ≤ 63 by have := dropL_has hhv; omega)
    have HF := Lib.hid (find_t HI.out id hhv)
    clear hhv hh
    go_enter Try.func8, Try.ntmps8
    go_upto_region 5 with (go_at_call 21; (with_reducible refine HF.out.mono ?_); rintro e w1 ⟨k, rfl, hk, he, hn, hb1⟩; have HB1 := Lib.hid hb1; have HI1 := Lib.hid (HI.out.later hb1); have d1 : decide ((k : Int) < 0) = false := decide_eq_false (by omega); clear hb1 hk he hn)
    clear d1
    go_upto_region 6 with (go_at_call 12; (with_reducible refine (drop_p HI1.out id).mono ?_); rintro e w2 ⟨v1, rfl, hi2, hf2, hv2⟩; have HI2 := Lib.hid hi2; have HF2 := Lib.hid ((Frm.of_below HB1.out g _).trans hf2 (.inl rfl)); have HV2 := Lib.hid hv2; clear hi2 hf2 hv2)
    clear HI1 HB1
    obtain ⟨ys, hys⟩ : ∃ ys, dropL xs id = ys := ⟨_, rfl⟩
    rw [hys] at HI2 HL
    have HYS := Lib.hid hys
    have HSY := Lib.hid (show ys.Pairwise ltA by rw [← hys]; exact dropL_sorted id HS.out)
    obtain ⟨A1, k1, rfl, hk1, hC1⟩ := HI2.out.r.C (by have := HL.out; omega)
    have HC1 := Lib.hid hC1
    clear hC1 hk1 hys HF
    have c0 := (blk_cell HI2.out.p 0).trans rfl
    have hn0 := Nat.ne_of_lt (blk_lt HI2.out.p)
    have HN0 := Lib.hid hn0
    refine start_ (n := 16) (S := fun W' => W'.cell? ⟨g, 0, none⟩ = some (.int .i64 now)) (ds := []) #[false, false, false, false, false, false, false, false, false, false, false, false, false, false, false, false] (by kernel_rfl) rfl rfl c0 (fun hHeld => ?_)
    refine pure_ (i := 0) (N := some 29) (v := ?_) (a' := ?_) #[true, false, false, false, false, false, false, false, false, false, false, false, false, false, false, false] rfl rfl (by kernel_rfl) (fun _ _ _ h => h) (Or.inl ⟨by rfl, ?_⟩) ?_ ?_
    rotate_left
    · intro w'
      go_simp
      with_reducible rfl
    rotate_left
    · simp only [Act.put, List.setIfInBounds_toArray, List.set_cons_zero, List.set_cons_succ, i64_w, i32_w]
      try rfl
    refine pure_ (i := 1) (N := some 30) (v := ?_) (a' := ?_) #[true, true, false, false, false, false, false, false, false, false, false, false, false, false, false, false] rfl rfl (by kernel_rfl) (fun _ _ _ h => h) (Or.inl ⟨by rfl, ?_⟩) ?_ ?_
    rotate_left
    · intro w'
      go_simp
      with_reducible rfl
    rotate_left
    · simp only [Act.put, List.setIfInBounds_toArray, List.set_cons_zero, List.set_cons_succ, i64_w, i32_w]
      try rfl
    refine pure_ (i := 2) (N := some 31) (v := ?_) (a' := ?_) #[true, true, true, false, false, false, false, false, false, false, false, false, false, false, false, false] rfl rfl (by kernel_rfl) (fun _ _ _ h => h) (Or.inl ⟨by rfl, ?_⟩) ?_ ?_
    rotate_left
    · intro w'
      go_simp
      with_reducible rfl
    rotate_left
    · simp only [Act.put, List.setIfInBounds_toArray, List.set_cons_zero, List.set_cons_succ, i64_w, i32_w]
      try rfl
    refine pure_ (i := 3) (N := some 32) (v := ?_) (a' := ?_) #[true, true, true, true, false, false, false, false, false, false, false, false, false, false, false, false] rfl rfl (by kernel_rfl) (fun _ _ _ h => h) (Or.inl ⟨by rfl, ?_⟩) ?_ ?_
    rotate_left
    · intro w'
      go_simp
      with_reducible rfl
    rotate_left
    · simp only [Act.put, List.setIfInBounds_toArray, List.set_cons_zero, List.set_cons_succ, i64_w, i32_w]
      try rfl
    refine take_ (i := 4) (N := some 33) (v := ?_) (a' := ?_) #[true, true, true, true, true, false, false, false, false, false, false, false, false, false, false, false] rfl rfl (by kernel_rfl) (fun _ _ _ h => h) (Or.inl ⟨by rfl, ?_⟩) hHeld ?_ ?_
    rotate_left
    · rintro w' s0
      go_simp
      with_reducible rfl
    rotate_left
    · simp only [Act.put, List.setIfInBounds_toArray, List.set_cons_zero, List.set_cons_succ, i64_w, i32_w]
      try rfl
    refine pure_ (i := 5) (N := some 34) (v := ?_) (a' := ?_) #[true, true, true, true, true, true, false, false, false, false, false, false, false, false, false, false] rfl rfl (by kernel_rfl) (fun _ _ _ h => h) (Or.inl ⟨by rfl, ?_⟩) ?_ ?_
    rotate_left
    · intro w'
      go_simp
      with_reducible rfl
    rotate_left
    · simp only [Act.put, List.setIfInBounds_toArray, List.set_cons_zero, List.set_cons_succ, i64_w, i32_w]
      try rfl
    refine pure_ (i := 6) (N := some 35) (v := ?_) (a' := ?_) #[true, true, true, true, true, true, true, false, false, false, false, false, false, false, false, false] rfl rfl (by kernel_rfl) (fun _ _ _ h => h) (Or.inl ⟨by rfl, ?_⟩) ?_ ?_
    rotate_left
    · intro w'
      go_simp
      with_reducible rfl
    rotate_left
    · simp only [Act.put, List.setIfInBounds_toArray, List.set_cons_zero, List.set_cons_succ, i64_w, i32_w]
      try rfl
    refine pure_ (i := 7) (N := some 36) (v := ?_) (a' := ?_) #[true, true, true, true, true, true, true, true, false, false, false, false, false, false, false, false] rfl rfl (by kernel_rfl) (fun _ _ _ h => h) (Or.inl ⟨by rfl, ?_⟩) ?_ ?_
    rotate_left
    · intro w'
      go_simp
      with_reducible rfl
    rotate_left
    · simp only [Act.put, List.setIfInBounds_toArray, List.set_cons_zero, List.set_cons_succ, i64_w, i32_w]
      try rfl
    refine pure_ (i := 8) (N := some 37) (v := ?_) (a' := ?_) #[true, true, true, true, true, true, true, true, true, false, false, false, false, false, false, false] rfl rfl (by kernel_rfl) (fun _ _ _ h => h) (Or.inl ⟨by rfl, ?_⟩) ?_ ?_
    rotate_left
    · intro w'
      go_simp
      with_reducible rfl
    rotate_left
    · simp only [Act.put, List.setIfInBounds_toArray, List.set_cons_zero, List.set_cons_succ, i64_w, i32_w]
      try rfl
    refine take_ (i := 9) (N := some 38) (v := ?_) (a' := ?_) #[true, true, true, true, true, true, true, true, true, true, false, false, false, false, false, false] rfl rfl (by kernel_rfl) (fun _ _ _ h => h) (Or.inl ⟨by rfl, ?_⟩) hHeld ?_ ?_
    rotate_left
    · rintro w' s0
      go_simp
      with_reducible rfl
    rotate_left
    · simp only [Act.put, List.setIfInBounds_toArray, List.set_cons_zero, List.set_cons_succ, i64_w, i32_w]
      try rfl
    refine pure_ (i := 10) (N := some 39) (v := ?_) (a' := ?_) #[true, true, true, true, true, true, true, true, true, true, true, false, false, false, false, false] rfl rfl (by kernel_rfl) (fun _ _ _ h => h) (Or.inl ⟨by rfl, ?_⟩) ?_ ?_
    rotate_left
    · intro w'
      go_simp
      with_reducible rfl
    rotate_left
    · simp only [Act.put, List.setIfInBounds_toArray, List.set_cons_zero, List.set_cons_succ, i64_w, i32_w]
      try rfl
    refine pure_ (i := 11) (N := some 40) (v := ?_) (a' := ?_) #[true, true, true, true, true, true, true, true, true, true, true, true, false, false, false, false] rfl rfl (by kernel_rfl) (fun _ _ _ h => h) (Or.inl ⟨by rfl, ?_⟩) ?_ ?_
    rotate_left
    · intro w'
      go_simp
      with_reducible rfl
    rotate_left
    · simp only [Act.put, List.setIfInBounds_toArray, List.set_cons_zero, List.set_cons_succ, i64_w, i32_w]
      try rfl
    refine pure_ (i := 12) (N := some 41) (v := ?_) (a' := ?_) #[true, true, true, true, true, true, true, true, true, true, true, true, true, false, false, false] rfl rfl (by kernel_rfl) (fun _ _ _ h => h) (Or.inl ⟨by rfl, ?_⟩) ?_ ?_
    rotate_left
    · intro w'
      go_simp
      with_reducible rfl
    rotate_left
    · simp only [Act.put, List.setIfInBounds_toArray, List.set_cons_zero, List.set_cons_succ, i64_w, i32_w]
      try rfl
    refine pure_ (i := 13) (N := some 42) (v := ?_) (a' := ?_) #[true, true, true, true, true, true, true, true, true, true, true, true, true, true, false, false] rfl rfl (by kernel_rfl) (fun _ _ _ h => h) (Or.inl ⟨by rfl, ?_⟩) ?_ ?_
    rotate_left
    · intro w'
      go_simp
      with_reducible rfl
    rotate_left
    · simp only [Act.put, List.setIfInBounds_toArray, List.set_cons_zero, List.set_cons_succ, i64_w, i32_w]
      try rfl
    refine one_ (i := 14) (N := some 7) #[true, true, true, true, true, true, true, true, true, true, true, true, true, true, true, false] rfl rfl (by kernel_rfl) (by decide) (fun K hK => ?_)
    refine value_ (v := ?_) (w1 := ?_) (by rfl) rfl ?_ ?_
    rotate_left
    rotate_left
    · go_simp
      first | (constructor <;> with_reducible rfl) | with_reducible rfl
    refine hK.out _ _ ((blk_cell (blk_drew (blk_alloc HI2.out.p _)) 0).trans rfl) (fun hHeld => ?_)
    clear hK K
    refine norm_ (a' := ?_) ?_ ?_
    rotate_left
    · show Act.put _ (some 7) _ = _
      simp only [Act.put, List.setIfInBounds_toArray, List.set_cons_zero, List.set_cons_succ, i64_w, i32_w]
      try rfl
    refine one_ (i := 15) (N := none) #[true, true, true, true, true, true, true, true, true, true, true, true, true, true, true, true] rfl rfl (by kernel_rfl) (by decide) (fun K hK => ?_)
    refine skip_ (w1 := ?_) (by rfl) rfl ?_ ?_
    rotate_left
    · go_simp
      rfl
    refine hK.out _ _ ((blk_cell (blk_drew (blk_alloc HI2.out.p _)) 0).trans rfl) (fun hHeld => ?_)
    clear hK K
    refine done_ (by kernel_rfl) ?_
    clear hn0 c0
    simp only [hm2]
    have hx1 := blk_drew (blk_new w2 (.cells #[.int .i64 id, .int .i64 (atV now wait)] 62))
    have hb4 : Below w2.heap.size w2 (w2.alloc (.cells #[.int .i64 id, .int .i64 (atV now wait)] 62)).drew := below_drew (below_alloc (Below.refl _ _) _)
    generalize (w2.alloc (.cells #[.int .i64 id, .int .i64 (atV now wait)] 62)).drew = w4 at hx1 hb4 ⊢
    have HX4 := Lib.hid hx1
    have HB4 := Lib.hid hb4
    have e0 := (blk_cell (blk_drew (blk_below HI2.out.p hb4)) 1).trans rfl
    have e1 := (blk_cell (blk_drew hx1) 0).trans rfl
    have e2 := (blk_cell (blk_drew hx1) 1).trans rfl
    clear hx1 hb4
    go_upto_region 7 with fail
    refine start_ (n := 11) (S := fun W' => W'.cell? ⟨g, 1, none⟩ = some (.slice A1 ys.length k1) ∧ W'.cell? ⟨w2.heap.size, 0, none⟩ = some (.int .i64 id) ∧ W'.cell? ⟨w2.heap.size, 1, none⟩ = some (.int .i64 (atV now wait))) (ds := []) #[false, false, false, false, false, false, false, false, false, false, false] (by kernel_rfl) rfl rfl ⟨e0, e1, e2⟩ (fun hHeld => ?_)
    refine pure_ (i := 0) (N := some 44) (v := ?_) (a' := ?_) #[true, false, false, false, false, false, false, false, false, false, false] rfl rfl (by kernel_rfl) (fun _ _ _ h => h) (Or.inl ⟨by rfl, ?_⟩) ?_ ?_
    rotate_left
    · intro w'
      go_simp
      with_reducible rfl
    rotate_left
    · simp only [Act.put, List.setIfInBounds_toArray, List.set_cons_zero, List.set_cons_succ, i64_w, i32_w]
      try rfl
    refine pure_ (i := 1) (N := some 45) (v := ?_) (a' := ?_) #[true, true, false, false, false, false, false, false, false, false, false] rfl rfl (by kernel_rfl) (fun _ _ _ h => h) (Or.inl ⟨by rfl, ?_⟩) ?_ ?_
    rotate_left
    · intro w'
      go_simp
      with_reducible rfl
    rotate_left
    · simp only [Act.put, List.setIfInBounds_toArray, List.set_cons_zero, List.set_cons_succ, i64_w, i32_w]
      try rfl
    refine pure_ (i := 2) (N := some 46) (v := ?_) (a' := ?_) #[true, true, true, false, false, false, false, false, false, false, false] rfl rfl (by kernel_rfl) (fun _ _ _ h => h) (Or.inl ⟨by rfl, ?_⟩) ?_ ?_
    rotate_left
    · intro w'
      go_simp
      with_reducible rfl
    rotate_left
    · simp only [Act.put, List.setIfInBounds_toArray, List.set_cons_zero, List.set_cons_succ, i64_w, i32_w]
      try rfl
    refine take_ (i := 3) (N := some 47) (v := ?_) (a' := ?_) #[true, true, true, true, false, false, false, false, false, false, false] rfl rfl (by kernel_rfl) (fun _ _ _ h => h) (Or.inl ⟨by rfl, ?_⟩) hHeld ?_ ?_
    rotate_left
    · rintro w' ⟨s0, s1, s2⟩
      go_simp
      with_reducible rfl
    rotate_left
    · simp only [Act.put, List.setIfInBounds_toArray, List.set_cons_zero, List.set_cons_succ, i64_w, i32_w]
      try rfl
    refine take_ (i := 4) (N := some 48) (v := ?_) (a' := ?_) #[true, true, true, true, true, false, false, false, false, false, false] rfl rfl (by kernel_rfl) (fun _ _ _ h => h) (Or.inl ⟨by rfl, ?_⟩) hHeld ?_ ?_
    rotate_left
    · rintro w' ⟨s0, s1, s2⟩
      go_simp
      with_reducible rfl
    rotate_left
    · simp only [Act.put, List.setIfInBounds_toArray, List.set_cons_zero, List.set_cons_succ, i64_w, i32_w]
      try rfl
    refine one_ (i := 5) (N := some 49) #[true, true, true, true, true, true, false, false, false, false, false] rfl rfl (by kernel_rfl) (by decide) (fun K hK => ?_)
    refine goes_ Try.func22 (by kernel_rfl) rfl #[.slice A1 ys.length k1, .agg #[.int .i64 id, .int .i64 (atV now wait)], .func (.func 23) #[] #[]] (by rfl) rfl rfl (by (try simp only [List.map_toArray, List.map_cons, List.map_nil]); first | done | rfl) ?_
    refine (search_p (Kd.C_below HC1.out (below_drew HB4.out)) (by have := HL.out; omega) HSY.out ⟨id, atV now wait⟩).mono ?_
    rintro e w5 ⟨i, bb, rfl, hi, hq1, hq2, hb5⟩
    refine ⟨_, rfl, ?_⟩
    refine hK.out _ _ ⟨pw_cell_below hb5 e0, pw_cell_below hb5 e1, pw_cell_below hb5 e2⟩ (fun hHeld => ?_)
    clear hK K
    refine norm_ (a' := ?_) ?_ ?_
    rotate_left
    · show Act.put _ (some 49) _ = _
      simp only [Act.put, List.setIfInBounds_toArray, List.set_cons_zero, List.set_cons_succ, i64_w, i32_w]
      try rfl
    refine pure_ (i := 6) (N := some 43) (v := ?_) (a' := ?_) #[true, true, true, true, true, true, true, false, false, false, false] rfl rfl (by kernel_rfl) (fun _ _ _ h => h) (Or.inl ⟨by rfl, ?_⟩) ?_ ?_
    rotate_left
    · intro w'
      go_simp
      with_reducible rfl
    rotate_left
    · simp only [Act.put, List.setIfInBounds_toArray, List.set_cons_zero, List.set_cons_succ, i64_w, i32_w]
      try rfl
    refine pure_ (i := 7) (N := some 50) (v := ?_) (a' := ?_) #[true, true, true, true, true, true, true, true, false, false, false] rfl rfl (by kernel_rfl) (fun _ _ _ h => h) (Or.inl ⟨by rfl, ?_⟩) ?_ ?_
    rotate_left
    · intro w'
      go_simp
      with_reducible rfl
    rotate_left
    · simp only [Act.put, List.setIfInBounds_toArray, List.set_cons_zero, List.set_cons_succ, i64_w, i32_w]
      try rfl
    refine pure_ (i := 8) (N := some 51) (v := ?_) (a' := ?_) #[true, true, true, true, true, true, true, true, true, false, false] rfl rfl (by kernel_rfl) (fun _ _ _ h => h) (Or.inl ⟨by rfl, ?_⟩) ?_ ?_
    rotate_left
    · intro w'
      go_simp
      with_reducible rfl
    rotate_left
    · simp only [Act.put, List.setIfInBounds_toArray, List.set_cons_zero, List.set_cons_succ, i64_w, i32_w]
      try rfl
    refine pure_ (i := 9) (N := some 8) (v := ?_) (a' := ?_) #[true, true, true, true, true, true, true, true, true, true, false] rfl rfl (by kernel_rfl) (fun _ _ _ h => h) (Or.inl ⟨by rfl, ?_⟩) ?_ ?_
    rotate_left
    · intro w'
      go_simp
      with_reducible rfl
    rotate_left
    · simp only [Act.put, List.setIfInBounds_toArray, List.set_cons_zero, List.set_cons_succ, i64_w, i32_w]
      try rfl
    refine pure_ (i := 10) (N := some 9) (v := ?_) (a' := ?_) #[true, true, true, true, true, true, true, true, true, true, true] rfl rfl (by kernel_rfl) (fun _ _ _ h => h) (Or.inl ⟨by rfl, ?_⟩) ?_ ?_
    rotate_left
    · intro w'
      go_simp
      with_reducible rfl
    rotate_left
    · simp only [Act.put, List.setIfInBounds_toArray, List.set_cons_zero, List.set_cons_succ, i64_w, i32_w]
      try rfl
    refine done_ (by kernel_rfl) ?_
    have HB5 := Lib.hid (below_step (below_drew HB4.out) hb5)
    have HX5 := Lib.hid (blk_below (blk_drew HX4.out) hb5)
    have HI5 := Lib.hid hi
    have HIN := Lib.hid (ins_at (t := ⟨id, atV now wait⟩) ys i hi hq1 hq2)
    clear hb5 hi hq1 hq2 e0 e1 e2 HB4 HX4 HC1 HSY
    have HG5 := Lib.hid (blk_below HI2.out.p HB5.out)
    have HNG := Lib.hid (show some g ≠ (Value.slice A1 ys.length k1).ownBlock from Ne.symm (HI2.out.r.ne HI2.out.p))
    have HNN := Lib.hid (show ∀ k, w2.heap.size ≤ k → some k ≠ (Value.slice A1 ys.length k1).ownBlock from fun k hk e => by have := HI2.out.r.lt k e.symm; omega)
    have e0 := (blk_cell (blk_drew (blk_below HI2.out.p HB5.out)) 1).trans rfl
    have e1 := (blk_cell (blk_drew HX5.out) 0).trans rfl
    have e2 := (blk_cell (blk_drew HX5.out) 1).trans rfl
    go_upto_region 8 with fail
    refine start_ (n := 12) (S := fun W' => W'.cell? ⟨g, 1, none⟩ = some (.slice A1 ys.length k1) ∧ W'.cell? ⟨w2.heap.size, 0, none⟩ = some (.int .i64 id) ∧ W'.cell? ⟨w2.heap.size, 1, none⟩ = some (.int .i64 (atV now wait))) (ds := [11]) #[false, false, false, false, false, false, false, false, false, false, false, false] (by kernel_rfl) rfl rfl ⟨e0, e1, e2⟩ (fun hHeld => ?_)
    refine pure_ (i := 0) (N := some 52) (v := ?_) (a' := ?_) #[true, false, false, false, false, false, false, false, false, false, false, false] rfl rfl (by kernel_rfl) (fun _ _ _ h => h) (Or.inl ⟨by rfl, ?_⟩) ?_ ?_
    rotate_left
    · intro w'
      go_simp
      with_reducible rfl
    rotate_left
    · simp only [Act.put, List.setIfInBounds_toArray, List.set_cons_zero, List.set_cons_succ, i64_w, i32_w]
      try rfl
    refine pure_ (i := 1) (N := some 53) (v := ?_) (a' := ?_) #[true, true, false, false, false, false, false, false, false, false, false, false] rfl rfl (by kernel_rfl) (fun _ _ _ h => h) (Or.inl ⟨by rfl, ?_⟩) ?_ ?_
    rotate_left
    · intro w'
      go_simp
      with_reducible rfl
    rotate_left
    · simp only [Act.put, List.setIfInBounds_toArray, List.set_cons_zero, List.set_cons_succ, i64_w, i32_w]
      try rfl
    refine pure_ (i := 2) (N := some 54) (v := ?_) (a' := ?_) #[true, true, true, false, false, false, false, false, false, false, false, false] rfl rfl (by kernel_rfl) (fun _ _ _ h => h) (Or.inl ⟨by rfl, ?_⟩) ?_ ?_
    rotate_left
    · intro w'
      go_simp
      with_reducible rfl
    rotate_left
    · simp only [Act.put, List.setIfInBounds_toArray, List.set_cons_zero, List.set_cons_succ, i64_w, i32_w]
      try rfl
    refine pure_ (i := 3) (N := some 55) (v := ?_) (a' := ?_) #[true, true, true, true, false, false, false, false, false, false, false, false] rfl rfl (by kernel_rfl) (fun _ _ _ h => h) (Or.inl ⟨by rfl, ?_⟩) ?_ ?_
    rotate_left
    · intro w'
      go_simp
      with_reducible rfl
    rotate_left
    · simp only [Act.put, List.setIfInBounds_toArray, List.set_cons_zero, List.set_cons_succ, i64_w, i32_w]
      try rfl
    refine take_ (i := 4) (N := some 56) (v := ?_) (a' := ?_) #[true, true, true, true, true, false, false, false, false, false, false, false] rfl rfl (by kernel_rfl) (fun _ _ _ h => h) (Or.inl ⟨by rfl, ?_⟩) hHeld ?_ ?_
    rotate_left
    · rintro w' ⟨s0, s1, s2⟩
      go_simp
      with_reducible rfl
    rotate_left
    · simp only [Act.put, List.setIfInBounds_toArray, List.set_cons_zero, List.set_cons_succ, i64_w, i32_w]
      try rfl
    refine pure_ (i := 5) (N := some 57) (v := ?_) (a' := ?_) #[true, true, true, true, true, true, false, false, false, false, false, false] rfl rfl (by kernel_rfl) (fun _ _ _ h => h) (Or.inl ⟨by rfl, ?_⟩) ?_ ?_
    rotate_left
    · intro w'
      go_simp
      with_reducible rfl
    rotate_left
    · simp only [Act.put, List.setIfInBounds_toArray, List.set_cons_zero, List.set_cons_succ, i64_w, i32_w]
      try rfl
    refine take_ (i := 6) (N := some 58) (v := ?_) (a' := ?_) #[true, true, true, true, true, true, true, false, false, false, false, false] rfl rfl (by kernel_rfl) (fun _ _ _ h => h) (Or.inl ⟨by rfl, ?_⟩) hHeld ?_ ?_
    rotate_left
    · rintro w' ⟨s0, s1, s2⟩
      go_simp
      with_reducible rfl
    rotate_left
    · simp only [Act.put, List.setIfInBounds_toArray, List.set_cons_zero, List.set_cons_succ, i64_w, i32_w]
      try rfl
    refine one_ (i := 7) (N := some 59) #[true, true, true, true, true, true, true, true, false, false, false, false] rfl rfl (by kernel_rfl) (by decide) (fun K hK => ?_)
    refine value_ (v := ?_) (w1 := ?_) (by rfl) rfl ?_ ?_
    rotate_left
    rotate_left
    · go_simp
      first | (constructor <;> with_reducible rfl) | with_reducible rfl
    refine hK.out _ _ ⟨(blk_cell (blk_drew (blk_alloc HG5.out _)) 1).trans rfl, (blk_cell (blk_drew (blk_alloc HX5.out _)) 0).trans rfl, (blk_cell (blk_drew (blk_alloc HX5.out _)) 1).trans rfl⟩ (fun hHeld => ?_)
    clear hK K
    refine norm_ (a' := ?_) ?_ ?_
    rotate_left
    · show Act.put _ (some 59) _ = _
      simp only [Act.put, List.setIfInBounds_toArray, List.set_cons_zero, List.set_cons_succ, i64_w, i32_w]
      try rfl
    have hg6 := blk_drew (blk_alloc HG5.out (.cells #[.int .i64 id, .int .i64 (atV now wait)] 62))
    have hx6 := blk_drew (blk_alloc HX5.out (.cells #[.int .i64 id, .int .i64 (atV now wait)] 62))
    have hv6 := blk_drew (blk_new w5 (.cells #[.int .i64 id, .int .i64 (atV now wait)] 62))
    have hb6 := below_drew (below_alloc HB5.out (.cells #[.int .i64 id, .int .i64 (atV now wait)] 62))
    generalize (w5.alloc (.cells #[.int .i64 id, .int .i64 (atV now wait)] 62)).drew = w6 at hg6 hx6 hv6 hb6 hHeld ⊢
    have HG6 := Lib.hid hg6
    have HX6 := Lib.hid hx6
    have HV6 := Lib.hid hv6
    have HB6 := Lib.hid hb6
    clear hg6 hx6 hv6 hb6 HG5 HX5 e0 e1 e2
    refine one_ (i := 8) (N := some 60) #[true, true, true, true, true, true, true, true, true, false, false, false] rfl rfl (by kernel_rfl) (by decide) (fun K hK => ?_)
    refine goes_ Try.func24 (by kernel_rfl) rfl #[.slice A1 ys.length k1, .int .i64 i, .slice (some ⟨w5.heap.size, 0, none⟩) 1 1] (by rfl) rfl rfl (by (try simp only [List.map_toArray, List.map_cons, List.map_nil]); first | done | rfl) ?_
    refine (insert_p (x := ⟨id, atV now wait⟩) (HI2.out.r.later HB6.out) (by have := HL.out; omega) HV6.out (HNN.out _ HB5.out.size) i HI5.out).mono ?_
    rintro e w7 ⟨v', rfl, hr7, hg7, ho7⟩
    rw [HIN.out] at hr7
    obtain ⟨zs, hzs⟩ : ∃ zs, insL ys ⟨id, atV now wait⟩ = zs := ⟨_, rfl⟩
    rw [hzs] at hr7
    have hzl : zs.length ≤ 64 := by rw [← hzs, insL_length]; have := HL.out; omega
    obtain ⟨A7, c7, rfl, hc7, hC7⟩ := hr7.C (by omega)
    clear hc7 hC7
    have hgg := blk_grown HG6.out hg7 HNG.out
    have hxx := blk_grown HX6.out hg7 (HNN.out _ (Nat.le_refl _))
    have HR7 := Lib.hid hr7
    have HG7 := Lib.hid hg7
    have HO7 := Lib.hid ho7
    have HGG := Lib.hid hgg
    have HZS := Lib.hid hzs
    have HZL := Lib.hid hzl
    clear hr7 hg7 ho7 hzs hzl
    refine ⟨_, rfl, ?_⟩
    refine hK.out _ _ ⟨(blk_cell hgg 1).trans rfl, (blk_cell hxx 0).trans rfl, (blk_cell hxx 1).trans rfl⟩ (fun hHeld => ?_)
    clear hK K
    refine norm_ (a' := ?_) ?_ ?_
    rotate_left
    · show Act.put _ (some 60) _ = _
      simp only [Act.put, List.setIfInBounds_toArray, List.set_cons_zero, List.set_cons_succ, i64_w, i32_w]
      try rfl
    clear hgg hxx
    refine pure_ (i := 9) (N := some 61) (v := ?_) (a' := ?_) #[true, true, true, true, true, true, true, true, true, true, false, false] rfl rfl (by kernel_rfl) (fun _ _ _ h => h) (Or.inl ⟨by rfl, ?_⟩) ?_ ?_
    rotate_left
    · intro w'
      go_simp
      with_reducible rfl
    rotate_left
    · simp only [Act.put, List.setIfInBounds_toArray, List.set_cons_zero, List.set_cons_succ, i64_w, i32_w]
      try rfl
    refine pure_ (i := 10) (N := some 62) (v := ?_) (a' := ?_) #[true, true, true, true, true, true, true, true, true, true, true, false] rfl rfl (by kernel_rfl) (fun _ _ _ h => h) (Or.inl ⟨by rfl, ?_⟩) ?_ ?_
    rotate_left
    · intro w'
      go_simp
      with_reducible rfl
    rotate_left
    · simp only [Act.put, List.setIfInBounds_toArray, List.set_cons_zero, List.set_cons_succ, i64_w, i32_w]
      try rfl
    have gs := (blk_cell HGG.out 1).trans rfl
    have gf := blk_frozen HGG.out 1
    refine last_ (i := 11) (N := none) #[true, true, true, true, true, true, true, true, true, true, true, true] rfl rfl (by kernel_rfl) (by decide) (fun K hK => ?_)
    refine skip_ (w1 := ?_) (by rfl) rfl ?_ ?_
    rotate_left
    · go_simp
      rfl
    refine hK.out _ _ ?_
    clear hK K gs gf
    refine done_ (by kernel_rfl) ?_
    clear hHeld
    go_wp2
    all_goals
      go_ret
      have hne7 := HR7.out.ne HGG.out
      have hF := (((HF2.out.trans (Frm.of_below HB6.out g _) (.inl rfl)).trans (Frm.of_grown HG7.out) (.inl HV2.out)).set 1 (.slice A7 zs.length c7))
      refine ⟨rfl, _, ⟨blk_set HGG.out 1 _, ?_, ?_⟩, hF, ?_⟩
      · rw [HYS.out, HZS.out]
        exact HR7.out.keep (fun R' hR' => Below.heap_setCell _ _ _ R' (fun e => hne7 (by rw [hR']; exact congrArg some e)))
      · rw [HYS.out, HZS.out]
        exact HZL.out
      · rcases HO7.out with h | h
        · exact .inl (h.trans HV2.out)
        · exact .inr ⟨_, h, Nat.le_trans HF2.out.size HB6.out.size⟩
end
end Go.Proofs.Ytccmelpnmjdclaa.H
