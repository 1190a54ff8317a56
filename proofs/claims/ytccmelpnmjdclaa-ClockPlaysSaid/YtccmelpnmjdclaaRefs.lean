/- The document's Set and Go. -/
import Derived.Test.YtccmelpnmjdclaaMir
namespace Go.Proofs.Ytccmelpnmjdclaa.H
open Go.RowKit Go.Proofs.YtccmelpnmjdclaaW.PrintWords Go.Proofs.YtccmelpnmjdclaaW.PrintLast
set_option linter.unusedVariables false
set_option linter.unusedSimpArgs false
/-- A row of the document's alarms, in a block that is no older than B. -/
abbrev Rr (B : Nat) (W : World) (v : Value) (ys : List A.S48) : Prop := Kd.R A.k48 48 W B (fun _ => True) v ys
theorem rr_sty {B : Nat} {W W1 : World} {v : Value} {ys : List A.S48} (h : Rr B W v ys) (hs : Sty W W1) : Rr B W1 v ys := by
  refine Kd.R_mono (Kd.R_move (Kd.R_bound h) ?_) (fun _ _ => trivial)
  rintro k ⟨_, _, _, q, hq, cells, hc⟩
  have hq : q ∈ [48] := hq
  obtain rfl : q = 48 := by simpa using hq
  exact (hs k cells 48 _ hc (by decide) (by decide)).trans hc.symm
theorem Kd_base {B : Nat} {W : World} {v : Value} {ys : List A.S48} (h : Rr B W v ys) (k : Nat) (hk : v.ownBlock = some k) : B ≤ k := by
  obtain ⟨inner, ho⟩ := Kd.R_own h
  exact own_base ho k hk
theorem blk_new1 (w : World) (X Y : Obj) : ((w.alloc X).alloc Y).heap[w.heap.size + 1]? = some Y := by
  have := blk_new (w.alloc X) Y
  rwa [World.size_alloc] at this
section
variable {w : World} {B : Nat} {A0 : Option Addr} {c0 : Nat} {now : Int} {xs : List A.S62} {ys : List A.S48}
theorem ref_find (hC : Kd.C A.k48 w A0 ys.length ys) (hc : ys.length ≤ c0) (hM : Mir xs ys) (hl : xs.length ≤ 64) (id : Int) : Calls Try.prog 10 #[.agg #[.int .i64 now, .slice A0 ys.length c0], .int .i64 id] w fun e w' => e = .returned (.tuple #[.int .i64 (findV xs id), .bool (hasL xs id)]) ∧ Below w.heap.size w w' := by
  have := find_f48 now id ys (by have := hM.len; omega)
  rw [mir_find hM] at this
  exact A.greenscreenref04_Find.calls 1001 now A0 c0 ys id _ _ w hC hc this
theorem ref_drop (hC : Kd.C A.k48 w A0 ys.length ys) (hc : ys.length ≤ c0) (hM : Mir xs ys) (hl : xs.length ≤ 64) (id : Int) : Calls Try.prog 11 #[.agg #[.int .i64 now, .slice A0 ys.length c0], .int .i64 id] w fun e w' => ∃ v ys', e = .returned (.agg #[.int .i64 now, v]) ∧ Rr w.heap.size w' v ys' ∧ Mir (dropL xs id) ys' ∧ Below w.heap.size w w' := by
  refine (A.greenscreenref04_Drop.calls 1001 now A0 c0 ys id _ _ w hC hc (drop_f48 now id ys (by have := hM.len; omega))).mono ?_
  rintro e w' ⟨v, rfl, hr, hb⟩
  exact ⟨v, _, rfl, hr, mir_drop hM id, hb⟩
theorem ref_next (hC : Kd.C A.k48 w A0 ys.length ys) (hc : ys.length ≤ c0) (hM : Mir xs ys) (hs : xs.Pairwise ltA) (hl : xs.length ≤ 64) : Calls Try.prog 17 #[.agg #[.int .i64 now, .slice A0 ys.length c0]] w fun e w' => e = .returned (.tuple #[.agg #[.int .i64 (headI xs), .int .i64 (nextV xs)], .bool (someL xs)]) ∧ Below w.heap.size w w' :=
  A.greenscreenref04_Next.calls 1001 now A0 c0 ys _ _ _ w hC hc (mir_next hM hs (by omega) now)
set_option maxHeartbeats 2000000 in
set_option maxRecDepth 100000 in
theorem rset_a (hR : Rr B w (.slice A0 ys.length c0) ys) (hB : B ≤ w.heap.size) (id wait : Int) (h : wait < 0) : Calls Try.prog 9 #[.agg #[.int .i64 now, .slice A0 ys.length c0], .int .i64 id, .int .i64 wait] w fun e w' => e = .returned (.tuple #[.agg #[.int .i64 now, .slice A0 ys.length c0], .int .i64 1]) ∧ Below w.heap.size w w' := by
  have hu30 := Try.underlying30
  have hx0 := blk_new w (.cells #[.int .i64 now, .slice A0 ys.length c0] 30)
  clear hR
  go_enter Try.func9, Try.ntmps9
  go_wp2_with fail
  refine bodyPost_ret (results_ct rfl _ _ (w.heap.size + 1) 30 #[.int .i64 now, .slice A0 ys.length c0] (0, 0) _ rfl (blk_new1 w _ _) Try.underlying30 rfl (by kernel_rfl)) rfl ?_
  exact ⟨rfl, below_alloc (below_alloc (Below.refl _ _) _) _⟩
set_option maxHeartbeats 2000000 in
set_option maxRecDepth 100000 in
theorem rset_b (hC : Kd.C A.k48 w A0 ys.length ys) (hc : ys.length ≤ c0) (hM : Mir xs ys) (hl : xs.length ≤ 64) (id wait : Int) (h : ¬ wait < 0) (hh : hasL xs id = false) (h64 : 64 ≤ xs.length) : Calls Try.prog 9 #[.agg #[.int .i64 now, .slice A0 ys.length c0], .int .i64 id, .int .i64 wait] w fun e w' => e = .returned (.tuple #[.agg #[.int .i64 now, .slice A0 ys.length c0], .int .i64 3]) ∧ Below w.heap.size w w' := by
  have hu30 := Try.underlying30
  have HC := Lib.hid hC
  have hcc := hc
  have HM := Lib.hid hM
  have h64' : (64 : Int) ≤ (ys.length : Int) := by have := hM.len; omega
  have hb2 := below_alloc (below_alloc (Below.refl w.heap.size w) (.cells #[.int .i64 now, .slice A0 ys.length c0] 30)) (.cells #[.int .i64 0, .slice none 0 0] 30)
  have HB2 := Lib.hid hb2
  have HG0 := Lib.hid (blk_alloc (blk_new w (.cells #[.int .i64 now, .slice A0 ys.length c0] 30)) (.cells #[.int .i64 0, .slice none 0 0] 30))
  have HG1 := Lib.hid (blk_new1 w (.cells #[.int .i64 now, .slice A0 ys.length c0] 30) (.cells #[.int .i64 0, .slice none 0 0] 30))
  have HF := Lib.hid (fun W (h : Kd.C A.k48 W A0 ys.length ys) => ref_find (now := now) h hcc hM hl id)
  clear hC hM hb2
  go_enter Try.func9, Try.ntmps9
  go_wp2_with (go_at_call 10; (with_reducible refine (HF.out _ (Kd.C_below HC.out HB2.out)).mono ?_); rintro e w1 ⟨rfl, hb1⟩; rw [hh]; have HB3 := Lib.hid (below_step HB2.out hb1); have hp := blk_below HG0.out hb1; have p0 := (blk_cell hp 0).trans rfl; have p1 := (blk_cell hp 1).trans rfl; have hq := blk_below HG1.out hb1; have HQ := Lib.hid hq; have q0 := (blk_cell hq 0).trans rfl; have q1 := (blk_cell hq 1).trans rfl; have f0 := blk_frozen hq 0; have f1 := blk_frozen hq 1; clear hb1 hp hq)
  refine bodyPost_ret (results_ct rfl _ _ (w.heap.size + 1) 30 #[.int .i64 now, .slice A0 ys.length c0] (0, 0) _ rfl (blk_put (blk_put HQ.out 0 _ rfl) 1 _ rfl) Try.underlying30 rfl (by kernel_rfl)) rfl ?_
  exact ⟨rfl, below_set (below_set HB3.out (Nat.le_succ _)) (Nat.le_succ _)⟩
set_option maxHeartbeats 2000000 in
set_option maxRecDepth 100000 in
theorem rset_c (hC : Kd.C A.k48 w A0 ys.length ys) (hc : ys.length ≤ c0) (hM : Mir xs ys) (hl : xs.length ≤ 64) (h0 : 0 ≤ now) (h1 : now ≤ 1099511627776) (id wait : Int) (h : ¬ wait < 0) (hh : hasL xs id = true ∨ ¬ 64 ≤ xs.length) : Calls Try.prog 9 #[.agg #[.int .i64 now, .slice A0 ys.length c0], .int .i64 id, .int .i64 wait] w fun e w' => ∃ v ys', e = .returned (.tuple #[.agg #[.int .i64 now, v], .int .i64 0]) ∧ Rr w.heap.size w' v ys' ∧ Mir (insL (dropL xs id) ⟨id, atV now wait⟩) ys' ∧ Below w.heap.size w w' := by
  have hu30 := Try.underlying30
  have HC := Lib.hid hC
  have hcc := hc
  have HM := Lib.hid hM
  have HHX := Lib.hid hh
  have HYL : Hid (ys.length ≤ 64) := Lib.hid (by have := hM.len; omega)
  have hw1 : wrap64 (1099511627776 - now) = 1099511627776 - now := by unfold wrap64; omega
  have hb2 := below_alloc (below_alloc (Below.refl w.heap.size w) (.cells #[.int .i64 now, .slice A0 ys.length c0] 30)) (.cells #[.int .i64 0, .slice none 0 0] 30)
  have HB2 := Lib.hid hb2
  have HG0 := Lib.hid (blk_alloc (blk_new w (.cells #[.int .i64 now, .slice A0 ys.length c0] 30)) (.cells #[.int .i64 0, .slice none 0 0] 30))
  have HG1 := Lib.hid (blk_new1 w (.cells #[.int .i64 now, .slice A0 ys.length c0] 30) (.cells #[.int .i64 0, .slice none 0 0] 30))
  have HF := Lib.hid (fun W (h : Kd.C A.k48 W A0 ys.length ys) => ref_find (now := now) h hcc hM hl id)
  have HD := Lib.hid (fun W (h : Kd.C A.k48 W A0 ys.length ys) => ref_drop (now := now) h hcc hM hl id)
  have hhb : hasL xs id = false → ¬ (64 : Int) ≤ (ys.length : Int) := by
    intro e
    have := hM.len
    rcases hh with h | h
    · rw [e] at h; cases h
    · omega
  have HIN := Lib.hid (fun zs (hz : Mir (dropL xs id) zs) (t : A.S48) (ht : t.f0 = id) => mir_ins hz t (fun x hx => by rw [ht]; exact drop_no hM.d x hx))
  have H01 := Lib.hid (And.intro h0 h1)
  clear hC hM hb2 hh
  cases hhv : hasL xs id
  · have h64 := hhb hhv
    clear hhb
    by_cases hsm : wait < 1099511627776 - now
    · have hw2 : wrap64 (now + wait) = now + wait := by have := H01.out; unfold wrap64; omega
      have HAT : Hid (now + wait = atV now wait) := Lib.hid (by unfold atV; split <;> omega)
      go_enter Try.func9, Try.ntmps9
      go_upto_region 10 with (first
        | (go_at_call 10; (with_reducible refine (HF.out _ (Kd.C_below HC.out HB2.out)).mono ?_); rintro e w1 ⟨rfl, hb1⟩; rw [hhv]; have HB3 := Lib.hid (below_step HB2.out hb1); have HP1 := Lib.hid (blk_below HG0.out hb1); have HQ1 := Lib.hid (blk_below HG1.out hb1); have p0 := (blk_cell HP1.out 0).trans rfl; have p1 := (blk_cell HP1.out 1).trans rfl; clear hb1)
        | (go_at_call 11; (with_reducible refine (HD.out _ (Kd.C_below HC.out HB3.out)).mono ?_); rintro e w2 ⟨v2, zs, rfl, hr2, hm2, hb2⟩; obtain ⟨Av, kv, rfl⟩ := Kd.R_slice hr2; have HR2 := Lib.hid (Kd.R_lower hr2 HB3.out.size); have HM2 := Lib.hid hm2; have HB4 := Lib.hid (below_step HB3.out hb2); have HP2 := Lib.hid (blk_below HP1.out hb2); have HQ2 := Lib.hid (blk_below HQ1.out hb2); have r0 := (blk_cell HP2.out 0).trans rfl; have r1 := (blk_cell HP2.out 1).trans rfl; have g0 := blk_frozen HP2.out 0; have g1 := blk_frozen HP2.out 1; clear hb2 hr2 hm2 p0 p1))
      try simp only [hw2]
      have hP3 := blk_put (blk_put HP2.out 0 (.int .i64 now) rfl) 1 (.slice Av zs.length kv) rfl
      have hne : w.heap.size + 1 ≠ w.heap.size := by omega
      have hQ3 := blk_far (blk_far HQ2.out (p := ⟨w.heap.size, 0, none⟩) hne (.int .i64 now)) (p := ⟨w.heap.size, 1, none⟩) hne (.slice Av zs.length kv)
      have hR3 := Kd.R_set (Kd.R_set HR2.out HP2.out (by decide) 0 (.int .i64 now)) (blk_put HP2.out 0 (.int .i64 now) rfl) (by decide) 1 (.slice Av zs.length kv)
      have hB5 := below_set (j := 1) (v := (.slice Av zs.length kv)) (below_set (j := 0) (v := .int .i64 now) HB4.out (Nat.le_refl _)) (Nat.le_refl _)
      generalize (w2.setCell ⟨w.heap.size, 0, none⟩ (.int .i64 now)).setCell ⟨w.heap.size, 1, none⟩ (.slice Av zs.length kv) = W3 at hP3 hQ3 hR3 hB5 ⊢
      have HP3 := Lib.hid hP3
      have HQ3 := Lib.hid hQ3
      have HR3 := Lib.hid hR3
      have HB5 := Lib.hid hB5
      have s1 := (blk_cell hP3 1).trans rfl
      have HZL : Hid (zs.length ≤ 64) := Lib.hid (by rw [HM2.out.len]; exact Nat.le_trans (dropL_length xs id) hl)
      clear hP3 hQ3 hR3 hB5 r0 r1 g0 g1 HP2 HQ2 HR2 HB4 HP1 HQ1 HB3 HG0 HG1 HB2 HC HF HD
      go_upto_region 11 with (at_builtin; refine Kd.R_append A.k48 (w0 := W3) w.heap.size rfl (.tmp 43) (.tmp 47) 28 48 (.agg #[.int .i64 0, .int .i64 0]) 16 rfl Try.underlying28 A.info48 rfl (by decide) (by decide) (.slice Av zs.length kv) zs ⟨id, now + wait⟩ [.int .i64 id, .int .i64 (now + wait)] (fun _ => True) (fun _ => False) rfl rfl (A.k48_mkM _ _ _ ⟨id, now + wait⟩) (fun _ h => h.elim) (fun _ _ => trivial) HR3.out (Below.refl _ _) HB5.out.size (by have := HZL.out; omega) ?_; intro v4 w4 hr4 hb4 hg4 hat4; obtain ⟨A4, k4, e4⟩ := Kd.R_slice hr4; rw [List.length_append, List.length_singleton] at e4; subst e4; have hne4 := Kd.R_ne HR3.out HP3.out (by decide); have hne5 := Kd.R_ne HR3.out HQ3.out (by decide); have HP4 := Lib.hid (blk_grown HP3.out hg4 hne4); have HQ4 := Lib.hid (blk_grown HQ3.out hg4 hne5); have HR4 := Lib.hid hr4; have HB6 := Lib.hid (HB5.out.trans (pw_below_grown (Below.refl _ _) _ HB5.out.size hg4 (fun k hk => Kd_base HR3.out k hk))); have r0 := (blk_cell HP4.out 0).trans rfl; have r1 := (blk_cell HP4.out 1).trans rfl; have g1 := blk_frozen HP4.out 1; clear hr4 hb4 hg4 hat4 hne4 hne5 s1)
      have hP5 := blk_put HP4.out 1 (.slice A4 (zs.length + 1) k4) rfl
      have hQ5 := blk_far HQ4.out (p := ⟨w.heap.size, 1, none⟩) hne (.slice A4 (zs.length + 1) k4)
      have hR5 := Kd.R_set HR4.out HP4.out (by decide) 1 (.slice A4 (zs.length + 1) k4)
      have hB7 := below_set (j := 1) (v := .slice A4 (zs.length + 1) k4) HB6.out (Nat.le_refl _)
      generalize w4.setCell ⟨w.heap.size, 1, none⟩ (.slice A4 (zs.length + 1) k4) = W5 at hP5 hQ5 hR5 hB7 ⊢
      have HQ5 := Lib.hid hQ5
      have HR5 := Lib.hid hR5
      have HB7 := Lib.hid hB7
      have t0 := (blk_cell hP5 0).trans rfl
      have t1 := (blk_cell hP5 1).trans rfl
      have q0 := (blk_cell hQ5 0).trans rfl
      have q1 := (blk_cell hQ5 1).trans rfl
      have f0 := blk_frozen hQ5 0
      have f1 := blk_frozen hQ5 1
      clear hP5 hQ5 hR5 hB7 r0 r1 g1 HP4 HQ4 HR4 HB6 HP3 HQ3 HR3 HB5
      go_wp2_with fail
      refine bodyPost_ret (results_ct rfl _ _ (w.heap.size + 1) 30 #[.int .i64 now, .slice A4 (zs.length + 1) k4] (0, 0) _ rfl (blk_put (blk_put HQ5.out 0 _ rfl) 1 _ rfl) Try.underlying30 rfl (by kernel_rfl)) rfl ?_
      refine ⟨_, _, rfl, Kd.R_set (Kd.R_set HR5.out HQ5.out (by decide) 0 _) (blk_put HQ5.out 0 _ rfl) (by decide) 1 _, ?_, below_set (below_set HB7.out (Nat.le_succ _)) (Nat.le_succ _)⟩
      have hI := HIN.out zs HM2.out ⟨id, now + wait⟩ rfl
      rw [← HAT.out]
      exact hI
    · have HAT : Hid ((1099511627776 : Int) = atV now wait) := Lib.hid (by unfold atV; split <;> omega)
      go_enter Try.func9, Try.ntmps9
      go_upto_region 10 with (first
        | (go_at_call 10; (with_reducible refine (HF.out _ (Kd.C_below HC.out HB2.out)).mono ?_); rintro e w1 ⟨rfl, hb1⟩; rw [hhv]; have HB3 := Lib.hid (below_step HB2.out hb1); have HP1 := Lib.hid (blk_below HG0.out hb1); have HQ1 := Lib.hid (blk_below HG1.out hb1); have p0 := (blk_cell HP1.out 0).trans rfl; have p1 := (blk_cell HP1.out 1).trans rfl; clear hb1)
        | (go_at_call 11; (with_reducible refine (HD.out _ (Kd.C_below HC.out HB3.out)).mono ?_); rintro e w2 ⟨v2, zs, rfl, hr2, hm2, hb2⟩; obtain ⟨Av, kv, rfl⟩ := Kd.R_slice hr2; have HR2 := Lib.hid (Kd.R_lower hr2 HB3.out.size); have HM2 := Lib.hid hm2; have HB4 := Lib.hid (below_step HB3.out hb2); have HP2 := Lib.hid (blk_below HP1.out hb2); have HQ2 := Lib.hid (blk_below HQ1.out hb2); have r0 := (blk_cell HP2.out 0).trans rfl; have r1 := (blk_cell HP2.out 1).trans rfl; have g0 := blk_frozen HP2.out 0; have g1 := blk_frozen HP2.out 1; clear hb2 hr2 hm2 p0 p1))
      have hP3 := blk_put (blk_put HP2.out 0 (.int .i64 now) rfl) 1 (.slice Av zs.length kv) rfl
      have hne : w.heap.size + 1 ≠ w.heap.size := by omega
      have hQ3 := blk_far (blk_far HQ2.out (p := ⟨w.heap.size, 0, none⟩) hne (.int .i64 now)) (p := ⟨w.heap.size, 1, none⟩) hne (.slice Av zs.length kv)
      have hR3 := Kd.R_set (Kd.R_set HR2.out HP2.out (by decide) 0 (.int .i64 now)) (blk_put HP2.out 0 (.int .i64 now) rfl) (by decide) 1 (.slice Av zs.length kv)
      have hB5 := below_set (j := 1) (v := (.slice Av zs.length kv)) (below_set (j := 0) (v := .int .i64 now) HB4.out (Nat.le_refl _)) (Nat.le_refl _)
      generalize (w2.setCell ⟨w.heap.size, 0, none⟩ (.int .i64 now)).setCell ⟨w.heap.size, 1, none⟩ (.slice Av zs.length kv) = W3 at hP3 hQ3 hR3 hB5 ⊢
      have HP3 := Lib.hid hP3
      have HQ3 := Lib.hid hQ3
      have HR3 := Lib.hid hR3
      have HB5 := Lib.hid hB5
      have s1 := (blk_cell hP3 1).trans rfl
      have HZL : Hid (zs.length ≤ 64) := Lib.hid (by rw [HM2.out.len]; exact Nat.le_trans (dropL_length xs id) hl)
      clear hP3 hQ3 hR3 hB5 r0 r1 g0 g1 HP2 HQ2 HR2 HB4 HP1 HQ1 HB3 HG0 HG1 HB2 HC HF HD
      go_upto_region 11 with (at_builtin; refine Kd.R_append A.k48 (w0 := W3) w.heap.size rfl (.tmp 43) (.tmp 47) 28 48 (.agg #[.int .i64 0, .int .i64 0]) 16 rfl Try.underlying28 A.info48 rfl (by decide) (by decide) (.slice Av zs.length kv) zs ⟨id, 1099511627776⟩ [.int .i64 id, .int .i64 1099511627776] (fun _ => True) (fun _ => False) rfl rfl (A.k48_mkM _ _ _ ⟨id, 1099511627776⟩) (fun _ h => h.elim) (fun _ _ => trivial) HR3.out (Below.refl _ _) HB5.out.size (by have := HZL.out; omega) ?_; intro v4 w4 hr4 hb4 hg4 hat4; obtain ⟨A4, k4, e4⟩ := Kd.R_slice hr4; rw [List.length_append, List.length_singleton] at e4; subst e4; have hne4 := Kd.R_ne HR3.out HP3.out (by decide); have hne5 := Kd.R_ne HR3.out HQ3.out (by decide); have HP4 := Lib.hid (blk_grown HP3.out hg4 hne4); have HQ4 := Lib.hid (blk_grown HQ3.out hg4 hne5); have HR4 := Lib.hid hr4; have HB6 := Lib.hid (HB5.out.trans (pw_below_grown (Below.refl _ _) _ HB5.out.size hg4 (fun k hk => Kd_base HR3.out k hk))); have r0 := (blk_cell HP4.out 0).trans rfl; have r1 := (blk_cell HP4.out 1).trans rfl; have g1 := blk_frozen HP4.out 1; clear hr4 hb4 hg4 hat4 hne4 hne5 s1)
      have hP5 := blk_put HP4.out 1 (.slice A4 (zs.length + 1) k4) rfl
      have hQ5 := blk_far HQ4.out (p := ⟨w.heap.size, 1, none⟩) hne (.slice A4 (zs.length + 1) k4)
      have hR5 := Kd.R_set HR4.out HP4.out (by decide) 1 (.slice A4 (zs.length + 1) k4)
      have hB7 := below_set (j := 1) (v := .slice A4 (zs.length + 1) k4) HB6.out (Nat.le_refl _)
      generalize w4.setCell ⟨w.heap.size, 1, none⟩ (.slice A4 (zs.length + 1) k4) = W5 at hP5 hQ5 hR5 hB7 ⊢
      have HQ5 := Lib.hid hQ5
      have HR5 := Lib.hid hR5
      have HB7 := Lib.hid hB7
      have t0 := (blk_cell hP5 0).trans rfl
      have t1 := (blk_cell hP5 1).trans rfl
      have q0 := (blk_cell hQ5 0).trans rfl
      have q1 := (blk_cell hQ5 1).trans rfl
      have f0 := blk_frozen hQ5 0
      have f1 := blk_frozen hQ5 1
      clear hP5 hQ5 hR5 hB7 r0 r1 g1 HP4 HQ4 HR4 HB6 HP3 HQ3 HR3 HB5
      go_wp2_with fail
      refine bodyPost_ret (results_ct rfl _ _ (w.heap.size + 1) 30 #[.int .i64 now, .slice A4 (zs.length + 1) k4] (0, 0) _ rfl (blk_put (blk_put HQ5.out 0 _ rfl) 1 _ rfl) Try.underlying30 rfl (by kernel_rfl)) rfl ?_
      refine ⟨_, _, rfl, Kd.R_set (Kd.R_set HR5.out HQ5.out (by decide) 0 _) (blk_put HQ5.out 0 _ rfl) (by decide) 1 _, ?_, below_set (below_set HB7.out (Nat.le_succ _)) (Nat.le_succ _)⟩
      have hI := HIN.out zs HM2.out ⟨id, 1099511627776⟩ rfl
      rw [← HAT.out]
      exact hI
  · skip
    clear hhb
    by_cases hsm : wait < 1099511627776 - now
    · have hw2 : wrap64 (now + wait) = now + wait := by have := H01.out; unfold wrap64; omega
      have HAT : Hid (now + wait = atV now wait) := Lib.hid (by unfold atV; split <;> omega)
      go_enter Try.func9, Try.ntmps9
      go_upto_region 10 with (first
        | (go_at_call 10; (with_reducible refine (HF.out _ (Kd.C_below HC.out HB2.out)).mono ?_); rintro e w1 ⟨rfl, hb1⟩; rw [hhv]; have HB3 := Lib.hid (below_step HB2.out hb1); have HP1 := Lib.hid (blk_below HG0.out hb1); have HQ1 := Lib.hid (blk_below HG1.out hb1); have p0 := (blk_cell HP1.out 0).trans rfl; have p1 := (blk_cell HP1.out 1).trans rfl; clear hb1)
        | (go_at_call 11; (with_reducible refine (HD.out _ (Kd.C_below HC.out HB3.out)).mono ?_); rintro e w2 ⟨v2, zs, rfl, hr2, hm2, hb2⟩; obtain ⟨Av, kv, rfl⟩ := Kd.R_slice hr2; have HR2 := Lib.hid (Kd.R_lower hr2 HB3.out.size); have HM2 := Lib.hid hm2; have HB4 := Lib.hid (below_step HB3.out hb2); have HP2 := Lib.hid (blk_below HP1.out hb2); have HQ2 := Lib.hid (blk_below HQ1.out hb2); have r0 := (blk_cell HP2.out 0).trans rfl; have r1 := (blk_cell HP2.out 1).trans rfl; have g0 := blk_frozen HP2.out 0; have g1 := blk_frozen HP2.out 1; clear hb2 hr2 hm2 p0 p1))
      try simp only [hw2]
      have hP3 := blk_put (blk_put HP2.out 0 (.int .i64 now) rfl) 1 (.slice Av zs.length kv) rfl
      have hne : w.heap.size + 1 ≠ w.heap.size := by omega
      have hQ3 := blk_far (blk_far HQ2.out (p := ⟨w.heap.size, 0, none⟩) hne (.int .i64 now)) (p := ⟨w.heap.size, 1, none⟩) hne (.slice Av zs.length kv)
      have hR3 := Kd.R_set (Kd.R_set HR2.out HP2.out (by decide) 0 (.int .i64 now)) (blk_put HP2.out 0 (.int .i64 now) rfl) (by decide) 1 (.slice Av zs.length kv)
      have hB5 := below_set (j := 1) (v := (.slice Av zs.length kv)) (below_set (j := 0) (v := .int .i64 now) HB4.out (Nat.le_refl _)) (Nat.le_refl _)
      generalize (w2.setCell ⟨w.heap.size, 0, none⟩ (.int .i64 now)).setCell ⟨w.heap.size, 1, none⟩ (.slice Av zs.length kv) = W3 at hP3 hQ3 hR3 hB5 ⊢
      have HP3 := Lib.hid hP3
      have HQ3 := Lib.hid hQ3
      have HR3 := Lib.hid hR3
      have HB5 := Lib.hid hB5
      have s1 := (blk_cell hP3 1).trans rfl
      have HZL : Hid (zs.length ≤ 64) := Lib.hid (by rw [HM2.out.len]; exact Nat.le_trans (dropL_length xs id) hl)
      clear hP3 hQ3 hR3 hB5 r0 r1 g0 g1 HP2 HQ2 HR2 HB4 HP1 HQ1 HB3 HG0 HG1 HB2 HC HF HD
      go_upto_region 11 with (at_builtin; refine Kd.R_append A.k48 (w0 := W3) w.heap.size rfl (.tmp 43) (.tmp 47) 28 48 (.agg #[.int .i64 0, .int .i64 0]) 16 rfl Try.underlying28 A.info48 rfl (by decide) (by decide) (.slice Av zs.length kv) zs ⟨id, now + wait⟩ [.int .i64 id, .int .i64 (now + wait)] (fun _ => True) (fun _ => False) rfl rfl (A.k48_mkM _ _ _ ⟨id, now + wait⟩) (fun _ h => h.elim) (fun _ _ => trivial) HR3.out (Below.refl _ _) HB5.out.size (by have := HZL.out; omega) ?_; intro v4 w4 hr4 hb4 hg4 hat4; obtain ⟨A4, k4, e4⟩ := Kd.R_slice hr4; rw [List.length_append, List.length_singleton] at e4; subst e4; have hne4 := Kd.R_ne HR3.out HP3.out (by decide); have hne5 := Kd.R_ne HR3.out HQ3.out (by decide); have HP4 := Lib.hid (blk_grown HP3.out hg4 hne4); have HQ4 := Lib.hid (blk_grown HQ3.out hg4 hne5); have HR4 := Lib.hid hr4; have HB6 := Lib.hid (HB5.out.trans (pw_below_grown (Below.refl _ _) _ HB5.out.size hg4 (fun k hk => Kd_base HR3.out k hk))); have r0 := (blk_cell HP4.out 0).trans rfl; have r1 := (blk_cell HP4.out 1).trans rfl; have g1 := blk_frozen HP4.out 1; clear hr4 hb4 hg4 hat4 hne4 hne5 s1)
      have hP5 := blk_put HP4.out 1 (.slice A4 (zs.length + 1) k4) rfl
      have hQ5 := blk_far HQ4.out (p := ⟨w.heap.size, 1, none⟩) hne (.slice A4 (zs.length + 1) k4)
      have hR5 := Kd.R_set HR4.out HP4.out (by decide) 1 (.slice A4 (zs.length + 1) k4)
      have hB7 := below_set (j := 1) (v := .slice A4 (zs.length + 1) k4) HB6.out (Nat.le_refl _)
      generalize w4.setCell ⟨w.heap.size, 1, none⟩ (.slice A4 (zs.length + 1) k4) = W5 at hP5 hQ5 hR5 hB7 ⊢
      have HQ5 := Lib.hid hQ5
      have HR5 := Lib.hid hR5
      have HB7 := Lib.hid hB7
      have t0 := (blk_cell hP5 0).trans rfl
      have t1 := (blk_cell hP5 1).trans rfl
      have q0 := (blk_cell hQ5 0).trans rfl
      have q1 := (blk_cell hQ5 1).trans rfl
      have f0 := blk_frozen hQ5 0
      have f1 := blk_frozen hQ5 1
      clear hP5 hQ5 hR5 hB7 r0 r1 g1 HP4 HQ4 HR4 HB6 HP3 HQ3 HR3 HB5
      go_wp2_with fail
      refine bodyPost_ret (results_ct rfl _ _ (w.heap.size + 1) 30 #[.int .i64 now, .slice A4 (zs.length + 1) k4] (0, 0) _ rfl (blk_put (blk_put HQ5.out 0 _ rfl) 1 _ rfl) Try.underlying30 rfl (by kernel_rfl)) rfl ?_
      refine ⟨_, _, rfl, Kd.R_set (Kd.R_set HR5.out HQ5.out (by decide) 0 _) (blk_put HQ5.out 0 _ rfl) (by decide) 1 _, ?_, below_set (below_set HB7.out (Nat.le_succ _)) (Nat.le_succ _)⟩
      have hI := HIN.out zs HM2.out ⟨id, now + wait⟩ rfl
      rw [← HAT.out]
      exact hI
    · have HAT : Hid ((1099511627776 : Int) = atV now wait) := Lib.hid (by unfold atV; split <;> omega)
      go_enter Try.func9, Try.ntmps9
      go_upto_region 10 with (first
        | (go_at_call 10; (with_reducible refine (HF.out _ (Kd.C_below HC.out HB2.out)).mono ?_); rintro e w1 ⟨rfl, hb1⟩; rw [hhv]; have HB3 := Lib.hid (below_step HB2.out hb1); have HP1 := Lib.hid (blk_below HG0.out hb1); have HQ1 := Lib.hid (blk_below HG1.out hb1); have p0 := (blk_cell HP1.out 0).trans rfl; have p1 := (blk_cell HP1.out 1).trans rfl; clear hb1)
        | (go_at_call 11; (with_reducible refine (HD.out _ (Kd.C_below HC.out HB3.out)).mono ?_); rintro e w2 ⟨v2, zs, rfl, hr2, hm2, hb2⟩; obtain ⟨Av, kv, rfl⟩ := Kd.R_slice hr2; have HR2 := Lib.hid (Kd.R_lower hr2 HB3.out.size); have HM2 := Lib.hid hm2; have HB4 := Lib.hid (below_step HB3.out hb2); have HP2 := Lib.hid (blk_below HP1.out hb2); have HQ2 := Lib.hid (blk_below HQ1.out hb2); have r0 := (blk_cell HP2.out 0).trans rfl; have r1 := (blk_cell HP2.out 1).trans rfl; have g0 := blk_frozen HP2.out 0; have g1 := blk_frozen HP2.out 1; clear hb2 hr2 hm2 p0 p1))
      have hP3 := blk_put (blk_put HP2.out 0 (.int .i64 now) rfl) 1 (.slice Av zs.length kv) rfl
      have hne : w.heap.size + 1 ≠ w.heap.size := by omega
      have hQ3 := blk_far (blk_far HQ2.out (p := ⟨w.heap.size, 0, none⟩) hne (.int .i64 now)) (p := ⟨w.heap.size, 1, none⟩) hne (.slice Av zs.length kv)
      have hR3 := Kd.R_set (Kd.R_set HR2.out HP2.out (by decide) 0 (.int .i64 now)) (blk_put HP2.out 0 (.int .i64 now) rfl) (by decide) 1 (.slice Av zs.length kv)
      have hB5 := below_set (j := 1) (v := (.slice Av zs.length kv)) (below_set (j := 0) (v := .int .i64 now) HB4.out (Nat.le_refl _)) (Nat.le_refl _)
      generalize (w2.setCell ⟨w.heap.size, 0, none⟩ (.int .i64 now)).setCell ⟨w.heap.size, 1, none⟩ (.slice Av zs.length kv) = W3 at hP3 hQ3 hR3 hB5 ⊢
      have HP3 := Lib.hid hP3
      have HQ3 := Lib.hid hQ3
      have HR3 := Lib.hid hR3
      have HB5 := Lib.hid hB5
      have s1 := (blk_cell hP3 1).trans rfl
      have HZL : Hid (zs.length ≤ 64) := Lib.hid (by rw [HM2.out.len]; exact Nat.le_trans (dropL_length xs id) hl)
      clear hP3 hQ3 hR3 hB5 r0 r1 g0 g1 HP2 HQ2 HR2 HB4 HP1 HQ1 HB3 HG0 HG1 HB2 HC HF HD
      go_upto_region 11 with (at_builtin; refine Kd.R_append A.k48 (w0 := W3) w.heap.size rfl (.tmp 43) (.tmp 47) 28 48 (.agg #[.int .i64 0, .int .i64 0]) 16 rfl Try.underlying28 A.info48 rfl (by decide) (by decide) (.slice Av zs.length kv) zs ⟨id, 1099511627776⟩ [.int .i64 id, .int .i64 1099511627776] (fun _ => True) (fun _ => False) rfl rfl (A.k48_mkM _ _ _ ⟨id, 1099511627776⟩) (fun _ h => h.elim) (fun _ _ => trivial) HR3.out (Below.refl _ _) HB5.out.size (by have := HZL.out; omega) ?_; intro v4 w4 hr4 hb4 hg4 hat4; obtain ⟨A4, k4, e4⟩ := Kd.R_slice hr4; rw [List.length_append, List.length_singleton] at e4; subst e4; have hne4 := Kd.R_ne HR3.out HP3.out (by decide); have hne5 := Kd.R_ne HR3.out HQ3.out (by decide); have HP4 := Lib.hid (blk_grown HP3.out hg4 hne4); have HQ4 := Lib.hid (blk_grown HQ3.out hg4 hne5); have HR4 := Lib.hid hr4; have HB6 := Lib.hid (HB5.out.trans (pw_below_grown (Below.refl _ _) _ HB5.out.size hg4 (fun k hk => Kd_base HR3.out k hk))); have r0 := (blk_cell HP4.out 0).trans rfl; have r1 := (blk_cell HP4.out 1).trans rfl; have g1 := blk_frozen HP4.out 1; clear hr4 hb4 hg4 hat4 hne4 hne5 s1)
      have hP5 := blk_put HP4.out 1 (.slice A4 (zs.length + 1) k4) rfl
      have hQ5 := blk_far HQ4.out (p := ⟨w.heap.size, 1, none⟩) hne (.slice A4 (zs.length + 1) k4)
      have hR5 := Kd.R_set HR4.out HP4.out (by decide) 1 (.slice A4 (zs.length + 1) k4)
      have hB7 := below_set (j := 1) (v := .slice A4 (zs.length + 1) k4) HB6.out (Nat.le_refl _)
      generalize w4.setCell ⟨w.heap.size, 1, none⟩ (.slice A4 (zs.length + 1) k4) = W5 at hP5 hQ5 hR5 hB7 ⊢
      have HQ5 := Lib.hid hQ5
      have HR5 := Lib.hid hR5
      have HB7 := Lib.hid hB7
      have t0 := (blk_cell hP5 0).trans rfl
      have t1 := (blk_cell hP5 1).trans rfl
      have q0 := (blk_cell hQ5 0).trans rfl
      have q1 := (blk_cell hQ5 1).trans rfl
      have f0 := blk_frozen hQ5 0
      have f1 := blk_frozen hQ5 1
      clear hP5 hQ5 hR5 hB7 r0 r1 g1 HP4 HQ4 HR4 HB6 HP3 HQ3 HR3 HB5
      go_wp2_with fail
      refine bodyPost_ret (results_ct rfl _ _ (w.heap.size + 1) 30 #[.int .i64 now, .slice A4 (zs.length + 1) k4] (0, 0) _ rfl (blk_put (blk_put HQ5.out 0 _ rfl) 1 _ rfl) Try.underlying30 rfl (by kernel_rfl)) rfl ?_
      refine ⟨_, _, rfl, Kd.R_set (Kd.R_set HR5.out HQ5.out (by decide) 0 _) (blk_put HQ5.out 0 _ rfl) (by decide) 1 _, ?_, below_set (below_set HB7.out (Nat.le_succ _)) (Nat.le_succ _)⟩
      have hI := HIN.out zs HM2.out ⟨id, 1099511627776⟩ rfl
      rw [← HAT.out]
      exact hI
end
end Go.Proofs.Ytccmelpnmjdclaa.H
