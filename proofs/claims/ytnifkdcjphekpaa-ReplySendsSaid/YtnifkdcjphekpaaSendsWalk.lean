/- ReplySends: the walk. -/
import Derived.Test.YtnifkdcjphekpaaMostPure
import Derived.Test.YtnifkdcjphekpaaAlls
import Derived.Test.YtnifkdcjphekpaaClone
import Derived.Test.YtnifkdcjphekpaaAlive
namespace Go.Proofs.Ytnifkdcjphekpaa.H
open Go.RowKit Go.Proofs.YtnifkdcjphekpaaW.PrintWords Go.Proofs.YtnifkdcjphekpaaW.PrintLast
set_option linter.unusedVariables false
set_option linter.unusedSimpArgs false
theorem C_ints' {w : World} {A : Option Addr} {n : Nat} {xs : List Int} (h : ReadsInt w .u8 A n xs) : Kd.C (Kd.int .u8) w A n xs := Kd.C_of_reads (enc := Value.int .u8) (d := 0) (h1 := fun _ => rfl) (readsInt_of.1 h)
theorem same_loop' (l : List Int) (hl : l.length < 9223372036854775807) : ∀ (m k i : Nat), i + m = l.length → m < k → A.greenscreenref01_Same.l0 k l l (i : Int) = some true := by
  intro m
  induction m with
  | zero =>
    intro k i hi hk
    obtain ⟨k, rfl⟩ : ∃ j, k = j + 1 := ⟨k - 1, by omega⟩
    rw [A.greenscreenref01_Same.l0, if_neg (by omega)]
  | succ m ih =>
    intro k i hi hk
    obtain ⟨k, rfl⟩ : ∃ j, k = j + 1 := ⟨k - 1, by omega⟩
    rw [A.greenscreenref01_Same.l0, if_pos (by omega), if_pos (by omega), if_pos (by omega), if_pos rfl, wrap_of (by omega) (by omega)]
    exact ih k (i + 1) (by omega) (by omega)
theorem same_self' (l : List Int) (hl : l.length ≤ 4000) : A.greenscreenref01_Same.f 5000 l l = some true := by
  rw [A.greenscreenref01_Same.f, if_pos rfl]
  exact same_loop' l (by omega) l.length 5000 0 (by omega) (by omega)
/-- Two rows that say the same are the same. -/
theorem rsame_p {w : World} {A0 A1 : Option Addr} {c0 c1 : Nat} {l : List Int} (h0 : ReadsInt w .u8 A0 l.length l) (hc0 : l.length ≤ c0) (h1 : ReadsInt w .u8 A1 l.length l) (hc1 : l.length ≤ c1) (hl : l.length ≤ 4000) : Calls Try.prog 17 #[.slice A0 l.length c0, .slice A1 l.length c1] w fun e w' => e = .returned (.bool true) ∧ Below w.heap.size w w' := by
  refine (A.greenscreenref01_Same.calls 5000 A0 c0 l A1 c1 l true w (C_ints' h0) hc0 (C_ints' h1) hc1 (same_self' l hl)).mono ?_
  rintro e w1 ⟨rfl, hd⟩
  obtain ⟨m1, rfl⟩ := hd.out
  exact ⟨rfl, pw_below_drewN (Below.refl _ _) m1⟩
set_option maxHeartbeats 4000000 in
set_option maxRecDepth 100000 in
theorem sends_walk (r c a aid op : Int) (xs : List A.S34) (A1 : Option Addr) (c1 : Nat) (w : World) (hC : Kd.C A.k34 w A1 xs.length xs) (hwx : ∀ x, x ∈ xs → 0 ≤ x.f0 ∧ x.f0 < 256) (ha0 : 0 ≤ aid) (ha1 : aid < 256) :
    Calls Try.prog 6 #[.agg #[.int .i64 r, .int .i64 c], .slice A1 xs.length c1, .int .i64 a, .int .u8 aid, .int .u8 op] w fun e w' => e = .returned (.bool true) ∧ Below w.heap.size w w' := by
  have hu26 := Try.underlying26
  have hu30 := Try.underlying30
  have hu34 := Try.underlying34
  have HC := Lib.hid hC
  have HWX := Lib.hid hwx
  have HAID := Lib.hid (And.intro ha0 ha1)
  have HB0 := Lib.hid (below_alloc (Below.refl w.heap.size w) (.cells #[.int .i64 r, .int .i64 c] 26))
  have HS0 := Lib.hid (heap_alloc_new w (.cells #[.int .i64 r, .int .i64 c] 26))
  clear hC hwx ha0 ha1
  by_cases hn : cells r c = 0 ∨ 120 < cells r c
  · go_enter Try.func6, Try.ntmps6
    go_wp2_with (first
      | (go_at_call 7; (with_reducible refine (alive_p _).mono ?_); rintro e w1 ⟨rfl, hb⟩; have HB1 := Lib.hid (below_step HB0.out hb); have hs := blk_below HS0.out hb; have s0 := (blk_cell hs 0).trans rfl; have s1 := (blk_cell hs 1).trans rfl; clear hb hs)
      | (go_at_call 9; (with_reducible refine (made_no r c a hn xs A1 c1 _).mono ?_); rintro e w2 ⟨x0, x1, A2, n2, c2, x3, rfl, hb⟩; have HB2 := Lib.hid (below_step HB1.out hb); clear hb))
    go_ret
    exact ⟨rfl, below_alloc HB2.out _⟩
  · have hr := cells_range r c
    have hn1 : 1 ≤ cells r c := by omega
    have hn2 : cells r c ≤ 120 := by omega
    have HN12 := Lib.hid (And.intro hn1 hn2)
    clear hn hr hn1 hn2
    go_enter Try.func6, Try.ntmps6
    go_wp2_with (first
      | (go_at_call 7; (with_reducible refine (alive_p _).mono ?_); rintro e w1 ⟨rfl, hb⟩; have HB1 := Lib.hid (below_step HB0.out hb); have hs := blk_below HS0.out hb; have s0 := (blk_cell hs 0).trans rfl; have s1 := (blk_cell hs 1).trans rfl; clear hb hs)
      | (go_at_call 9; (with_reducible refine (made_q r c a HN12.out.1 HN12.out.2 xs A1 c1 _ (Kd.C_below HC.out HB1.out)).mono ?_); rintro e w2 ⟨cs, p, g, R, c0, R2, c2, rfl, hg, hf, ho, hq, hb⟩; have HB2 := Lib.hid (below_step HB1.out hb); have HO2 := Lib.hid ho; have HQ2 := Lib.hid hq; have HF2 := Lib.hid hf; have HG2 := Lib.hid hg.2.2.2.2; have hb3 := below_alloc (Below.refl w2.heap.size w2) (.cells #[.int .i64 r, .int .i64 c, .slice (some ⟨R2, 0, none⟩) cs.length c2, .int .i64 p] 30); have HO3 := Lib.hid (ho.later hb3); have HB3 := Lib.hid (below_step HB2.out hb3); have HQ3 := Lib.hid (hq.later hb3); have HX3 := Lib.hid (heap_alloc_new w2 (.cells #[.int .i64 r, .int .i64 c, .slice (some ⟨R2, 0, none⟩) cs.length c2, .int .i64 p] 30)); clear hb ho hq hg hf hb3)
      | (go_at_call 14; (with_reducible refine (clone_p HO3.out.isP).mono ?_); rintro e w4 ⟨g4, R4, c4, rfl, hg4, hR4, ho4, hb4⟩; have HO4 := Lib.hid (HO3.out.later hb4); have HP4 := Lib.hid ho4; have HQ4 := Lib.hid (HQ3.out.later hb4); have HB4 := Lib.hid (below_step HB3.out hb4); have HX4 := Lib.hid (blk_below HX3.out hb4); clear hb4 ho4 hg4 hR4))
    have hb5 := below_alloc (Below.refl w4.heap.size w4) (.cells #[.int .u8 op, .int .u8 242, .int .u8 246, .int .u8 110] 5)
    have HOP := Lib.hid (heap_alloc_new w4 (.cells #[.int .u8 op, .int .u8 242, .int .u8 246, .int .u8 110] 5))
    obtain ⟨W5, hW5⟩ : ∃ W5, W5 = w4.alloc (.cells #[.int .u8 op, .int .u8 242, .int .u8 246, .int .u8 110] 5) := ⟨_, rfl⟩
    rw [← hW5] at hb5 HOP ⊢
    have HO5 := Lib.hid (HO4.out.later hb5)
    have HP5 := Lib.hid (HP4.out.later hb5)
    have HQ5 := Lib.hid (HQ4.out.later hb5)
    have HB5 := Lib.hid (below_step HB4.out hb5)
    have HX5 := Lib.hid (blk_below HX4.out hb5)
    have hf := HF2.out
    have h120 : cs.length ≤ 120 := hf.2.2.1
    have h1n : 1 ≤ cs.length := hf.2.1
    have hmost := most_n h1n h120
    have HWF := Lib.hid (wf_made HWX.out hf.2.2.2.2.2)
    have HP01 := Lib.hid (And.intro hf.2.2.2.1 hf.2.2.2.2.1)
    have HMOST := Lib.hid hmost
    obtain ⟨bx, hbx⟩ : ∃ bx, w2.heap.size = bx := ⟨_, rfl⟩
    obtain ⟨bo, hbo⟩ : ∃ bo, w4.heap.size = bo := ⟨_, rfl⟩
    rw [hbx] at HX5
    rw [hbo] at HOP
    simp only [hbx, hbo]
    have hfl := fun o => forL_most cs p aid o
    have HFL := Lib.hid hfl
    clear hW5 hb5 hf hmost HO2 HQ2 HB2 HO3 HB3 HQ3 HX3 HO4 HP4 HQ4 HB4 HX4 HB1 HB0 HS0 s0 s1 hbx hbo hfl
    go_loopw [40] (fun v40 wr => ∃ k : Nat, k ≤ 4 ∧ v40 = .int .i64 k ∧ Below W5.heap.size W5 wr) (fun v40 _ => 4 - (intOf v40).toNat)
    case atStart => exact ⟨0, Nat.zero_le _, rfl, Below.refl _ _⟩
    case round =>
      obtain ⟨k, hk, rfl, hb⟩ := hrel
      have HB6 := Lib.hid hb
      have HO6 := Lib.hid (HO5.out.later hb)
      have HP6 := Lib.hid (HP5.out.later hb)
      have HQ6 := Lib.hid (HQ5.out.later hb)
      have hx6 := blk_below HX5.out hb
      have HX6 := Lib.hid hx6
      have x0 := (blk_cell hx6 0).trans rfl
      have x1 := (blk_cell hx6 1).trans rfl
      have x2 := (blk_cell hx6 2).trans rfl
      have x3 := (blk_cell hx6 3).trans rfl
      by_cases hlt : k < 4
      · have hko : ∃ o : Int, wr.cell? ⟨bo, k, none⟩ = some (.int .u8 o) := by
          have h := blk_cell (blk_below HOP.out hb) k
          obtain rfl | rfl | rfl | rfl : k = 0 ∨ k = 1 ∨ k = 2 ∨ k = 3 := by omega
          · exact ⟨_, h⟩
          · exact ⟨_, h⟩
          · exact ⟨_, h⟩
          · exact ⟨_, h⟩
        obtain ⟨o, ck⟩ := hko
        have ha : (⟨bo, 0, none⟩ : Addr).add k = ⟨bo, k, none⟩ := addr_mk bo k
        have hll := HFL.out o
        have hfor := for_a HO6.out.isP HP01.out.1 HP01.out.2 aid o
        have hrfor := fun (W : World) (hk : Kd.C A.k34 W (some ⟨R2, 0, none⟩) cs.length cs) => rfor_a (r := r) (c := c) HWF.out hk HG2.out (by omega) HP01.out.1 HP01.out.2 aid o HAID.out.1 HAID.out.2
        obtain ⟨L, hL⟩ : ∃ L, forL cs p aid o = L := ⟨_, rfl⟩
        obtain ⟨fe, hfe⟩ : ∃ fe, forE o = fe := ⟨_, rfl⟩
        rw [hL] at hll hfor hrfor
        rw [hfe] at hfor hrfor
        have HFOR := Lib.hid hfor
        have HRFOR := Lib.hid hrfor
        have HLL := Lib.hid hll
        have e1 : ¬ (3 + 5 * (cs.length : Int) < (L.length : Int)) := by omega
        have e2 : decide ((L.length : Int) > 3 + 5 * (cs.length : Int)) = false := by simp; omega
        clear hb hx6 hll hfor hrfor hL hfe
        go_wp2_with (first
          | (go_at_call 18; (with_reducible refine HFOR.out.mono ?_); rintro e w7 ⟨v7, rfl, ho7, hb7⟩; obtain ⟨A7, c7, rfl, hc7, hr7⟩ := own_reads_of_le (enc := Value.int .u8) (d := (0 : Int)) (xs := L) ho7; have HR7 := Lib.hid (readsInt_of.2 hr7); have HC7 := Lib.hid hc7; have HB7 := Lib.hid hb7; have hx7 := blk_below HX6.out hb7; have x70 := (blk_cell hx7 0).trans rfl; have x71 := (blk_cell hx7 1).trans rfl; have x72 := (blk_cell hx7 2).trans rfl; have x73 := (blk_cell hx7 3).trans rfl; clear ho7 hb7 hr7 hc7 hx7)
          | (go_at_call 19; (with_reducible refine (HRFOR.out _ ((HQ6.out.later HB7.out).C (by omega))).mono ?_); rintro e w8 ⟨v8, rfl, ho8, hb8⟩; obtain ⟨A8, c8, rfl, hc8, hr8⟩ := own_reads_of_le (enc := Value.int .u8) (d := (0 : Int)) (xs := L) ho8; have HR8 := Lib.hid (readsInt_of.2 hr8); have HC8 := Lib.hid hc8; have HR78 := Lib.hid (HR7.out.below hb8); have HB8 := Lib.hid (below_step HB7.out hb8); clear ho8 hb8 hr8 hc8)
          | (go_at_call 17; (with_reducible refine (rsame_p HR78.out HC7.out HR8.out HC8.out (by have := HLL.out; omega)).mono ?_); rintro e w9 ⟨rfl, hb9⟩; have HB9 := Lib.hid (below_step HB8.out hb9); clear hb9)
          | (go_at_call 20; (with_reducible refine (len_p (HO6.out.later HB9.out).isP).mono ?_); rintro e w10 ⟨rfl, hb10⟩; have HB10 := Lib.hid (below_step HB9.out hb10); clear hb10)
          | (go_at_call 8; (with_reducible refine (A.reply_Most.calls _ _ _ HMOST.out).mono ?_); rintro e w11 ⟨rfl, hb11⟩; have HB11 := Lib.hid (below_step HB10.out hb11); clear hb11))
        go_roundw
        case rel => exact ⟨k + 1, by omega, by go_num, below_step HB6.out HB11.out⟩
        case measure => simp [intOf]; omega
      · obtain rfl : k = 4 := by omega
        have hlr := HFL.out 246
        have hla : (allL cs p aid).length ≤ 3 + 5 * cs.length := HFL.out 110
        have hlb : (headL p aid ++ bufTo cs cs.length).length ≤ 3 + 5 * cs.length := HFL.out 242
        have hrfor := rfor_a (r := r) (c := c) HWF.out (HQ6.out.C (by omega)) HG2.out (by omega) HP01.out.1 HP01.out.2 aid 246 HAID.out.1 HAID.out.2
        have e246 : forL cs p aid 246 = readL cs p aid := rfl
        rw [e246] at hlr hrfor
        have hread := fun (W : World) (h : Below wr.heap.size wr W) => read_a (HO6.out.later h).isP HP01.out.1 HP01.out.2 aid
        have hall := fun (W : World) (h : Below wr.heap.size wr W) => all_a (HO6.out.later h).isP HP01.out.1 HP01.out.2 aid
        have hbuf := fun (W : World) (h : Below wr.heap.size wr W) => buffer_p (HO6.out.later h).isP HP01.out.1 HP01.out.2 aid
        have hrall := fun (W : World) (h : Below wr.heap.size wr W) => rall_p (r := r) (c := c) HWF.out ((HQ6.out.later h).C (by omega)) HG2.out (by omega) HP01.out.1 HP01.out.2 aid
        have hrbuf := fun (W : World) (h : Below wr.heap.size wr W) => rbuf_p (r := r) (c := c) (c2 := c2) HWF.out ((HQ6.out.later h).C (by omega)) (by omega) HP01.out.1 HP01.out.2 aid
        obtain ⟨rl, hrl⟩ : ∃ rl, readL cs p aid = rl := ⟨_, rfl⟩
        obtain ⟨al, hal⟩ : ∃ al, allL cs p aid = al := ⟨_, rfl⟩
        obtain ⟨bl, hbl⟩ : ∃ bl, headL p aid ++ bufTo cs cs.length = bl := ⟨_, rfl⟩
        rw [hrl] at hlr hrfor
        rw [hal] at hla
        rw [hbl] at hlb
        simp only [hrl] at hread
        simp only [hal] at hall hrall
        simp only [hbl] at hbuf hrbuf
        have HRFOR := Lib.hid hrfor
        have HREAD := Lib.hid hread
        have HALL := Lib.hid hall
        have HBUF := Lib.hid hbuf
        have HRALL := Lib.hid hrall
        have HRBUF := Lib.hid hrbuf
        have HLEN := Lib.hid (And.intro hlr (And.intro hla hlb))
        clear hb hx6 hlr hla hlb hrfor hread hall hbuf hrall hrbuf e246 hrl hal hbl
        go_wp2_with (go_at_call 19; (with_reducible refine HRFOR.out.mono ?_); rintro e w7 ⟨v7, rfl, ho7, hb7⟩; obtain ⟨A7, c7, rfl, hc7, hr7⟩ := own_reads_of_le (enc := Value.int .u8) (d := (0 : Int)) (xs := rl) ho7; have HR7 := Lib.hid (readsInt_of.2 hr7); have HC7 := Lib.hid hc7; have HB7 := Lib.hid hb7; clear ho7 hb7 hr7 hc7)
        obtain ⟨W8, hW8⟩ : ∃ W8, W8 = w7.drew := ⟨_, rfl⟩
        have hb8 : Below wr.heap.size wr W8 := by rw [hW8]; exact below_drew HB7.out
        have hr8 : ReadsInt W8 .u8 A7 rl.length rl := by rw [hW8]; exact HR7.out.below (below_drew (Below.refl _ _))
        have HB8 := Lib.hid hb8
        have HW8 := Lib.hid hr8
        clear hb8 hr8
        refine start_ (n := 29) (S := fun W' => W'.cell? ⟨bx, 0, none⟩ = some (.int .i64 r) ∧ W'.cell? ⟨bx, 1, none⟩ = some (.int .i64 c) ∧ W'.cell? ⟨bx, 2, none⟩ = some (.slice (some ⟨R2, 0, none⟩) cs.length c2) ∧ W'.cell? ⟨bx, 3, none⟩ = some (.int .i64 p)) (ds := []) #[false, false, false, false, false, false, false, false, false, false, false, false, false, false, false, false, false, false, false, false, false, false, false, false, false, false, false, false, false] (by kernel_rfl) rfl rfl (by rw [← hW8]; exact ⟨(blk_cell (blk_below HX6.out HB8.out) 0).trans rfl, (blk_cell (blk_below HX6.out HB8.out) 1).trans rfl, (blk_cell (blk_below HX6.out HB8.out) 2).trans rfl, (blk_cell (blk_below HX6.out HB8.out) 3).trans rfl⟩) (fun hHeld => ?_)
        rw [← hW8] at hHeld ⊢
        clear hW8
        refine pure_ (i := 0) (N := some 82) (v := ?_) (a' := ?_) #[true, false, false, false, false, false, false, false, false, false, false, false, false, false, false, false, false, false, false, false, false, false, false, false, false, false, false, false, false] rfl rfl (by kernel_rfl) (fun _ _ _ h => h) (Or.inl ⟨by rfl, ?_⟩) ?_ ?_
        rotate_left
        · intro w'
          go_simp
          with_reducible rfl
        rotate_left
        · simp only [Act.put, List.setIfInBounds_toArray, List.set_cons_zero, List.set_cons_succ, i64_w, i32_w]
          try rfl
        refine pure_ (i := 1) (N := some 83) (v := ?_) (a' := ?_) #[true, true, false, false, false, false, false, false, false, false, false, false, false, false, false, false, false, false, false, false, false, false, false, false, false, false, false, false, false] rfl rfl (by kernel_rfl) (fun _ _ _ h => h) (Or.inl ⟨by rfl, ?_⟩) ?_ ?_
        rotate_left
        · intro w'
          go_simp
          with_reducible rfl
        rotate_left
        · simp only [Act.put, List.setIfInBounds_toArray, List.set_cons_zero, List.set_cons_succ, i64_w, i32_w]
          try rfl
        refine one_ (i := 2) (N := some 84) #[true, true, true, false, false, false, false, false, false, false, false, false, false, false, false, false, false, false, false, false, false, false, false, false, false, false, false, false, false] rfl rfl (by kernel_rfl) (by decide) (fun K hK => ?_)
        refine goes_ Try.func21 (by kernel_rfl) rfl #[.pointer (some ⟨g, 0, none⟩), .pointer (some ⟨g4, 0, none⟩)] (by rfl) rfl rfl (by (try simp only [List.map_toArray, List.map_cons, List.map_nil]); first | done | rfl) ?_
        refine (same_p (HO6.out.later HB8.out).isP (HP6.out.later HB8.out).isP).mono ?_
        rintro e w9 ⟨rfl, hb9⟩
        have HB9 := Lib.hid (below_step HB8.out hb9)
        have HW9 := Lib.hid (HW8.out.below hb9)
        clear hb9
        refine ⟨_, rfl, ?_⟩
        refine hK.out _ _ ⟨(blk_cell (blk_below HX6.out HB9.out) 0).trans rfl, (blk_cell (blk_below HX6.out HB9.out) 1).trans rfl, (blk_cell (blk_below HX6.out HB9.out) 2).trans rfl, (blk_cell (blk_below HX6.out HB9.out) 3).trans rfl⟩ (fun hHeld => ?_)
        clear hK K
        refine norm_ (a' := ?_) ?_ ?_
        rotate_left
        · show Act.put _ (some 84) _ = _
          simp only [Act.put, List.setIfInBounds_toArray, List.set_cons_zero, List.set_cons_succ, i64_w, i32_w]
          try rfl
        refine pure_ (i := 3) (N := some 85) (v := ?_) (a' := ?_) #[true, true, true, true, false, false, false, false, false, false, false, false, false, false, false, false, false, false, false, false, false, false, false, false, false, false, false, false, false] rfl rfl (by kernel_rfl) (fun _ _ _ h => h) (Or.inl ⟨by rfl, ?_⟩) ?_ ?_
        rotate_left
        · intro w'
          go_simp
          with_reducible rfl
        rotate_left
        · simp only [Act.put, List.setIfInBounds_toArray, List.set_cons_zero, List.set_cons_succ, i64_w, i32_w]
          try rfl
        refine pure_ (i := 4) (N := some 86) (v := ?_) (a' := ?_) #[true, true, true, true, true, false, false, false, false, false, false, false, false, false, false, false, false, false, false, false, false, false, false, false, false, false, false, false, false] rfl rfl (by kernel_rfl) (fun _ _ _ h => h) (Or.inl ⟨by rfl, ?_⟩) ?_ ?_
        rotate_left
        · intro w'
          go_simp
          with_reducible rfl
        rotate_left
        · simp only [Act.put, List.setIfInBounds_toArray, List.set_cons_zero, List.set_cons_succ, i64_w, i32_w]
          try rfl
        refine pure_ (i := 5) (N := some 87) (v := ?_) (a' := ?_) #[true, true, true, true, true, true, false, false, false, false, false, false, false, false, false, false, false, false, false, false, false, false, false, false, false, false, false, false, false] rfl rfl (by kernel_rfl) (fun _ _ _ h => h) (Or.inl ⟨by rfl, ?_⟩) ?_ ?_
        rotate_left
        · intro w'
          go_simp
          with_reducible rfl
        rotate_left
        · simp only [Act.put, List.setIfInBounds_toArray, List.set_cons_zero, List.set_cons_succ, i64_w, i32_w]
          try rfl
        refine pure_ (i := 7) (N := some 89) (v := ?_) (a' := ?_) #[true, true, true, true, true, true, false, true, false, false, false, false, false, false, false, false, false, false, false, false, false, false, false, false, false, false, false, false, false] rfl rfl (by kernel_rfl) (fun _ _ _ h => h) (Or.inl ⟨by rfl, ?_⟩) ?_ ?_
        rotate_left
        · intro w'
          go_simp
          with_reducible rfl
        rotate_left
        · simp only [Act.put, List.setIfInBounds_toArray, List.set_cons_zero, List.set_cons_succ, i64_w, i32_w]
          try rfl
        refine one_ (i := 6) (N := some 88) #[true, true, true, true, true, true, true, true, false, false, false, false, false, false, false, false, false, false, false, false, false, false, false, false, false, false, false, false, false] rfl rfl (by kernel_rfl) (by decide) (fun K hK => ?_)
        refine goes_ Try.func11 (by kernel_rfl) rfl #[.pointer (some ⟨g, 0, none⟩), .int .u8 aid] (by rfl) rfl rfl (by (try simp only [List.map_toArray, List.map_cons, List.map_nil]); first | done | rfl) ?_
        refine (HREAD.out _ HB9.out).mono ?_
        rintro e w10 ⟨v10, rfl, ho10, hb10⟩
        obtain ⟨A10, c10, rfl, hc10, hr10⟩ := own_reads_of_le (enc := Value.int .u8) (d := (0 : Int)) (xs := rl) ho10
        have HR10 := Lib.hid (readsInt_of.2 hr10)
        have HC10 := Lib.hid hc10
        have HB10 := Lib.hid (below_step HB9.out hb10)
        have HW10 := Lib.hid (HW9.out.below hb10)
        clear ho10 hb10 hr10 hc10
        refine ⟨_, rfl, ?_⟩
        refine hK.out _ _ ⟨(blk_cell (blk_below HX6.out HB10.out) 0).trans rfl, (blk_cell (blk_below HX6.out HB10.out) 1).trans rfl, (blk_cell (blk_below HX6.out HB10.out) 2).trans rfl, (blk_cell (blk_below HX6.out HB10.out) 3).trans rfl⟩ (fun hHeld => ?_)
        clear hK K
        refine norm_ (a' := ?_) ?_ ?_
        rotate_left
        · show Act.put _ (some 88) _ = _
          simp only [Act.put, List.setIfInBounds_toArray, List.set_cons_zero, List.set_cons_succ, i64_w, i32_w]
          try rfl
        refine one_ (i := 8) (N := some 90) #[true, true, true, true, true, true, true, true, true, false, false, false, false, false, false, false, false, false, false, false, false, false, false, false, false, false, false, false, false] rfl rfl (by kernel_rfl) (by decide) (fun K hK => ?_)
        refine goes_ Try.func17 (by kernel_rfl) rfl #[.slice A10 rl.length c10, .slice A7 rl.length c7] (by rfl) rfl rfl (by (try simp only [List.map_toArray, List.map_cons, List.map_nil]); first | done | rfl) ?_
        refine (rsame_p HR10.out HC10.out HW10.out HC7.out (by have := HLEN.out.1; omega)).mono ?_
        rintro e w11 ⟨rfl, hb11⟩
        have HB11 := Lib.hid (below_step HB10.out hb11)
        clear hb11
        refine ⟨_, rfl, ?_⟩
        refine hK.out _ _ ⟨(blk_cell (blk_below HX6.out HB11.out) 0).trans rfl, (blk_cell (blk_below HX6.out HB11.out) 1).trans rfl, (blk_cell (blk_below HX6.out HB11.out) 2).trans rfl, (blk_cell (blk_below HX6.out HB11.out) 3).trans rfl⟩ (fun hHeld => ?_)
        clear hK K
        refine norm_ (a' := ?_) ?_ ?_
        rotate_left
        · show Act.put _ (some 90) _ = _
          simp only [Act.put, List.setIfInBounds_toArray, List.set_cons_zero, List.set_cons_succ, i64_w, i32_w]
          try rfl
        refine pure_ (i := 9) (N := some 91) (v := ?_) (a' := ?_) #[true, true, true, true, true, true, true, true, true, true, false, false, false, false, false, false, false, false, false, false, false, false, false, false, false, false, false, false, false] rfl rfl (by kernel_rfl) (fun _ _ _ h => h) (Or.inl ⟨by rfl, ?_⟩) ?_ ?_
        rotate_left
        · intro w'
          go_simp
          with_reducible rfl
        rotate_left
        · simp only [Act.put, List.setIfInBounds_toArray, List.set_cons_zero, List.set_cons_succ, i64_w, i32_w]
          try rfl
        refine pure_ (i := 10) (N := some 92) (v := ?_) (a' := ?_) #[true, true, true, true, true, true, true, true, true, true, true, false, false, false, false, false, false, false, false, false, false, false, false, false, false, false, false, false, false] rfl rfl (by kernel_rfl) (fun _ _ _ h => h) (Or.inl ⟨by rfl, ?_⟩) ?_ ?_
        rotate_left
        · intro w'
          go_simp
          with_reducible rfl
        rotate_left
        · simp only [Act.put, List.setIfInBounds_toArray, List.set_cons_zero, List.set_cons_succ, i64_w, i32_w]
          try rfl
        refine pure_ (i := 11) (N := some 93) (v := ?_) (a' := ?_) #[true, true, true, true, true, true, true, true, true, true, true, true, false, false, false, false, false, false, false, false, false, false, false, false, false, false, false, false, false] rfl rfl (by kernel_rfl) (fun _ _ _ h => h) (Or.inl ⟨by rfl, ?_⟩) ?_ ?_
        rotate_left
        · intro w'
          go_simp
          with_reducible rfl
        rotate_left
        · simp only [Act.put, List.setIfInBounds_toArray, List.set_cons_zero, List.set_cons_succ, i64_w, i32_w]
          try rfl
        refine pure_ (i := 12) (N := some 94) (v := ?_) (a' := ?_) #[true, true, true, true, true, true, true, true, true, true, true, true, true, false, false, false, false, false, false, false, false, false, false, false, false, false, false, false, false] rfl rfl (by kernel_rfl) (fun _ _ _ h => h) (Or.inl ⟨by rfl, ?_⟩) ?_ ?_
        rotate_left
        · intro w'
          go_simp
          with_reducible rfl
        rotate_left
        · simp only [Act.put, List.setIfInBounds_toArray, List.set_cons_zero, List.set_cons_succ, i64_w, i32_w]
          try rfl
        refine take_ (i := 14) (N := some 96) (v := ?_) (a' := ?_) #[true, true, true, true, true, true, true, true, true, true, true, true, true, false, true, false, false, false, false, false, false, false, false, false, false, false, false, false, false] rfl rfl (by kernel_rfl) (fun _ _ _ h => h) (Or.inl ⟨by rfl, ?_⟩) hHeld ?_ ?_
        rotate_left
        · rintro w' ⟨s0, s1, s2, s3⟩
          go_simp
          with_reducible rfl
        rotate_left
        · simp only [Act.put, List.setIfInBounds_toArray, List.set_cons_zero, List.set_cons_succ, i64_w, i32_w]
          try rfl
        refine pure_ (i := 15) (N := some 97) (v := ?_) (a' := ?_) #[true, true, true, true, true, true, true, true, true, true, true, true, true, false, true, true, false, false, false, false, false, false, false, false, false, false, false, false, false] rfl rfl (by kernel_rfl) (fun _ _ _ h => h) (Or.inl ⟨by rfl, ?_⟩) ?_ ?_
        rotate_left
        · intro w'
          go_simp
          with_reducible rfl
        rotate_left
        · simp only [Act.put, List.setIfInBounds_toArray, List.set_cons_zero, List.set_cons_succ, i64_w, i32_w]
          try rfl
        refine one_ (i := 13) (N := some 95) #[true, true, true, true, true, true, true, true, true, true, true, true, true, true, true, true, false, false, false, false, false, false, false, false, false, false, false, false, false] rfl rfl (by kernel_rfl) (by decide) (fun K hK => ?_)
        refine goes_ Try.func10 (by kernel_rfl) rfl #[.pointer (some ⟨g, 0, none⟩), .int .u8 aid] (by rfl) rfl rfl (by (try simp only [List.map_toArray, List.map_cons, List.map_nil]); first | done | rfl) ?_
        refine (HALL.out _ HB11.out).mono ?_
        rintro e w12 ⟨v12, rfl, ho12, hb12⟩
        obtain ⟨A12, c12, rfl, hc12, hr12⟩ := own_reads_of_le (enc := Value.int .u8) (d := (0 : Int)) (xs := al) ho12
        have HR12 := Lib.hid (readsInt_of.2 hr12)
        have HC12 := Lib.hid hc12
        have HB12 := Lib.hid (below_step HB11.out hb12)
        clear ho12 hb12 hr12 hc12
        refine ⟨_, rfl, ?_⟩
        refine hK.out _ _ ⟨(blk_cell (blk_below HX6.out HB12.out) 0).trans rfl, (blk_cell (blk_below HX6.out HB12.out) 1).trans rfl, (blk_cell (blk_below HX6.out HB12.out) 2).trans rfl, (blk_cell (blk_below HX6.out HB12.out) 3).trans rfl⟩ (fun hHeld => ?_)
        clear hK K
        refine norm_ (a' := ?_) ?_ ?_
        rotate_left
        · show Act.put _ (some 95) _ = _
          simp only [Act.put, List.setIfInBounds_toArray, List.set_cons_zero, List.set_cons_succ, i64_w, i32_w]
          try rfl
        refine one_ (i := 16) (N := some 98) #[true, true, true, true, true, true, true, true, true, true, true, true, true, true, true, true, true, false, false, false, false, false, false, false, false, false, false, false, false] rfl rfl (by kernel_rfl) (by decide) (fun K hK => ?_)
        refine goes_ Try.func22 (by kernel_rfl) rfl #[.agg #[.int .i64 r, .int .i64 c, .slice (some ⟨R2, 0, none⟩) cs.length c2, .int .i64 p], .int .u8 aid] (by rfl) rfl rfl (by (try simp only [List.map_toArray, List.map_cons, List.map_nil]); first | done | rfl) ?_
        refine (HRALL.out _ HB12.out).mono ?_
        rintro e w13 ⟨v13, rfl, ho13, hb13⟩
        obtain ⟨A13, c13, rfl, hc13, hr13⟩ := own_reads_of_le (enc := Value.int .u8) (d := (0 : Int)) (xs := al) ho13
        have HR13 := Lib.hid (readsInt_of.2 hr13)
        have HC13 := Lib.hid hc13
        have HR12' := Lib.hid (HR12.out.below hb13)
        have HB13 := Lib.hid (below_step HB12.out hb13)
        clear ho13 hb13 hr13 hc13
        refine ⟨_, rfl, ?_⟩
        refine hK.out _ _ ⟨(blk_cell (blk_below HX6.out HB13.out) 0).trans rfl, (blk_cell (blk_below HX6.out HB13.out) 1).trans rfl, (blk_cell (blk_below HX6.out HB13.out) 2).trans rfl, (blk_cell (blk_below HX6.out HB13.out) 3).trans rfl⟩ (fun hHeld => ?_)
        clear hK K
        refine norm_ (a' := ?_) ?_ ?_
        rotate_left
        · show Act.put _ (some 98) _ = _
          simp only [Act.put, List.setIfInBounds_toArray, List.set_cons_zero, List.set_cons_succ, i64_w, i32_w]
          try rfl
        refine one_ (i := 17) (N := some 99) #[true, true, true, true, true, true, true, true, true, true, true, true, true, true, true, true, true, true, false, false, false, false, false, false, false, false, false, false, false] rfl rfl (by kernel_rfl) (by decide) (fun K hK => ?_)
        refine goes_ Try.func17 (by kernel_rfl) rfl #[.slice A12 al.length c12, .slice A13 al.length c13] (by rfl) rfl rfl (by (try simp only [List.map_toArray, List.map_cons, List.map_nil]); first | done | rfl) ?_
        refine (rsame_p HR12'.out HC12.out HR13.out HC13.out (by have := HLEN.out.2.1; omega)).mono ?_
        rintro e w14 ⟨rfl, hb14⟩
        have HB14 := Lib.hid (below_step HB13.out hb14)
        clear hb14
        refine ⟨_, rfl, ?_⟩
        refine hK.out _ _ ⟨(blk_cell (blk_below HX6.out HB14.out) 0).trans rfl, (blk_cell (blk_below HX6.out HB14.out) 1).trans rfl, (blk_cell (blk_below HX6.out HB14.out) 2).trans rfl, (blk_cell (blk_below HX6.out HB14.out) 3).trans rfl⟩ (fun hHeld => ?_)
        clear hK K
        refine norm_ (a' := ?_) ?_ ?_
        rotate_left
        · show Act.put _ (some 99) _ = _
          simp only [Act.put, List.setIfInBounds_toArray, List.set_cons_zero, List.set_cons_succ, i64_w, i32_w]
          try rfl
        refine pure_ (i := 18) (N := some 100) (v := ?_) (a' := ?_) #[true, true, true, true, true, true, true, true, true, true, true, true, true, true, true, true, true, true, true, false, false, false, false, false, false, false, false, false, false] rfl rfl (by kernel_rfl) (fun _ _ _ h => h) (Or.inl ⟨by rfl, ?_⟩) ?_ ?_
        rotate_left
        · intro w'
          go_simp
          with_reducible rfl
        rotate_left
        · simp only [Act.put, List.setIfInBounds_toArray, List.set_cons_zero, List.set_cons_succ, i64_w, i32_w]
          try rfl
        refine pure_ (i := 19) (N := some 101) (v := ?_) (a' := ?_) #[true, true, true, true, true, true, true, true, true, true, true, true, true, true, true, true, true, true, true, true, false, false, false, false, false, false, false, false, false] rfl rfl (by kernel_rfl) (fun _ _ _ h => h) (Or.inl ⟨by rfl, ?_⟩) ?_ ?_
        rotate_left
        · intro w'
          go_simp
          with_reducible rfl
        rotate_left
        · simp only [Act.put, List.setIfInBounds_toArray, List.set_cons_zero, List.set_cons_succ, i64_w, i32_w]
          try rfl
        refine pure_ (i := 20) (N := some 102) (v := ?_) (a' := ?_) #[true, true, true, true, true, true, true, true, true, true, true, true, true, true, true, true, true, true, true, true, true, false, false, false, false, false, false, false, false] rfl rfl (by kernel_rfl) (fun _ _ _ h => h) (Or.inl ⟨by rfl, ?_⟩) ?_ ?_
        rotate_left
        · intro w'
          go_simp
          with_reducible rfl
        rotate_left
        · simp only [Act.put, List.setIfInBounds_toArray, List.set_cons_zero, List.set_cons_succ, i64_w, i32_w]
          try rfl
        refine pure_ (i := 21) (N := some 103) (v := ?_) (a' := ?_) #[true, true, true, true, true, true, true, true, true, true, true, true, true, true, true, true, true, true, true, true, true, true, false, false, false, false, false, false, false] rfl rfl (by kernel_rfl) (fun _ _ _ h => h) (Or.inl ⟨by rfl, ?_⟩) ?_ ?_
        rotate_left
        · intro w'
          go_simp
          with_reducible rfl
        rotate_left
        · simp only [Act.put, List.setIfInBounds_toArray, List.set_cons_zero, List.set_cons_succ, i64_w, i32_w]
          try rfl
        refine take_ (i := 23) (N := some 105) (v := ?_) (a' := ?_) #[true, true, true, true, true, true, true, true, true, true, true, true, true, true, true, true, true, true, true, true, true, true, false, true, false, false, false, false, false] rfl rfl (by kernel_rfl) (fun _ _ _ h => h) (Or.inl ⟨by rfl, ?_⟩) hHeld ?_ ?_
        rotate_left
        · rintro w' ⟨s0, s1, s2, s3⟩
          go_simp
          with_reducible rfl
        rotate_left
        · simp only [Act.put, List.setIfInBounds_toArray, List.set_cons_zero, List.set_cons_succ, i64_w, i32_w]
          try rfl
        refine pure_ (i := 24) (N := some 106) (v := ?_) (a' := ?_) #[true, true, true, true, true, true, true, true, true, true, true, true, true, true, true, true, true, true, true, true, true, true, false, true, true, false, false, false, false] rfl rfl (by kernel_rfl) (fun _ _ _ h => h) (Or.inl ⟨by rfl, ?_⟩) ?_ ?_
        rotate_left
        · intro w'
          go_simp
          with_reducible rfl
        rotate_left
        · simp only [Act.put, List.setIfInBounds_toArray, List.set_cons_zero, List.set_cons_succ, i64_w, i32_w]
          try rfl
        refine one_ (i := 22) (N := some 104) #[true, true, true, true, true, true, true, true, true, true, true, true, true, true, true, true, true, true, true, true, true, true, true, true, true, false, false, false, false] rfl rfl (by kernel_rfl) (by decide) (fun K hK => ?_)
        refine goes_ Try.func12 (by kernel_rfl) rfl #[.pointer (some ⟨g, 0, none⟩), .int .u8 aid] (by rfl) rfl rfl (by (try simp only [List.map_toArray, List.map_cons, List.map_nil]); first | done | rfl) ?_
        refine (HBUF.out _ HB14.out).mono ?_
        rintro e w15 ⟨v15, rfl, ho15, hb15⟩
        obtain ⟨A15, c15, rfl, hc15, hr15⟩ := own_reads_of_le (enc := Value.int .u8) (d := (0 : Int)) (xs := bl) ho15
        have HR15 := Lib.hid (readsInt_of.2 hr15)
        have HC15 := Lib.hid hc15
        have HB15 := Lib.hid (below_step HB14.out hb15)
        clear ho15 hb15 hr15 hc15
        refine ⟨_, rfl, ?_⟩
        refine hK.out _ _ ⟨(blk_cell (blk_below HX6.out HB15.out) 0).trans rfl, (blk_cell (blk_below HX6.out HB15.out) 1).trans rfl, (blk_cell (blk_below HX6.out HB15.out) 2).trans rfl, (blk_cell (blk_below HX6.out HB15.out) 3).trans rfl⟩ (fun hHeld => ?_)
        clear hK K
        refine norm_ (a' := ?_) ?_ ?_
        rotate_left
        · show Act.put _ (some 104) _ = _
          simp only [Act.put, List.setIfInBounds_toArray, List.set_cons_zero, List.set_cons_succ, i64_w, i32_w]
          try rfl
        refine one_ (i := 25) (N := some 107) #[true, true, true, true, true, true, true, true, true, true, true, true, true, true, true, true, true, true, true, true, true, true, true, true, true, true, false, false, false] rfl rfl (by kernel_rfl) (by decide) (fun K hK => ?_)
        refine goes_ Try.func23 (by kernel_rfl) rfl #[.agg #[.int .i64 r, .int .i64 c, .slice (some ⟨R2, 0, none⟩) cs.length c2, .int .i64 p], .int .u8 aid] (by rfl) rfl rfl (by (try simp only [List.map_toArray, List.map_cons, List.map_nil]); first | done | rfl) ?_
        refine (HRBUF.out _ HB15.out).mono ?_
        rintro e w16 ⟨v16, rfl, ho16, hb16⟩
        obtain ⟨A16, c16, rfl, hc16, hr16⟩ := own_reads_of_le (enc := Value.int .u8) (d := (0 : Int)) (xs := bl) ho16
        have HR16 := Lib.hid (readsInt_of.2 hr16)
        have HC16 := Lib.hid hc16
        have HR15' := Lib.hid (HR15.out.below hb16)
        have HB16 := Lib.hid (below_step HB15.out hb16)
        clear ho16 hb16 hr16 hc16
        refine ⟨_, rfl, ?_⟩
        refine hK.out _ _ ⟨(blk_cell (blk_below HX6.out HB16.out) 0).trans rfl, (blk_cell (blk_below HX6.out HB16.out) 1).trans rfl, (blk_cell (blk_below HX6.out HB16.out) 2).trans rfl, (blk_cell (blk_below HX6.out HB16.out) 3).trans rfl⟩ (fun hHeld => ?_)
        clear hK K
        refine norm_ (a' := ?_) ?_ ?_
        rotate_left
        · show Act.put _ (some 107) _ = _
          simp only [Act.put, List.setIfInBounds_toArray, List.set_cons_zero, List.set_cons_succ, i64_w, i32_w]
          try rfl
        refine one_ (i := 26) (N := some 108) #[true, true, true, true, true, true, true, true, true, true, true, true, true, true, true, true, true, true, true, true, true, true, true, true, true, true, true, false, false] rfl rfl (by kernel_rfl) (by decide) (fun K hK => ?_)
        refine goes_ Try.func17 (by kernel_rfl) rfl #[.slice A15 bl.length c15, .slice A16 bl.length c16] (by rfl) rfl rfl (by (try simp only [List.map_toArray, List.map_cons, List.map_nil]); first | done | rfl) ?_
        refine (rsame_p HR15'.out HC15.out HR16.out HC16.out (by have := HLEN.out.2.2; omega)).mono ?_
        rintro e w17 ⟨rfl, hb17⟩
        have HB17 := Lib.hid (below_step HB16.out hb17)
        clear hb17
        refine ⟨_, rfl, ?_⟩
        refine hK.out _ _ ⟨(blk_cell (blk_below HX6.out HB17.out) 0).trans rfl, (blk_cell (blk_below HX6.out HB17.out) 1).trans rfl, (blk_cell (blk_below HX6.out HB17.out) 2).trans rfl, (blk_cell (blk_below HX6.out HB17.out) 3).trans rfl⟩ (fun hHeld => ?_)
        clear hK K
        refine norm_ (a' := ?_) ?_ ?_
        rotate_left
        · show Act.put _ (some 108) _ = _
          simp only [Act.put, List.setIfInBounds_toArray, List.set_cons_zero, List.set_cons_succ, i64_w, i32_w]
          try rfl
        refine pure_ (i := 27) (N := some 109) (v := ?_) (a' := ?_) #[true, true, true, true, true, true, true, true, true, true, true, true, true, true, true, true, true, true, true, true, true, true, true, true, true, true, true, true, false] rfl rfl (by kernel_rfl) (fun _ _ _ h => h) (Or.inl ⟨by rfl, ?_⟩) ?_ ?_
        rotate_left
        · intro w'
          go_simp
          with_reducible rfl
        rotate_left
        · simp only [Act.put, List.setIfInBounds_toArray, List.set_cons_zero, List.set_cons_succ, i64_w, i32_w]
          try rfl
        refine pure_ (i := 28) (N := some 10) (v := ?_) (a' := ?_) #[true, true, true, true, true, true, true, true, true, true, true, true, true, true, true, true, true, true, true, true, true, true, true, true, true, true, true, true, true] rfl rfl (by kernel_rfl) (fun _ _ _ h => h) (Or.inl ⟨by rfl, ?_⟩) ?_ ?_
        rotate_left
        · intro w'
          go_simp
          with_reducible rfl
        rotate_left
        · simp only [Act.put, List.setIfInBounds_toArray, List.set_cons_zero, List.set_cons_succ, i64_w, i32_w]
          try rfl
        refine done_ (by kernel_rfl) ?_
        go_wp2
        go_ret
        exact ⟨rfl, below_step HB5.out (below_step HB6.out HB17.out)⟩
end Go.Proofs.Ytnifkdcjphekpaa.H
namespace Go.Proofs.Ytnifkdcjphekpaa.A
open Go.RowKit Go.Proofs.YtnifkdcjphekpaaW.PrintWords
set_option linter.unusedVariables false
/-- The arguments are bytes. -/
def greenscreenlaw23_ReplySends.f (_ _ : Int) (l : List S34) (_ aid _ : Int) : Option Bool := if (∀ x ∈ l, 0 ≤ x.f0 ∧ x.f0 < 256) ∧ 0 ≤ aid ∧ aid < 256 then some true else none
theorem greenscreenlaw23_ReplySends.calls (a0_0 a0_1 : Int) (A1 : Option Addr) (c1 : Nat) (l1 : List S34) (a2 a3 a4 : Int) (r : Bool) (hr_ : r = true) (w : World) (hC1 : Kd.C k34 w A1 l1.length l1) (hcl1 : l1.length ≤ c1) (h : greenscreenlaw23_ReplySends.f a0_0 a0_1 l1 a2 a3 a4 = some r) :
    Calls Try.prog 6 #[.agg #[.int .i64 a0_0, .int .i64 a0_1], .slice A1 l1.length c1, .int .i64 a2, .int .u8 a3, .int .u8 a4] w fun e w' => e = .returned (.bool r) ∧ Below w.heap.size w w' := by
  subst hr_
  unfold greenscreenlaw23_ReplySends.f at h
  split at h
  · rename_i hw
    exact H.sends_walk a0_0 a0_1 a2 a3 a4 l1 A1 c1 w hC1 hw.1 hw.2.1 hw.2.2
  · cases h
end Go.Proofs.Ytnifkdcjphekpaa.A
