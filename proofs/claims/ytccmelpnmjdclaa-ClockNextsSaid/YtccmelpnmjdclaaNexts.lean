/- ClockNexts: the walk. -/
import Derived.Test.YtccmelpnmjdclaaDue
namespace Go.Proofs.Ytccmelpnmjdclaa.H
open Go.RowKit Go.Proofs.YtccmelpnmjdclaaW.PrintWords Go.Proofs.YtccmelpnmjdclaaW.PrintLast
set_option linter.unusedVariables false
set_option linter.unusedSimpArgs false
theorem mask_all (ws : List Int) (n : Nat) (hn : n ≤ 60) : ∀ i, i < n → 0 ≤ rd ws (i : Int) % 256 ∧ rd ws (i : Int) % 256 ≤ 1023 := fun i _ => by omega
/-- What the rounds keep. -/
structure NxI (w wr : World) (g n j : Nat) (xs : List A.S62) (R : Option Nat) (now : Int) : Prop where
  c : Cb w wr g R now xs
  i : ∀ y ∈ xs, ∃ i : Nat, i < n ∧ y.f0 = i
  l : xs.length + j ≤ n
set_option maxHeartbeats 4000000 in
set_option maxRecDepth 100000 in
theorem nexts_p {A0 : Option Addr} {c0 : Nat} {ws : List Int} (w : World) (hC : Kd.C (Kd.int .i64) w A0 ws.length ws) (hl : ws.length ≤ 60) : Calls Try.prog 5 #[.slice A0 ws.length c0] w fun e w' => e = .returned (.bool true) ∧ Below w.heap.size w w' := by
  have HC := Lib.hid hC
  have hu33 := Try.underlying33
  have hu41 := Try.underlying41
  have hu55 := Try.underlying55
  clear hC
  have h60 : ¬ (60 : Int) < (ws.length : Int) := by omega
  have HL := Lib.hid hl
  obtain ⟨n, hn⟩ : ∃ n, ws.length = n := ⟨_, rfl⟩
  have HBE := Lib.hid (fun (k : Nat) (hk : k < n) => built_e (f := fun i => rd ws i % 256) (n := n) (by omega) (mask_all ws n (by omega)) k hk)
  have HBA := Lib.hid (built_all (f := fun i => rd ws i % 256) (n := n) (by omega) (mask_all ws n (by omega)))
  rw [hn] at HC HL h60 ⊢
  clear hn hl
  go_enter Try.func5, Try.ntmps5
  go_wp2_with (go_at_call 7; (with_reducible refine (alive_p _).mono ?_); rintro e w1 ⟨rfl, hb⟩; have HB1 := Lib.hid hb; clear hb)
  have HC1 := Lib.hid (cb_new w w1 HB1.out)
  obtain ⟨g, hg⟩ : ∃ g, w1.heap.size = g := ⟨_, rfl⟩
  rw [hg] at HC1
  simp only [hg]
  obtain ⟨W1, hW1⟩ : ∃ W1, W1 = w1.alloc (.cells #[.int .i64 0, .slice none 0 0] 27) := ⟨_, rfl⟩
  rw [← hW1] at HC1 ⊢
  clear hg hW1 HB1
  go_loopw [19] (fun v19 wr => ∃ k : Nat, ∃ R, k ≤ n ∧ v19 = .int .i64 k ∧ Cb w wr g R 0 (built (fun i => rd ws i % 256) k)) (fun v19 _ => n - (intOf v19).toNat)
  case atStart => exact ⟨0, none, Nat.zero_le _, rfl, HC1.out⟩
  case round =>
    obtain ⟨k, R, hk, rfl, hc⟩ := hrel
    have HCk := Lib.hid hc
    clear hc
    by_cases hlt : k < n
    · obtain ⟨ad, rfl, d0⟩ := Kd.at_int (Kd.C_below HC.out HCk.out.b) (k : Int) (by omega) (by omega)
      rw [Int.toNat_natCast] at d0
      have hs : Calls Try.prog 8 #[.pointer (some ⟨g, 0, none⟩), .int .i64 k, .int .i64 (bits .and .i64 (rd ws k) 255)] wr fun e w' => e = .returned (.int .i64 0) ∧ ∃ R', Cb w w' g R' 0 (built (fun i => rd ws i % 256) (k + 1)) ∧ Sty wr w' := by
        rw [and255]
        exact cb_set HCk.out k (rd ws k % 256) 0 _ (HBE.out k hlt) rfl (by omega)
      have HS := Lib.hid hs
      clear hs
      go_wp2_with (go_at_call 8; (with_reducible refine HS.out.mono ?_); rintro e w2 ⟨rfl, R', hc, hs⟩; have HC2 := Lib.hid hc; clear hc hs)
      go_roundw
      case rel => exact ⟨k + 1, R', by omega, by go_num, HC2.out⟩
      case measure => simp [intOf]; omega
    · obtain rfl : k = n := by omega
      obtain ⟨b1, b2, b3⟩ := HBA.out k (Nat.le_refl _)
      obtain ⟨xs, hxs⟩ : ∃ xs, built (fun i => rd ws i % 256) k = xs := ⟨_, rfl⟩
      rw [hxs] at HCk b1 b2
      have HN0 : Hid (NxI w wr g k 0 xs R 0) := Lib.hid ⟨HCk.out, fun y hy => by
        obtain ⟨j, hj, rfl⟩ := (b1 y).1 hy
        exact ⟨j, hj, rfl⟩, by omega⟩
      clear HBE HBA b1 b2 b3 hxs HCk HC1
      go_wp2_with fail
      go_loopw [31] (fun v31 wr => ∃ j : Nat, ∃ xs R now, j ≤ k ∧ v31 = .int .i64 j ∧ Hid (NxI w wr g k j xs R now)) (fun v31 _ => k - (intOf v31).toNat)
      case atStart => exact ⟨0, xs, R, 0, Nat.zero_le _, rfl, HN0⟩
      case round =>
        obtain ⟨j, xs, R, now, hj, rfl, HN⟩ := hrel
        clear HN0
        by_cases hlt2 : j < k
        · cases xs with
          | nil =>
            go_wp2_with (first
              | (go_at_call 18; (with_reducible refine (ck_next HN.out.c.k).mono ?_); rintro e w2 ⟨rfl, hb⟩; have HC2 := Lib.hid (HN.out.c.later hb); clear hb; simp only [nextV, someL])
              | (go_at_call 20; (with_reducible refine (ck_len HC2.out.k).mono ?_); rintro e w3 ⟨rfl, hb⟩; have HC3 := Lib.hid (HC2.out.later hb); clear hb))
            go_ret
            exact ⟨rfl, HC3.out.b⟩
          | cons x ys =>
            obtain ⟨x0, x1⟩ := x
            have hb := HN.out.c.k.k.b ⟨x0, x1⟩ List.mem_cons_self
            have h0 := HN.out.c.k.k.n0
            have hb1 : now ≤ x1 := hb.1
            have hb2 : x1 ≤ 1099511627776 := hb.2
            clear hb
            by_cases hgt : now < x1
            · have hm1 : wrap64 (x1 - now) = x1 - now := by unfold wrap64; omega
              have hm2 : wrap64 (x1 - now - 1) = x1 - now - 1 := by unfold wrap64; omega
              have hgo : goN now (x1 - now - 1) = x1 - 1 := by unfold goN; omega
              obtain ⟨ra, rb⟩ := rung_ahead (x := ⟨x0, x1⟩) (ys := ys) (n := x1 - 1) (by show x1 - 1 < x1; omega)
              have HG := Lib.hid (fun (W : World) (h : Cb w W g R now (⟨x0, x1⟩ :: ys)) => cb_go h (x1 - now - 1) (x1 - 1) [] _ hgo ra rb)
              have HIDX := Lib.hid (And.intro (And.intro hb1 hb2) h0)
              clear hb1 hb2 h0 hgo ra rb
              go_upto_region 17 with (first
                | (go_at_call 18; (with_reducible refine (ck_next HN.out.c.k).mono ?_); rintro e w2 ⟨rfl, hb⟩; have HC2 := Lib.hid (HN.out.c.later hb); clear hb; simp only [nextV, someL])
                | (go_at_call 19; first
                  | ((with_reducible refine (ck_now HC3.out.k).mono ?_); rintro e w4 ⟨rfl, hb⟩; have HC4 := Lib.hid (HC3.out.later hb); clear hb; simp only [hm1, hm2])
                  | ((with_reducible refine (ck_now HC2.out.k).mono ?_); rintro e w3 ⟨rfl, hb⟩; have HC3 := Lib.hid (HC2.out.later hb); clear hb))
                | (go_at_call 13; (with_reducible refine (HG.out _ HC4.out).mono ?_); rintro e w5 ⟨A5, c5, rfl, ho, hc, hs⟩; have HC5 := Lib.hid hc; clear ho hc hs))
              obtain ⟨nw, HC6⟩ : ∃ nw, Hid (Cb w w5 g R nw (⟨x0, x1⟩ :: ys)) := ⟨_, HC5⟩
              have hrg : nw ≤ x1 ∧ 0 ≤ nw ∧ x1 ≤ 1099511627776 := by have := HC6.out.k.k.n0; have := (HC6.out.k.k.b ⟨x0, x1⟩ List.mem_cons_self); exact ⟨this.1, HC6.out.k.k.n0, this.2⟩
              have hm3 : wrap64 (x1 - nw) = x1 - nw := by unfold wrap64; omega
              have hgo2 : goN nw (x1 - nw) = x1 := by unfold goN; omega
              have hdue := due_eq (n := k) HC6.out.k.k HN.out.i
              have hlen := left_at (x := ⟨x0, x1⟩) (ys := ys)
              have HNX : Hid (∀ W R', Cb w W g R' x1 (leftA (⟨x0, x1⟩ :: ys) x1) → NxI w W g k (j + 1) (leftA (⟨x0, x1⟩ :: ys) x1) R' x1) := Lib.hid (fun W R' h => ⟨h, fun y hy => HN.out.i y ((left_sub _ _).subset hy), by have := HN.out.l; simp only [List.length_cons] at this; have hl2 : (leftA (⟨x0, x1⟩ :: ys) x1).length ≤ ys.length := hlen; omega⟩)
              obtain ⟨zs, hzs⟩ : ∃ zs, leftA (⟨x0, x1⟩ :: ys) x1 = zs := ⟨_, rfl⟩
              have hdue : rung (⟨x0, x1⟩ :: ys) x1 = dueL (⟨x0, x1⟩ :: ys) nw x1 k := hdue
              obtain ⟨xs, hxs⟩ : ∃ xs, (⟨x0, x1⟩ : A.S62) :: ys = xs := ⟨_, rfl⟩
              rw [hxs] at HC6 hdue hzs HNX
              rw [hzs] at HNX
              have HGO := Lib.hid (fun (W : World) (h : Cb w W g R nw xs) => cb_go h (x1 - nw) x1 (dueL xs nw x1 k) zs hgo2 hdue hzs)
              have HDL := Lib.hid (fun i => due_len (xs := xs) (now := nw) (at_ := x1) i)
              have HCl := Lib.hid (below_alloc (Below.refl w5.heap.size w5) (.cells (nums .i64 []).toArray 3))
              have HC7 := Lib.hid (HC6.out.later HCl.out)
              have HD7 := Lib.hid (own_lit w5 w.heap.size 3 .i64 [] HC6.out.b.size (by simp))
              clear hrg hgo2 hdue hlen hzs hxs HC5 HC2 HG HIDX HC3 HC4 hm1 hm2
              go_wp2_with fail
              go_loopw [8, 54] (fun v8 v54 wr => ∃ i : Nat, i ≤ k ∧ v54 = .int .i64 i ∧ Hid (Cb w wr g R nw xs) ∧ Hid (wr.ownsRow w.heap.size 3 1 v8 (dueL xs nw x1 i).length (nums .i64 (dueL xs nw x1 i)))) (fun _ v54 _ => k - (intOf v54).toNat)
              case atStart => exact ⟨0, Nat.zero_le _, rfl, HC7, HD7⟩
              case round =>
                obtain ⟨i, hi, rfl, HCi, HDi⟩ := hrel
                clear HC7 HD7
                by_cases hlt3 : i < k
                · cases hh : hasL xs i
                  · have HRE : Hid (dueL xs nw x1 (i + 1) = dueL xs nw x1 i) := Lib.hid (by rw [dueL, if_neg (fun e => by rw [hh] at e; cases e.1), List.append_nil])
                    go_wp2_with (go_at_call 16; (with_reducible refine (ck_left HCi.out.k (i : Int)).mono ?_); rintro e w8 ⟨rfl, hb⟩; rw [hh]; have HC8 := Lib.hid (HCi.out.later hb); have HD8 := Lib.hid (pw_own_below HDi.out hb); clear hb)
                    go_roundw
                    case rel => exact ⟨i + 1, by omega, by go_num, HC8, by rw [HRE.out]; exact HD8⟩
                    case measure => simp [intOf]; omega
                  · by_cases he : leftV xs nw i = x1 - nw
                    · have HRE : Hid (dueL xs nw x1 (i + 1) = dueL xs nw x1 i ++ [(i : Int)]) := Lib.hid (by rw [dueL, if_pos ⟨hh, he⟩])
                      have hdl := HDL.out i
                      have HDL2 := Lib.hid hdl
                      obtain ⟨A8, c8, rfl⟩ := own_slice HDi.out
                      clear hdl
                      go_wp2_with (first
                        | (go_at_call 16; (with_reducible refine (ck_left HCi.out.k (i : Int)).mono ?_); rintro e w8 ⟨rfl, hb⟩; rw [hh, he]; have HC8 := Lib.hid (HCi.out.later hb); have HD8 := Lib.hid (pw_own_below HDi.out hb); clear hb)
                        | (go_at_call 19; (with_reducible refine (ck_now HC8.out.k).mono ?_); rintro e w9 ⟨rfl, hb⟩; have HC9 := Lib.hid (HC8.out.later hb); have HD9 := Lib.hid (pw_own_below HD8.out hb); clear hb; simp only [hm3])
                        | (at_builtin; refine print_append_num (w0 := w9) w.heap.size rfl (.tmp 70) (.tmp 72) 41 3 .i64 8 rfl Try.underlying41 info3 (by decide) (.slice A8 (dueL xs nw x1 i).length c8) (dueL xs nw x1 i) i rfl rfl HD9.out (Below.refl _ _) HC9.out.b.size (by have := HDL2.out; omega) ?_; intro va wa hown hba hg hat; have HCa := Lib.hid (HC9.out.row HD9.out hg); rw [← HRE.out] at hown; have HOa := Lib.hid hown; clear hown hba hg hat))
                      go_roundw
                      case rel => exact ⟨i + 1, by omega, by go_num, HCa, HOa⟩
                      case measure => simp [intOf]; omega
                    · have HRE : Hid (dueL xs nw x1 (i + 1) = dueL xs nw x1 i) := Lib.hid (by rw [dueL, if_neg (fun e => he e.2), List.append_nil])
                      obtain ⟨lv, hlv⟩ : ∃ lv, leftV xs nw i = lv := ⟨_, rfl⟩
                      rw [hlv] at he
                      have he2 : (lv == x1 - nw) = false := beq_eq_false_iff_ne.2 he
                      have HLV := Lib.hid hlv
                      clear he hlv
                      go_wp2_with (first
                        | (go_at_call 16; (with_reducible refine (ck_left HCi.out.k (i : Int)).mono ?_); rintro e w8 ⟨rfl, hb⟩; rw [hh, HLV.out]; have HC8 := Lib.hid (HCi.out.later hb); have HD8 := Lib.hid (pw_own_below HDi.out hb); clear hb)
                        | (go_at_call 19; (with_reducible refine (ck_now HC8.out.k).mono ?_); rintro e w9 ⟨rfl, hb⟩; have HC9 := Lib.hid (HC8.out.later hb); have HD9 := Lib.hid (pw_own_below HD8.out hb); clear hb; simp only [hm3]))
                      go_roundw
                      case rel => exact ⟨i + 1, by omega, by go_num, HC9, by rw [HRE.out]; exact HD9⟩
                      case measure => simp [intOf]; omega
                · obtain rfl : i = k := by omega
                  have hdl := HDL.out i
                  obtain ⟨dl, hdl2⟩ : ∃ dl, dueL xs nw x1 i = dl := ⟨_, rfl⟩
                  rw [hdl2] at HDi HGO hdl
                  have HDL2 := Lib.hid hdl
                  clear HDL hdl hdl2
                  obtain ⟨A8, c8, rfl⟩ := own_slice HDi.out
                  go_wp2_with (first
                    | (go_at_call 19; (with_reducible refine (ck_now HCi.out.k).mono ?_); rintro e w8 ⟨rfl, hb⟩; have HC8 := Lib.hid (HCi.out.later hb); have HD8 := Lib.hid (pw_own_below HDi.out hb); clear hb; simp only [hm3])
                    | (go_at_call 13; (with_reducible refine (HGO.out _ HC8.out).mono ?_); rintro e w9 ⟨A9, c9, rfl, ho, hc, hs⟩; have HC9 := Lib.hid hc; have HO9 := Lib.hid (own_row ho); have HD9 := Lib.hid (own_row (own_sty HD8.out hs (by decide) (by decide))); clear ho hc hs)
                    | (go_at_call 15; (with_reducible refine (same_p HO9.out.1 HO9.out.2 HD9.out.1 HD9.out.2 (by have := HDL2.out; have := HL.out; omega)).mono ?_); rintro e wa ⟨rfl, hb⟩; rw [decide_eq_true rfl]; have HCa := Lib.hid (HC9.out.later hb); clear hb))
                  go_roundw
                  case rel => exact ⟨j + 1, zs, R, x1, by omega, by go_num, Lib.hid (HNX.out _ _ HCa.out)⟩
                  case measure => simp [intOf]; omega
            · obtain rfl : x1 = now := by omega
              go_upto_region 17 with (first
                | (go_at_call 18; (with_reducible refine (ck_next HN.out.c.k).mono ?_); rintro e w2 ⟨rfl, hb⟩; have HC2 := Lib.hid (HN.out.c.later hb); clear hb; simp only [nextV, someL])
                | (go_at_call 19; ((with_reducible refine (ck_now HC2.out.k).mono ?_); rintro e w3 ⟨rfl, hb⟩; have HC5 := Lib.hid (HC2.out.later hb); clear hb)))
              obtain ⟨nw, HC6⟩ : ∃ nw, Hid (Cb w w3 g R nw (⟨x0, x1⟩ :: ys)) := ⟨_, HC5⟩
              have hrg : nw ≤ x1 ∧ 0 ≤ nw ∧ x1 ≤ 1099511627776 := by have := HC6.out.k.k.n0; have := (HC6.out.k.k.b ⟨x0, x1⟩ List.mem_cons_self); exact ⟨this.1, HC6.out.k.k.n0, this.2⟩
              have hm3 : wrap64 (x1 - nw) = x1 - nw := by unfold wrap64; omega
              have hgo2 : goN nw (x1 - nw) = x1 := by unfold goN; omega
              have hdue := due_eq (n := k) HC6.out.k.k HN.out.i
              have hlen := left_at (x := ⟨x0, x1⟩) (ys := ys)
              have HNX : Hid (∀ W R', Cb w W g R' x1 (leftA (⟨x0, x1⟩ :: ys) x1) → NxI w W g k (j + 1) (leftA (⟨x0, x1⟩ :: ys) x1) R' x1) := Lib.hid (fun W R' h => ⟨h, fun y hy => HN.out.i y ((left_sub _ _).subset hy), by have := HN.out.l; simp only [List.length_cons] at this; have hl2 : (leftA (⟨x0, x1⟩ :: ys) x1).length ≤ ys.length := hlen; omega⟩)
              obtain ⟨zs, hzs⟩ : ∃ zs, leftA (⟨x0, x1⟩ :: ys) x1 = zs := ⟨_, rfl⟩
              have hdue : rung (⟨x0, x1⟩ :: ys) x1 = dueL (⟨x0, x1⟩ :: ys) nw x1 k := hdue
              obtain ⟨xs, hxs⟩ : ∃ xs, (⟨x0, x1⟩ : A.S62) :: ys = xs := ⟨_, rfl⟩
              rw [hxs] at HC6 hdue hzs HNX
              rw [hzs] at HNX
              have HGO := Lib.hid (fun (W : World) (h : Cb w W g R nw xs) => cb_go h (x1 - nw) x1 (dueL xs nw x1 k) zs hgo2 hdue hzs)
              have HDL := Lib.hid (fun i => due_len (xs := xs) (now := nw) (at_ := x1) i)
              have HCl := Lib.hid (below_alloc (Below.refl w3.heap.size w3) (.cells (nums .i64 []).toArray 3))
              have HC7 := Lib.hid (HC6.out.later HCl.out)
              have HD7 := Lib.hid (own_lit w3 w.heap.size 3 .i64 [] HC6.out.b.size (by simp))
              clear hrg hgo2 hdue hlen hzs hxs HC5 HC2 hb1 hb2 h0 hgt
              go_wp2_with fail
              go_loopw [8, 54] (fun v8 v54 wr => ∃ i : Nat, i ≤ k ∧ v54 = .int .i64 i ∧ Hid (Cb w wr g R nw xs) ∧ Hid (wr.ownsRow w.heap.size 3 1 v8 (dueL xs nw x1 i).length (nums .i64 (dueL xs nw x1 i)))) (fun _ v54 _ => k - (intOf v54).toNat)
              case atStart => exact ⟨0, Nat.zero_le _, rfl, HC7, HD7⟩
              case round =>
                obtain ⟨i, hi, rfl, HCi, HDi⟩ := hrel
                clear HC7 HD7
                by_cases hlt3 : i < k
                · cases hh : hasL xs i
                  · have HRE : Hid (dueL xs nw x1 (i + 1) = dueL xs nw x1 i) := Lib.hid (by rw [dueL, if_neg (fun e => by rw [hh] at e; cases e.1), List.append_nil])
                    go_wp2_with (go_at_call 16; (with_reducible refine (ck_left HCi.out.k (i : Int)).mono ?_); rintro e w8 ⟨rfl, hb⟩; rw [hh]; have HC8 := Lib.hid (HCi.out.later hb); have HD8 := Lib.hid (pw_own_below HDi.out hb); clear hb)
                    go_roundw
                    case rel => exact ⟨i + 1, by omega, by go_num, HC8, by rw [HRE.out]; exact HD8⟩
                    case measure => simp [intOf]; omega
                  · by_cases he : leftV xs nw i = x1 - nw
                    · have HRE : Hid (dueL xs nw x1 (i + 1) = dueL xs nw x1 i ++ [(i : Int)]) := Lib.hid (by rw [dueL, if_pos ⟨hh, he⟩])
                      have hdl := HDL.out i
                      have HDL2 := Lib.hid hdl
                      obtain ⟨A8, c8, rfl⟩ := own_slice HDi.out
                      clear hdl
                      go_wp2_with (first
                        | (go_at_call 16; (with_reducible refine (ck_left HCi.out.k (i : Int)).mono ?_); rintro e w8 ⟨rfl, hb⟩; rw [hh, he]; have HC8 := Lib.hid (HCi.out.later hb); have HD8 := Lib.hid (pw_own_below HDi.out hb); clear hb)
                        | (go_at_call 19; (with_reducible refine (ck_now HC8.out.k).mono ?_); rintro e w9 ⟨rfl, hb⟩; have HC9 := Lib.hid (HC8.out.later hb); have HD9 := Lib.hid (pw_own_below HD8.out hb); clear hb; simp only [hm3])
                        | (at_builtin; refine print_append_num (w0 := w9) w.heap.size rfl (.tmp 70) (.tmp 72) 41 3 .i64 8 rfl Try.underlying41 info3 (by decide) (.slice A8 (dueL xs nw x1 i).length c8) (dueL xs nw x1 i) i rfl rfl HD9.out (Below.refl _ _) HC9.out.b.size (by have := HDL2.out; omega) ?_; intro va wa hown hba hg hat; have HCa := Lib.hid (HC9.out.row HD9.out hg); rw [← HRE.out] at hown; have HOa := Lib.hid hown; clear hown hba hg hat))
                      go_roundw
                      case rel => exact ⟨i + 1, by omega, by go_num, HCa, HOa⟩
                      case measure => simp [intOf]; omega
                    · have HRE : Hid (dueL xs nw x1 (i + 1) = dueL xs nw x1 i) := Lib.hid (by rw [dueL, if_neg (fun e => he e.2), List.append_nil])
                      obtain ⟨lv, hlv⟩ : ∃ lv, leftV xs nw i = lv := ⟨_, rfl⟩
                      rw [hlv] at he
                      have he2 : (lv == x1 - nw) = false := beq_eq_false_iff_ne.2 he
                      have HLV := Lib.hid hlv
                      clear he hlv
                      go_wp2_with (first
                        | (go_at_call 16; (with_reducible refine (ck_left HCi.out.k (i : Int)).mono ?_); rintro e w8 ⟨rfl, hb⟩; rw [hh, HLV.out]; have HC8 := Lib.hid (HCi.out.later hb); have HD8 := Lib.hid (pw_own_below HDi.out hb); clear hb)
                        | (go_at_call 19; (with_reducible refine (ck_now HC8.out.k).mono ?_); rintro e w9 ⟨rfl, hb⟩; have HC9 := Lib.hid (HC8.out.later hb); have HD9 := Lib.hid (pw_own_below HD8.out hb); clear hb; simp only [hm3]))
                      go_roundw
                      case rel => exact ⟨i + 1, by omega, by go_num, HC9, by rw [HRE.out]; exact HD9⟩
                      case measure => simp [intOf]; omega
                · obtain rfl : i = k := by omega
                  have hdl := HDL.out i
                  obtain ⟨dl, hdl2⟩ : ∃ dl, dueL xs nw x1 i = dl := ⟨_, rfl⟩
                  rw [hdl2] at HDi HGO hdl
                  have HDL2 := Lib.hid hdl
                  clear HDL hdl hdl2
                  obtain ⟨A8, c8, rfl⟩ := own_slice HDi.out
                  go_wp2_with (first
                    | (go_at_call 19; (with_reducible refine (ck_now HCi.out.k).mono ?_); rintro e w8 ⟨rfl, hb⟩; have HC8 := Lib.hid (HCi.out.later hb); have HD8 := Lib.hid (pw_own_below HDi.out hb); clear hb; simp only [hm3])
                    | (go_at_call 13; (with_reducible refine (HGO.out _ HC8.out).mono ?_); rintro e w9 ⟨A9, c9, rfl, ho, hc, hs⟩; have HC9 := Lib.hid hc; have HO9 := Lib.hid (own_row ho); have HD9 := Lib.hid (own_row (own_sty HD8.out hs (by decide) (by decide))); clear ho hc hs)
                    | (go_at_call 15; (with_reducible refine (same_p HO9.out.1 HO9.out.2 HD9.out.1 HD9.out.2 (by have := HDL2.out; have := HL.out; omega)).mono ?_); rintro e wa ⟨rfl, hb⟩; rw [decide_eq_true rfl]; have HCa := Lib.hid (HC9.out.later hb); clear hb))
                  go_roundw
                  case rel => exact ⟨j + 1, zs, R, x1, by omega, by go_num, Lib.hid (HNX.out _ _ HCa.out)⟩
                  case measure => simp [intOf]; omega
        · obtain rfl : j = k := by omega
          have hx0 : xs = [] := List.eq_nil_of_length_eq_zero (by have := HN.out.l; omega)
          subst hx0
          go_wp2_with (go_at_call 20; (with_reducible refine (ck_len HN.out.c.k).mono ?_); rintro e w3 ⟨rfl, hb⟩; have HC3 := Lib.hid (HN.out.c.later hb); clear hb)
          go_ret
          exact ⟨rfl, HC3.out.b⟩
set_option maxHeartbeats 1000000 in
theorem nexts_long (A0 : Option Addr) (c0 n0 : Nat) (w : World) (h : 60 < n0) : Calls Try.prog 5 #[.slice A0 n0 c0] w fun e w' => e = .returned (.bool true) ∧ Below w.heap.size w w' := by
  have d0 : (60 : Int) < (n0 : Int) := by omega
  clear h
  go_enter Try.func5, Try.ntmps5
  go_wp2_with (go_at_call 7; (with_reducible refine (alive_p _).mono ?_); rintro e w1 ⟨rfl, hb⟩; have HB := Lib.hid hb; clear hb)
  go_ret
  exact ⟨rfl, HB.out⟩
end Go.Proofs.Ytccmelpnmjdclaa.H
namespace Go.Proofs.Ytccmelpnmjdclaa.A
set_option linter.unusedVariables false
open Go.RowKit Go.Proofs.YtccmelpnmjdclaaW.PrintWords
open Go.Proofs.Ytccmelpnmjdclaa
def greenscreenlaw04_ClockNexts.f (_ : List Int) : Option Bool := some true
theorem greenscreenlaw04_ClockNexts.calls (A0 : Option Addr) (c0 : Nat) (l0 : List Int) (r : Bool) (hr_ : r = true) (w : World) (hC0 : Kd.C (Kd.int .i64) w A0 l0.length l0) (hcl0 : l0.length ≤ c0) (_ : greenscreenlaw04_ClockNexts.f l0 = some r) :
    Calls Try.prog 5 #[.slice A0 l0.length c0] w fun e w' => e = .returned (.bool r) ∧ Below w.heap.size w w' := by
  subst hr_
  by_cases h : l0.length ≤ 60
  · exact H.nexts_p w hC0 h
  · exact H.nexts_long A0 c0 l0.length w (by omega)
end Go.Proofs.Ytccmelpnmjdclaa.A
