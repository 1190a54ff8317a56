/- ClockParts: the walk. -/
import Derived.Test.YtccmelpnmjdclaaPair
namespace Go.Proofs.Ytccmelpnmjdclaa.H
open Go.RowKit Go.Proofs.YtccmelpnmjdclaaW.PrintWords Go.Proofs.YtccmelpnmjdclaaW.PrintLast
set_option linter.unusedVariables false
set_option linter.unusedSimpArgs false
theorem mask_allK (ws : List Int) (n : Nat) : ∀ i, i < n → 0 ≤ rd ws (i : Int) % 1024 ∧ rd ws (i : Int) % 1024 ≤ 1023 := fun i _ => by omega
/-- What is known of the alarms at the start. -/
structure Bl (ws : List Int) (n : Nat) (B : List A.S62) : Prop where
  m : ∀ x, x ∈ B ↔ ∃ j : Nat, j < n ∧ x = ⟨j, rd ws (j : Int) % 1024⟩
  l : B.length = n
/-- What a round over the steps keeps. -/
structure PtI (w wr : World) (B : List A.S62) (g g2 j : Nat) (R R2 : Option Nat) (xs : List A.S62) (acc : List Int) (N : Int) (v : Value) : Prop where
  d : Duo w wr g R N xs g2 R2 0 B
  o : wr.ownsRow w.heap.size 3 1 v acc.length (nums .i64 acc)
  p : Pt B xs acc N j
  n : 0 ≤ N ∧ N ≤ 1023 * j
theorem PtI.tail {w wr : World} {B : List A.S62} {g g2 j : Nat} {R R2 : Option Nat} {xs : List A.S62} {acc : List Int} {N : Int} {v : Value} (h : PtI w wr B g g2 j R R2 xs acc N v) {ws : List Int} {n : Nat} (hB : Bl ws n B) {s id : Int} (hid : id ∈ rung xs (N + s)) :
    0 ≤ id ∧ id < n ∧ rd ws id % 1024 ≤ N + s ∧ N ≤ rd ws id % 1024 ∧ (0 < N → rd ws id % 1024 ≠ N) := by
  obtain ⟨x, hx, h1, rfl⟩ := (mem_rung h.d.a.k.k.s).1 hid
  obtain ⟨i, hi, rfl⟩ := (hB.m x).1 (h.p.mem hx)
  have h2 := (h.d.a.k.k.b _ hx).1
  refine ⟨by simp, by simp [hi], h1, h2, fun hN => ?_⟩
  have hj : 0 < j := by
    have := h.n
    rcases Nat.eq_zero_or_pos j with rfl | hj
    · omega
    · exact hj
  have h3 := h.p.q hj _ hx
  have h3 : N < rd ws (i : Int) % 1024 := h3
  show rd ws (i : Int) % 1024 ≠ N
  omega
theorem Pt.eq {B xs : List A.S62} {acc : List Int} {N : Int} {j : Nat} (h : Pt B xs acc N j) (he : acc = rung B N) : xs = leftA B N := by
  obtain ⟨⟨pre, h1, h2, h3⟩, h4⟩ := h
  have hl : pre.length = (rungA B N).length := by
    have := congrArg List.length (h2.symm.trans he)
    simpa [rung] using this
  exact (List.append_inj (h1.symm.trans (rungA_left B N).symm) hl).2
set_option maxHeartbeats 8000000 in
set_option maxRecDepth 100000 in
theorem parts_p {A0 A1 : Option Addr} {c0 c1 : Nat} {ws ss : List Int} (w : World) (hC : Kd.C (Kd.int .i64) w A0 ws.length ws) (hC2 : Kd.C (Kd.int .i64) w A1 ss.length ss) (hl : ws.length ≤ 60) (hl2 : ss.length ≤ 60) : Calls Try.prog 4 #[.slice A0 ws.length c0, .slice A1 ss.length c1] w fun e w' => e = .returned (.bool true) ∧ Below w.heap.size w w' := by
  have HC := Lib.hid hC
  have HCS := Lib.hid hC2
  have hu33 := Try.underlying33
  have hu41 := Try.underlying41
  have hu55 := Try.underlying55
  clear hC hC2
  have h60 : ¬ (60 : Int) < (ws.length : Int) := by omega
  have h61 : ¬ (60 : Int) < (ss.length : Int) := by omega
  have HL := Lib.hid hl
  have HL2 := Lib.hid hl2
  obtain ⟨n, hn⟩ : ∃ n, ws.length = n := ⟨_, rfl⟩
  obtain ⟨m, hm⟩ : ∃ m, ss.length = m := ⟨_, rfl⟩
  have HBE := Lib.hid (fun (k : Nat) (hk : k < n) => built_e (f := fun i => rd ws i % 1024) (n := n) (by omega) (mask_allK ws n) k hk)
  have HBA := Lib.hid (built_all (f := fun i => rd ws i % 1024) (n := n) (by omega) (mask_allK ws n))
  rw [hn] at HC HL h60 ⊢
  rw [hm] at HCS HL2 h61 ⊢
  clear hn hl hm hl2
  go_enter Try.func4, Try.ntmps4
  go_wp2_with (go_at_call 7; (with_reducible refine (alive_p _).mono ?_); rintro e w1 ⟨rfl, hb⟩; have HB1 := Lib.hid hb; clear hb)
  have hD1 := duo_new w w1 HB1.out
  obtain ⟨g, hg⟩ : ∃ g, w1.heap.size = g := ⟨_, rfl⟩
  rw [hg] at hD1
  try simp only [World.size_alloc]
  simp only [hg]
  obtain ⟨g2, hg2⟩ : ∃ g2, g + 1 = g2 := ⟨_, rfl⟩
  rw [hg2] at hD1
  try simp only [hg2]
  have HD1 := Lib.hid hD1
  clear hD1
  obtain ⟨W1, hW1⟩ : ∃ W1, W1 = (w1.alloc (.cells #[.int .i64 0, .slice none 0 0] 27)).alloc (.cells #[.int .i64 0, .slice none 0 0] 27) := ⟨_, rfl⟩
  rw [← hW1] at HD1 ⊢
  clear hg hg2 hW1 HB1
  go_loopw [34] (fun v34 wr => ∃ k : Nat, ∃ R R2, k ≤ n ∧ v34 = .int .i64 k ∧ Duo w wr g R 0 (built (fun i => rd ws i % 1024) k) g2 R2 0 (built (fun i => rd ws i % 1024) k)) (fun v34 _ => n - (intOf v34).toNat)
  case atStart => exact ⟨0, none, none, Nat.zero_le _, rfl, HD1.out⟩
  case round =>
    obtain ⟨k, R, R2, hk, rfl, hc⟩ := hrel
    have HDk := Lib.hid hc
    clear hc
    by_cases hlt : k < n
    · obtain ⟨ad, rfl, d0⟩ := Kd.at_int (Kd.C_below HC.out HDk.out.a.b) (k : Int) (by omega) (by omega)
      rw [Int.toNat_natCast] at d0
      have HS : Hid (∀ (W : World) (g g2 : Nat) (R R2 : Option Nat) (ys : List A.S62), Duo w W g R 0 (built (fun i => rd ws i % 1024) k) g2 R2 0 ys → Calls Try.prog 8 #[.pointer (some ⟨g, 0, none⟩), .int .i64 k, .int .i64 (bits .and .i64 (rd ws k) 1023)] W fun e w' => e = .returned (.int .i64 0) ∧ ∃ R', Duo w w' g R' 0 (built (fun i => rd ws i % 1024) (k + 1)) g2 R2 0 ys ∧ Sty W w') := Lib.hid (fun W g g2 R R2 ys h => by
        rw [and1023]
        exact duo_set h k (rd ws k % 1024) 0 _ (HBE.out k hlt) rfl (by omega))
      go_wp2_with (go_at_call 8; first
        | ((with_reducible refine (HS.out _ _ _ _ _ _ HDk.out).mono ?_); rintro e w2 ⟨rfl, R', hc, hs⟩; have HD2 := Lib.hid hc.symm; clear hc hs)
        | ((with_reducible refine (HS.out _ _ _ _ _ _ HD2.out).mono ?_); rintro e w3 ⟨rfl, R3, hc, hs⟩; have HD3 := Lib.hid hc.symm; clear hc hs))
      go_roundw
      case rel => exact ⟨k + 1, _, _, by omega, by go_num, HD3.out⟩
      case measure => simp [intOf]; omega
    · obtain rfl : k = n := by omega
      obtain ⟨b1, b2, b3⟩ := HBA.out k (Nat.le_refl _)
      obtain ⟨B, hB⟩ : ∃ B, built (fun i => rd ws i % 1024) k = B := ⟨_, rfl⟩
      rw [hB] at HDk b1 b2
      have HBL : Hid (Bl ws k B) := Lib.hid ⟨b1, b2⟩
      have HD0 := Lib.hid (HDk.out.later (below_alloc (Below.refl _ _) (.cells (nums .i64 []).toArray 3)))
      have HO0 := Lib.hid (own_lit wr w.heap.size 3 .i64 [] HDk.out.a.b.size (by simp))
      have HP0 : Hid (PtI w _ B g g2 0 R R2 B [] 0 _) := Lib.hid ⟨HD0.out, HO0.out, Pt.start B, by decide⟩
      clear HBE HBA b1 b2 b3 hB HDk HD1 HD0 HO0
      go_wp2_with fail
      go_loopw [9, 10, 55] (fun v9 v10 v55 wr => ∃ j : Nat, ∃ xs acc N R R2, j ≤ m ∧ v55 = .int .i64 j ∧ v10 = .int .i64 N ∧ Hid (PtI w wr B g g2 j R R2 xs acc N v9)) (fun _ _ v55 _ => m - (intOf v55).toNat)
      case atStart => exact ⟨0, B, [], 0, R, R2, Nat.zero_le _, rfl, rfl, HP0⟩
      case round =>
        obtain ⟨j, xs, acc, N, R, R2, hj, rfl, rfl, HP⟩ := hrel
        clear HP0
        by_cases hlt2 : j < m
        · obtain ⟨ad, rfl, d0⟩ := Kd.at_int (Kd.C_below HCS.out HP.out.d.a.b) (j : Int) (by omega) (by omega)
          rw [Int.toNat_natCast] at d0
          obtain ⟨s, hs⟩ : ∃ s, rd ss (j : Int) % 1024 = s := ⟨_, rfl⟩
          have hbm : bits .and .i64 (rd ss (j : Int)) 1023 = s := by rw [and1023, hs]
          have hs2 : 0 ≤ s ∧ s ≤ 1023 := by omega
          have hN := HP.out.n
          have HJ60 := HL2.out
          have hgo : goN N s = N + s := by unfold goN; omega
          have hw1 : wrap64 (N + s) = N + s := by unfold wrap64; omega
          have HGO := Lib.hid (fun (W : World) (h : Duo w W g R N xs g2 R2 0 B) => duo_go h s (N + s) _ _ hgo rfl rfl)
          have HS2 := Lib.hid hs2
          have HN := Lib.hid hN
          clear hs hs2 hN HJ60 hgo
          go_wp2_with (first
            | (go_at_call 19; (with_reducible refine (ck_now HP.out.d.a.k).mono ?_); rintro e w2 ⟨rfl, hb⟩; have HD2 := Lib.hid (HP.out.d.later hb); have HO2 := Lib.hid (pw_own_below HP.out.o hb); clear hb)
            | (go_at_call 13; (with_reducible refine (HGO.out _ HD2.out).mono ?_); rintro e w3 ⟨A3, c3, rfl, ho, hc, hs⟩; have HD3 := Lib.hid hc; have HG3 := Lib.hid ho; have HO3 := Lib.hid (own_sty HO2.out hs (by decide) (by decide)); clear ho hc hs))
          simp only [hw1]
          have HT := Lib.hid (fun (id : Int) (h : id ∈ rung xs (N + s)) => HP.out.tail HBL.out h)
          have HST := Lib.hid (fun (W : World) (v : Value) (h1 : Duo w W g R (N + s) (leftA xs (N + s)) g2 R2 0 B) (h2 : W.ownsRow w.heap.size 3 1 v (acc ++ rung xs (N + s)).length (nums .i64 (acc ++ rung xs (N + s)))) => (⟨h1, h2, HP.out.p.step HP.out.d.a.k.k.s HS2.out.1, by have := HN.out; have := HS2.out; omega⟩ : PtI w W B g g2 (j + 1) R R2 (leftA xs (N + s)) (acc ++ rung xs (N + s)) (N + s) v))
          have HLEN := Lib.hid (HP.out.p.len.trans HBL.out.l)
          have hgl : (rung xs (N + s)).length ≤ 64 := by
            have := HP.out.d.a.k.k.l
            rw [rung, List.length_map]
            exact Nat.le_trans (List.takeWhile_sublist _).length_le this
          obtain ⟨got, hgot⟩ : ∃ got, rung xs (N + s) = got := ⟨_, rfl⟩
          rw [hgot] at HT HST HG3 hgl ⊢
          clear hgot hw1 hbm d0 HD2 HO2 HGO
          have HGL := Lib.hid hgl
          obtain ⟨hgr, hgc⟩ := own_row HG3.out
          have HGR := Lib.hid hgr
          have HGC := Lib.hid hgc
          obtain ⟨ln, hln⟩ : ∃ ln, got.length = ln := ⟨_, rfl⟩
          rw [hln] at HGR HGC HGL HG3 hgl ⊢
          have HLN := Lib.hid hln
          clear hgr hgc hln
          go_loopw [69] (fun v69 wr => ∃ i : Nat, i ≤ ln ∧ v69 = .int .i64 i ∧ Below w3.heap.size w3 wr) (fun v69 _ => ln - (intOf v69).toNat)
          case atStart => exact ⟨0, Nat.zero_le _, rfl, Below.refl _ _⟩
          case round =>
            obtain ⟨i, hi, rfl, hb⟩ := hrel
            have HB4 := Lib.hid hb
            by_cases hlt3 : i < ln
            · obtain ⟨ad3, rfl, d0⟩ := Kd.at_int (Kd.C_below HGR.out hb) (i : Int) (by omega) (by omega)
              rw [Int.toNat_natCast] at d0
              have hmem : rd got (i : Int) ∈ got := by
                have h := HLN.out
                have e : rd got (i : Int) = got[i]'(by omega) := by simp [rd, List.getD, List.getElem?_eq_getElem (show i < got.length by omega)]
                rw [e]
                exact List.getElem_mem _
              obtain ⟨id, hid⟩ : ∃ id, rd got (i : Int) = id := ⟨_, rfl⟩
              rw [hid] at d0 hmem
              obtain ⟨t1, t2, t3, t4, t5⟩ := HT.out id hmem
              obtain ⟨ad0, hA0, e0⟩ := Kd.at_int (Kd.C_below (Kd.C_below HC.out HD3.out.a.b) hb) id t1 t2
              have ht : id.toNat < k := by omega
              have hbm : bits .and .i64 (rd ws id) 1023 = rd ws id % 1024 := and1023 _
              obtain ⟨x, hx⟩ : ∃ x, rd ws id % 1024 = x := ⟨_, rfl⟩
              rw [hx] at t3 t4 t5 hbm
              obtain ⟨y, hy⟩ : ∃ y, rd ws id = y := ⟨_, rfl⟩
              rw [hy] at e0 hbm
              subst hA0
              clear hid hmem hx hy hb
              by_cases hN0 : 0 < N
              · have t6 : (x == N) = false := beq_eq_false_iff_ne.2 (t5 hN0)
                clear t5
                go_wp2_with (go_at_call 19; (with_reducible refine (ck_now (HD3.out.later HB4.out).a.k).mono ?_); rintro e w5 ⟨rfl, hb⟩; have HB5 := Lib.hid (below_step HB4.out hb); clear hb)
                go_roundw
                case rel => exact ⟨i + 1, by omega, by go_num, HB5.out⟩
                case measure => simp [intOf]; omega
              · clear t5
                go_wp2_with (go_at_call 19; (with_reducible refine (ck_now (HD3.out.later HB4.out).a.k).mono ?_); rintro e w5 ⟨rfl, hb⟩; have HB5 := Lib.hid (below_step HB4.out hb); clear hb)
                all_goals
                  go_roundw
                  case rel => exact ⟨i + 1, by omega, by go_num, HB5.out⟩
                  case measure => simp [intOf]; omega
            · obtain rfl : i = ln := by omega
              have HO5 := Lib.hid (pw_own_below HO3.out hb)
              have HR5 := Lib.hid (readsInt_of.2 (Kd.reads_of_C (Kd.C_below HGR.out hb)))
              have HD5 := Lib.hid (HD3.out.later hb)
              clear hb
              go_wp2_with (at_builtin; refine print_append_row (w0 := wr) w.heap.size rfl (.tmp 104) (.tmp 105) 41 3 .i64 8 rfl Try.underlying41 info3 (by decide) _ acc got _ _ _ rfl rfl HO5.out HR5.out (Below.refl _ _) HD5.out.a.b.size (by have := HLEN.out; have := HL.out; have := HGL.out; omega) ?_; intro v6 w6 hown hb6 hg6 hat6; have HD6 := Lib.hid (HD5.out.row HO5.out hg6); have HP6 := Lib.hid (HST.out _ _ HD6.out hown); clear hown hb6 hg6 hat6)
              go_roundw
              case rel => exact ⟨j + 1, _, _, _, _, _, by omega, by go_num, rfl, HP6⟩
              case measure => simp [intOf]; omega
        · obtain rfl : j = m := by omega
          have hN := HP.out.n
          have hlen := HP.out.p.len.trans HBL.out.l
          have hgo : goN 0 N = N := by have := HL2.out; unfold goN; omega
          obtain ⟨A9, c9, rfl⟩ := own_slice HP.out.o
          have hacl : acc.length ≤ 1000 := by have := HL.out; omega
          have HACL := Lib.hid hacl
          have HD := Lib.hid HP.out.d.symm
          have HO := Lib.hid HP.out.o
          by_cases hE : acc = rung B N
          · have hxs := HP.out.p.eq hE
            have HGO := Lib.hid (fun (W : World) (h : Duo w W g2 R2 0 B g R N xs) => duo_go h N N acc xs hgo hE.symm hxs.symm)
            have hw : wrap64 ((xs.length : Int) + (acc.length : Int)) = (k : Int) := by have := HL.out; unfold wrap64; omega
            have HLV : Hid (∀ i : Nat, i < k → hasL xs i = true → leftV xs N i = rd ws (i : Int) % 1024 - N) := Lib.hid (fun i hi h => by
              obtain ⟨x, hx, e⟩ := has_iff.1 h
              obtain ⟨q, hq, rfl⟩ := (HBL.out.m x).1 (HP.out.p.mem hx)
              have e : (q : Int) = i := e
              obtain rfl : q = i := by omega
              exact left_of HP.out.d.a.k.k.d _ hx)
            have HN := Lib.hid hN
            clear hE hxs hN hgo hlen hacl
            go_wp2_with (first
              | (go_at_call 13; (with_reducible refine (HGO.out _ HD.out).mono ?_); rintro e w3 ⟨A3, c3, rfl, ho, hc, hs⟩; have HD3 := Lib.hid hc; have HG3 := Lib.hid (own_row ho); have HO3 := Lib.hid (own_row (own_sty HO.out hs (by decide) (by decide))); clear ho hc hs)
              | (go_at_call 15; (with_reducible refine (same_p HO3.out.1 HO3.out.2 HG3.out.1 HG3.out.2 HACL.out).mono ?_); rintro e w4 ⟨rfl, hb⟩; rw [decide_eq_true rfl]; have HD4 := Lib.hid (HD3.out.later hb); clear hb)
              | (go_at_call 20; first
                | ((with_reducible refine (ck_len HD6.out.b.k).mono ?_); rintro e w7 ⟨rfl, hb⟩; have HD7 := Lib.hid (HD6.out.later hb); clear hb; simp only [hw])
                | ((with_reducible refine (ck_len HD5.out.a.k).mono ?_); rintro e w6 ⟨rfl, hb⟩; have HD6 := Lib.hid (HD5.out.later hb); clear hb)
                | ((with_reducible refine (ck_len HD4.out.b.k).mono ?_); rintro e w5 ⟨rfl, hb⟩; have HD5 := Lib.hid (HD4.out.later hb); clear hb)))
            clear HD3 HG3 HO3 HD4 HD5 HD6 HGO hw HO HP
            have HD8 := HD7
            clear HD7
            go_loopw [132] (fun v132 wr => ∃ i : Nat, i ≤ k ∧ v132 = .int .i64 i ∧ Hid (Duo w wr g2 R2 N xs g R N xs)) (fun v132 _ => k - (intOf v132).toNat)
            case atStart => exact ⟨0, Nat.zero_le _, rfl, HD8⟩
            case round =>
              obtain ⟨i, hi, rfl, HDi⟩ := hrel
              clear HD8
              by_cases hlt4 : i < k
              · obtain ⟨ad0, rfl, e0⟩ := Kd.at_int (Kd.C_below HC.out HDi.out.a.b) (i : Int) (by omega) (by omega)
                rw [Int.toNat_natCast] at e0
                have hbm : bits .and .i64 (rd ws (i : Int)) 1023 = rd ws (i : Int) % 1024 := and1023 _
                have hlv := HLV.out i hlt4
                obtain ⟨y, hy⟩ : ∃ y, rd ws (i : Int) = y := ⟨_, rfl⟩
                rw [hy] at e0 hbm hlv
                obtain ⟨x, hx⟩ : ∃ x, y % 1024 = x := ⟨_, rfl⟩
                have hwx : wrap64 (x - N) = x - N := by have := HN.out; have := HL2.out; unfold wrap64; omega
                rw [hx] at hbm hlv
                clear hy hx
                cases hh : hasL xs i
                · go_wp2_with (go_at_call 16; (with_reducible refine (ck_left HDi.out.b.k (i : Int)).mono ?_); rintro e w8 ⟨rfl, hb⟩; rw [hh]; have HD9 := Lib.hid (HDi.out.later hb); clear hb)
                  go_roundw
                  case rel => exact ⟨i + 1, by omega, by go_num, HD9⟩
                  case measure => simp [intOf]; omega
                · have HLX := Lib.hid (hlv hh)
                  clear hlv
                  go_wp2_with (go_at_call 16; (with_reducible refine (ck_left HDi.out.b.k (i : Int)).mono ?_); rintro e w8 ⟨rfl, hb⟩; rw [hh, HLX.out]; have HD9 := Lib.hid (HDi.out.later hb); clear hb)
                  go_roundw
                  case rel => exact ⟨i + 1, by omega, by go_num, HD9⟩
                  case measure => simp [intOf]; omega
              · obtain rfl : i = k := by omega
                go_wp2_with (go_at_call 19; first
                  | ((with_reducible refine (ck_now HD9.out.a.k).mono ?_); rintro e wa ⟨rfl, hb⟩; have HDa := Lib.hid (HD9.out.later hb); clear hb)
                  | ((with_reducible refine (ck_now HDi.out.b.k).mono ?_); rintro e w9 ⟨rfl, hb⟩; have HD9 := Lib.hid (HDi.out.later hb); clear hb))
                go_ret
                exact ⟨rfl, HDa.out.a.b⟩
          · have hm0 : j = 0 := by
              rcases Nat.eq_zero_or_pos j with h | h
              · exact h
              · exact absurd (HP.out.p.fin h).1 hE
            subst hm0
            have HGO := Lib.hid (fun (W : World) (h : Duo w W g2 R2 0 B g R N xs) => duo_go h N N (rung B N) _ hgo rfl rfl)
            have HE := Lib.hid hE
            clear hE hN hgo hlen hacl
            go_wp2_with (first
              | (go_at_call 13; (with_reducible refine (HGO.out _ HD.out).mono ?_); rintro e w3 ⟨A3, c3, rfl, ho, hc, hs⟩; have HD3 := Lib.hid hc; have HG3 := Lib.hid (own_row ho); have HO3 := Lib.hid (own_row (own_sty HO.out hs (by decide) (by decide))); clear ho hc hs)
              | (go_at_call 15; (with_reducible refine (same_p HO3.out.1 HO3.out.2 HG3.out.1 HG3.out.2 HACL.out).mono ?_); rintro e w4 ⟨rfl, hb⟩; rw [decide_eq_false HE.out]; have HD4 := Lib.hid (HD3.out.later hb); clear hb))
            go_ret
            exact ⟨rfl, HD4.out.a.b⟩
set_option maxHeartbeats 1000000 in
set_option maxRecDepth 100000 in
theorem parts_long (A0 A1 : Option Addr) (c0 c1 n0 n1 : Nat) (w : World) (h : 60 < n0 ∨ 60 < n1) : Calls Try.prog 4 #[.slice A0 n0 c0, .slice A1 n1 c1] w fun e w' => e = .returned (.bool true) ∧ Below w.heap.size w w' := by
  by_cases h0 : 60 < n0
  · have d0 : (60 : Int) < (n0 : Int) := by omega
    clear h h0
    go_enter Try.func4, Try.ntmps4
    go_wp2_with (go_at_call 7; (with_reducible refine (alive_p _).mono ?_); rintro e w1 ⟨rfl, hb⟩; have HB := Lib.hid hb; clear hb)
    go_ret
    exact ⟨rfl, HB.out⟩
  · have d0 : ¬ (60 : Int) < (n0 : Int) := by omega
    have d1 : (60 : Int) < (n1 : Int) := by omega
    clear h h0
    go_enter Try.func4, Try.ntmps4
    go_wp2_with (go_at_call 7; (with_reducible refine (alive_p _).mono ?_); rintro e w1 ⟨rfl, hb⟩; have HB := Lib.hid hb; clear hb)
    go_ret
    exact ⟨rfl, HB.out⟩
end Go.Proofs.Ytccmelpnmjdclaa.H
namespace Go.Proofs.Ytccmelpnmjdclaa.A
set_option linter.unusedVariables false
open Go.RowKit Go.Proofs.YtccmelpnmjdclaaW.PrintWords
open Go.Proofs.Ytccmelpnmjdclaa
def greenscreenlaw04_ClockParts.f (_ _ : List Int) : Option Bool := some true
theorem greenscreenlaw04_ClockParts.calls (A0 : Option Addr) (c0 : Nat) (l0 : List Int) (A1 : Option Addr) (c1 : Nat) (l1 : List Int) (r : Bool) (hr_ : r = true) (w : World) (hC0 : Kd.C (Kd.int .i64) w A0 l0.length l0) (hcl0 : l0.length ≤ c0) (hC1 : Kd.C (Kd.int .i64) w A1 l1.length l1) (hcl1 : l1.length ≤ c1) (_ : greenscreenlaw04_ClockParts.f l0 l1 = some r) :
    Calls Try.prog 4 #[.slice A0 l0.length c0, .slice A1 l1.length c1] w fun e w' => e = .returned (.bool r) ∧ Below w.heap.size w w' := by
  subst hr_
  by_cases h : l0.length ≤ 60 ∧ l1.length ≤ 60
  · exact H.parts_p w hC0 hC1 h.1 h.2
  · exact H.parts_long A0 A1 c0 c1 l0.length l1.length w (by omega)
end Go.Proofs.Ytccmelpnmjdclaa.A
