/- ClockSets: the walk. -/
import Derived.Test.YtccmelpnmjdclaaMapw
namespace Go.Proofs.Ytccmelpnmjdclaa.H
open Go.RowKit Go.Maps Go.Proofs.YtccmelpnmjdclaaW.PrintWords Go.Proofs.YtccmelpnmjdclaaW.PrintLast
set_option linter.unusedVariables false
set_option linter.unusedSimpArgs false
/-- A clock, and the map that mirrors it. -/
structure Sm (w wr : World) (g b : Nat) (R : Option Nat) (now : Int) (xs ys : List A.S62) (D : DataW Nat) (n : Nat) : Prop where
  c : Cb w wr g R now xs
  m : wr.ownsMap Try.prog 3 (plainElem Try.prog 2) b n D
  f : MapOf D ys
  b : w.heap.size ≤ b
theorem Sm.later {w wr W1 : World} {g b : Nat} {R : Option Nat} {now : Int} {xs ys : List A.S62} {D : DataW Nat} {n : Nat} (h : Sm w wr g b R now xs ys D n) (hb : Below wr.heap.size wr W1) : Sm w W1 g b R now xs ys D n := ⟨h.c.later hb, map_mst h.m (Mst.of_below hb), h.f, h.b⟩
theorem Sm.tidy {w wr : World} {g b : Nat} {R : Option Nat} {now : Int} {xs ys : List A.S62} {D : DataW Nat} {n : Nat} (h : Sm w wr g b R now xs ys D n) : Tidy D := h.m.tidy law3
/-- What the first two loops keep. -/
structure Sk (w wr : World) (g b : Nat) (R : Option Nat) (xs : List A.S62) (D : DataW Nat) (n : Nat) : Prop where
  s : Sm w wr g b R 0 xs xs D n
  l : xs.length ≤ n
  v : ∀ x ∈ xs, x.f1 ≤ 255
  i : ∀ x ∈ xs, 0 ≤ x.f0 ∧ x.f0 ≤ 100
theorem go_t {now : Int} {t : Nat} (hn : now + 1 = t ∨ (t = 0 ∧ now = 0)) (ht : t < 256) (h0 : 0 ≤ now) : goN now (if (1 : Int) < t then 1 else (t : Int)) = t := by
  unfold goN
  by_cases h : (1 : Int) < t
  · rw [if_pos h]; omega
  · rw [if_neg h]; omega
/-- What the ticks keep. -/
def St (w wr : World) (g b : Nat) (R : Option Nat) (xs ys : List A.S62) (D : DataW Nat) (n t : Nat) : Prop := ∃ now, Sm w wr g b R now xs ys D n ∧ (now + 1 = t ∨ (t = 0 ∧ now = 0)) ∧ ∀ x ∈ xs, ((t : Int) ≤ x.f1 ∧ x.f1 ≤ 255) ∧ (0 ≤ x.f0 ∧ x.f0 ≤ 100)
theorem at0 {v : Int} (h : v ≤ 255) : atV 0 v = v := by unfold atV; rw [if_neg (by omega)]; omega
theorem set0 {xs : List A.S62} {i v : Int} (h0 : 0 ≤ v) (h1 : v ≤ 255) (hl : xs.length ≤ 60) : setE xs i v = 0 ∧ setL xs 0 i v = insL (dropL xs i) ⟨i, v⟩ := by
  have he : setE xs i v = 0 := by
    unfold setE
    rw [if_neg (by omega), if_neg (by omega)]
  exact ⟨he, by unfold setL; rw [he, if_pos rfl, at0 h1]⟩
theorem Sk.step {w wr w2 w3 : World} {g b : Nat} {R R' : Option Nat} {xs : List A.S62} {D : DataW Nat} {n : Nat} {i v : Int} (h : Sk w wr g b R xs D n) (hc : Cb w w2 g R' 0 (insL (dropL xs i) ⟨i, v⟩)) (hm : w2.ownsMap Try.prog 3 (plainElem Try.prog 2) b n D) (hv : v ≤ 255) (hi : 0 ≤ i ∧ i ≤ 100) (ho : w3.ownsMap Try.prog 3 (plainElem Try.prog 2) b (n + 1) (D.put (.int .i64 i) (.lit (.int .i64 v)))) (hg : w2.grownBy w3 (some b)) : Sk w w3 g b R' (insL (dropL xs i) ⟨i, v⟩) (D.put (.int .i64 i) (.lit (.int .i64 v))) (n + 1) :=
  ⟨⟨hc.map hm h.s.b hg, ho, h.s.f.put h.s.tidy h.s.c.k.k.d i v, h.s.b⟩, by rw [insL_length]; have := dropL_length xs i; have := h.l; omega, fun x hx => by
    rcases mem_ins hx with rfl | hx
    · exact hv
    · exact h.v x (mem_drop hx), fun x hx => by
    rcases mem_ins hx with rfl | hx
    · exact hi
    · exact h.i x (mem_drop hx)⟩
theorem i64_wf {v : Int} (h0 : -9223372036854775808 ≤ v) (h1 : v ≤ 9223372036854775807) : (Lit.int .i64 v).wf = true := by
  have e : wrap64 v = v := by unfold wrap64; omega
  rw [← e]
  exact Go.RowKit.wrap64_wf _
theorem wf_i64 {v : Int} (h : (Lit.int .i64 v).wf = true) : -9223372036854775808 ≤ v ∧ v ≤ 9223372036854775807 := by
  simp only [Lit.wf, Bool.and_eq_true, decide_eq_true_eq] at h
  exact h
theorem rungA_l (xs : List A.S62) (n : Int) : rungA xs n ++ leftA xs n = xs := List.takeWhile_append_dropWhile
theorem got_at {xs : List A.S62} {t : Int} {i : Nat} (h : i < (rung xs t).length) : ∃ x, xs.drop i = x :: xs.drop (i + 1) ∧ rd (rung xs t) (i : Int) = x.f0 ∧ x ∈ xs ∧ x.f1 ≤ t := by
  have hl : i < (rungA xs t).length := by simpa [rung] using h
  have hx : i < xs.length := Nat.lt_of_lt_of_le hl (List.takeWhile_sublist _).length_le
  have hg : (rungA xs t)[i] = xs[i] := by
    have := rungA_l xs t
    have e : (rungA xs t ++ leftA xs t)[i]? = xs[i]? := by rw [this]
    rw [List.getElem?_append_left hl, List.getElem?_eq_getElem hl, List.getElem?_eq_getElem hx] at e
    exact Option.some.inj e
  refine ⟨xs[i], List.drop_eq_getElem_cons hx, ?_, List.getElem_mem hx, ?_⟩
  · rw [rung]
    simp [rd, List.getD, List.getElem?_eq_getElem hl, hg]
  · have hm : (rungA xs t)[i] ∈ rungA xs t := List.getElem_mem hl
    rw [hg] at hm
    have : ∀ (l : List A.S62) (y : A.S62), y ∈ rungA l t → y.f1 ≤ t := by
      intro l
      induction l with
      | nil => intro y hy; simp [rungA] at hy
      | cons z l ih =>
        intro y hy
        unfold rungA at hy
        rw [List.takeWhile_cons] at hy
        by_cases hz : z.f1 ≤ t
        · rw [if_pos (by simpa using hz)] at hy
          rcases List.mem_cons.1 hy with rfl | hy
          · exact hz
          · exact ih y hy
        · rw [if_neg (by simpa using hz)] at hy
          simp at hy
    exact this xs _ hm
theorem left_drop (xs : List A.S62) (t : Int) : xs.drop (rung xs t).length = leftA xs t := by
  have h := rungA_l xs t
  have e : (rung xs t).length = (rungA xs t).length := by simp [rung]
  rw [e]
  exact (List.append_inj (List.take_append_drop (rungA xs t).length xs |>.trans h.symm) (by
    rw [List.length_take]
    have := (List.takeWhile_sublist (l := xs) (fun x => decide (x.f1 ≤ t))).length_le
    have e2 : (rungA xs t).length = (List.takeWhile (fun x => decide (x.f1 ≤ t)) xs).length := rfl
    omega)).2
set_option maxHeartbeats 8000000 in
set_option maxRecDepth 100000 in
theorem sets_p {A0 A1 : Option Addr} {c0 c1 : Nat} {ws ms : List Int} (d : Int) (w : World) (hC : Kd.C (Kd.int .i64) w A0 ws.length ws) (hC2 : Kd.C (Kd.int .i64) w A1 ms.length ms) (hl : ws.length ≤ 30) (hl2 : ms.length ≤ ws.length) (hd : (Lit.int .i64 d).wf = true) : Calls Try.prog 6 #[.slice A0 ws.length c0, .slice A1 ms.length c1, .int .i64 d] w fun e w' => e = .returned (.bool true) ∧ Below w.heap.size w w' := by
  have HC := Lib.hid hC
  have HCM := Lib.hid hC2
  have HKD := Lib.hid (keyOf_int_mk Try.underlying3 hd)
  have hmm := @run_makeMap Try.prog
  have hu33 := Try.underlying33
  have hu41 := Try.underlying41
  have hu55 := Try.underlying55
  have hu58 := Try.underlying58
  clear hC hC2 hd
  have h60 : ¬ (30 : Int) < (ws.length : Int) := by omega
  have h61 : ¬ (ws.length : Int) < (ms.length : Int) := by omega
  obtain ⟨n, hn⟩ : ∃ n, ws.length = n := ⟨_, rfl⟩
  obtain ⟨m, hm⟩ : ∃ m, ms.length = m := ⟨_, rfl⟩
  have HL := Lib.hid hl
  have HL2 := Lib.hid hl2
  rw [hn] at HC HL HL2 h60 h61 ⊢
  rw [hm] at HCM HL2 h61 ⊢
  clear hn hl hm hl2
  go_enter Try.func6, Try.ntmps6
  go_wp2_with (go_at_call 7; (with_reducible refine (alive_p _).mono ?_); rintro e w1 ⟨rfl, hb⟩; have HB1 := Lib.hid hb; clear hb)
  have hC1 := cb_new w w1 HB1.out
  have hM1 := World.ownsMap_made (H := Nat) (w1.alloc (.cells #[.int .i64 0, .slice none 0 0] 27)) Try.prog 3 (plainElem Try.prog 2)
  have hC2 := hC1.later (below_alloc (Below.refl _ _) (.map #[] 0))
  have hbb : w.heap.size ≤ (w1.alloc (.cells #[.int .i64 0, .slice none 0 0] 27)).heap.size := hC1.b.size
  obtain ⟨g, hg⟩ : ∃ g, w1.heap.size = g := ⟨_, rfl⟩
  obtain ⟨b, hb⟩ : ∃ b, (w1.alloc (.cells #[.int .i64 0, .slice none 0 0] 27)).heap.size = b := ⟨_, rfl⟩
  rw [hb] at hM1 hbb
  rw [hg] at hC2
  have HS0 : Hid (Sk w ((w1.alloc (.cells #[.int .i64 0, .slice none 0 0] 27)).alloc (.map #[] 0)) g b none [] (.map []) (0 + 0)) := Lib.hid ⟨⟨hC2, hM1, mapOf_nil, hbb⟩, Nat.le_refl _, fun x h => by simp at h, fun x h => by simp at h⟩
  have hb2 : w1.heap.size + 1 = b := by rw [← hb, World.size_alloc]
  simp only [hb2]
  simp only [hg]
  have e30 : decide ((30 : Int) < (n : Int)) = false := decide_eq_false (by omega)
  have enm : decide (n < m) = false := decide_eq_false (by omega)
  try simp only [e30, enm, Bool.or_false]
  clear hC1 hC2 hM1 hbb hb hb2 hg HB1 h60 h61 e30 enm
  generalize (w1.alloc (.cells #[.int .i64 0, .slice none 0 0] 27)).alloc (.map #[] 0) = W1 at HS0 ⊢
  go_loopw [33] (fun v wr => ∃ k : Nat, ∃ R xs D, k ≤ n ∧ v = .int .i64 k ∧ Hid (Sk w wr g b R xs D (0 + k))) (fun v _ => n - (intOf v).toNat)
  case atStart => exact ⟨0, none, [], .map [], Nat.zero_le _, rfl, HS0⟩
  case round =>
    obtain ⟨k, R, xs, D, hk, rfl, HS⟩ := hrel
    by_cases hlt : k < n
    · obtain ⟨ad, rfl, d0⟩ := Kd.at_int (Kd.C_below HC.out HS.out.s.c.b) (k : Int) (by omega) (by omega)
      rw [Int.toNat_natCast] at d0
      obtain ⟨x, hx⟩ : ∃ x, rd ws (k : Int) = x := ⟨_, rfl⟩
      rw [hx] at d0
      obtain ⟨v, hv⟩ : ∃ v, x % 256 = v := ⟨_, rfl⟩
      have hbm : bits .and .i64 x 255 = v := by rw [and255, hv]
      have hv0 : 0 ≤ v ∧ v ≤ 255 := by omega
      have HV0 := Lib.hid hv0
      have HI0 : Hid (0 ≤ (k : Int) ∧ (k : Int) ≤ 100) := Lib.hid (by have := HL.out; have := HL2.out; omega)
      have hset := set0 (xs := xs) (i := k) hv0.1 hv0.2 (by have := HS.out.l; have := HL.out; have := HL2.out; omega)
      have HST := Lib.hid (cm_set HS.out.s.c k v 0 _ hset.1 hset.2 (by omega))
      have HKEY := Lib.hid (keyOf_int_mk Try.underlying3 (i64_wf (v := (k : Int)) (by omega) (by have := HL.out; have := HL2.out; omega)))
      have HVAL := Lib.hid (plainElem_int (H := Nat) (P := Try.prog) (e := 2) Try.underlying2 (i64_wf (v := v) (by omega) (by omega)))
      clear hx hv hv0 hset
      go_wp2_with (first
        | (go_at_call 8; (with_reducible refine HST.out.mono ?_); rintro e w2 ⟨rfl, R2, hc, hs⟩; have HC2 := Lib.hid hc; have HM2 := Lib.hid (map_mst HS.out.s.m hs); clear hc hs)
        | (at_mapUpdate; refine wpList_mapUpdate_own _ rfl _ _ _ 58 rfl 3 2 law3 Try.underlying58 (plainElem Try.prog 2) b (0 + k) D rfl HM2.out (by unfold maxLen; have := HL.out; have := HL2.out; omega) _ _ _ rfl rfl HKEY.out (.lit (.int .i64 v)) [] HVAL.out ?_; intro w3 hown3 hgrow3; have HS3 := Lib.hid (HS.out.step HC2.out HM2.out HV0.out.2 HI0.out hown3 hgrow3); clear hown3 hgrow3))
      go_roundw
      case rel => exact ⟨k + 1, _, _, _, by omega, by go_num, by rw [← Nat.add_assoc]; exact HS3⟩
      case measure => simp [intOf]; omega
    · obtain rfl : k = n := by omega
      obtain ⟨k0, hk0⟩ : ∃ k0, 0 + k = k0 := ⟨_, rfl⟩
      rw [hk0] at HS
      have HK0 := Lib.hid (show k0 ≤ 30 from by have := HL.out; omega)
      have HS0 := HS
      clear HS hk0
      go_wp2_with fail
      go_loopw [49] (fun v wr => ∃ k : Nat, ∃ R xs D, k ≤ m ∧ v = .int .i64 k ∧ Hid (Sk w wr g b R xs D (k0 + k))) (fun v _ => m - (intOf v).toNat)
      case atStart => exact ⟨0, _, _, _, Nat.zero_le _, rfl, HS0⟩
      case round =>
        obtain ⟨k, R, xs, D, hk, rfl, HS⟩ := hrel
        by_cases hlt : k < m
        · obtain ⟨ad, rfl, d0⟩ := Kd.at_int (Kd.C_below HCM.out HS.out.s.c.b) (k : Int) (by omega) (by omega)
          rw [Int.toNat_natCast] at d0
          obtain ⟨x, hx⟩ : ∃ x, rd ms (k : Int) = x := ⟨_, rfl⟩
          rw [hx] at d0
          obtain ⟨v, hv⟩ : ∃ v, x % 256 = v := ⟨_, rfl⟩
          have hbm : bits .and .i64 x 255 = v := by rw [and255, hv]
          have hv0 : 0 ≤ v ∧ v ≤ 255 := by omega
          have HV0 := Lib.hid hv0
          have HI0 : Hid (0 ≤ (k : Int) ∧ (k : Int) ≤ 100) := Lib.hid (by have := HL.out; have := HL2.out; omega)
          have hset := set0 (xs := xs) (i := k) hv0.1 hv0.2 (by have := HS.out.l; have := HK0.out; have := HL.out; have := HL2.out; omega)
          have HST := Lib.hid (cm_set HS.out.s.c k v 0 _ hset.1 hset.2 (by omega))
          have HKEY := Lib.hid (keyOf_int_mk Try.underlying3 (i64_wf (v := (k : Int)) (by omega) (by have := HK0.out; have := HL.out; have := HL2.out; omega)))
          have HVAL := Lib.hid (plainElem_int (H := Nat) (P := Try.prog) (e := 2) Try.underlying2 (i64_wf (v := v) (by omega) (by omega)))
          clear hx hv hv0 hset
          go_wp2_with (first
            | (go_at_call 8; (with_reducible refine HST.out.mono ?_); rintro e w2 ⟨rfl, R2, hc, hs⟩; have HC2 := Lib.hid hc; have HM2 := Lib.hid (map_mst HS.out.s.m hs); clear hc hs)
            | (at_mapUpdate; refine wpList_mapUpdate_own _ rfl _ _ _ 58 rfl 3 2 law3 Try.underlying58 (plainElem Try.prog 2) b (k0 + k) D rfl HM2.out (by unfold maxLen; have := HK0.out; have := HL.out; have := HL2.out; omega) _ _ _ rfl rfl HKEY.out (.lit (.int .i64 v)) [] HVAL.out ?_; intro w3 hown3 hgrow3; have HS3 := Lib.hid (HS.out.step HC2.out HM2.out HV0.out.2 HI0.out hown3 hgrow3); clear hown3 hgrow3))
          go_roundw
          case rel => exact ⟨k + 1, _, _, _, by omega, by go_num, by rw [← Nat.add_assoc]; exact HS3⟩
          case measure => simp [intOf]; omega
        · obtain rfl : k = m := by omega
          clear HS0
          have HS0 := HS
          clear HS
          cases hh : hasL xs d
          · have HNO := Lib.hid (drop_none (xs := xs) (id := d) (fun x hx e => by
              have := has_iff.2 ⟨x, hx, e⟩
              rw [hh] at this
              cases this)).1
            have HDR := Lib.hid (cm_drop HS0.out.s.c d false xs hh HNO.out)
            have HVV := Lib.hid (fun x hx => ⟨⟨(HS0.out.s.c.k.k.b x hx).1, HS0.out.v x hx⟩, HS0.out.i x hx⟩ : ∀ x ∈ xs, ((0 : Int) ≤ x.f1 ∧ x.f1 ≤ 255) ∧ (0 ≤ x.f0 ∧ x.f0 ≤ 100))
            clear hh
            go_upto_region 21 with (go_at_call 12; (with_reducible refine HDR.out.mono ?_); rintro e w4 ⟨rfl, hc, hs⟩; have HT : Hid (Sm w w4 g b R 0 xs xs D (k0 + k)) := Lib.hid ⟨hc, map_mst HS0.out.s.m hs, HS0.out.s.f, HS0.out.s.b⟩; clear hc hs)
            clear HDR HNO HS0 HKD
            clear HC HCM HL HL2 HK0 hmm
            go_wp2_with (first
              | (go_at_call 20; (with_reducible refine (ck_len HT.out.c.k).mono ?_); rintro e w5 ⟨rfl, hb⟩; have HT5 := Lib.hid (HT.out.later hb); clear hb)
              | (at_len; refine wpList_len_own _ rfl _ 58 rfl 3 2 Try.underlying58 _ b _ D rfl HT5.out.m ?_; rw [HT5.out.f.n]))
            have HSt : Hid (St w w5 g b R xs xs D (k0 + k) 0) := Lib.hid ⟨0, HT5.out, .inr ⟨rfl, rfl⟩, HVV.out⟩
            clear HT HT5 HVV
            go_loopw [13] (fun v13 wr => ∃ t : Nat, ∃ xs D nb, t ≤ 256 ∧ v13 = .int .i64 t ∧ Hid (St w wr g b R xs xs D nb t)) (fun v13 _ => 256 - (intOf v13).toNat)
            case atStart => exact ⟨0, _, _, _, by omega, rfl, HSt⟩
            case round =>
              obtain ⟨t, xs, D, nb, ht, rfl, HX⟩ := hrel
              clear HSt
              obtain ⟨now, hs, hn, hv⟩ := HX.out
              by_cases hlt : t < 256
              · have HS := Lib.hid hs
                have HV := Lib.hid hv
                obtain ⟨mn, hmn⟩ : ∃ mn : Int, (if (1 : Int) < t then 1 else (t : Int)) = mn := ⟨_, rfl⟩
                have hgo : goN now mn = t := by
                  rw [← hmn]
                  exact go_t hn hlt hs.c.k.k.n0
                have HGO := Lib.hid (cm_go HS.out.c mn t _ _ hgo rfl rfl)
                clear hs hv hn hgo HX
                go_wp2_with (go_at_call 13; (try simp only [hmn]); (with_reducible refine HGO.out.mono ?_); rintro e w6 ⟨A6, c6, rfl, ho, hc, hs⟩; have HC6 := Lib.hid hc; have HM6 := Lib.hid (map_mst HS.out.m hs); have HO6 := Lib.hid ho; clear ho hc hs)
                have HLD := Lib.hid (left_drop xs t)
                have HGA := Lib.hid (fun (i : Nat) (h : i < (rung xs t).length) => got_at h)
                have hlen : (rung xs t).length ≤ 64 := by
                  have := HS.out.c.k.k.l
                  rw [rung, List.length_map]
                  exact Nat.le_trans (List.takeWhile_sublist _).length_le this
                have HRW := Lib.hid (own_row HO6.out)
                have HPW := Lib.hid (fun (i : Nat) (x : A.S62) (hx : xs.drop i = x :: xs.drop (i + 1)) => (by
                  have h := HS.out.c.k.k.d.sublist (List.drop_sublist i xs)
                  rw [hx] at h
                  exact h : (x :: xs.drop (i + 1)).Pairwise (fun a b => a.f0 ≠ b.f0)))
                obtain ⟨got, hgot⟩ : ∃ got, rung xs t = got := ⟨_, rfl⟩
                obtain ⟨zs, hzs⟩ : ∃ zs, leftA xs t = zs := ⟨_, rfl⟩
                rw [hgot] at HLD HGA hlen HRW HO6 ⊢
                rw [hzs] at HC6 HLD
                have HNV : Hid (∀ x ∈ zs, (((t + 1 : Nat) : Int) ≤ x.f1 ∧ x.f1 ≤ 255) ∧ (0 ≤ x.f0 ∧ x.f0 ≤ 100)) := Lib.hid (fun x hx => by
                  rw [← hzs] at hx
                  have h1 := left_gt HS.out.c.k.k.s x hx
                  have h2 := HV.out x ((left_sub _ _).subset hx)
                  omega)
                have HP6 : Hid (MapOf D (xs.drop 0)) := Lib.hid HS.out.f
                have HBB := Lib.hid HS.out.b
                clear hgot hzs HGO hmn HS
                obtain ⟨ln, hln⟩ : ∃ ln, got.length = ln := ⟨_, rfl⟩
                rw [hln] at HLD HGA hlen HRW HO6 ⊢
                have HLN := Lib.hid hlen
                go_loopw [79] (fun v79 wr => ∃ i : Nat, ∃ D, i ≤ ln ∧ v79 = .int .i64 i ∧ Hid (Sm w wr g b R t zs (xs.drop i) D nb) ∧ Hid (wr.ownsRow w.heap.size 3 1 (.slice A6 ln c6) ln (nums .i64 got))) (fun v79 _ => ln - (intOf v79).toNat)
                case atStart => exact ⟨0, D, Nat.zero_le _, rfl, Lib.hid ⟨HC6.out, HM6.out, HP6.out, HBB.out⟩, HO6⟩
                case round =>
                  obtain ⟨i, D, hi, rfl, HSi, HOi⟩ := hrel
                  by_cases hlt3 : i < ln
                  · obtain ⟨x, hx1, hx2, hx3, hx4⟩ := HGA.out i hlt3
                    have hx5 : x.f1 = t := by have := (HV.out x hx3).1.1; omega
                    have hm := HSi.out.f
                    have hpw := HPW.out i x hx1
                    rw [hx1] at hm
                    have HPOP := Lib.hid (hm.pop HSi.out.tidy hpw)
                    have HHAS := Lib.hid ((hm.h x.f0).trans (has_iff.2 ⟨x, List.mem_cons_self, rfl⟩))
                    have HAT := Lib.hid (hm.a x List.mem_cons_self)
                    subst hln
                    obtain ⟨ad6, rfl, d0⟩ := Kd.at_int (own_row HOi.out).1 (i : Int) (by omega) (by omega)
                    rw [Int.toNat_natCast, hx2] at d0
                    have hwx : -9223372036854775808 ≤ x.f0 ∧ x.f0 ≤ 9223372036854775807 := by have := (HV.out x hx3).2; omega
                    have HKEY := Lib.hid (keyOf_int_mk Try.underlying3 (i64_wf hwx.1 hwx.2))
                    rw [hx5] at HAT
                    obtain ⟨x0, hx0⟩ : ∃ x0, x.f0 = x0 := ⟨_, rfl⟩
                    rw [hx0] at HPOP HHAS HAT d0 HKEY
                    clear hx1 hx2 hx3 hx4 hx5 hm hpw hwx hx0
                    go_wp2_with (first
                      | (at_lookup; refine wpList_lookup_own_ok_int _ rfl _ _ 58 rfl 3 2 .i64 law3 Try.underlying58 Try.underlying2 (zero2 _) b nb D rfl HSi.out.m _ _ rfl HKEY.out ?_; intro c hat hwc; rw [HAT.out] at hat; obtain rfl : (t : Int) = c := (by simpa using hat); rw [HHAS.out])
                      | (at_delete; refine wpList_delete_own _ rfl _ _ 58 3 rfl 2 law3 Try.underlying58 _ b _ D rfl HSi.out.m _ _ rfl HKEY.out ?_; intro w7 hown7 hturn7; have HS7 : Hid (Sm w w7 g b R t zs (xs.drop (i + 1)) (D.del (.int .i64 x0)) nb) := Lib.hid ⟨HSi.out.c.map HSi.out.m HSi.out.b hturn7.grown, hown7, HPOP.out, HSi.out.b⟩; have HO7 := Lib.hid (own_map HOi.out HSi.out.m hturn7.grown); clear hown7 hturn7))
                    go_roundw
                    case rel => exact ⟨i + 1, _, by omega, by go_num, HS7, HO7⟩
                    case measure => simp [intOf]; omega
                  · obtain rfl : i = ln := by omega
                    have HSf : Hid (Sm w wr g b R t zs zs D nb) := Lib.hid ⟨HSi.out.c, HSi.out.m, by rw [← HLD.out]; exact HSi.out.f, HSi.out.b⟩
                    go_wp2_with fail
                    go_roundw
                    case rel => exact ⟨t + 1, zs, D, nb, by omega, by go_num, Lib.hid ⟨t, HSf.out, .inl (by omega), HNV.out⟩⟩
                    case measure => simp [intOf]; omega
              · obtain rfl : t = 256 := by omega
                have hx : xs = [] := by
                  cases xs with
                  | nil => rfl
                  | cons x ys =>
                    have h1 : (256 : Int) ≤ x.f1 := (hv x List.mem_cons_self).1.1
                    have h2 : x.f1 ≤ 255 := (hv x List.mem_cons_self).1.2
                    omega
                have hnow : now = 255 := by omega
                subst hx hnow
                have HS := Lib.hid hs
                clear hs hv hn HX
                go_wp2_with (first
                  | (at_len; refine wpList_len_own _ rfl _ 58 rfl 3 2 Try.underlying58 _ b _ D rfl HS.out.m ?_; rw [HS.out.f.n])
                  | (go_at_call 19; (with_reducible refine (ck_now HS.out.c.k).mono ?_); rintro e w6 ⟨rfl, hb⟩; have HS6 := Lib.hid (HS.out.later hb); clear hb))
                go_ret
                exact ⟨rfl, HS6.out.c.b⟩

          · have HDR := Lib.hid (cm_drop HS0.out.s.c d true _ hh rfl)
            have HMF := Lib.hid (HS0.out.s.f.del HS0.out.s.tidy HS0.out.s.c.k.k.d d hh)
            have HVV := Lib.hid (fun x hx => ⟨⟨(HS0.out.s.c.k.k.b x (mem_drop hx)).1, HS0.out.v x (mem_drop hx)⟩, HS0.out.i x (mem_drop hx)⟩ : ∀ x ∈ dropL xs d, ((0 : Int) ≤ x.f1 ∧ x.f1 ≤ 255) ∧ (0 ≤ x.f0 ∧ x.f0 ≤ 100))
            clear hh
            go_upto_region 21 with (first
              | (go_at_call 12; (with_reducible refine HDR.out.mono ?_); rintro e w4 ⟨rfl, hc, hs⟩; have HC4 := Lib.hid hc; have HM4 := Lib.hid (map_mst HS0.out.s.m hs); clear hc hs)
              | (at_delete; refine wpList_delete_own _ rfl _ _ 58 3 rfl 2 law3 Try.underlying58 _ b _ D rfl HM4.out _ _ rfl HKD.out ?_; intro w3 hown3 hturn3; have HT : Hid (Sm w w3 g b R 0 (dropL xs d) (dropL xs d) (D.del (.int .i64 d)) (k0 + k)) := Lib.hid ⟨HC4.out.map HM4.out HS0.out.s.b hturn3.grown, hown3, HMF.out, HS0.out.s.b⟩; clear hown3 hturn3))
            clear HDR HMF HS0 HKD HC4 HM4
            clear HC HCM HL HL2 HK0 hmm
            go_wp2_with (first
              | (go_at_call 20; (with_reducible refine (ck_len HT.out.c.k).mono ?_); rintro e w5 ⟨rfl, hb⟩; have HT5 := Lib.hid (HT.out.later hb); clear hb)
              | (at_len; refine wpList_len_own _ rfl _ 58 rfl 3 2 Try.underlying58 _ b _ (D.del (.int .i64 d)) rfl HT5.out.m ?_; rw [HT5.out.f.n]))
            have HSt : Hid (St w w5 g b R (dropL xs d) (dropL xs d) (D.del (.int .i64 d)) (k0 + k) 0) := Lib.hid ⟨0, HT5.out, .inr ⟨rfl, rfl⟩, HVV.out⟩
            clear HT HT5 HVV
            go_loopw [13] (fun v13 wr => ∃ t : Nat, ∃ xs D nb, t ≤ 256 ∧ v13 = .int .i64 t ∧ Hid (St w wr g b R xs xs D nb t)) (fun v13 _ => 256 - (intOf v13).toNat)
            case atStart => exact ⟨0, _, _, _, by omega, rfl, HSt⟩
            case round =>
              obtain ⟨t, xs, D, nb, ht, rfl, HX⟩ := hrel
              clear HSt
              obtain ⟨now, hs, hn, hv⟩ := HX.out
              by_cases hlt : t < 256
              · have HS := Lib.hid hs
                have HV := Lib.hid hv
                obtain ⟨mn, hmn⟩ : ∃ mn : Int, (if (1 : Int) < t then 1 else (t : Int)) = mn := ⟨_, rfl⟩
                have hgo : goN now mn = t := by
                  rw [← hmn]
                  exact go_t hn hlt hs.c.k.k.n0
                have HGO := Lib.hid (cm_go HS.out.c mn t _ _ hgo rfl rfl)
                clear hs hv hn hgo HX
                go_wp2_with (go_at_call 13; (try simp only [hmn]); (with_reducible refine HGO.out.mono ?_); rintro e w6 ⟨A6, c6, rfl, ho, hc, hs⟩; have HC6 := Lib.hid hc; have HM6 := Lib.hid (map_mst HS.out.m hs); have HO6 := Lib.hid ho; clear ho hc hs)
                have HLD := Lib.hid (left_drop xs t)
                have HGA := Lib.hid (fun (i : Nat) (h : i < (rung xs t).length) => got_at h)
                have hlen : (rung xs t).length ≤ 64 := by
                  have := HS.out.c.k.k.l
                  rw [rung, List.length_map]
                  exact Nat.le_trans (List.takeWhile_sublist _).length_le this
                have HRW := Lib.hid (own_row HO6.out)
                have HPW := Lib.hid (fun (i : Nat) (x : A.S62) (hx : xs.drop i = x :: xs.drop (i + 1)) => (by
                  have h := HS.out.c.k.k.d.sublist (List.drop_sublist i xs)
                  rw [hx] at h
                  exact h : (x :: xs.drop (i + 1)).Pairwise (fun a b => a.f0 ≠ b.f0)))
                obtain ⟨got, hgot⟩ : ∃ got, rung xs t = got := ⟨_, rfl⟩
                obtain ⟨zs, hzs⟩ : ∃ zs, leftA xs t = zs := ⟨_, rfl⟩
                rw [hgot] at HLD HGA hlen HRW HO6 ⊢
                rw [hzs] at HC6 HLD
                have HNV : Hid (∀ x ∈ zs, (((t + 1 : Nat) : Int) ≤ x.f1 ∧ x.f1 ≤ 255) ∧ (0 ≤ x.f0 ∧ x.f0 ≤ 100)) := Lib.hid (fun x hx => by
                  rw [← hzs] at hx
                  have h1 := left_gt HS.out.c.k.k.s x hx
                  have h2 := HV.out x ((left_sub _ _).subset hx)
                  omega)
                have HP6 : Hid (MapOf D (xs.drop 0)) := Lib.hid HS.out.f
                have HBB := Lib.hid HS.out.b
                clear hgot hzs HGO hmn HS
                obtain ⟨ln, hln⟩ : ∃ ln, got.length = ln := ⟨_, rfl⟩
                rw [hln] at HLD HGA hlen HRW HO6 ⊢
                have HLN := Lib.hid hlen
                go_loopw [79] (fun v79 wr => ∃ i : Nat, ∃ D, i ≤ ln ∧ v79 = .int .i64 i ∧ Hid (Sm w wr g b R t zs (xs.drop i) D nb) ∧ Hid (wr.ownsRow w.heap.size 3 1 (.slice A6 ln c6) ln (nums .i64 got))) (fun v79 _ => ln - (intOf v79).toNat)
                case atStart => exact ⟨0, D, Nat.zero_le _, rfl, Lib.hid ⟨HC6.out, HM6.out, HP6.out, HBB.out⟩, HO6⟩
                case round =>
                  obtain ⟨i, D, hi, rfl, HSi, HOi⟩ := hrel
                  by_cases hlt3 : i < ln
                  · obtain ⟨x, hx1, hx2, hx3, hx4⟩ := HGA.out i hlt3
                    have hx5 : x.f1 = t := by have := (HV.out x hx3).1.1; omega
                    have hm := HSi.out.f
                    have hpw := HPW.out i x hx1
                    rw [hx1] at hm
                    have HPOP := Lib.hid (hm.pop HSi.out.tidy hpw)
                    have HHAS := Lib.hid ((hm.h x.f0).trans (has_iff.2 ⟨x, List.mem_cons_self, rfl⟩))
                    have HAT := Lib.hid (hm.a x List.mem_cons_self)
                    subst hln
                    obtain ⟨ad6, rfl, d0⟩ := Kd.at_int (own_row HOi.out).1 (i : Int) (by omega) (by omega)
                    rw [Int.toNat_natCast, hx2] at d0
                    have hwx : -9223372036854775808 ≤ x.f0 ∧ x.f0 ≤ 9223372036854775807 := by have := (HV.out x hx3).2; omega
                    have HKEY := Lib.hid (keyOf_int_mk Try.underlying3 (i64_wf hwx.1 hwx.2))
                    rw [hx5] at HAT
                    obtain ⟨x0, hx0⟩ : ∃ x0, x.f0 = x0 := ⟨_, rfl⟩
                    rw [hx0] at HPOP HHAS HAT d0 HKEY
                    clear hx1 hx2 hx3 hx4 hx5 hm hpw hwx hx0
                    go_wp2_with (first
                      | (at_lookup; refine wpList_lookup_own_ok_int _ rfl _ _ 58 rfl 3 2 .i64 law3 Try.underlying58 Try.underlying2 (zero2 _) b nb D rfl HSi.out.m _ _ rfl HKEY.out ?_; intro c hat hwc; rw [HAT.out] at hat; obtain rfl : (t : Int) = c := (by simpa using hat); rw [HHAS.out])
                      | (at_delete; refine wpList_delete_own _ rfl _ _ 58 3 rfl 2 law3 Try.underlying58 _ b _ D rfl HSi.out.m _ _ rfl HKEY.out ?_; intro w7 hown7 hturn7; have HS7 : Hid (Sm w w7 g b R t zs (xs.drop (i + 1)) (D.del (.int .i64 x0)) nb) := Lib.hid ⟨HSi.out.c.map HSi.out.m HSi.out.b hturn7.grown, hown7, HPOP.out, HSi.out.b⟩; have HO7 := Lib.hid (own_map HOi.out HSi.out.m hturn7.grown); clear hown7 hturn7))
                    go_roundw
                    case rel => exact ⟨i + 1, _, by omega, by go_num, HS7, HO7⟩
                    case measure => simp [intOf]; omega
                  · obtain rfl : i = ln := by omega
                    have HSf : Hid (Sm w wr g b R t zs zs D nb) := Lib.hid ⟨HSi.out.c, HSi.out.m, by rw [← HLD.out]; exact HSi.out.f, HSi.out.b⟩
                    go_wp2_with fail
                    go_roundw
                    case rel => exact ⟨t + 1, zs, D, nb, by omega, by go_num, Lib.hid ⟨t, HSf.out, .inl (by omega), HNV.out⟩⟩
                    case measure => simp [intOf]; omega
              · obtain rfl : t = 256 := by omega
                have hx : xs = [] := by
                  cases xs with
                  | nil => rfl
                  | cons x ys =>
                    have h1 : (256 : Int) ≤ x.f1 := (hv x List.mem_cons_self).1.1
                    have h2 : x.f1 ≤ 255 := (hv x List.mem_cons_self).1.2
                    omega
                have hnow : now = 255 := by omega
                subst hx hnow
                have HS := Lib.hid hs
                clear hs hv hn HX
                go_wp2_with (first
                  | (at_len; refine wpList_len_own _ rfl _ 58 rfl 3 2 Try.underlying58 _ b _ D rfl HS.out.m ?_; rw [HS.out.f.n])
                  | (go_at_call 19; (with_reducible refine (ck_now HS.out.c.k).mono ?_); rintro e w6 ⟨rfl, hb⟩; have HS6 := Lib.hid (HS.out.later hb); clear hb))
                go_ret
                exact ⟨rfl, HS6.out.c.b⟩
set_option maxHeartbeats 1000000 in
set_option maxRecDepth 100000 in
theorem sets_long (A0 A1 : Option Addr) (c0 c1 n0 n1 : Nat) (d : Int) (w : World) (h : 30 < n0 ∨ n0 < n1) : Calls Try.prog 6 #[.slice A0 n0 c0, .slice A1 n1 c1, .int .i64 d] w fun e w' => e = .returned (.bool true) ∧ Below w.heap.size w w' := by
  by_cases h0 : 30 < n0
  · have d0 : (30 : Int) < (n0 : Int) := by omega
    clear h h0
    go_enter Try.func6, Try.ntmps6
    go_wp2_with (go_at_call 7; (with_reducible refine (alive_p _).mono ?_); rintro e w1 ⟨rfl, hb⟩; have HB := Lib.hid hb; clear hb)
    go_ret
    exact ⟨rfl, HB.out⟩
  · have d0 : ¬ (30 : Int) < (n0 : Int) := by omega
    have d1 : (n0 : Int) < (n1 : Int) := by omega
    clear h h0
    go_enter Try.func6, Try.ntmps6
    go_wp2_with (go_at_call 7; (with_reducible refine (alive_p _).mono ?_); rintro e w1 ⟨rfl, hb⟩; have HB := Lib.hid hb; clear hb)
    go_ret
    exact ⟨rfl, HB.out⟩
end Go.Proofs.Ytccmelpnmjdclaa.H
namespace Go.Proofs.Ytccmelpnmjdclaa.A
set_option linter.unusedVariables false
open Go.RowKit Go.Proofs.YtccmelpnmjdclaaW.PrintWords
open Go.Proofs.Ytccmelpnmjdclaa
def greenscreenlaw04_ClockSets.f (_ _ : List Int) (d : Int) : Option Bool := if (Lit.int .i64 d).wf = true then some true else none
theorem greenscreenlaw04_ClockSets.calls (A0 : Option Addr) (c0 : Nat) (l0 : List Int) (A1 : Option Addr) (c1 : Nat) (l1 : List Int) (a2 : Int) (r : Bool) (hr_ : r = true) (w : World) (hC0 : Kd.C (Kd.int .i64) w A0 l0.length l0) (hcl0 : l0.length ≤ c0) (hC1 : Kd.C (Kd.int .i64) w A1 l1.length l1) (hcl1 : l1.length ≤ c1) (hf : greenscreenlaw04_ClockSets.f l0 l1 a2 = some r) :
    Calls Try.prog 6 #[.slice A0 l0.length c0, .slice A1 l1.length c1, .int .i64 a2] w fun e w' => e = .returned (.bool r) ∧ Below w.heap.size w w' := by
  subst hr_
  by_cases h : l0.length ≤ 30 ∧ l1.length ≤ l0.length
  · refine H.sets_p a2 w hC0 hC1 h.1 h.2 ?_
    unfold greenscreenlaw04_ClockSets.f at hf
    by_cases hd : (Lit.int .i64 a2).wf = true
    · exact hd
    · rw [if_neg hd] at hf
      cases hf
  · exact H.sets_long A0 A1 c0 c1 l0.length l1.length a2 w (by omega)
end Go.Proofs.Ytccmelpnmjdclaa.A
