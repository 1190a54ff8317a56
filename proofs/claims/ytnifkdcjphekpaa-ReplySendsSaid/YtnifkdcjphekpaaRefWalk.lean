/- The document's Buffer, All, For: what they hand back. -/
import Derived.Test.YtnifkdcjphekpaaRefPure
namespace Go.Proofs.Ytnifkdcjphekpaa.H
open Go.RowKit Go.Proofs.YtnifkdcjphekpaaW.PrintWords Go.Proofs.YtnifkdcjphekpaaW.PrintLast
set_option linter.unusedVariables false
set_option linter.unusedSimpArgs false
theorem wrap_lt (b : Int) (h0 : 0 ≤ b) (h : b < 256) : wrap64 b = b := wrap_of (by omega) (by omega)
theorem attr_dig (b : Int) (h0 : 0 ≤ b) (h : b < 256) : attrB b = dig b := by
  unfold attrB A.attr_Byte.f
  rw [wrap_lt b h0 h, dig_f]
  rfl
section
variable {w : World} {c2 : Nat} {ad : Addr} {r c cur : Int} {cs : List A.S34}
set_option maxHeartbeats 4000000 in
set_option maxRecDepth 100000 in
theorem rbuf_p (hw : wfB cs) (hk : Kd.C A.k34 w (some ad) cs.length cs) (h4 : cs.length ≤ 4096) (h0 : 0 ≤ cur) (h1 : cur < cs.length) (aid : Int) : Calls Try.prog 23 #[.agg #[.int .i64 r, .int .i64 c, .slice (some ad) cs.length c2, .int .i64 cur], .int .u8 aid] w fun e W' => ∃ v, e = .returned v ∧ W'.ownsRow w.heap.size 5 1 v (headL cur aid ++ bufTo cs cs.length).length (nu (headL cur aid ++ bufTo cs cs.length)) ∧ Below w.heap.size w W' := by
  have hu30 := Try.underlying30
  have hu34 := Try.underlying34
  obtain ⟨W1, hW1⟩ : ∃ W1, W1 = w.alloc (.cells #[.int .i64 r, .int .i64 c, .slice (some ad) cs.length c2, .int .i64 cur] 30) := ⟨_, rfl⟩
  have HBW : Hid (Below w.heap.size w W1) := Lib.hid (by rw [hW1]; exact below_alloc (Below.refl _ _) _)
  have HX : Hid (W1.heap[w.heap.size]? = some (.cells #[.int .i64 r, .int .i64 c, .slice (some ad) cs.length c2, .int .i64 cur] 30 (0, 0))) := Lib.hid (by rw [hW1]; exact heap_alloc_new _ _)
  have HK := Lib.hid (Kd.C_below hk HBW.out)
  have HW1 := Lib.hid hW1
  have HWF := Lib.hid hw
  clear hk hW1 hw
  go_enter Try.func23, Try.ntmps23
  go_wp2_with (go_at_call 39; (with_reducible refine (rhead_p h0 h1 h4 aid).mono ?_); rintro e w1 ⟨v1, rfl, ho, hb⟩; rw [← HW1.out] at ho hb; have HR1 := Lib.hid ho; have HB1 := Lib.hid hb; clear ho hb)
  go_loopw [5, 6] (fun v5 v6 wr => ∃ k : Nat, k ≤ cs.length ∧ v6 = .int .i64 k ∧ wr.ownsRow W1.heap.size 5 1 v5 (headL cur aid ++ bufTo cs k).length (nu (headL cur aid ++ bufTo cs k)) ∧ Below W1.heap.size W1 wr) (fun _ v6 _ => cs.length - (intOf v6).toNat)
  case atStart => exact ⟨0, Nat.zero_le _, rfl, by simpa [bufTo] using HR1.out, HB1.out⟩
  case round =>
    clear HR1 HB1
    obtain ⟨k, hk, rfl, hr4, hb4⟩ := hrel
    have HR4 := Lib.hid hr4
    have HB4 := Lib.hid hb4
    have hxx := blk_below HX.out hb4; have xx0 := (blk_cell hxx 0).trans rfl; have xx1 := (blk_cell hxx 1).trans rfl; have xx2 := (blk_cell hxx 2).trans rfl; have xx3 := (blk_cell hxx 3).trans rfl; clear hxx; 
    clear hr4 hb4
    by_cases hlt : k < cs.length
    · have hbl := buf_le cs k
      have HSU := Lib.hid (buf_succ cs k)
      have HBL : Hid ((headL cur aid ++ bufTo cs k).length ≤ 10000) := Lib.hid (by simp only [headL, List.length_append, List.length_cons, List.length_nil]; omega)
      clear hbl
      obtain ⟨xs, hxs⟩ : ∃ xs, headL cur aid ++ bufTo cs k = xs := ⟨_, rfl⟩
      rw [hxs] at HR4 HBL
      have HXS : Hid (headL cur aid ++ bufTo cs (k + 1) = xs ++ bufOut cs k) := Lib.hid (by rw [HSU.out, ← List.append_assoc, hxs])
      clear hxs HSU
      obtain ⟨ad', had, d0, d1, d2, d3, d4⟩ := A.at_T34 (Kd.C_below HK.out HB4.out) (k : Int) (by omega) (by omega)
      obtain rfl : ad = ad' := by injection had
      simp only [Int.toNat_natCast] at d0 d1 d2 d3 d4
      have hbo : bufOut cs k = if (A.rd_T34 cs (k : Int)).f2 = true then [29, attrB (A.rd_T34 cs (k : Int)).f0] else bytesL (A.rd_T34 cs (k : Int)) := rfl
      obtain ⟨w0, w1⟩ := HWF.out (k : Int)
      obtain ⟨x, hx⟩ : ∃ x, A.rd_T34 cs (k : Int) = x := ⟨_, rfl⟩
      rw [hx] at d0 d1 d2 d3 d4 hbo w0 w1
      have hby := ref_bytes x w0 w1 20 (Nat.le_refl _)
      have hbl2 := bytes_le x
      have hat := attr_dig x.f0 w0 w1
      have hdg := ref_dig (x.f0 % 64) (by omega) (by omega)
      rw [dig_mod, ← hat] at hdg
      have HBO := Lib.hid hbo
      have HBY := Lib.hid hby
      have HDG := Lib.hid hdg
      clear hx had hbo hby hat hdg
      obtain ⟨bl, hbl⟩ : ∃ bl, bytesL x = bl := ⟨_, rfl⟩
      rw [hbl] at HBO HBY hbl2
      clear hbl
      obtain ⟨b0, b1, b2, b3, b4⟩ := x
      have w0' : 0 ≤ b0 := w0
      have w1' : b0 < 256 := w1
      have hrem : Int.tmod b0 64 = b0 % 64 := Int.tmod_eq_emod_of_nonneg w0'
      have hwr : wrap64 (b0 % 64) = b0 % 64 := wrap_lt _ (by omega) (by omega)
      cases b2
      · go_wp2_with (first | (go_at_call 46; (with_reducible refine (A.greenscreenref23_Bytes.calls 20 _ _ _ _ _ _ _ HBY.out).mono ?_); rintro e w7 ⟨v7, rfl, hr7, hb7⟩; obtain ⟨A7, c7, rfl, hc7, hrd7⟩ := own_reads_of_le (enc := Value.int .u8) (d := (0 : Int)) (xs := bl) (Kd.own_of_R hr7); have HD7 := Lib.hid (readsInt_of.2 hrd7); have HB7 := Lib.hid (below_step HB4.out hb7); have HR7 := Lib.hid (pw_own_below HR4.out hb7); clear hb7 hr7 hrd7) | (at_builtin; refine print_append_row (w0 := W1) W1.heap.size rfl (.tmp 35) (.tmp 41) 35 5 .u8 1 rfl Try.underlying35 hinfo5 (by decide) _ xs bl A7 bl.length c7 rfl rfl HR7.out HD7.out HB7.out HB7.out.size (by have := HBL.out; omega) ?_; intro v8 w8 hown8 hb8 hg8 hat8; have HB8 := Lib.hid hb8; have HR8 := Lib.hid hown8; clear hown8 hb8 hg8 hat8))
        go_roundw
        case rel => exact ⟨k + 1, by omega, by go_num, by rw [HXS.out, HBO.out, if_neg Bool.false_ne_true]; exact HR8.out, HB8.out⟩
        case measure => simp [intOf]; omega
      · go_wp2_with (first | (go_at_call 45; (with_reducible refine (A.greenscreenref02_Digit.calls (b0 % 64) _ _ HDG.out).mono ?_); rintro e w7 ⟨rfl, hd7⟩; obtain ⟨m7, rfl⟩ := hd7.out; have hb7 := fun (W : World) => below_alloc (pw_below_drewN (Below.refl W.heap.size W) m7) (.cells #[.int .u8 29, .int .u8 (attrB b0)] 5); have HB7 := Lib.hid (below_step HB4.out (hb7 _)); have HR7 := Lib.hid (pw_own_below HR4.out (hb7 _)); have HL7 := Lib.hid (heap_alloc_new (wr.drewN m7) (.cells #[.int .u8 29, .int .u8 (attrB b0)] 5)); clear hb7 hd7) | (at_builtin; refine print_append_row (w0 := W1) W1.heap.size rfl (.tmp 23) (.tmp 33) 35 5 .u8 1 rfl Try.underlying35 hinfo5 (by decide) _ xs [29, attrB b0] (some ⟨wr.heap.size, 0, none⟩) 2 2 rfl rfl HR7.out (reads_two HL7.out) HB7.out HB7.out.size (by have := HBL.out; omega) ?_; intro v8 w8 hown8 hb8 hg8 hat8; have HB8 := Lib.hid hb8; have HR8 := Lib.hid hown8; clear hown8 hb8 hg8 hat8))
        go_roundw
        case rel => exact ⟨k + 1, by omega, by go_num, by rw [HXS.out, HBO.out, if_pos trivial]; exact HR8.out, HB8.out⟩
        case measure => simp [intOf]; omega
    · obtain rfl : k = cs.length := by omega
      go_wp2
      go_ret
      exact ⟨_, rfl, own_weaken HR4.out HBW.out.size, below_step HBW.out HB4.out⟩
theorem rng_flat (n : Nat) (f : Int → List Int) : ((List.range n).map (fun (i : Nat) => (i : Int))).flatMap f = (List.range n).flatMap (fun (i : Nat) => f (i : Int)) := by
  rw [List.flatMap_map]
/-- The places from 0 on. -/
def rng (n : Nat) : List Int := (List.range n).map (fun (i : Nat) => (i : Int))
theorem rng_succ (n : Nat) : rng (n + 1) = rng n ++ [(n : Int)] := by simp [rng, List.range_succ]
theorem rng_len (n : Nat) : (rng n).length = n := by simp [rng]
theorem rng_in (n : Nat) : ∀ q ∈ rng n, 0 ≤ q ∧ q < n := by
  intro q hq
  obtain ⟨i, hi, rfl⟩ := List.mem_map.1 hq
  have := List.mem_range.1 hi
  omega
theorem C_ints64 {w : World} {A : Option Addr} {n : Nat} {xs : List Int} (h : ReadsInt w .i64 A n xs) : Kd.C (Kd.int .i64) w A n xs := Kd.C_of_reads (enc := Value.int .i64) (d := 0) (h1 := fun _ => rfl) (readsInt_of.1 h)
theorem info3' : (Try.prog.info? 3).map (fun i => (i.zero, i.size, i.bytes)) = some (some (.int .i64 0), 1, 8) := by kernel_rfl
theorem row73 {W : World} {base : Nat} {ok : Nat → Prop} {v : Value} {xs : List A.S73} (h : Kd.R A.k73 73 W base ok v xs) (hp : 0 < xs.length) : ∃ g c cc, v = .slice (some ⟨g, 0, none⟩) xs.length c ∧ W.heap[g]? = some (.cells cc 73 (0, 0)) ∧ (∀ W' : World, W'.heap[g]? = some (.cells cc 73 (0, 0)) → Kd.C A.k73 W' (some ⟨g, 0, none⟩) xs.length xs) := by
  obtain ⟨A0, c, hv, _, hC⟩ := Kd.R_reads h
  obtain ⟨_, inner, ho, hr⟩ := h
  rcases ho.2 with ⟨_, h0⟩ | ⟨g, cap, cur, hv2, hg, hh, hnc, hcm, hcs, htake⟩
  · omega
  · have e := hv.symm.trans hv2
    injection e with e1 e2 e3
    subst e1
    refine ⟨g, c, cur, hv, hh, fun W' hW' => ⟨hC.1, hC.2.1, fun hn => ?_⟩⟩
    obtain ⟨ad, had, hc⟩ := hC.2.2 hn
    refine ⟨ad, had, fun j p hj => ?_⟩
    obtain ⟨cl, h1, h2, h3⟩ := hc j p hj
    have ea : ad = ⟨g, 0, none⟩ := by injection had with had; exact had.symm
    have hk : W'.heap[g]? = W.heap[g]? := hW'.trans hh.symm
    refine ⟨cl, h1, ?_, fun i u hu => ?_⟩
    · have := A.k73_open h2
      rw [this]
      exact A.k73_mk W' p
    · have h4 := h3 i u hu
      rw [ea, addr_mk] at h4 ⊢
      simpa [World.cell?, hk] using h4
theorem reads_three {W : World} {b : Nat} {x y z : Int} {t : TypeId} (h : W.heap[b]? = some (.cells #[.int .u8 x, .int .u8 y, .int .u8 z] t (0, 0))) : ReadsInt W .u8 (some ⟨b, 0, none⟩) 3 [x, y, z] := by
  refine ⟨rfl, by decide, fun _ => ⟨_, rfl, fun i hi => ?_⟩⟩
  obtain rfl | rfl | rfl : i = 0 ∨ i = 1 ∨ i = 2 := by omega
  · exact blk_cell h 0
  · exact blk_cell h 1
  · exact blk_cell h 2
theorem ne_73 {W : World} {g base n : Nat} {cc : Array Value} {v : Value} {xs : List Value} (h : W.heap[g]? = some (.cells cc 73 (0, 0))) (ho : W.ownsRow base 5 1 v n xs) : some g ≠ v.ownBlock := fun e => by
  obtain ⟨cells, hc⟩ := own_typed ho g e.symm
  rw [h] at hc
  injection hc with hc
  injection hc with _ hc
  exact absurd hc (by decide)
theorem rd73 (cs : List A.S34) (ys : List Int) (k : Nat) (hk : k < ys.length) : A.rd_T73 (ys.map (fldR cs)) (k : Int) = fldR cs (rd ys (k : Int)) := by
  unfold A.rd_T73 rd
  simp [List.getD, List.getElem?_eq_getElem hk]
set_option maxHeartbeats 4000000 in
set_option maxRecDepth 100000 in
theorem rall_p (hw : wfB cs) (hk : Kd.C A.k34 w (some ad) cs.length cs) (hc2 : cs.length ≤ c2) (h4 : cs.length ≤ 4096) (h0 : 0 ≤ cur) (h1 : cur < cs.length) (aid : Int) : Calls Try.prog 22 #[.agg #[.int .i64 r, .int .i64 c, .slice (some ad) cs.length c2, .int .i64 cur], .int .u8 aid] w fun e W' => ∃ v, e = .returned v ∧ W'.ownsRow w.heap.size 5 1 v (allL cs cur aid).length (nu (allL cs cur aid)) ∧ Below w.heap.size w W' := by
  have hall := all_f (r := r) (c := c) (cur := cur) hw h4
  have hn1 : 1 ≤ cs.length := by omega
  have hform := form_starts cs hn1
  have hyl := starts_len cs cs.length
  have hfull := fun l hl hin => full_f (r := r) (c := c) (cur := cur) hw l hl hin
  have hplc := fun x h0 h1 => places_f (r := r) (c := c) (cur := cur) (cs := cs) x h0 h1 h4
  obtain ⟨ys, hys⟩ : ∃ ys, startsTo cs cs.length = ys := ⟨_, rfl⟩
  rw [hys] at hall hform hyl
  have HALL := Lib.hid hall
  have HFULL := Lib.hid hfull
  have HPLC := Lib.hid hplc
  have HFORM := Lib.hid hform
  have HYS := Lib.hid hys
  clear hall hfull hform hys hplc
  have hu30 := Try.underlying30
  have hu34 := Try.underlying34
  obtain ⟨W1, hW1⟩ : ∃ W1, W1 = w.alloc (.cells #[.int .i64 r, .int .i64 c, .slice (some ad) cs.length c2, .int .i64 cur] 30) := ⟨_, rfl⟩
  have HBW : Hid (Below w.heap.size w W1) := Lib.hid (by rw [hW1]; exact below_alloc (Below.refl _ _) _)
  have HX : Hid (W1.heap[w.heap.size]? = some (.cells #[.int .i64 r, .int .i64 c, .slice (some ad) cs.length c2, .int .i64 cur] 30 (0, 0))) := Lib.hid (by rw [hW1]; exact heap_alloc_new _ _)
  have HK := Lib.hid (Kd.C_below hk HBW.out)
  have HW1 := Lib.hid hW1
  have HWF := Lib.hid hw
  clear hk hW1 hw
  by_cases hnil : ys.length = 0
  · have hL : allL cs cur aid = headL cur aid ++ (rng cs.length).flatMap (cellOut cs) := by
      unfold allL
      rw [HFORM.out, if_neg (by simp [hnil]), rng, rng_flat]
      rfl
    have HL := Lib.hid hL
    have e0 : ((ys.length : Int) == 0) = true := beq_iff_eq.2 (by omega)
    clear hL hnil
    go_enter Try.func22, Try.ntmps22
    go_wp2_with (first
      | (go_at_call 39; (with_reducible refine (rhead_p h0 h1 h4 aid).mono ?_); rintro e w1 ⟨v1, rfl, ho, hb⟩; rw [← HW1.out] at ho hb; have HR1 := Lib.hid ho; have HB1 := Lib.hid hb; have hxa := blk_below HX.out hb; have xa0 := (blk_cell hxa 0).trans rfl; have xa1 := (blk_cell hxa 1).trans rfl; have xa2 := (blk_cell hxa 2).trans rfl; have xa3 := (blk_cell hxa 3).trans rfl; clear hxa; clear ho hb)
      | (go_at_call 40; (with_reducible refine (A.greenscreenref15_All.calls 5000 r c (some ad) c2 cs cur _ _ (Kd.C_below HK.out HB1.out) hc2 HALL.out).mono ?_); rintro e w2 ⟨v2, rfl, hr2, hb2⟩; obtain ⟨A6, c6, rfl⟩ := Kd.R_slice hr2; have hb12 := below_step HB1.out hb2; have HB2 := Lib.hid hb12; have HR2 := Lib.hid (pw_own_below HR1.out hb2); have hxb := blk_below HX.out hb12; have xb0 := (blk_cell hxb 0).trans rfl; have xb1 := (blk_cell hxb 1).trans rfl; have xb2 := (blk_cell hxb 2).trans rfl; have xb3 := (blk_cell hxb 3).trans rfl; clear hxb; simp only [List.length_map]; clear hr2 hb2 hb12))
    have hsl : ((w2.alloc (.cells #[] 3)).heap.size) = w2.heap.size + 1 := World.size_alloc _ _
    have hb22 := below_alloc (Below.refl w2.heap.size w2) (.cells #[] 3)
    go_loopw [7, 8] (fun v7 v8 wr => ∃ k : Nat, k ≤ cs.length ∧ v8 = .int .i64 k ∧ wr.ownsRow w2.heap.size 3 1 v7 (rng k).length (nums .i64 (rng k)) ∧ Below w2.heap.size w2 wr) (fun _ v8 _ => cs.length - (intOf v8).toNat)
    case atStart => exact ⟨0, Nat.zero_le _, rfl, ⟨rfl, .inr ⟨_, 0, _, rfl, Nat.le_refl _, heap_alloc_new _ _, Nat.le_refl _, by decide, rfl, rfl⟩⟩, hb22⟩
    case round =>
      obtain ⟨k, hk, rfl, hr4, hb4⟩ := hrel
      have HR4 := Lib.hid hr4
      have HB4 := Lib.hid hb4
      have hb14 := below_step HB2.out hb4
      have hxx := blk_below HX.out hb14; have xx0 := (blk_cell hxx 0).trans rfl; have xx1 := (blk_cell hxx 1).trans rfl; have xx2 := (blk_cell hxx 2).trans rfl; have xx3 := (blk_cell hxx 3).trans rfl; clear hxx; 
      clear hr4 hb4 hb14
      by_cases hlt : k < cs.length
      · have HSU := Lib.hid (rng_succ k)
        have hrl := rng_len k
        obtain ⟨xs, hxs⟩ : ∃ xs, rng k = xs := ⟨_, rfl⟩
        rw [hxs] at HR4 HSU hrl
        clear hxs
        have HR5 := Lib.hid (pw_own_below HR4.out (below_alloc (Below.refl wr.heap.size wr) (.cells #[.int .i64 k] 3)))
        go_wp2_with (at_builtin; refine print_append_num (w0 := w2) w2.heap.size rfl (.tmp 28) (.tmp 30) 38 3 .i64 8 rfl Try.underlying38 info3' (by decide) _ xs (k : Int) rfl rfl HR4.out HB4.out HB4.out.size (by omega) ?_; intro v8 w8 hown8 hb8 hg8 hat8; have HB8 := Lib.hid hb8; have HR8 := Lib.hid hown8; clear hown8 hb8 hg8 hat8)
        go_roundw
        case rel => exact ⟨k + 1, by omega, by go_num, by rw [HSU.out]; exact HR8.out, HB8.out⟩
        case measure => simp [intOf]; omega
      · obtain rfl : k = cs.length := by omega
        obtain ⟨A7, c7, rfl, hc7, hrd7⟩ := own_reads_of_le (enc := Value.int .i64) (d := (0 : Int)) (xs := rng cs.length) HR4.out
        have HD7 := Lib.hid (readsInt_of.2 hrd7)
        have HRO := Lib.hid (pw_own_below HR2.out HB4.out)
        have HBO := Lib.hid (below_step HB2.out HB4.out)
        have hfl : ((rng cs.length).flatMap (cellOut cs)).length ≤ 10000 := by
          have := flat_le (cellOut cs) 2 (fun q => cellOut_le cs q) (rng cs.length)
          rw [rng_len] at this
          omega
        obtain ⟨fl, hfle⟩ : ∃ fl, (rng cs.length).flatMap (cellOut cs) = fl := ⟨_, rfl⟩
        have hfu := HFULL.out (rng cs.length) (by rw [rng_len]; exact h4) (rng_in _)
        rw [hfle] at hfl hfu HL
        have HFU := Lib.hid hfu
        clear hrd7 hfle hfu
        go_wp2_with (first
          | (go_at_call 41; (with_reducible refine (A.greenscreenref23_full.calls 5000 r c (some ad) c2 cs cur A7 c7 (rng cs.length) fl _ (Kd.C_below HK.out HBO.out) hc2 (C_ints64 HD7.out) hc7 HFU.out).mono ?_); rintro e w9 ⟨v9, rfl, hr9, hb9⟩; obtain ⟨A9, c9, rfl, hc9, hrd9⟩ := own_reads_of_le (enc := Value.int .u8) (d := (0 : Int)) (xs := fl) (Kd.own_of_R hr9); have HD9 := Lib.hid (readsInt_of.2 hrd9); have HB9 := Lib.hid (below_step HBO.out hb9); have HR9 := Lib.hid (pw_own_below HRO.out hb9); clear hb9 hr9 hrd9)
          | (at_builtin; refine print_append_row (w0 := W1) W1.heap.size rfl (.tmp 32) (.tmp 35) 35 5 .u8 1 rfl Try.underlying35 hinfo5 (by decide) _ (headL cur aid) fl A9 fl.length c9 rfl rfl HR9.out HD9.out HB9.out HB9.out.size (by simp only [headL, List.length_cons, List.length_nil]; omega) ?_; intro v10 w10 hown10 hb10 hg10 hat10; have HB10 := Lib.hid hb10; have HR10 := Lib.hid hown10; clear hown10 hb10 hg10 hat10))
        go_ret
        exact ⟨_, rfl, by rw [HL.out]; exact own_weaken HR10.out HBW.out.size, below_step HBW.out HB10.out⟩
  · have hL : allL cs cur aid = headL cur aid ++ (ys.take ys.length).flatMap (fldOut cs) := by
      unfold allL
      rw [HFORM.out, if_pos (by simp [hnil]), List.take_length]
      unfold fieldsL
      rw [HYS.out]
    have HL := Lib.hid hL
    have e0 : ((ys.length : Int) == 0) = false := beq_eq_false_iff_ne.2 (by omega)
    have hpos : 0 < (ys.map (fldR cs)).length := by rw [List.length_map]; omega
    have HPOS := Lib.hid hpos
    clear hL hnil hpos
    go_enter Try.func22, Try.ntmps22
    go_wp2_with (first
      | (go_at_call 39; (with_reducible refine (rhead_p h0 h1 h4 aid).mono ?_); rintro e w1 ⟨v1, rfl, ho, hb⟩; rw [← HW1.out] at ho hb; have HR1 := Lib.hid ho; have HB1 := Lib.hid hb; have hxa := blk_below HX.out hb; have xa0 := (blk_cell hxa 0).trans rfl; have xa1 := (blk_cell hxa 1).trans rfl; have xa2 := (blk_cell hxa 2).trans rfl; have xa3 := (blk_cell hxa 3).trans rfl; clear hxa; clear ho hb)
      | (go_at_call 40; (with_reducible refine (A.greenscreenref15_All.calls 5000 r c (some ad) c2 cs cur _ _ (Kd.C_below HK.out HB1.out) hc2 HALL.out).mono ?_); rintro e w2 ⟨v2, rfl, hr2, hb2⟩; obtain ⟨g6, c6, cc6, rfl, hg6, hC6⟩ := row73 hr2 HPOS.out; have hb12 := below_step HB1.out hb2; have HB2 := Lib.hid hb12; have HR2 := Lib.hid (pw_own_below HR1.out hb2); have HG6 := Lib.hid hg6; have HC6 := Lib.hid hC6; have hxb := blk_below HX.out hb12; have xb0 := (blk_cell hxb 0).trans rfl; have xb1 := (blk_cell hxb 1).trans rfl; have xb2 := (blk_cell hxb 2).trans rfl; have xb3 := (blk_cell hxb 3).trans rfl; clear hxb; simp only [List.length_map]; clear hr2 hb2 hb12 hg6 hC6))
    rw [List.length_map] at HC6
    go_loopw [5, 9] (fun v5 v9 wr => ∃ k : Nat, k ≤ ys.length ∧ v9 = .int .i64 k ∧ wr.ownsRow W1.heap.size 5 1 v5 (headL cur aid ++ (ys.take k).flatMap (fldOut cs)).length (nu (headL cur aid ++ (ys.take k).flatMap (fldOut cs))) ∧ wr.heap[g6]? = some (.cells cc6 73 (0, 0)) ∧ Below W1.heap.size W1 wr) (fun _ v9 _ => ys.length - (intOf v9).toNat)
    case atStart => exact ⟨0, Nat.zero_le _, rfl, by rw [List.take_zero, List.flatMap_nil, List.append_nil]; exact HR2.out, HG6.out, HB2.out⟩
    case round =>
      clear HR1 HB1 HR2 HB2 HG6
      obtain ⟨k, hk, rfl, hr4, hg4, hb4⟩ := hrel
      have HR4 := Lib.hid hr4
      have HB4 := Lib.hid hb4
      have HG4 := Lib.hid hg4
      have hxx := blk_below HX.out hb4; have xx0 := (blk_cell hxx 0).trans rfl; have xx1 := (blk_cell hxx 1).trans rfl; have xx2 := (blk_cell hxx 2).trans rfl; have xx3 := (blk_cell hxx 3).trans rfl; clear hxx; 
      clear hr4 hb4 hg4
      by_cases hlt : k < ys.length
      · obtain ⟨ad6, had, d0, d1, d2⟩ := A.at_T73 (HC6.out _ HG4.out) (k : Int) (by omega) (by omega)
        obtain rfl : ⟨g6, 0, none⟩ = ad6 := by injection had
        rw [rd73 cs ys k hlt] at d0 d1 d2
        simp only [addr_mk, Int.toNat_natCast, fldR] at d0 d1 d2
        obtain ⟨j, hj⟩ : ∃ j, k * 3 = j := ⟨_, rfl⟩
        have ha : (⟨g6, 0, none⟩ : Addr).add (k * 3) = ⟨g6, j, none⟩ := by rw [addr_mk, hj]
        rw [hj] at d0 d1 d2
        obtain ⟨xb0, xb1, _⟩ := starts_mem.1 (by rw [HYS.out]; exact rd_in hlt : rd ys (k : Int) ∈ startsTo cs cs.length)
        obtain ⟨wb0, wb1⟩ := HWF.out (rd ys (k : Int))
        have hap : (ys.take (k + 1)).flatMap (fldOut cs) = (ys.take k).flatMap (fldOut cs) ++ fldOut cs (rd ys (k : Int)) := by
          have e : ys.take (k + 1) = ys.take k ++ [rd ys (k : Int)] := by
            rw [List.take_add_one]
            simp [rd, List.getD, List.getElem?_eq_getElem hlt]
          rw [e, List.flatMap_append]
          simp
        have hall : (headL cur aid ++ (ys.take k).flatMap (fldOut cs)).length ≤ 40000000 := by
          have h1 := flat_le (fldOut cs) 8195 (fun x => fldOut_le cs x (by omega)) (ys.take k)
          have h2 : (ys.take k).length ≤ 4096 := by rw [List.length_take]; omega
          simp only [headL, List.length_append, List.length_cons, List.length_nil]
          omega
        obtain ⟨x, hx⟩ : ∃ x, rd ys (k : Int) = x := ⟨_, rfl⟩
        rw [hx] at d0 d1 d2 xb0 xb1 wb0 wb1 hap
        have hfo : fldOut cs x = if modB (fldAttr cs x) = true then [17, dig ((x + 1) % cs.length / 64), dig ((x + 1) % cs.length)] ++ (placesTo cs x (fldMany cs (fldLen cs x))).flatMap (cellOut cs) else [] := rfl
        have hfa : fldAttr cs x = (A.rd_T34 cs x).f0 % 64 := Go.u8_and63 _ wb0 wb1
        obtain ⟨q, hq⟩ : ∃ q, (A.rd_T34 cs x).f0 % 64 = q := ⟨_, rfl⟩
        have hq0 : 0 ≤ q ∧ q < 64 := by omega
        rw [hq] at d2 hfa
        rw [hfa] at hfo
        have hbit := ref_bit q hq0.1 hq0.2
        have hpl := HPLC.out x xb0 xb1 (fldLen cs x) q
        obtain ⟨ln, hln⟩ : ∃ ln, fldLen cs x = ln := ⟨_, rfl⟩
        rw [hln] at d1 hfo hpl
        have hpm := fldMany_le cs ln
        obtain ⟨pl, hple⟩ : ∃ pl, placesTo cs x (fldMany cs ln) = pl := ⟨_, rfl⟩
        have hpn : pl.length ≤ 4096 := by rw [← hple, placesTo_len]; omega
        have hpi : ∀ z ∈ pl, 0 ≤ z ∧ z < cs.length := by
          rw [← hple]
          intro z hz
          obtain ⟨i, hi, rfl⟩ := List.mem_map.1 hz
          exact ⟨Int.emod_nonneg _ (by omega), Int.emod_lt_of_pos _ (by omega)⟩
        rw [hple] at hfo hpl
        have hfu := HFULL.out pl hpn hpi
        have hfl : (pl.flatMap (cellOut cs)).length ≤ 10000 := by
          have := flat_le (cellOut cs) 2 (fun q => cellOut_le cs q) pl
          omega
        obtain ⟨fl, hfle⟩ : ∃ fl, pl.flatMap (cellOut cs) = fl := ⟨_, rfl⟩
        rw [hfle] at hfo hfu hfl
        obtain ⟨acc, hacc⟩ : ∃ acc, headL cur aid ++ (ys.take k).flatMap (fldOut cs) = acc := ⟨_, rfl⟩
        rw [hacc] at HR4 hall
        obtain ⟨y, hy⟩ : ∃ y, (x + 1) % cs.length = y := ⟨_, rfl⟩
        have hy0 : 0 ≤ y := by rw [← hy]; exact Int.emod_nonneg _ (by omega)
        have hy1 : y < cs.length := by rw [← hy]; exact Int.emod_lt_of_pos _ (by omega)
        rw [hy] at hfo
        obtain ⟨md, hmd⟩ : ∃ md, modB q = md := ⟨_, rfl⟩
        rw [hmd] at hbit hfo
        have HACC : Hid (headL cur aid ++ (ys.take (k + 1)).flatMap (fldOut cs) = acc ++ (if md = true then [17, dig (y / 64), dig y] ++ fl else [])) := Lib.hid (by rw [hap, ← List.append_assoc, hacc, hfo])
        have e1 : wrap64 (x + 1) = x + 1 := wrap_of (by omega) (by omega)
        have e2 : Int.tmod (x + 1) cs.length = y := by rw [Int.tmod_eq_emod_of_nonneg (by omega), hy]
        have e3 : wrap64 y = y := wrap_of (by omega) (by omega)
        have e1' : IntKind.i64.wrap (x + 1) = x + 1 := by rw [i64_w]; exact e1
        have e3' : IntKind.i64.wrap y = y := by rw [i64_w]; exact e3
        have hnz : ¬ (cs.length : Int) = 0 := by omega
        have hnz2 : ¬ cs.length = 0 := by omega
        have HBIT := Lib.hid hbit
        have HPL := Lib.hid hpl
        have HFU := Lib.hid hfu
        have HLE := Lib.hid (And.intro hall (And.intro hfl (And.intro hpn (And.intro hy0 hy1))))
        clear hap hall hfo hfa hq hbit hpl hln hpm hple hpi hfu hfl hfle hacc hy hmd had wb0 wb1 hpn hx hy0 hy1
        cases md
        · go_wp2_with (go_at_call 42; (with_reducible refine (A.greenscreenref11_Bit.calls q 1 _ _ HBIT.out).mono ?_); rintro e w5 ⟨rfl, hd⟩; obtain ⟨m5, rfl⟩ := hd.out; have HB5 := Lib.hid (pw_below_drewN HB4.out m5); have HR5 := Lib.hid (pw_own_below HR4.out (pw_below_drewN (Below.refl _ wr) m5)); have HG5 := Lib.hid (blk_drewN HG4.out m5))
          go_roundw
          case rel => exact ⟨k + 1, by omega, by go_num, by rw [HACC.out, if_neg Bool.false_ne_true, List.append_nil]; exact HR5.out, HG5.out, HB5.out⟩
          case measure => simp [intOf]; omega
        · go_upto_region 14 with (go_at_call 42; (with_reducible refine (A.greenscreenref11_Bit.calls q 1 _ _ HBIT.out).mono ?_); rintro e w5 ⟨rfl, hd⟩; obtain ⟨m5, rfl⟩ := hd.out; have HB5 := Lib.hid (pw_below_drewN HB4.out (m5 + 1)); have HR5 := Lib.hid (pw_own_below HR4.out (pw_below_drewN (Below.refl _ wr) (m5 + 1))); have HG5 := Lib.hid (blk_drewN HG4.out (m5 + 1)))
          go_cut [10] (fun v10 wx => ∃ b, v10 = .pointer (some ⟨b, 0, none⟩) ∧ wx.heap[b]? = some (.cells #[.int .u8 (dig (y / 64)), .int .u8 (dig y)] 74 (0, 0)) ∧ Below wr.heap.size (wr.drewN (m5 + 1)) wx)
          case first =>
            have HS5 : Hid ((wr.drewN (m5 + 1)).cell? ⟨g6, j, none⟩ = some (.int .i64 x) ∧ (wr.drewN (m5 + 1)).cell? ⟨w.heap.size, 2, none⟩ = some (.slice (some ad) cs.length c2)) := Lib.hid ⟨d0, xx2⟩
            have HZ : Hid (((wr.drewN (m5 + 1)).alloc (.cells #[.int .u8 0, .int .u8 0] 74)).heap[wr.heap.size]? = some (.cells #[.int .u8 0, .int .u8 0] 74 (0, 0))) := Lib.hid (heap_alloc_new (wr.drewN (m5 + 1)) (.cells #[.int .u8 0, .int .u8 0] 74))
            have HBZ := Lib.hid (below_alloc (Below.refl (wr.drewN (m5 + 1)).heap.size (wr.drewN (m5 + 1))) (.cells #[.int .u8 0, .int .u8 0] 74))
            have HSZ := Lib.hid (And.intro (pw_cell_below HBZ.out HS5.out.1) (pw_cell_below HBZ.out HS5.out.2))
            have HSD : Hid ((wr.drewN m5).drew.cell? ⟨g6, j, none⟩ = some (.int .i64 x) ∧ (wr.drewN m5).drew.cell? ⟨w.heap.size, 2, none⟩ = some (.slice (some ad) cs.length c2)) := Lib.hid ⟨d0, xx2⟩
            have HS6 := HS5
            have HS7 := HS5
            have HS8 := HS5
            go_region_held3 (fun w' => w'.cell? ⟨g6, j, none⟩ = some (.int .i64 x) ∧ w'.cell? ⟨w.heap.size, 2, none⟩ = some (.slice (some ad) cs.length c2)) (with_reducible first | exact HSD.out | exact HS5.out | exact HSZ.out | exact HS6.out | exact HS7.out | exact HS8.out) (first
              | (go_at_call 43; (with_reducible refine (rencode_p y cs.length (wr.drewN (m5 + 1)) HLE.out.2.2.2.1 HLE.out.2.2.2.2 (by omega)).mono ?_); rintro e w6 ⟨rfl, hb6⟩; have HS6 := Lib.hid (And.intro (pw_cell_below hb6 HS5.out.1) (pw_cell_below hb6 HS5.out.2)); have HB6 := Lib.hid hb6; have HBA := Lib.hid (below_step hb6 (below_alloc (Below.refl w6.heap.size w6) (.cells #[.int .u8 0, .int .u8 0] 74))); have HS7 := Lib.hid (And.intro (pw_cell_below HBA.out HS5.out.1) (pw_cell_below HBA.out HS5.out.2)); have HBF := Lib.hid (below_step hb6 (below_alloc (Below.refl w6.heap.size w6) (.cells #[.int .u8 (dig (y / 64)), .int .u8 (dig y)] 74))); have HS8 := Lib.hid (And.intro (pw_cell_below HBF.out HS5.out.1) (pw_cell_below HBF.out HS5.out.2)); clear hb6)
              | (go_at_call 43; (with_reducible refine (rencode_p y cs.length ((wr.drewN (m5 + 1)).alloc (.cells #[.int .u8 0, .int .u8 0] 74)) HLE.out.2.2.2.1 HLE.out.2.2.2.2 (by omega)).mono ?_); rintro e w6 ⟨rfl, hb6⟩; have HS6 := Lib.hid (And.intro (pw_cell_below hb6 HSZ.out.1) (pw_cell_below hb6 HSZ.out.2)); have HB6 := Lib.hid (below_step HBZ.out hb6); have HZ6 := Lib.hid (blk_below HZ.out hb6); have z0 := (blk_cell HZ6.out 0).trans rfl; have z1 := (blk_cell HZ6.out 1).trans rfl; have fz0 := blk_frozen HZ6.out 0; have fz1 := blk_frozen HZ6.out 1; have HS7 := HS6; have HBF := Lib.hid (Below.setCell (Below.setCell HB6.out (p := ⟨wr.heap.size, 0, none⟩) (Nat.le_refl _) (.int .u8 (dig (y / 64)))) (p := ⟨wr.heap.size, 1, none⟩) (Nat.le_refl _) (.int .u8 (dig y))); have HS8 := Lib.hid (And.intro (pw_cell_below HBF.out HS5.out.1) (pw_cell_below HBF.out HS5.out.2)); clear hb6))
            · go_wp2
              go_meet
              case rel => exact ⟨_, rfl, heap_alloc_new _ _, HBF.out⟩
            · have s1 := blk_set (blk_set HZ6.out 0 (.int .u8 (dig (y / 64)))) 1 (.int .u8 (dig y))
              simp only [List.setIfInBounds_toArray, List.set_cons_zero, List.set_cons_succ] at s1
              go_wp2
              go_meet
              case rel => exact ⟨_, rfl, s1, HBF.out⟩
          case rest =>
            obtain ⟨b, rfl, hb, hbw⟩ := hcut
            have hbw2 : Below (wr.drewN (m5 + 1)).heap.size (wr.drewN (m5 + 1)) wc := hbw
            have HBc := Lib.hid (below_step HB5.out hbw2)
            have HRc := Lib.hid (pw_own_below HR5.out hbw2)
            have HGc := Lib.hid (blk_below HG5.out hbw2)
            have HCC := Lib.hid (And.intro ((blk_cell HG4.out j).symm.trans d0) (And.intro ((blk_cell HG4.out (j + 1)).symm.trans d1) ((blk_cell HG4.out (j + 2)).symm.trans d2)))
            have b0 := (blk_cell hb 0).trans rfl
            have b1 := (blk_cell hb 1).trans rfl
            have HL15 := Lib.hid (heap_alloc_new wc (.cells #[.int .u8 17, .int .u8 (dig (y / 64)), .int .u8 (dig y)] 5))
            have HB15 := Lib.hid (below_step HBc.out (below_alloc (Below.refl wc.heap.size wc) (.cells #[.int .u8 17, .int .u8 (dig (y / 64)), .int .u8 (dig y)] 5)))
            have HR15 := Lib.hid (pw_own_below HRc.out (below_alloc (Below.refl wc.heap.size wc) (.cells #[.int .u8 17, .int .u8 (dig (y / 64)), .int .u8 (dig y)] 5)))
            have HG15 := Lib.hid (blk_alloc HGc.out (.cells #[.int .u8 17, .int .u8 (dig (y / 64)), .int .u8 (dig y)] 5))
            clear hb hbw hbw2 d0 d1 d2 xx0 xx1 xx2 xx3
            go_wp2_with (at_builtin; refine print_append_row (w0 := W1) W1.heap.size rfl (.tmp 66) (.tmp 71) 35 5 .u8 1 rfl Try.underlying35 hinfo5 (by decide) _ acc [17, dig (y / 64), dig y] (some ⟨wc.heap.size, 0, none⟩) 3 3 rfl rfl HR15.out (reads_three HL15.out) HB15.out HB15.out.size (by have := HLE.out; omega) ?_; intro v8 w8 hown8 hb8 hg8 hat8; have HB8 := Lib.hid hb8; have HR8 := Lib.hid hown8; have HG8 := Lib.hid (blk_grown HG15.out hg8 (ne_73 HG15.out HR15.out)); clear hown8 hb8 hg8 hat8)
            have HBD := Lib.hid (below_drew HB8.out)
            have HRD := Lib.hid (pw_own_below HR8.out (below_drew (Below.refl _ w8)))
            have HGD := Lib.hid (blk_drew HG8.out)
            refine start_ (n := 11) (S := fun w' => w'.cell? ⟨w.heap.size, 0, none⟩ = some (.int .i64 r) ∧ w'.cell? ⟨w.heap.size, 1, none⟩ = some (.int .i64 c) ∧ w'.cell? ⟨w.heap.size, 2, none⟩ = some (.slice (some ad) cs.length c2) ∧ w'.cell? ⟨w.heap.size, 3, none⟩ = some (.int .i64 cur) ∧ w'.cell? ⟨g6, j, none⟩ = some (.int .i64 x) ∧ w'.cell? ⟨g6, j + 1, none⟩ = some (.int .i64 ln) ∧ w'.cell? ⟨g6, j + 2, none⟩ = some (.int .u8 q)) (ds := []) #[false, false, false, false, false, false, false, false, false, false, false] (by kernel_rfl) rfl rfl ⟨(blk_cell (blk_below HX.out HBD.out) 0).trans rfl, (blk_cell (blk_below HX.out HBD.out) 1).trans rfl, (blk_cell (blk_below HX.out HBD.out) 2).trans rfl, (blk_cell (blk_below HX.out HBD.out) 3).trans rfl, (blk_cell HGD.out j).trans HCC.out.1, (blk_cell HGD.out (j + 1)).trans HCC.out.2.1, (blk_cell HGD.out (j + 2)).trans HCC.out.2.2⟩ (fun hHeld => ?_)
            obtain ⟨W16, hW16⟩ : ∃ W16, W16 = w8.drew := ⟨_, rfl⟩
            rw [← hW16] at HBD HRD HGD hHeld ⊢
            clear hW16
            refine pure_ (i := 0) (N := some 73) (v := ?_) (a' := ?_) #[true, false, false, false, false, false, false, false, false, false, false] rfl rfl (by kernel_rfl) (fun _ _ _ h => h) (Or.inl ⟨by rfl, ?_⟩) ?_ ?_
            rotate_left
            · intro w'
              go_simp
              with_reducible rfl
            rotate_left
            · simp only [Act.put, List.setIfInBounds_toArray, List.set_cons_zero, List.set_cons_succ, i64_w, i32_w]
              try rfl
            refine take_ (i := 1) (N := some 74) (v := ?_) (a' := ?_) #[true, true, false, false, false, false, false, false, false, false, false] rfl rfl (by kernel_rfl) (fun _ _ _ h => h) (Or.inl ⟨by rfl, ?_⟩) hHeld ?_ ?_
            rotate_left
            · rintro w' ⟨s0, s1, s2, s3, s4, s5, s6⟩
              go_simp
              with_reducible rfl
            rotate_left
            · simp only [Act.put, List.setIfInBounds_toArray, List.set_cons_zero, List.set_cons_succ, i64_w, i32_w]
              try rfl
            refine take_ (i := 2) (N := some 75) (v := ?_) (a' := ?_) #[true, true, true, false, false, false, false, false, false, false, false] rfl rfl (by kernel_rfl) (fun _ _ _ h => h) (Or.inl ⟨by rfl, ?_⟩) hHeld ?_ ?_
            rotate_left
            · rintro w' ⟨s0, s1, s2, s3, s4, s5, s6⟩
              go_simp
              with_reducible rfl
            rotate_left
            · simp only [Act.put, List.setIfInBounds_toArray, List.set_cons_zero, List.set_cons_succ, i64_w, i32_w]
              try rfl
            refine pure_ (i := 3) (N := some 76) (v := ?_) (a' := ?_) #[true, true, true, true, false, false, false, false, false, false, false] rfl rfl (by kernel_rfl) (fun _ _ _ h => h) (Or.inl ⟨by rfl, ?_⟩) ?_ ?_
            rotate_left
            · intro w'
              go_simp
              with_reducible rfl
            rotate_left
            · simp only [Act.put, List.setIfInBounds_toArray, List.set_cons_zero, List.set_cons_succ, i64_w, i32_w]
              try rfl
            refine pure_ (i := 4) (N := some 77) (v := ?_) (a' := ?_) #[true, true, true, true, true, false, false, false, false, false, false] rfl rfl (by kernel_rfl) (fun _ _ _ h => h) (Or.inl ⟨by rfl, ?_⟩) ?_ ?_
            rotate_left
            · intro w'
              go_simp
              with_reducible rfl
            rotate_left
            · simp only [Act.put, List.setIfInBounds_toArray, List.set_cons_zero, List.set_cons_succ, i64_w, i32_w]
              try rfl
            refine pure_ (i := 5) (N := some 78) (v := ?_) (a' := ?_) #[true, true, true, true, true, true, false, false, false, false, false] rfl rfl (by kernel_rfl) (fun _ _ _ h => h) (Or.inl ⟨by rfl, ?_⟩) ?_ ?_
            rotate_left
            · intro w'
              go_simp
              with_reducible rfl
            rotate_left
            · simp only [Act.put, List.setIfInBounds_toArray, List.set_cons_zero, List.set_cons_succ, i64_w, i32_w]
              try rfl
            refine take_ (i := 6) (N := some 79) (v := ?_) (a' := ?_) #[true, true, true, true, true, true, true, false, false, false, false] rfl rfl (by kernel_rfl) (fun _ _ _ h => h) (Or.inl ⟨by rfl, ?_⟩) hHeld ?_ ?_
            rotate_left
            · rintro w' ⟨s0, s1, s2, s3, s4, s5, s6⟩
              go_simp
              with_reducible rfl
            rotate_left
            · simp only [Act.put, List.setIfInBounds_toArray, List.set_cons_zero, List.set_cons_succ, i64_w, i32_w]
              try rfl
            refine one_ (i := 7) (N := some 80) #[true, true, true, true, true, true, true, true, false, false, false] rfl rfl (by kernel_rfl) (by decide) (fun K hK => ?_)
            refine goes_ Try.func44 (by kernel_rfl) rfl #[.agg #[.int .i64 r, .int .i64 c, .slice (some ad) cs.length c2, .int .i64 cur], .agg #[.int .i64 x, .int .i64 ln, .int .u8 q]] (by rfl) rfl rfl (by (try simp only [List.map_toArray, List.map_cons, List.map_nil]); first | done | rfl) ?_
            refine (A.greenscreenref15_Places.calls 5000 r c (some ad) c2 cs cur x ln q pl _ (Kd.C_below HK.out HBD.out) hc2 HPL.out).mono ?_
            rintro e w9 ⟨v9, rfl, hr9, hb9⟩
            obtain ⟨A9, c9, rfl, hc9, hrd9⟩ := own_reads_of_le (enc := Value.int .i64) (d := (0 : Int)) (xs := pl) (Kd.own_of_R hr9)
            have HD9 := Lib.hid (readsInt_of.2 hrd9)
            have HB9 := Lib.hid (below_step HBD.out hb9)
            have HR9 := Lib.hid (pw_own_below HRD.out hb9)
            have HG9 := Lib.hid (blk_below HGD.out hb9)
            clear hb9 hr9 hrd9
            refine ⟨_, rfl, ?_⟩
            refine hK.out _ _ ⟨(blk_cell (blk_below HX.out HB9.out) 0).trans rfl, (blk_cell (blk_below HX.out HB9.out) 1).trans rfl, (blk_cell (blk_below HX.out HB9.out) 2).trans rfl, (blk_cell (blk_below HX.out HB9.out) 3).trans rfl, (blk_cell HG9.out j).trans HCC.out.1, (blk_cell HG9.out (j + 1)).trans HCC.out.2.1, (blk_cell HG9.out (j + 2)).trans HCC.out.2.2⟩ (fun hHeld => ?_)
            clear hK K
            refine norm_ (a' := ?_) ?_ ?_
            rotate_left
            · show Act.put _ (some 80) _ = _
              simp only [Act.put, List.setIfInBounds_toArray, List.set_cons_zero, List.set_cons_succ, i64_w, i32_w]
              try rfl
            refine one_ (i := 8) (N := some 81) #[true, true, true, true, true, true, true, true, true, false, false] rfl rfl (by kernel_rfl) (by decide) (fun K hK => ?_)
            refine goes_ Try.func41 (by kernel_rfl) rfl #[.agg #[.int .i64 r, .int .i64 c, .slice (some ad) cs.length c2, .int .i64 cur], .slice A9 pl.length c9] (by rfl) rfl rfl (by (try simp only [List.map_toArray, List.map_cons, List.map_nil]); first | done | rfl) ?_
            refine (A.greenscreenref23_full.calls 5000 r c (some ad) c2 cs cur A9 c9 pl fl _ (Kd.C_below HK.out HB9.out) hc2 (C_ints64 HD9.out) hc9 HFU.out).mono ?_
            rintro e w10 ⟨v10, rfl, hr10, hb10⟩
            obtain ⟨A10, c10, rfl, hc10, hrd10⟩ := own_reads_of_le (enc := Value.int .u8) (d := (0 : Int)) (xs := fl) (Kd.own_of_R hr10)
            have HD10 := Lib.hid (readsInt_of.2 hrd10)
            have HB10 := Lib.hid (below_step HB9.out hb10)
            have HR10 := Lib.hid (pw_own_below HR9.out hb10)
            have HG10 := Lib.hid (blk_below HG9.out hb10)
            clear hb10 hr10 hrd10
            refine ⟨_, rfl, ?_⟩
            refine hK.out _ _ ⟨(blk_cell (blk_below HX.out HB10.out) 0).trans rfl, (blk_cell (blk_below HX.out HB10.out) 1).trans rfl, (blk_cell (blk_below HX.out HB10.out) 2).trans rfl, (blk_cell (blk_below HX.out HB10.out) 3).trans rfl, (blk_cell HG10.out j).trans HCC.out.1, (blk_cell HG10.out (j + 1)).trans HCC.out.2.1, (blk_cell HG10.out (j + 2)).trans HCC.out.2.2⟩ (fun hHeld => ?_)
            clear hK K
            refine norm_ (a' := ?_) ?_ ?_
            rotate_left
            · show Act.put _ (some 81) _ = _
              simp only [Act.put, List.setIfInBounds_toArray, List.set_cons_zero, List.set_cons_succ, i64_w, i32_w]
              try rfl
            refine one_ (i := 9) (N := some 82) #[true, true, true, true, true, true, true, true, true, true, false] rfl rfl (by kernel_rfl) (by decide) (fun K hK => ?_)
            refine step_append_row (w0 := W1) (by rfl) W1.heap.size (.tmp 73) (.tmp 81) 35 5 .u8 1 rfl Try.underlying35 hinfo5 (by decide) v8 (acc ++ [17, dig (y / 64), dig y]) fl A10 fl.length c10 rfl rfl HR10.out HD10.out HB10.out HB10.out.size (by have := HLE.out; simp only [List.length_append, List.length_cons, List.length_nil]; omega) (fun v11 w11 hown11 hb11 hg11 hat11 => ?_)
            have HB11 := Lib.hid hb11
            have HR11 := Lib.hid hown11
            have HG11 := Lib.hid (blk_grown HG10.out hg11 (ne_73 HG10.out HR10.out))
            clear hown11 hb11 hg11 hat11
            refine hK.out _ _ ⟨(blk_cell (blk_below HX.out HB11.out) 0).trans rfl, (blk_cell (blk_below HX.out HB11.out) 1).trans rfl, (blk_cell (blk_below HX.out HB11.out) 2).trans rfl, (blk_cell (blk_below HX.out HB11.out) 3).trans rfl, (blk_cell HG11.out j).trans HCC.out.1, (blk_cell HG11.out (j + 1)).trans HCC.out.2.1, (blk_cell HG11.out (j + 2)).trans HCC.out.2.2⟩ (fun hHeld => ?_)
            clear hK K
            refine norm_ (a' := ?_) ?_ ?_
            rotate_left
            · show Act.put _ (some 82) _ = _
              simp only [Act.put, List.setIfInBounds_toArray, List.set_cons_zero, List.set_cons_succ, i64_w, i32_w]
              try rfl
            refine pure_ (i := 10) (N := some 5) (v := ?_) (a' := ?_) #[true, true, true, true, true, true, true, true, true, true, true] rfl rfl (by kernel_rfl) (fun _ _ _ h => h) (Or.inl ⟨by rfl, ?_⟩) ?_ ?_
            rotate_left
            · intro w'
              go_simp
              with_reducible rfl
            rotate_left
            · simp only [Act.put, List.setIfInBounds_toArray, List.set_cons_zero, List.set_cons_succ, i64_w, i32_w]
              try rfl
            refine done_ (by kernel_rfl) ?_
            go_wp2
            go_roundw
            case rel => exact ⟨k + 1, by omega, by go_num, by rw [HACC.out, if_pos trivial, ← List.append_assoc]; exact HR11.out, HG11.out, HB11.out⟩
            case measure => simp [intOf]; omega
      · obtain rfl : k = ys.length := by omega
        go_wp2
        go_ret
        exact ⟨_, rfl, by rw [HL.out]; exact own_weaken HR4.out HBW.out.size, below_step HBW.out HB4.out⟩
end
end Go.Proofs.Ytnifkdcjphekpaa.H
