/- query.Parse: the walk. -/
import Derived.Test.YtpdihhfeekoplaaParseF
namespace Go.Proofs.Ytpdihhfeekoplaa.P
open Go.RowKit Go.Proofs.YtpdihhfeekoplaaW.PrintWords Go.Proofs.YtpdihhfeekoplaaW.PrintLast Go.Proofs.YtpdihhfeekoplaaW.PrintMore
open Go.Proofs.Ytpdihhfeekoplaa.A
set_option linter.unusedVariables false
set_option linter.unusedSimpArgs false
attribute [local go_sem] max2_int min2_int max_two min_two max_three min_three max_four min_four

def ParseGives (w : World) (r : Int × Int × Int × Int × List Int × List Int × Int) (e : Ending) (w' : World) : Prop :=
  ∃ v4_ v5_ : Value, e = .returned (.tuple #[.agg #[.int .i64 r.1, .int .i64 r.2.1, .int .i64 r.2.2.1, .int .i64 r.2.2.2.1, v4_, v5_], .int .i64 r.2.2.2.2.2.2]) ∧ Kd.R (Kd.int .u8) 5 w' w.heap.size (fun k_ => some k_ ≠ (v5_ : Value).ownBlock) v4_ r.2.2.2.2.1 ∧ Kd.R (Kd.int .u8) 5 w' w.heap.size (fun k_ => some k_ ≠ (v4_ : Value).ownBlock) v5_ r.2.2.2.2.2.1 ∧ Below w.heap.size w w'

theorem blk_put6 {w : World} {g : Nat} {a0 a1 a2 a3 a4 a5 v0 v1 v2 v3 v4 v5 : Value} (h : w.heap[g]? = some (.cells #[a0, a1, a2, a3, a4, a5] 26 (0, 0))) : ((((((w.setCell ⟨g, 0, none⟩ v0).setCell ⟨g, 1, none⟩ v1).setCell ⟨g, 2, none⟩ v2).setCell ⟨g, 3, none⟩ v3).setCell ⟨g, 4, none⟩ v4).setCell ⟨g, 5, none⟩ v5).heap[g]? = some (.cells #[v0, v1, v2, v3, v4, v5] 26 (0, 0)) :=
  blk_put (cs := #[v0, v1, v2, v3, v4, a5]) (blk_put (cs := #[v0, v1, v2, v3, a4, a5]) (blk_put (cs := #[v0, v1, v2, a3, a4, a5]) (blk_put (cs := #[v0, v1, a2, a3, a4, a5]) (blk_put (cs := #[v0, a1, a2, a3, a4, a5]) (blk_put (cs := #[a0, a1, a2, a3, a4, a5]) h 0 _ rfl) 1 _ rfl) 2 _ rfl) 3 _ rfl) 4 _ rfl) 5 _ rfl
theorem far_put6 {w : World} {g base : Nat} {ok : Nat → Prop} {v : Value} {xs : List Int} (v0 v1 v2 v3 v4 v5 : Value) (h : (Kd.int .u8).R 5 w base ok v xs) (hok : ∀ k, ok k → k ≠ g) : (Kd.int .u8).R 5 ((((((w.setCell ⟨g, 0, none⟩ v0).setCell ⟨g, 1, none⟩ v1).setCell ⟨g, 2, none⟩ v2).setCell ⟨g, 3, none⟩ v3).setCell ⟨g, 4, none⟩ v4).setCell ⟨g, 5, none⟩ v5) base ok v xs :=
  Kd.R_far (Kd.R_far (Kd.R_far (Kd.R_far (Kd.R_far (Kd.R_far h hok _) hok _) hok _) hok _) hok _) hok _
theorem below_put6 {w0 w : World} {g : Nat} (v0 v1 v2 v3 v4 v5 : Value) (h : Below w0.heap.size w0 w) (hg : w0.heap.size ≤ g) : Below w0.heap.size w0 ((((((w.setCell ⟨g, 0, none⟩ v0).setCell ⟨g, 1, none⟩ v1).setCell ⟨g, 2, none⟩ v2).setCell ⟨g, 3, none⟩ v3).setCell ⟨g, 4, none⟩ v4).setCell ⟨g, 5, none⟩ v5) := by
  exact below_set (below_set (below_set (below_set (below_set (below_set h hg) hg) hg) hg) hg) hg

theorem Turned.upon {w0 w w' : World} {g : Nat} (ht : Turned w w' g) (h : Below w0.heap.size w0 w) (hg : w0.heap.size ≤ g) : Below w0.heap.size w0 w' :=
  ⟨ht.os.trans h.os, ht.tape.trans h.tape, ht.output.trans h.output, Nat.le_trans h.size ht.keep.1, fun k hk => (ht.keep.2 k (Nat.lt_of_lt_of_le hk h.size) (by omega) (by simp)).trans (h.block k hk)⟩
theorem Turned.at {w w' : World} {g g2 : Nat} {o : Obj} (ht : Turned w w' g) (h : w.heap[g2]? = some o) (hne : g2 ≠ g) : w'.heap[g2]? = some o :=
  (ht.keep.2 g2 (blk_lt h) hne (by simp)).trans h

set_option maxHeartbeats 2000000 in
set_option maxRecDepth 100000 in
theorem parse_empty (A : Option Addr) (c : Nat) (w : World) : Calls Try.prog 11 #[.slice A 0 c] w (ParseGives w (none_f 20)) := by
  have hu26 := Try.underlying26
  go_enter Try.func11, Try.ntmps11
  go_wp2
  refine bodyPost_ret (results_ct rfl _ _ w.heap.size 26 #[.int .i64 0, .int .i64 0, .int .i64 0, .int .i64 0, .slice none 0 0, .slice none 0 0] (0, 0) _ rfl (blk_new _ _) Try.underlying26 rfl (by kernel_rfl)) rfl ?_
  exact ⟨_, _, rfl, Kd.R_nil _ _ _ _ _, Kd.R_nil _ _ _ _ _, below_alloc (Below.refl _ _) _⟩

set_option maxHeartbeats 2000000 in
set_option maxRecDepth 100000 in
theorem parse_calls (A : Option Addr) (c : Nat) (l : List Int) (w : World) (r : Int × Int × Int × Int × List Int × List Int × Int) (hC : Kd.C (Kd.int .u8) w A l.length l) (hc : l.length ≤ c) (h : parse_f l = some r) : Calls Try.prog 11 #[.slice A l.length c] w (ParseGives w r) := by
  have hu26 := Try.underlying26
  unfold parse_f at h
  split at h
  · rename_i hl
    obtain rfl := Option.some.inj h
    rw [hl]
    exact parse_empty A c w
  rename_i hl
  have hlp : 0 < l.length := by omega
  have hr := readsInt_of.2 (Kd.reads_of_C (d := (0 : Int)) hC)
  have HC := Aside0.mk (fun (w1 : World) (hb1 : Below w.heap.size w w1) => (Kd.C_of_reads (readsInt_of.1 (hr.below hb1)) : Kd.C (Kd.int .u8) w1 A l.length l))
  obtain ⟨ad, rfl, _⟩ := hr.2.2 hlp
  have HV := Aside0.mk (Kd.V_mk (e := 5) (base := w.heap.size) hc (Kd.C_F (Kd.heap_int .u8) hC))
  clear hr hC
  have HB := Aside0.mk (Below.refl w.heap.size w)
  have H := Aside0.mk h
  clear h
  have b0 : decide (0 < l.length) = true := decide_eq_true hlp
  have b1 : decide (0 < (l.length : Int)) = true := decide_eq_true (by omega)
  have b2 : ((l.length : Int) == 0) = false := beq_eq_false_iff_ne.mpr (by omega)
  have b3 : ¬ ((l.length : Int) = 0) := by omega
  go_enter Try.func11, Try.ntmps11
  go_upto_region 3 with ((with_reducible refine gate_dst (N := 2) rfl ?_); refine box_event ?hg (N := 2) ?hd (cs := #[.int .i64 0, .int .i64 0, .int .i64 0, .int .i64 0, .slice none 0 0, .slice none 0 0]) (t := 26) ?hr ?_; (case hd => rfl); (case hg => rfl); (case hr => first | (go_simp; done) | (go_simp; rfl)); intro g2 hg w1 hbox hb; have n0_ := Aside0.mk (below_step HB.out hb); have BK2 := Aside0.mk hbox; have GE2 := Aside0.mk ((by rw [hg]; exact Nat.le_refl _) : w.heap.size ≤ g2); clear HB; have HB := n0_; clear n0_ hb hbox hg)
  obtain ⟨ad', e0, hcell0⟩ := Kd.at_int (HC.out _ HB.out) 0 (Int.le_refl _) (by omega)
  injection e0 with e0
  subst e0
  rw [show ((0 : Int)).toNat = 0 from rfl] at hcell0
  have hcell : w1.cell? ad = some (.int .u8 (rd l 0)) := by simpa [Addr.add] using hcell0
  clear hcell0
  have hne : g2 ≠ w1.heap.size := Nat.ne_of_lt (blk_lt BK2.out)
  by_cases hd : rd l 0 = 136
  case neg =>
    have h := H.out
    rw [if_neg hd] at h
    obtain rfl := Option.some.inj h
    clear h H
    have hb4 : (rd l 0 == 136) = false := beq_eq_false_iff_ne.mpr hd
    have hb5 : (rd l 0 != 136) = true := bne_iff_ne.mpr hd
    have hza_0 := (show w1.cell? ⟨g2, 0, none⟩ = _ from (blk_cell BK2.out 0).trans rfl)
    have hfa_0 := blk_frozen BK2.out 0
    have hza_1 := (show w1.cell? ⟨g2, 1, none⟩ = _ from (blk_cell BK2.out 1).trans rfl)
    have hfa_1 := blk_frozen BK2.out 1
    have hza_2 := (show w1.cell? ⟨g2, 2, none⟩ = _ from (blk_cell BK2.out 2).trans rfl)
    have hfa_2 := blk_frozen BK2.out 2
    have hza_3 := (show w1.cell? ⟨g2, 3, none⟩ = _ from (blk_cell BK2.out 3).trans rfl)
    have hfa_3 := blk_frozen BK2.out 3
    have hza_4 := (show w1.cell? ⟨g2, 4, none⟩ = _ from (blk_cell BK2.out 4).trans rfl)
    have hfa_4 := blk_frozen BK2.out 4
    have hza_5 := (show w1.cell? ⟨g2, 5, none⟩ = _ from (blk_cell BK2.out 5).trans rfl)
    have hfa_5 := blk_frozen BK2.out 5
    go_wp2
    refine bodyPost_ret (results_ct rfl _ _ g2 26 #[.int .i64 0, .int .i64 0, .int .i64 0, .int .i64 0, .slice none 0 0, .slice none 0 0] (0, 0) _ rfl (blk_put6 BK2.out) Try.underlying26 rfl (by kernel_rfl)) rfl ?_
    exact ⟨_, _, rfl, Kd.R_nil _ _ _ _ _, Kd.R_nil _ _ _ _ _, below_put6 _ _ _ _ _ _ HB.out GE2.out⟩
  case pos =>
    have h := H.out
    rw [if_pos hd] at h
    have H1 := Aside0.mk h
    clear h H
    have hb4 : (rd l 0 == 136) = true := beq_iff_eq.mpr hd
    have hb5 : (rd l 0 != 136) = false := bne_eq_false_iff_eq.mpr hd
    obtain ⟨i0, hi0, _, hsz, _⟩ := info_parts hinfo5
    have hcut := cut_from (P := Try.prog) 24 5 .i64 Try.underlying24 hi0 1 hsz (some ad) l.length c 1 (by omega) (by omega)
    have hF := Kd.F_cut (m := (1 : Int).toNat) (c := c) (Kd.V_at (base := w.heap.size) HV.out).2.2 (by omega) hc
    obtain ⟨A1, hA1⟩ : ∃ A1, A1 = (if c = (1 : Int).toNat then (some ad) else ((some ad) : Option Addr).map (·.add ((1 : Int).toNat * 1))) := ⟨_, rfl⟩
    have hlen : (l.drop 1).length = l.length - (1 : Int).toNat := by rw [List.length_drop]; rfl
    replace hF : Kd.F (Kd.int .u8) w (fun k => k < w.heap.size) A1 (l.drop 1).length (l.drop 1) := by rw [hA1]; exact hF
    rw [← hlen, ← hA1] at hcut
    have HVR := Aside0.mk (Kd.V_mk (e := 5) (base := w.heap.size) (c := c - (1 : Int).toNat) (by rw [hlen]; omega) hF)
    obtain ⟨c1, hc1⟩ : ∃ c1, c1 = c - (1 : Int).toNat := ⟨_, rfl⟩
    rw [← hc1] at hcut HVR
    clear hF hlen hA1 hc1
    have ht1 : decide ((1 : Int) ≤ (l.length : Int)) = true := decide_eq_true (by omega)
    obtain ⟨K, hK⟩ : ∃ K : List Int, K = [128, 129, 134, 135, 166] := ⟨_, rfl⟩
    rw [← hK] at H1
    have hKl : K.length = 5 := by rw [hK]; rfl
    have HKC := Aside0.mk (fun (w2 : World) => query_kinds.calls K w2 (by rw [hK]; rfl))
    have NE := Aside0.mk hne
    clear hne hK
    go_upto_region 7 with ((with_reducible refine gate_dst (N := 4) rfl ?_); refine box_event ?hg (N := 4) ?hd (cs := #[.int .i64 0, .int .i64 0, .int .i64 0, .int .i64 0, .slice none 0 0, .slice none 0 0]) (t := 26) ?hr ?_; (case hd => rfl); (case hg => rfl); (case hr => first | (go_simp; done) | (go_simp; rfl)); intro g4 hg w2 hbox hb; have n0_ := Aside0.mk (below_step HB.out hb); have BK4 := Aside0.mk hbox; have GE4 := Aside0.mk ((by rw [hg]; exact below_size HB.out) : w.heap.size ≤ g4); have NE2 := Aside0.mk (show g2 ≠ g4 from by rw [hg]; exact Nat.ne_of_lt (blk_lt BK2.out)); have n1_ := Aside0.mk (blk_below BK2.out hb); clear BK2; have BK2 := n1_; clear n1_; clear HB; have HB := n0_; clear n0_ hb hbox hg)
    go_wp2_with ((with_reducible refine gate_callee (f := 18) rfl ?_); (try (refine gate_guard (by rfl) ?_; dsimp only)); refine goesL_ (some 24) rfl rfl Try.func18 (by kernel_rfl) rfl #[] rfl (by (try simp only [List.map_toArray, List.map_cons, List.map_nil]); first | done | rfl | (go_simp; done)) ?_; refine (HKC.out _).mono ?_; rintro e w3 ⟨vk, rfl, hR, hb⟩; refine ⟨_, rfl, ?_⟩; have n1_ := Aside0.mk (blk_below BK2.out hb); have n2_ := Aside0.mk (blk_below BK4.out hb); have n3_ := Aside0.mk (below_step HB.out hb); have HK := Aside0.mk (Kd.R_lower (Kd.R_mono (Kd.R_bound hR) (fun k hk => show k ≠ g4 from fun e => Nat.lt_irrefl _ (Nat.lt_of_lt_of_le (blk_lt BK4.out) (e ▸ hk.2.1)))) (below_size HB.out)); clear BK2 BK4 HB hR hb; have BK2 := n1_; have BK4 := n2_; have HB := n3_; clear n1_ n2_ n3_; obtain ⟨gk, ck, rfl, hgk1, hgk2, _⟩ := Kd.R_form HK.out (by omega); rw [hKl] at HK)
    have HVR0 := HVR
    go_loopw [5, 26] (fun v5 v26 wr => ∃ (i : Nat) (rest : List Int) (t : Ter) (vc vl : Value), v26 = .int .i64 (i : Int) ∧ i ≤ 5 ∧ Aside0 ((parse_l (K.drop i) rest t).bind (parse_out l) = some r) ∧ Aside0 (Kd.V (Kd.int .u8) 5 wr w.heap.size (fun k => k ≠ g4) v5 rest) ∧ Aside0 (Two w.heap.size g2 g4 wr vc vl t.2.2.2.2.1 t.2.2.2.2.2) ∧ Aside0 (wr.heap[g2]? = some (.cells #[.int .i64 0, .int .i64 0, .int .i64 0, .int .i64 0, .slice none 0 0, .slice none 0 0] 26 (0, 0))) ∧ Aside0 (wr.heap[g4]? = some (term t.1 t.2.1 t.2.2.1 t.2.2.2.1 vc vl)) ∧ Aside0 (Kd.R (Kd.int .u8) 5 wr w.heap.size (fun k => k ≠ g4) (.slice (some ⟨gk, 0, none⟩) 5 ck) K) ∧ Aside0 (Below w.heap.size w wr))
      (fun _ i _ => 5 - (intOf i).toNat)
    case atStart => exact ⟨0, l.drop 1, (0, 0, 0, 0, [], []), _, _, rfl, by omega, ⟨H1.out⟩, ⟨by have h1 := HVR.out; rw [List.length_drop] at h1; exact Kd.V_mono (Kd.V_below h1 HB.out) (fun k hk => by have := GE4.out; omega)⟩, ⟨Two.nil _ _ _ _⟩, ⟨BK2.out⟩, ⟨BK4.out⟩, ⟨HK.out⟩, ⟨HB.out⟩⟩
    case round =>
      obtain ⟨i, rest, t, vc, vl, rfl, hi, H, HVr, HTw, BK2r, BK4r, HKr, HBr⟩ := hrel
      clear BK2 BK4 HK HB H1
      have BK2 := BK2r
      have BK4 := BK4r
      have HK := HKr
      have HB := HBr
      clear BK2r BK4r HKr HBr
      by_cases hi5 : i < 5
      · obtain ⟨kd, hkd⟩ : ∃ kd, kd = rd K (i : Int) := ⟨_, rfl⟩
        have hsplit : K.drop i = kd :: K.drop (i + 1) := by
          rw [List.drop_eq_getElem_cons (by omega : i < K.length), hkd]
          simp [rd, List.getD, List.getElem?_eq_getElem (by omega : i < K.length)]
        have h := H.out
        rw [hsplit] at h
        clear H hsplit
        obtain ⟨u, hu, h⟩ := Option.bind_eq_some_iff.mp h
        rw [parse_l] at hu
        obtain ⟨⟨body, more, e⟩, hcutf, hu⟩ := Option.bind_eq_some_iff.mp hu
        dsimp only at hu
        obtain ⟨ad2, e2, hca⟩ := Kd.at_int (Kd.R_reads' HK.out).2.2 (i : Int) (by omega) (by omega)
        injection e2 with e2
        subst e2
        rw [← hkd] at hca
        have hcb : wr.cell? ⟨gk, i, none⟩ = some (.int .u8 kd) := by
          have h2 : (⟨gk, 0, none⟩ : Addr).add ((i : Int)).toNat = ⟨gk, i, none⟩ := by
            rw [Int.toNat_natCast]
            by_cases h0 : i = 0 <;> simp [Addr.add, h0]
          rw [← h2]
          exact hca
        clear hca hkd
        obtain ⟨A5, c5, rfl⟩ := Kd.V_slice HVr.out
        have G4 := Aside0.mk (blk_lt BK4.out)
        have HCUT := Aside0.mk (query_cut.calls 5 (fun k => k ≠ g4) A5 c5 rest kd body more e wr (Kd.V_map HVr.out (fun _ h => h)) hcutf)
        have HU := Aside0.mk hu
        have HH := Aside0.mk h
        clear hu h hcutf HVr
        have d1 : decide ((i : Int) < 5) = true := decide_eq_true (by omega)
        have d2 : decide (i < 5) = true := decide_eq_true hi5
        have d3 : (i : Int) < 5 := by omega
        by_cases he : e = 0
        case neg =>
          have hu := HU.out
          rw [if_neg he] at hu
          obtain rfl := Option.some.inj hu
          obtain rfl := Option.some.inj HH.out
          clear hu HU HH
          have e1 : (e == 0) = false := beq_eq_false_iff_ne.mpr he
          have e2 : (e != 0) = true := bne_iff_ne.mpr he
          go_upto_region 12 with ((with_reducible refine gate_callee (f := 25) rfl ?_); (try (refine gate_guard (by rfl) ?_; dsimp only)); refine goesL_ (some 33) rfl rfl Try.func25 (by kernel_rfl) rfl #[.slice A5 rest.length c5, .int .u8 kd] rfl (by (try simp only [List.map_toArray, List.map_cons, List.map_nil]); first | done | rfl | (go_simp; done)) ?_; refine (HCUT.out).mono ?_; rintro e w4 ⟨v8, v9, rfl, hV8, hV9, hb⟩; refine ⟨_, rfl, ?_⟩; have HV8 := Aside0.mk (Kd.V_mono hV8 (fun k hk => show k ≠ g4 from hk.elim id (fun h e => by have := G4.out; omega))); have HV9 := Aside0.mk (Kd.V_mono hV9 (fun k hk => show k ≠ g4 from hk.elim id (fun h e => by have := G4.out; omega))); have n1_ := Aside0.mk (blk_below BK2.out hb); have n2_ := Aside0.mk (blk_below BK4.out hb); have n3_ := Aside0.mk (below_step HB.out hb); have n4_ := Aside0.mk (Kd.R_below HK.out hb); have n5_ := Aside0.mk (HTw.out.below hb); clear BK2 BK4 HB HK HTw hV8 hV9 hb HCUT; have BK2 := n1_; have BK4 := n2_; have HB := n3_; have HK := n4_; have HTw := n5_; clear n1_ n2_ n3_ n4_ n5_; obtain ⟨A8, c8, rfl⟩ := Kd.V_slice HV8.out; obtain ⟨A9, c9, rfl⟩ := Kd.V_slice HV9.out)
          have hzb_0 := (show w4.cell? ⟨g2, 0, none⟩ = _ from (blk_cell BK2.out 0).trans rfl)
          have hfb_0 := blk_frozen BK2.out 0
          have hzb_1 := (show w4.cell? ⟨g2, 1, none⟩ = _ from (blk_cell BK2.out 1).trans rfl)
          have hfb_1 := blk_frozen BK2.out 1
          have hzb_2 := (show w4.cell? ⟨g2, 2, none⟩ = _ from (blk_cell BK2.out 2).trans rfl)
          have hfb_2 := blk_frozen BK2.out 2
          have hzb_3 := (show w4.cell? ⟨g2, 3, none⟩ = _ from (blk_cell BK2.out 3).trans rfl)
          have hfb_3 := blk_frozen BK2.out 3
          have hzb_4 := (show w4.cell? ⟨g2, 4, none⟩ = _ from (blk_cell BK2.out 4).trans rfl)
          have hfb_4 := blk_frozen BK2.out 4
          have hzb_5 := (show w4.cell? ⟨g2, 5, none⟩ = _ from (blk_cell BK2.out 5).trans rfl)
          have hfb_5 := blk_frozen BK2.out 5
          go_wp2
          refine bodyPost_ret (results_ct rfl _ _ g2 26 #[.int .i64 0, .int .i64 0, .int .i64 0, .int .i64 0, .slice none 0 0, .slice none 0 0] (0, 0) _ rfl (blk_put6 BK2.out) Try.underlying26 rfl (by kernel_rfl)) rfl ?_
          exact ⟨_, _, rfl, Kd.R_nil _ _ _ _ _, Kd.R_nil _ _ _ _ _, below_put6 _ _ _ _ _ _ HB.out GE2.out⟩
        case pos =>
          have hu := HU.out
          rw [if_pos he] at hu
          clear HU
          have e1 : (e == 0) = true := beq_iff_eq.mpr he
          have e2 : (e != 0) = false := bne_eq_false_iff_eq.mpr he
          obtain ⟨⟨b, t'⟩, hlay, hu⟩ := Option.bind_eq_some_iff.mp hu
          have HLAY := Aside0.mk hlay
          have HU := Aside0.mk hu
          clear hlay hu
          go_upto_region 13 with ((with_reducible refine gate_callee (f := 25) rfl ?_); (try (refine gate_guard (by rfl) ?_; dsimp only)); refine goesL_ (some 33) rfl rfl Try.func25 (by kernel_rfl) rfl #[.slice A5 rest.length c5, .int .u8 kd] rfl (by (try simp only [List.map_toArray, List.map_cons, List.map_nil]); first | done | rfl | (go_simp; done)) ?_; refine (HCUT.out).mono ?_; rintro e w4 ⟨v8, v9, rfl, hV8, hV9, hb⟩; refine ⟨_, rfl, ?_⟩; have HV8 := Aside0.mk (Kd.V_mono hV8 (fun k hk => show k ≠ g4 from hk.elim id (fun h e => by have := G4.out; omega))); have HV9 := Aside0.mk (Kd.V_mono hV9 (fun k hk => show k ≠ g4 from hk.elim id (fun h e => by have := G4.out; omega))); have n1_ := Aside0.mk (blk_below BK2.out hb); have n2_ := Aside0.mk (blk_below BK4.out hb); have n3_ := Aside0.mk (below_step HB.out hb); have n4_ := Aside0.mk (Kd.R_below HK.out hb); have n5_ := Aside0.mk (HTw.out.below hb); clear BK2 BK4 HB HK HTw hV8 hV9 hb HCUT; have BK2 := n1_; have BK4 := n2_; have HB := n3_; have HK := n4_; have HTw := n5_; clear n1_ n2_ n3_ n4_ n5_; obtain ⟨A8, c8, rfl⟩ := Kd.V_slice HV8.out; obtain ⟨A9, c9, rfl⟩ := Kd.V_slice HV9.out)
          cases b with
          | false =>
            obtain rfl := Option.some.inj (HU.out : some (Sum.inl 21) = some u)
            obtain rfl := Option.some.inj HH.out
            clear HU HH
            go_upto_region 14 with ((with_reducible refine gate_callee (f := 26) rfl ?_); (try (refine gate_guard (by rfl) ?_; dsimp only)); refine goesL_ (some 43) rfl rfl Try.func26 (by kernel_rfl) rfl #[.pointer (some ⟨g4, 0, none⟩), .int .u8 kd, .slice A8 body.length c8] rfl (by (try simp only [List.map_toArray, List.map_cons, List.map_nil]); first | done | rfl | (go_simp; done)) ?_; refine (lay_all kd _ t t' A8 c8 body BK4.out (Kd.V_reads' HV8.out).2.2 (Kd.V_reads' HV8.out).2.1 HTw.out (blk_lt BK2.out) HB.out.size HLAY.out).mono ?_; rintro e w5 ⟨rfl, hT, vc', vl', hb5, hTw⟩; refine ⟨_, rfl, ?_⟩; have n1_ := Aside0.mk (hT.at BK2.out NE2.out); have n2_ := Aside0.mk hb5; have n3_ := Aside0.mk (hT.upon HB.out GE4.out); have n4_ := Aside0.mk (Kd.R_keep HK.out hT.keep (fun k h => h)); have n5_ := Aside0.mk hTw; have n6_ := Aside0.mk (Kd.V_keep HV9.out hT.keep (fun k h => h)); clear BK2 BK4 HB HK HTw HV8 HV9 hT hb5 hTw HLAY; have BK2 := n1_; have BK4 := n2_; have HB := n3_; have HK := n4_; have HTw := n5_; have HV9 := n6_; clear n1_ n2_ n3_ n4_ n5_ n6_)
            have hzc_0 := (show w5.cell? ⟨g2, 0, none⟩ = _ from (blk_cell BK2.out 0).trans rfl)
            have hfc_0 := blk_frozen BK2.out 0
            have hzc_1 := (show w5.cell? ⟨g2, 1, none⟩ = _ from (blk_cell BK2.out 1).trans rfl)
            have hfc_1 := blk_frozen BK2.out 1
            have hzc_2 := (show w5.cell? ⟨g2, 2, none⟩ = _ from (blk_cell BK2.out 2).trans rfl)
            have hfc_2 := blk_frozen BK2.out 2
            have hzc_3 := (show w5.cell? ⟨g2, 3, none⟩ = _ from (blk_cell BK2.out 3).trans rfl)
            have hfc_3 := blk_frozen BK2.out 3
            have hzc_4 := (show w5.cell? ⟨g2, 4, none⟩ = _ from (blk_cell BK2.out 4).trans rfl)
            have hfc_4 := blk_frozen BK2.out 4
            have hzc_5 := (show w5.cell? ⟨g2, 5, none⟩ = _ from (blk_cell BK2.out 5).trans rfl)
            have hfc_5 := blk_frozen BK2.out 5
            go_wp2
            refine bodyPost_ret (results_ct rfl _ _ g2 26 #[.int .i64 0, .int .i64 0, .int .i64 0, .int .i64 0, .slice none 0 0, .slice none 0 0] (0, 0) _ rfl (blk_put6 BK2.out) Try.underlying26 rfl (by kernel_rfl)) rfl ?_
            exact ⟨_, _, rfl, Kd.R_nil _ _ _ _ _, Kd.R_nil _ _ _ _ _, below_put6 _ _ _ _ _ _ HB.out GE2.out⟩
          | true =>
            have hN := Aside0.mk (show (parse_l (K.drop (i + 1)) more t').bind (parse_out l) = some r from Option.bind_eq_some_iff.mpr ⟨u, HU.out, HH.out⟩)
            clear HU HH
            go_wp2_with ((with_reducible refine gate_callee (f := 26) rfl ?_); (try (refine gate_guard (by rfl) ?_; dsimp only)); refine goesL_ (some 43) rfl rfl Try.func26 (by kernel_rfl) rfl #[.pointer (some ⟨g4, 0, none⟩), .int .u8 kd, .slice A8 body.length c8] rfl (by (try simp only [List.map_toArray, List.map_cons, List.map_nil]); first | done | rfl | (go_simp; done)) ?_; refine (lay_all kd _ t t' A8 c8 body BK4.out (Kd.V_reads' HV8.out).2.2 (Kd.V_reads' HV8.out).2.1 HTw.out (blk_lt BK2.out) HB.out.size HLAY.out).mono ?_; rintro e w5 ⟨rfl, hT, vc', vl', hb5, hTw⟩; refine ⟨_, rfl, ?_⟩; have n1_ := Aside0.mk (hT.at BK2.out NE2.out); have n2_ := Aside0.mk hb5; have n3_ := Aside0.mk (hT.upon HB.out GE4.out); have n4_ := Aside0.mk (Kd.R_keep HK.out hT.keep (fun k h => h)); have n5_ := Aside0.mk hTw; have n6_ := Aside0.mk (Kd.V_keep HV9.out hT.keep (fun k h => h)); clear BK2 BK4 HB HK HTw HV8 HV9 hT hb5 hTw HLAY; have BK2 := n1_; have BK4 := n2_; have HB := n3_; have HK := n4_; have HTw := n5_; have HV9 := n6_; clear n1_ n2_ n3_ n4_ n5_ n6_)
            refine ⟨⟨i + 1, more, t', vc', vl', rfl, by omega, hN, HV9, HTw, BK2, BK4, HK, HB⟩, ?_⟩
            simp only [intOf]
            omega
      · obtain rfl : i = 5 := by omega
        have h := H.out
        rw [show K.drop 5 = [] from List.drop_eq_nil_of_le (by omega)] at h
        clear H HK HKC HVr
        obtain ⟨p0, p1, o0, o1, cs, ls⟩ := t
        dsimp only at HTw BK4
        replace h : parse_end l (p0, p1, o0, o1, cs, ls) = some r := h
        unfold parse_end at h
        dsimp only at h
        obtain ⟨⟨wb, e⟩, hW, h⟩ := Option.bind_eq_some_iff.mp h
        dsimp only at h
        obtain ⟨A4, c4, rfl⟩ := Kd.R_slice HTw.out.1
        obtain ⟨A5, c5, rfl⟩ := Kd.R_slice HTw.out.2
        have HW := Aside0.mk (query_Write.calls 30 p0 p1 o0 o1 A4 c4 cs A5 c5 ls wb e wr (Kd.R_reads' HTw.out.1).2.2 (Kd.R_reads' HTw.out.1).2.1 (Kd.R_reads' HTw.out.2).2.2 (Kd.R_reads' HTw.out.2).2.1 hW)
        have HH := Aside0.mk h
        clear h hW
        have n1_ := Aside0.mk (show wr.heap[g4]? = some (.cells #[.int .i64 p0, .int .i64 p1, .int .i64 o0, .int .i64 o1, .slice A4 cs.length c4, .slice A5 ls.length c5] 26 (0, 0)) from BK4.out)
        clear BK4
        have BK4 := n1_
        clear n1_
        have hzd_0 := (show wr.cell? ⟨g4, 0, none⟩ = _ from (blk_cell BK4.out 0).trans rfl)
        have hfd_0 := blk_frozen BK4.out 0
        have hzd_1 := (show wr.cell? ⟨g4, 1, none⟩ = _ from (blk_cell BK4.out 1).trans rfl)
        have hfd_1 := blk_frozen BK4.out 1
        have hzd_2 := (show wr.cell? ⟨g4, 2, none⟩ = _ from (blk_cell BK4.out 2).trans rfl)
        have hfd_2 := blk_frozen BK4.out 2
        have hzd_3 := (show wr.cell? ⟨g4, 3, none⟩ = _ from (blk_cell BK4.out 3).trans rfl)
        have hfd_3 := blk_frozen BK4.out 3
        have hzd_4 := (show wr.cell? ⟨g4, 4, none⟩ = _ from (blk_cell BK4.out 4).trans rfl)
        have hfd_4 := blk_frozen BK4.out 4
        have hzd_5 := (show wr.cell? ⟨g4, 5, none⟩ = _ from (blk_cell BK4.out 5).trans rfl)
        have hfd_5 := blk_frozen BK4.out 5
        by_cases he : e = 0
        case neg =>
          have h := HH.out
          rw [if_neg he] at h
          obtain rfl := Option.some.inj h
          clear h HH
          have e1 : (e == 0) = false := beq_eq_false_iff_ne.mpr he
          have e2 : (e != 0) = true := bne_iff_ne.mpr he
          go_upto_region 19 with ((with_reducible refine gate_callee (f := 8) rfl ?_); (try (refine gate_guard (by rfl) ?_; dsimp only)); refine goesL_ (some 50) rfl rfl Try.func8 (by kernel_rfl) rfl #[.agg #[.int .i64 p0, .int .i64 p1, .int .i64 o0, .int .i64 o1, .slice A4 cs.length c4, .slice A5 ls.length c5]] rfl (by (try simp only [List.map_toArray, List.map_cons, List.map_nil]); first | done | rfl | (go_simp; done)) ?_; refine (HW.out).mono ?_; rintro e w6 ⟨v10, rfl, hR10, hb⟩; refine ⟨_, rfl, ?_⟩; have n1_ := Aside0.mk (blk_below BK2.out hb); have n2_ := Aside0.mk (blk_below BK4.out hb); have n3_ := Aside0.mk (below_step HB.out hb); have n5_ := Aside0.mk (HTw.out.below hb); have HR10 := Aside0.mk hR10; clear BK2 BK4 HB HTw HW hR10 hb; have BK2 := n1_; have BK4 := n2_; have HB := n3_; have HTw := n5_; clear n1_ n2_ n3_ n5_; obtain ⟨A10, c10, rfl⟩ := Kd.R_slice HR10.out)
          have hze_0 := (show w6.cell? ⟨g2, 0, none⟩ = _ from (blk_cell BK2.out 0).trans rfl)
          have hfe_0 := blk_frozen BK2.out 0
          have hze_1 := (show w6.cell? ⟨g2, 1, none⟩ = _ from (blk_cell BK2.out 1).trans rfl)
          have hfe_1 := blk_frozen BK2.out 1
          have hze_2 := (show w6.cell? ⟨g2, 2, none⟩ = _ from (blk_cell BK2.out 2).trans rfl)
          have hfe_2 := blk_frozen BK2.out 2
          have hze_3 := (show w6.cell? ⟨g2, 3, none⟩ = _ from (blk_cell BK2.out 3).trans rfl)
          have hfe_3 := blk_frozen BK2.out 3
          have hze_4 := (show w6.cell? ⟨g2, 4, none⟩ = _ from (blk_cell BK2.out 4).trans rfl)
          have hfe_4 := blk_frozen BK2.out 4
          have hze_5 := (show w6.cell? ⟨g2, 5, none⟩ = _ from (blk_cell BK2.out 5).trans rfl)
          have hfe_5 := blk_frozen BK2.out 5
          go_wp2
          refine bodyPost_ret (results_ct rfl _ _ g2 26 #[.int .i64 0, .int .i64 0, .int .i64 0, .int .i64 0, .slice none 0 0, .slice none 0 0] (0, 0) _ rfl (blk_put6 BK2.out) Try.underlying26 rfl (by kernel_rfl)) rfl ?_
          exact ⟨_, _, rfl, Kd.R_nil _ _ _ _ _, Kd.R_nil _ _ _ _ _, below_put6 _ _ _ _ _ _ HB.out GE2.out⟩
        case pos =>
          have h := HH.out
          rw [if_pos he] at h
          obtain ⟨s, hS, h⟩ := Option.bind_eq_some_iff.mp h
          have HS := Aside0.mk hS
          clear hS HH
          have e1 : (e == 0) = true := beq_iff_eq.mpr he
          have e2 : (e != 0) = false := bne_eq_false_iff_eq.mpr he
          cases s with
          | false =>
            obtain rfl := Option.some.inj (h : some (none_f 21) = some r)
            clear h
            go_upto_region 19 with (first | ((with_reducible refine gate_callee (f := 8) rfl ?_); (try (refine gate_guard (by rfl) ?_; dsimp only)); refine goesL_ (some 50) rfl rfl Try.func8 (by kernel_rfl) rfl #[.agg #[.int .i64 p0, .int .i64 p1, .int .i64 o0, .int .i64 o1, .slice A4 cs.length c4, .slice A5 ls.length c5]] rfl (by (try simp only [List.map_toArray, List.map_cons, List.map_nil]); first | done | rfl | (go_simp; done)) ?_; refine (HW.out).mono ?_; rintro e w6 ⟨v10, rfl, hR10, hb⟩; refine ⟨_, rfl, ?_⟩; have n1_ := Aside0.mk (blk_below BK2.out hb); have n2_ := Aside0.mk (blk_below BK4.out hb); have n3_ := Aside0.mk (below_step HB.out hb); have n5_ := Aside0.mk (HTw.out.below hb); have HR10 := Aside0.mk hR10; clear BK2 BK4 HB HTw HW hR10 hb; have BK2 := n1_; have BK4 := n2_; have HB := n3_; have HTw := n5_; clear n1_ n2_ n3_ n5_; obtain ⟨A10, c10, rfl⟩ := Kd.R_slice HR10.out) | ((with_reducible refine gate_callee (f := 27) rfl ?_); (try (refine gate_guard (by rfl) ?_; dsimp only)); refine goesL_ (some 58) rfl rfl Try.func27 (by kernel_rfl) rfl #[.slice A10 wb.length c10, .slice (some ad) l.length c] rfl (by (try simp only [List.map_toArray, List.map_cons, List.map_nil]); first | done | rfl | (go_simp; done)) ?_; refine (slices_Equal_byte_byte.calls (wb.length + 5) A10 c10 wb (some ad) c l _ w6 (Kd.R_reads' HR10.out).2.2 (Kd.R_reads' HR10.out).2.1 (HC.out _ HB.out) hc HS.out).mono ?_; rintro e w7 ⟨rfl, hd0⟩; refine ⟨_, rfl, ?_⟩; have hb := hd0.below; have n1_ := Aside0.mk (blk_below BK2.out hb); have n2_ := Aside0.mk (blk_below BK4.out hb); have n3_ := Aside0.mk (below_step HB.out hb); have n5_ := Aside0.mk (HTw.out.below hb); clear BK2 BK4 HB HTw hd0 hb; have BK2 := n1_; have BK4 := n2_; have HB := n3_; have HTw := n5_; clear n1_ n2_ n3_ n5_))
            have hzf_0 := (show w7.cell? ⟨g2, 0, none⟩ = _ from (blk_cell BK2.out 0).trans rfl)
            have hff_0 := blk_frozen BK2.out 0
            have hzf_1 := (show w7.cell? ⟨g2, 1, none⟩ = _ from (blk_cell BK2.out 1).trans rfl)
            have hff_1 := blk_frozen BK2.out 1
            have hzf_2 := (show w7.cell? ⟨g2, 2, none⟩ = _ from (blk_cell BK2.out 2).trans rfl)
            have hff_2 := blk_frozen BK2.out 2
            have hzf_3 := (show w7.cell? ⟨g2, 3, none⟩ = _ from (blk_cell BK2.out 3).trans rfl)
            have hff_3 := blk_frozen BK2.out 3
            have hzf_4 := (show w7.cell? ⟨g2, 4, none⟩ = _ from (blk_cell BK2.out 4).trans rfl)
            have hff_4 := blk_frozen BK2.out 4
            have hzf_5 := (show w7.cell? ⟨g2, 5, none⟩ = _ from (blk_cell BK2.out 5).trans rfl)
            have hff_5 := blk_frozen BK2.out 5
            go_wp2
            refine bodyPost_ret (results_ct rfl _ _ g2 26 #[.int .i64 0, .int .i64 0, .int .i64 0, .int .i64 0, .slice none 0 0, .slice none 0 0] (0, 0) _ rfl (blk_put6 BK2.out) Try.underlying26 rfl (by kernel_rfl)) rfl ?_
            exact ⟨_, _, rfl, Kd.R_nil _ _ _ _ _, Kd.R_nil _ _ _ _ _, below_put6 _ _ _ _ _ _ HB.out GE2.out⟩
          | true =>
            obtain rfl := Option.some.inj (h : some (p0, p1, o0, o1, cs, ls, 0) = some r)
            clear h
            go_upto_region 20 with (first | ((with_reducible refine gate_callee (f := 8) rfl ?_); (try (refine gate_guard (by rfl) ?_; dsimp only)); refine goesL_ (some 50) rfl rfl Try.func8 (by kernel_rfl) rfl #[.agg #[.int .i64 p0, .int .i64 p1, .int .i64 o0, .int .i64 o1, .slice A4 cs.length c4, .slice A5 ls.length c5]] rfl (by (try simp only [List.map_toArray, List.map_cons, List.map_nil]); first | done | rfl | (go_simp; done)) ?_; refine (HW.out).mono ?_; rintro e w6 ⟨v10, rfl, hR10, hb⟩; refine ⟨_, rfl, ?_⟩; have n1_ := Aside0.mk (blk_below BK2.out hb); have n2_ := Aside0.mk (blk_below BK4.out hb); have n3_ := Aside0.mk (below_step HB.out hb); have n5_ := Aside0.mk (HTw.out.below hb); have HR10 := Aside0.mk hR10; clear BK2 BK4 HB HTw HW hR10 hb; have BK2 := n1_; have BK4 := n2_; have HB := n3_; have HTw := n5_; clear n1_ n2_ n3_ n5_; obtain ⟨A10, c10, rfl⟩ := Kd.R_slice HR10.out) | ((with_reducible refine gate_callee (f := 27) rfl ?_); (try (refine gate_guard (by rfl) ?_; dsimp only)); refine goesL_ (some 58) rfl rfl Try.func27 (by kernel_rfl) rfl #[.slice A10 wb.length c10, .slice (some ad) l.length c] rfl (by (try simp only [List.map_toArray, List.map_cons, List.map_nil]); first | done | rfl | (go_simp; done)) ?_; refine (slices_Equal_byte_byte.calls (wb.length + 5) A10 c10 wb (some ad) c l _ w6 (Kd.R_reads' HR10.out).2.2 (Kd.R_reads' HR10.out).2.1 (HC.out _ HB.out) hc HS.out).mono ?_; rintro e w7 ⟨rfl, hd0⟩; refine ⟨_, rfl, ?_⟩; have hb := hd0.below; have n1_ := Aside0.mk (blk_below BK2.out hb); have n2_ := Aside0.mk (blk_below BK4.out hb); have n3_ := Aside0.mk (below_step HB.out hb); have n5_ := Aside0.mk (HTw.out.below hb); clear BK2 BK4 HB HTw hd0 hb; have BK2 := n1_; have BK4 := n2_; have HB := n3_; have HTw := n5_; clear n1_ n2_ n3_ n5_))
            have hzg_0 := (show w7.cell? ⟨g2, 0, none⟩ = _ from (blk_cell BK2.out 0).trans rfl)
            have hfg_0 := blk_frozen BK2.out 0
            have hzg_1 := (show w7.cell? ⟨g2, 1, none⟩ = _ from (blk_cell BK2.out 1).trans rfl)
            have hfg_1 := blk_frozen BK2.out 1
            have hzg_2 := (show w7.cell? ⟨g2, 2, none⟩ = _ from (blk_cell BK2.out 2).trans rfl)
            have hfg_2 := blk_frozen BK2.out 2
            have hzg_3 := (show w7.cell? ⟨g2, 3, none⟩ = _ from (blk_cell BK2.out 3).trans rfl)
            have hfg_3 := blk_frozen BK2.out 3
            have hzg_4 := (show w7.cell? ⟨g2, 4, none⟩ = _ from (blk_cell BK2.out 4).trans rfl)
            have hfg_4 := blk_frozen BK2.out 4
            have hzg_5 := (show w7.cell? ⟨g2, 5, none⟩ = _ from (blk_cell BK2.out 5).trans rfl)
            have hfg_5 := blk_frozen BK2.out 5
            have hzh_0 := (show w7.cell? ⟨g4, 0, none⟩ = _ from (blk_cell BK4.out 0).trans rfl)
            have hfh_0 := blk_frozen BK4.out 0
            have hzh_1 := (show w7.cell? ⟨g4, 1, none⟩ = _ from (blk_cell BK4.out 1).trans rfl)
            have hfh_1 := blk_frozen BK4.out 1
            have hzh_2 := (show w7.cell? ⟨g4, 2, none⟩ = _ from (blk_cell BK4.out 2).trans rfl)
            have hfh_2 := blk_frozen BK4.out 2
            have hzh_3 := (show w7.cell? ⟨g4, 3, none⟩ = _ from (blk_cell BK4.out 3).trans rfl)
            have hfh_3 := blk_frozen BK4.out 3
            have hzh_4 := (show w7.cell? ⟨g4, 4, none⟩ = _ from (blk_cell BK4.out 4).trans rfl)
            have hfh_4 := blk_frozen BK4.out 4
            have hzh_5 := (show w7.cell? ⟨g4, 5, none⟩ = _ from (blk_cell BK4.out 5).trans rfl)
            have hfh_5 := blk_frozen BK4.out 5
            go_wp2
            refine bodyPost_ret (results_ct rfl _ _ g2 26 #[.int .i64 p0, .int .i64 p1, .int .i64 o0, .int .i64 o1, .slice A4 cs.length c4, .slice A5 ls.length c5] (0, 0) _ rfl (blk_put6 BK2.out) Try.underlying26 rfl (by kernel_rfl)) rfl ?_
            refine ⟨_, _, rfl, Kd.R_mono (far_put6 _ _ _ _ _ _ HTw.out.1 (fun k hk => hk.1.1)) (fun k hk => hk.2), Kd.R_mono (far_put6 _ _ _ _ _ _ HTw.out.2 (fun k hk => hk.1.1)) (fun k hk => hk.2), below_put6 _ _ _ _ _ _ HB.out GE2.out⟩
end Go.Proofs.Ytpdihhfeekoplaa.P
