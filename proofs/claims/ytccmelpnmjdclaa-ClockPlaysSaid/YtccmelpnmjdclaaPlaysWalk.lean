/- ClockPlays: the walk. -/
import Derived.Test.YtccmelpnmjdclaaRefGo
import Derived.Test.YtccmelpnmjdclaaOps
import Derived.Deep.DeepCutAuto
namespace Go.Proofs.Ytccmelpnmjdclaa.H
open Go.RowKit Go.Proofs.YtccmelpnmjdclaaW.PrintWords Go.Proofs.YtccmelpnmjdclaaW.PrintLast
set_option linter.unusedVariables false
set_option linter.unusedSimpArgs false
/-- A cell of another block is written: a clock stays. -/
theorem Cb.cell {w0 W : World} {g : Nat} {R : Option Nat} {now : Int} {xs : List A.S62} {b : Nat} {cs : Array Value} (h : Cb w0 W g R now xs) (hb : W.heap[b]? = some (.cells cs 30 (0, 0))) (hge : w0.heap.size ≤ b) (j : Nat) (u : Value) : Cb w0 (W.setCell ⟨b, j, none⟩ u) g R now xs := by
  obtain ⟨⟨⟨vk, h1, rfl⟩, hk⟩, hbl, hgg, hr⟩ := h
  have hgb : g ≠ b := blk_ne h1.p hb (by decide)
  refine ⟨⟨⟨vk, ⟨blk_far h1.p hgb _, h1.r.keep (fun R' hR => Below.heap_setCell _ _ _ R' ?_), h1.l⟩, rfl⟩, hk⟩, below_set hbl hge, hgg, hr⟩
  rcases h1.r with ⟨rfl, _⟩ | ⟨R2, off, cap, pre, post, rfl, hb2, _⟩
  · cases hR
  · obtain rfl : R2 = R' := by simpa [Value.ownBlock] using hR
    exact blk_ne hb2 hb (by decide)
/-- The program's clock, and the document's. -/
structure Ps (w wr : World) (g gx : Nat) (R : Option Nat) (now : Int) (xs : List A.S62) (v : Value) (ys : List A.S48) : Prop where
  c : Cb w wr g R now xs
  x : wr.heap[gx]? = some (.cells #[.int .i64 now, v] 30 (0, 0))
  r : Rr w.heap.size wr v ys
  m : Mir xs ys
  ge : w.heap.size ≤ gx
theorem Ps.later {w wr W1 : World} {g gx : Nat} {R : Option Nat} {now : Int} {xs : List A.S62} {v : Value} {ys : List A.S48} (h : Ps w wr g gx R now xs v ys) (hb : Below wr.heap.size wr W1) : Ps w W1 g gx R now xs v ys := ⟨h.c.later hb, blk_below h.x hb, Kd.R_below h.r hb, h.m, h.ge⟩
/-- The document's clock is written anew. -/
theorem ps_put {w wr : World} {g gx : Nat} {R : Option Nat} {now n0 : Int} {xs : List A.S62} {v v0 : Value} {ys : List A.S48} (hc : Cb w wr g R now xs) (hx : wr.heap[gx]? = some (.cells #[.int .i64 n0, v0] 30 (0, 0))) (hr : Rr w.heap.size wr v ys) (hm : Mir xs ys) (hge : w.heap.size ≤ gx) : Ps w ((wr.setCell ⟨gx, 0, none⟩ (.int .i64 now)).setCell ⟨gx, 1, none⟩ v) g gx R now xs v ys := by
  have h1 := blk_put hx 0 (.int .i64 now) rfl
  exact ⟨(hc.cell hx hge 0 _).cell h1 hge 1 _, blk_put h1 1 v rfl, Kd.R_set (Kd.R_set hr hx (by decide) 0 _) h1 (by decide) 1 _, hm, hge⟩
theorem own_c30 {W : World} {base n b : Nat} {v : Value} {l : List Value} {cs : Array Value} (h : W.ownsRow base 3 1 v n l) (hb : W.heap[b]? = some (.cells cs 30 (0, 0))) (j : Nat) (u : Value) : (W.setCell ⟨b, j, none⟩ u).ownsRow base 3 1 v n l := by
  refine own_setCell h (fun e => ?_) u
  obtain ⟨cells, hc⟩ := own_typed h b e.symm
  have := hb.symm.trans hc
  injection this with this
  injection this with _ e
  cases e
theorem ref_set {w : World} {B : Nat} {A0 : Option Addr} {c0 : Nat} {now : Int} {xs : List A.S62} {ys : List A.S48} (hR : Rr B w (.slice A0 ys.length c0) ys) (hB : B ≤ w.heap.size) (hM : Mir xs ys) (hl : xs.length ≤ 64) (h0 : 0 ≤ now) (h1 : now ≤ 1099511627776) (id wait : Int) : Calls Try.prog 9 #[.agg #[.int .i64 now, .slice A0 ys.length c0], .int .i64 id, .int .i64 wait] w fun e w' => ∃ v ys', e = .returned (.tuple #[.agg #[.int .i64 now, v], .int .i64 (setE xs id wait)]) ∧ Rr B w' v ys' ∧ Mir (setL xs now id wait) ys' ∧ Below w.heap.size w w' := by
  obtain ⟨A', c', e, hc, hC⟩ := Kd.R_reads hR
  obtain ⟨⟨rfl, _⟩, rfl⟩ : (A0 = A' ∧ True) ∧ c0 = c' := by simpa using e
  by_cases h : wait < 0
  · refine (rset_a hR hB id wait h).mono ?_
    rintro e w' ⟨rfl, hb⟩
    have e1 : setE xs id wait = 1 := if_pos h
    have e2 : setL xs now id wait = xs := by unfold setL; rw [e1]; rfl
    rw [e1, e2]
    exact ⟨_, ys, rfl, Kd.R_below hR hb, hM, hb⟩
  by_cases h2 : hasL xs id = false ∧ 64 ≤ xs.length
  · refine (rset_b hC hc hM hl id wait h h2.1 h2.2).mono ?_
    rintro e w' ⟨rfl, hb⟩
    have e1 : setE xs id wait = 3 := by unfold setE; rw [if_neg h, if_pos h2]
    have e2 : setL xs now id wait = xs := by unfold setL; rw [e1]; rfl
    rw [e1, e2]
    exact ⟨_, ys, rfl, Kd.R_below hR hb, hM, hb⟩
  · have h3 : hasL xs id = true ∨ ¬ 64 ≤ xs.length := by
      cases hh : hasL xs id
      · exact .inr (fun e => h2 ⟨hh, e⟩)
      · exact .inl rfl
    refine (rset_c hC hc hM hl h0 h1 id wait h h3).mono ?_
    rintro e w' ⟨v, ys', rfl, hr, hm, hb⟩
    have e1 : setE xs id wait = 0 := by unfold setE; rw [if_neg h, if_neg h2]
    have e2 : setL xs now id wait = insL (dropL xs id) ⟨id, atV now wait⟩ := by unfold setL; rw [e1]; rfl
    rw [e1, e2]
    exact ⟨v, ys', rfl, Kd.R_lower hr hB, hm, hb⟩
/-- What reads the document's clock, for any row of it. -/
theorem ps_c {w wr : World} {g gx : Nat} {R : Option Nat} {now : Int} {xs : List A.S62} {A1 : Option Addr} {c : Nat} {ys : List A.S48} (h : Ps w wr g gx R now xs (.slice A1 ys.length c) ys) : Kd.C A.k48 wr A1 ys.length ys ∧ ys.length ≤ c := by
  obtain ⟨A', c', e, hc, hC⟩ := Kd.R_reads h.r
  obtain ⟨⟨rfl, _⟩, rfl⟩ : (A1 = A' ∧ True) ∧ c = c' := by simpa using e
  exact ⟨hC, hc⟩
set_option maxHeartbeats 8000000 in
set_option maxRecDepth 100000 in
theorem plays_p {A0 : Option Addr} {c0 : Nat} {ops : List A.S32} (ask : Int) (w : World) (hC : Kd.C A.k32 w A0 ops.length ops) (hl : ops.length ≤ 100) (hw : ∀ x ∈ ops, x.f2 ≤ 9223372036854775807) : Calls Try.prog 3 #[.slice A0 ops.length c0, .int .i64 ask] w fun e w' => e = .returned (.bool true) ∧ Below w.heap.size w w' := by
  have HC := Lib.hid hC
  have HW := Lib.hid hw
  have hu22 := Try.underlying22
  have hu27 := Try.underlying27
  have hu30 := Try.underlying30
  have hu32 := Try.underlying32
  have hu33 := Try.underlying33
  have hu41 := Try.underlying41
  have hu48 := Try.underlying48
  clear hC hw
  have h100 : ¬ (100 : Int) < (ops.length : Int) := by omega
  obtain ⟨n, hn⟩ : ∃ n, ops.length = n := ⟨_, rfl⟩
  rw [hn] at h100 ⊢
  have HNN := Lib.hid hn
  have HL := Lib.hid (show n ≤ 100 by omega)
  clear hn hl
  go_enter Try.func3, Try.ntmps3
  go_wp2_with (go_at_call 7; (with_reducible refine (alive_p _).mono ?_); rintro e w1 ⟨rfl, hb⟩; have HB1 := Lib.hid hb; clear hb)
  have hc1 := cb_new w w1 HB1.out
  have hx1 := blk_new1 w1 (.cells #[.int .i64 0, .slice none 0 0] 27) (.cells #[.int .i64 0, .slice none 0 0] 30)
  have HS0 : Hid (Ps w ((w1.alloc (.cells #[.int .i64 0, .slice none 0 0] 27)).alloc (.cells #[.int .i64 0, .slice none 0 0] 30)) w1.heap.size (w1.heap.size + 1) none 0 [] (.slice none 0 0) []) := Lib.hid ⟨hc1.later (below_alloc (Below.refl _ _) _), hx1, Kd.R_nil _ _ _ _ _, ⟨List.Perm.refl _, List.Pairwise.nil⟩, Nat.le_succ_of_le HB1.out.size⟩
  obtain ⟨g, hg⟩ : ∃ g, w1.heap.size = g := ⟨_, rfl⟩
  obtain ⟨gx, hgx⟩ : ∃ gx, w1.heap.size + 1 = gx := ⟨_, rfl⟩
  rw [hgx, hg] at HS0
  simp only [hgx]
  simp only [hg]
  have e100 : decide ((100 : Int) < (n : Int)) = false := decide_eq_false (by omega)
  simp only [e100]
  clear hc1 hx1 hg hgx HB1 h100 e100
  generalize (w1.alloc (.cells #[.int .i64 0, .slice none 0 0] 27)).alloc (.cells #[.int .i64 0, .slice none 0 0] 30) = W1 at HS0 ⊢
  go_loopw [35] (fun v35 wr => ∃ k : Nat, ∃ R now xs v ys, k ≤ n ∧ v35 = .int .i64 k ∧ Hid (Ps w wr g gx R now xs v ys)) (fun v35 _ => n - (intOf v35).toNat)
  case atStart => exact ⟨0, _, _, _, _, _, Nat.zero_le _, rfl, HS0⟩
  case round =>
    obtain ⟨k, R, now, xs, v, ys, hk, rfl, HS⟩ := hrel
    clear HS0
    by_cases hlt : k < n
    · have hlt' : k < ops.length := by rw [HNN.out]; exact hlt
      obtain ⟨ad, rfl, d0, d1, d2⟩ := A.ops_at (Kd.C_below HC.out HS.out.c.b) k hlt'
      have hwk := HW.out _ (List.getElem_mem hlt')
      obtain ⟨op, hop⟩ : ∃ op, ops[k]'hlt' = op := ⟨_, rfl⟩
      rw [hop] at d0 d1 d2 hwk
      obtain ⟨K, Id, N⟩ := op
      dsimp only at d0 d1 d2 hwk
      have HWK := Lib.hid hwk
      clear hop hlt' hwk
      obtain ⟨Av, kv, rfl⟩ := Kd.R_slice HS.out.r
      go_upto_block 2 with fail
      have HSB := Lib.hid (HS.out.later (below_alloc (Below.refl _ _) (.cells #[.int .i64 K, .int .i64 Id, .int .i64 N] 32)))
      have hb0 := blk_new wr (.cells #[.int .i64 K, .int .i64 Id, .int .i64 N] 32)
      generalize wr.alloc (.cells #[.int .i64 K, .int .i64 Id, .int .i64 N] 32) = W2 at HSB hb0 ⊢
      obtain ⟨bo, hbo⟩ : ∃ bo, wr.heap.size = bo := ⟨_, rfl⟩
      rw [hbo] at hb0
      simp only [hbo]
      have HBO := Lib.hid hb0
      clear HS d0 d1 d2 hbo hb0
      go_cut [] (fun wx => ∃ R now xs v ys, Hid (Ps w wx g gx R now xs v ys))
      case first =>
        as_aux_lemma =>
          have o0 := (blk_cell HBO.out 0).trans rfl
          have o1 := (blk_cell HBO.out 1).trans rfl
          have o2 := (blk_cell HBO.out 2).trans rfl
          have p0 := (blk_cell HSB.out.x 0).trans rfl
          have p1 := (blk_cell HSB.out.x 1).trans rfl
          have HNL := Lib.hid (And.intro HSB.out.c.k.k.n0 HSB.out.c.k.k.n1)
          have HXL := Lib.hid HSB.out.c.k.k.l
          have HXS := Lib.hid HSB.out.c.k.k.s
          by_cases h01 : K = 0 ∨ K = 1
          · rcases h01 with rfl | rfl
            all_goals
              go_wp2_with (first
                | (go_at_call 8; (with_reducible refine (cb_set HSB.out.c Id N _ _ rfl rfl HWK.out).mono ?_); rintro e w3 ⟨rfl, R3, hc, hs⟩; have HC3 := Lib.hid hc; have hx3 := hs _ _ _ _ HSB.out.x (by decide) (by decide); have ho3 := hs _ _ _ _ HBO.out (by decide) (by decide); have HX3 := Lib.hid hx3; have HR3 := Lib.hid (rr_sty HSB.out.r hs); have x0 := (blk_cell hx3 0).trans rfl; have x1 := (blk_cell hx3 1).trans rfl; have y1 := (blk_cell ho3 1).trans rfl; have y2 := (blk_cell ho3 2).trans rfl; clear hc hs hx3 ho3 o0 o1 o2 p0 p1)
                | (go_at_call 9; (with_reducible refine (ref_set HR3.out HC3.out.b.size HSB.out.m HXL.out HNL.out.1 HNL.out.2 Id N).mono ?_); rintro e w4 ⟨v4, ys4, rfl, hr, hm, hb⟩; obtain ⟨A4, k4, rfl⟩ := Kd.R_slice hr; have hb4 := below_step hb (below_alloc (Below.refl _ _) (.cells #[.int .i64 now, .slice A4 ys4.length k4] 30)); have HC4 := Lib.hid (HC3.out.later hb4); have hx4 := blk_below HX3.out hb4; have HX4 := Lib.hid hx4; have HR4 := Lib.hid (Kd.R_below hr (below_alloc (Below.refl _ _) (.cells #[.int .i64 now, .slice A4 ys4.length k4] 30))); have HM4 := Lib.hid hm; have z0 := (blk_cell hx4 0).trans rfl; have z1 := (blk_cell hx4 1).trans rfl; have f0 := blk_frozen hx4 0; have f1 := blk_frozen hx4 1; clear hr hm hb hb4 hx4 x0 x1 y1 y2))
              go_meet
              case rel => exact ⟨R3, now, _, _, _, Lib.hid (ps_put HC4.out HX4.out HR4.out HM4.out HSB.out.ge)⟩
          by_cases h2 : K = 2
          · subst h2
            go_wp2_with (first
              | (go_at_call 10; (with_reducible refine (ref_find (ps_c HSB.out).1 (ps_c HSB.out).2 HSB.out.m HXL.out Id).mono ?_); rintro e w3 ⟨rfl, hb⟩; have HP3 := Lib.hid (HSB.out.later hb); have ho3 := blk_below HBO.out hb; have HO3 := Lib.hid ho3; have x0 := (blk_cell HP3.out.x 0).trans rfl; have x1 := (blk_cell HP3.out.x 1).trans rfl; have y1 := (blk_cell ho3 1).trans rfl; clear hb ho3 o0 o1 o2 p0 p1)
              | (go_at_call 11; (with_reducible refine (ref_drop (ps_c HP3.out).1 (ps_c HP3.out).2 HP3.out.m HXL.out Id).mono ?_); rintro e w4 ⟨v4, ys4, rfl, hr, hm, hb⟩; obtain ⟨A4, k4, rfl⟩ := Kd.R_slice hr; have HP4 := Lib.hid (HP3.out.later hb); have HR4 := Lib.hid (Kd.R_lower hr HP3.out.c.b.size); have HM4 := Lib.hid hm; have ho4 := blk_below HO3.out hb; have hne : bo ≠ gx := blk_ne ho4 HP4.out.x (by decide); have HO5 := Lib.hid (blk_far (blk_far ho4 (p := ⟨gx, 0, none⟩) hne (.int .i64 now)) (p := ⟨gx, 1, none⟩) hne (.slice A4 ys4.length k4)); have u1 := (blk_cell HO5.out 1).trans rfl; have z0 := (blk_cell HP4.out.x 0).trans rfl; have z1 := (blk_cell HP4.out.x 1).trans rfl; have f0 := blk_frozen HP4.out.x 0; have f1 := blk_frozen HP4.out.x 1; have HC5 := Lib.hid ((HP4.out.c.cell HP4.out.x HP4.out.ge 0 (.int .i64 now)).cell (blk_put HP4.out.x 0 (.int .i64 now) rfl) HP4.out.ge 1 (.slice A4 ys4.length k4)); have HX5 := Lib.hid (blk_put (blk_put HP4.out.x 0 (.int .i64 now) rfl) 1 (.slice A4 ys4.length k4) rfl); have HR5 := Lib.hid (Kd.R_set (Kd.R_set HR4.out HP4.out.x (by decide) 0 (.int .i64 now)) (blk_put HP4.out.x 0 (.int .i64 now) rfl) (by decide) 1 (.slice A4 ys4.length k4)); clear hr hm hb ho4 hne x0 x1 y1)
              | (go_at_call 12; (with_reducible refine (cb_drop HC5.out Id _ _ rfl rfl).mono ?_); rintro e w6 ⟨rfl, hc, hs⟩; have HC6 := Lib.hid hc; have HX6 := Lib.hid (hs _ _ _ _ HX5.out (by decide) (by decide)); have HR6 := Lib.hid (rr_sty HR5.out hs); clear hc hs z0 z1 f0 f1 u1))
            go_meet
            case rel => exact ⟨R, now, _, _, _, Lib.hid ⟨HC6.out, HX6.out, HR6.out, HM4.out, HSB.out.ge⟩⟩
          have hk0 : (K == 0) = false := beq_eq_false_iff_ne.2 (fun e => h01 (.inl e))
          have hk1 : (K == 1) = false := beq_eq_false_iff_ne.2 (fun e => h01 (.inr e))
          have hk2 : (K == 2) = false := beq_eq_false_iff_ne.2 h2
          by_cases h34 : K = 3 ∨ K = 4
          · clear hk0 hk1 hk2
            clear h01 h2
            rcases h34 with rfl | rfl
            all_goals
              have HRL : Hid ((rung xs (goN now N)).length ≤ 1000) := Lib.hid (by
                have := HXL.out
                rw [rung, List.length_map]
                have h2 := (List.takeWhile_sublist (l := xs) (fun x => decide (x.f1 ≤ goN now N))).length_le
                have e : rungA xs (goN now N) = List.takeWhile (fun x => decide (x.f1 ≤ goN now N)) xs := rfl
                rw [e]
                omega)
              have HGO := Lib.hid (cb_go HSB.out.c N _ _ _ rfl rfl rfl)
              have HRG := Lib.hid (fun (W : World) (h : Rr w.heap.size W (.slice Av ys.length kv) ys) (hB : w.heap.size ≤ W.heap.size) => ref_go h hB HSB.out.m HXS.out HXL.out HNL.out.1 HNL.out.2 N)
              obtain ⟨nw, hnw⟩ : ∃ nw, goN now N = nw := ⟨_, rfl⟩
              obtain ⟨row, hrow⟩ : ∃ row, rung xs nw = row := ⟨_, rfl⟩
              rw [hnw] at HGO HRG HRL
              rw [hrow] at HGO HRG HRL
              clear hnw hrow
              go_wp2_with (first
                | (go_at_call 13; (with_reducible refine HGO.out.mono ?_); rintro e w3 ⟨A3, c3, rfl, ho, hc, hs⟩; have HC3 := Lib.hid hc; have HG3 := Lib.hid ho; have hx3 := hs _ _ _ _ HSB.out.x (by decide) (by decide); have ho3 := hs _ _ _ _ HBO.out (by decide) (by decide); have HX3 := Lib.hid hx3; have HR3 := Lib.hid (rr_sty HSB.out.r hs); have x0 := (blk_cell hx3 0).trans rfl; have x1 := (blk_cell hx3 1).trans rfl; have y2 := (blk_cell ho3 2).trans rfl; clear hc ho hs hx3 ho3 o0 o1 o2 p0 p1)
                | (go_at_call 14; (with_reducible refine (HRG.out _ HR3.out HC3.out.b.size).mono ?_); rintro e w4 ⟨v4, ys4, Ar, cr, rfl, hor, hr, hm, hb⟩; obtain ⟨A4, k4, rfl⟩ := Kd.R_slice hr; have hba := below_alloc (Below.refl w4.heap.size w4) (.cells #[.int .i64 nw, .slice A4 ys4.length k4] 30); have hb4 := below_step hb hba; have HC4 := Lib.hid (HC3.out.later hb4); have hx4 := blk_below HX3.out hb4; have HX4 := Lib.hid hx4; have hx5 := blk_put hx4 0 (.int .i64 nw) rfl; have HR4 := Lib.hid (Kd.R_below hr hba); have HM4 := Lib.hid hm; have HG5 := Lib.hid (own_c30 (own_c30 (pw_own_below HG3.out hb4) hx4 0 (.int .i64 nw)) hx5 1 (.slice A4 ys4.length k4)); have HQ5 := Lib.hid (own_c30 (own_c30 (pw_own_below hor hba) hx4 0 (.int .i64 nw)) hx5 1 (.slice A4 ys4.length k4)); have z0 := (blk_cell hx4 0).trans rfl; have z1 := (blk_cell hx4 1).trans rfl; have f0 := blk_frozen hx4 0; have f1 := blk_frozen hx4 1; clear hor hr hm hb hba hb4 hx4 hx5 x0 x1 y2)
                | (go_at_call 15; (with_reducible refine (same_p (own_row HG5.out).1 (own_row HG5.out).2 (own_row HQ5.out).1 (own_row HQ5.out).2 HRL.out).mono ?_); rintro e w6 ⟨rfl, hb⟩; rw [decide_eq_true rfl]; have HP6 := Lib.hid ((ps_put HC4.out HX4.out HR4.out HM4.out HSB.out.ge).later hb); clear hb z0 z1 f0 f1))
              go_meet
              case rel => exact ⟨R, nw, _, _, _, HP6⟩
          · have hk3 : (K == 3) = false := beq_eq_false_iff_ne.2 (fun e => h34 (.inl e))
            have hk4 : (K == 4) = false := beq_eq_false_iff_ne.2 (fun e => h34 (.inr e))
            clear h01 h2 h34
            go_wp2_with fail
            go_meet
            case rel => exact ⟨R, now, _, _, _, HSB⟩
      case rest =>
        as_aux_lemma =>
          obtain ⟨R, now, xs, v, ys, HP⟩ := hcut
          clear HSB HBO HWK
          obtain ⟨Av, kv, ev⟩ := Kd.R_slice HP.out.r
          rw [HP.out.m.len] at ev
          subst ev
          have HCY : Hid (∀ W, Ps w W g gx R now xs (.slice Av xs.length kv) ys → Kd.C A.k48 W Av ys.length ys ∧ ys.length ≤ kv) := Lib.hid (fun W h => by
            obtain ⟨A', c', e, hc, hC⟩ := Kd.R_reads h.r
            obtain ⟨rfl, _, rfl⟩ : Av = A' ∧ xs.length = ys.length ∧ kv = c' := by simpa using e
            exact ⟨hC, hc⟩)
          have HLEN := Lib.hid HP.out.m.len
          have HXL := Lib.hid HP.out.c.k.k.l
          have HXS := Lib.hid HP.out.c.k.k.s
          have p0 := (blk_cell HP.out.x 0).trans rfl
          have p1 := (blk_cell HP.out.x 1).trans rfl
          have HFD : Hid (∀ W, Ps w W g gx R now xs (.slice Av xs.length kv) ys → Calls Try.prog 10 #[.agg #[.int .i64 now, .slice Av xs.length kv], .int .i64 ask] W fun e w' => e = .returned (.tuple #[.int .i64 (findV xs ask), .bool (hasL xs ask)]) ∧ Below W.heap.size W w') := Lib.hid (fun W h => by
            have hc := HCY.out W h
            have := ref_find (now := now) hc.1 hc.2 h.m HXL.out ask
            rw [HLEN.out] at this
            exact this)
          have HNX : Hid (∀ W, Ps w W g gx R now xs (.slice Av xs.length kv) ys → Calls Try.prog 17 #[.agg #[.int .i64 now, .slice Av xs.length kv]] W fun e w' => e = .returned (.tuple #[.agg #[.int .i64 (headI xs), .int .i64 (nextV xs)], .bool (someL xs)]) ∧ Below W.heap.size W w') := Lib.hid (fun W h => by
            have hc := HCY.out W h
            have := ref_next (now := now) hc.1 hc.2 h.m HXS.out HXL.out
            rw [HLEN.out] at this
            exact this)
          have hfr : hasL xs ask = true → wrap64 (findV xs ask - now) = findV xs ask - now := by
            intro h
            obtain ⟨x, hx, e⟩ := has_iff.1 h
            have h1 := left_of (now := now) HP.out.c.k.k.d x hx
            rw [e, left_find h] at h1
            have h2 := HP.out.c.k.k.b x hx
            have h3 := HP.out.c.k.k.n0
            unfold wrap64; omega
          cases hh : hasL xs ask
          · have HLF := Lib.hid (left_none hh now)
            clear hfr
            go_upto_region 33 with (first
              | (go_at_call 10; (with_reducible refine (HFD.out _ HP.out).mono ?_); rintro e w3 ⟨rfl, hb⟩; rw [hh]; have HP3 := Lib.hid (HP.out.later hb); clear hb p0 p1)
              | (go_at_call 16; (with_reducible refine (ck_left HP3.out.c.k ask).mono ?_); rintro e w4 ⟨rfl, hb⟩; rw [hh, HLF.out]; have HP4 := Lib.hid (HP3.out.later hb); have p0 := (blk_cell HP4.out.x 0).trans rfl; have p1 := (blk_cell HP4.out.x 1).trans rfl; clear hb)
              | (go_at_call 17; (with_reducible refine (HNX.out _ HP4.out).mono ?_); rintro e w5 ⟨rfl, hb⟩; have HP5 := Lib.hid ((HP4.out.later hb).later (below_alloc (Below.refl _ _) (.cells #[.int .i64 (headI xs), .int .i64 (nextV xs)] 48))); have HN5 := Lib.hid (blk_new w5 (.cells #[.int .i64 (headI xs), .int .i64 (nextV xs)] 48)); clear hb p0 p1)
              | (go_at_call 18; (with_reducible refine (ck_next HP5.out.c.k).mono ?_); rintro e w6 ⟨rfl, hb⟩; have HP6 := Lib.hid (HP5.out.later hb); have HN6 := Lib.hid (blk_below HN5.out hb); clear hb))
            have HP9 := Lib.hid (HP6.out.later (below_drew (Below.refl _ _)))
            have e0 := (blk_cell (blk_drew HP6.out.x) 0).trans rfl
            have e1 := (blk_cell (blk_drew HP6.out.x) 1).trans rfl
            have e2 := (blk_cell (blk_drew HN6.out) 1).trans rfl
            obtain ⟨bn, hbn⟩ : ∃ bn, w5.heap.size = bn := ⟨_, rfl⟩
            rw [hbn] at e2
            simp only [hbn]
            clear HP HP3 HP4 HP5 HP6 HN5 HN6 hbn HFD HNX HCY
            refine start_ (n := 48) (S := fun W' => W'.cell? ⟨gx, 0, none⟩ = some (.int .i64 now) ∧ W'.cell? ⟨gx, 1, none⟩ = some (.slice Av xs.length kv) ∧ W'.cell? ⟨bn, 1, none⟩ = some (.int .i64 (nextV xs))) (ds := []) #[false, false, false, false, false, false, false, false, false, false, false, false, false, false, false, false, false, false, false, false, false, false, false, false, false, false, false, false, false, false, false, false, false, false, false, false, false, false, false, false, false, false, false, false, false, false, false, false] (by kernel_rfl) rfl rfl ⟨e0, e1, e2⟩ (fun hHeld => ?_)
            refine pure_ (i := 0) (N := some 123) (v := ?_) (a' := ?_) #[true, false, false, false, false, false, false, false, false, false, false, false, false, false, false, false, false, false, false, false, false, false, false, false, false, false, false, false, false, false, false, false, false, false, false, false, false, false, false, false, false, false, false, false, false, false, false, false] rfl rfl (by kernel_rfl) (fun _ _ _ h => h) (Or.inl ⟨by rfl, ?_⟩) ?_ ?_
            rotate_left
            · intro w'
              go_simp
              with_reducible rfl
            rotate_left
            · simp only [Act.put, List.setIfInBounds_toArray, List.set_cons_zero, List.set_cons_succ, i64_w, i32_w]
              try rfl
            refine pure_ (i := 2) (N := some 125) (v := ?_) (a' := ?_) #[true, false, true, false, false, false, false, false, false, false, false, false, false, false, false, false, false, false, false, false, false, false, false, false, false, false, false, false, false, false, false, false, false, false, false, false, false, false, false, false, false, false, false, false, false, false, false, false] rfl rfl (by kernel_rfl) (fun _ _ _ h => h) (Or.inl ⟨by rfl, ?_⟩) ?_ ?_
            rotate_left
            · intro w'
              go_simp
              with_reducible rfl
            rotate_left
            · simp only [Act.put, List.setIfInBounds_toArray, List.set_cons_zero, List.set_cons_succ, i64_w, i32_w]
              try rfl
            refine take_ (i := 3) (N := some 126) (v := ?_) (a' := ?_) #[true, false, true, true, false, false, false, false, false, false, false, false, false, false, false, false, false, false, false, false, false, false, false, false, false, false, false, false, false, false, false, false, false, false, false, false, false, false, false, false, false, false, false, false, false, false, false, false] rfl rfl (by kernel_rfl) (fun _ _ _ h => h) (Or.inl ⟨by rfl, ?_⟩) hHeld ?_ ?_
            rotate_left
            · rintro w' ⟨s0, s1, s2⟩
              go_simp
              with_reducible rfl
            rotate_left
            · simp only [Act.put, List.setIfInBounds_toArray, List.set_cons_zero, List.set_cons_succ, i64_w, i32_w]
              try rfl
            refine one_ (i := 1) (N := some 124) #[true, true, true, true, false, false, false, false, false, false, false, false, false, false, false, false, false, false, false, false, false, false, false, false, false, false, false, false, false, false, false, false, false, false, false, false, false, false, false, false, false, false, false, false, false, false, false, false] rfl rfl (by kernel_rfl) (by decide) (fun K hK => ?_)
            refine goes_ Try.func19 (by kernel_rfl) rfl #[.pointer (some ⟨g, 0, none⟩)] (by rfl) rfl rfl (by (try simp only [List.map_toArray, List.map_cons, List.map_nil]); first | done | rfl) ?_
            refine (ck_now HP9.out.c.k).mono ?_
            rintro e wa ⟨rfl, hba⟩
            have HPa := Lib.hid (HP9.out.later hba)
            have ea0 := pw_cell_below hba e0
            have ea1 := pw_cell_below hba e1
            have ea2 := pw_cell_below hba e2
            clear hba
            refine ⟨_, rfl, ?_⟩
            refine hK.out _ _ ⟨ea0, ea1, ea2⟩ (fun hHeld => ?_)
            clear hK K
            refine norm_ (a' := ?_) ?_ ?_
            rotate_left
            · show Act.put _ (some 124) _ = _
              simp only [Act.put, List.setIfInBounds_toArray, List.set_cons_zero, List.set_cons_succ, i64_w, i32_w]
              try rfl
            refine pure_ (i := 4) (N := some 127) (v := ?_) (a' := ?_) #[true, true, true, true, true, false, false, false, false, false, false, false, false, false, false, false, false, false, false, false, false, false, false, false, false, false, false, false, false, false, false, false, false, false, false, false, false, false, false, false, false, false, false, false, false, false, false, false] rfl rfl (by kernel_rfl) (fun _ _ _ h => h) (Or.inl ⟨by rfl, ?_⟩) ?_ ?_
            rotate_left
            · intro w'
              go_simp
              with_reducible rfl
            rotate_left
            · simp only [Act.put, List.setIfInBounds_toArray, List.set_cons_zero, List.set_cons_succ, i64_w, i32_w]
              try rfl
            refine pure_ (i := 5) (N := some 128) (v := ?_) (a' := ?_) #[true, true, true, true, true, true, false, false, false, false, false, false, false, false, false, false, false, false, false, false, false, false, false, false, false, false, false, false, false, false, false, false, false, false, false, false, false, false, false, false, false, false, false, false, false, false, false, false] rfl rfl (by kernel_rfl) (fun _ _ _ h => h) (Or.inl ⟨by rfl, ?_⟩) ?_ ?_
            rotate_left
            · intro w'
              go_simp
              with_reducible rfl
            rotate_left
            · simp only [Act.put, List.setIfInBounds_toArray, List.set_cons_zero, List.set_cons_succ, i64_w, i32_w]
              try rfl
            refine pure_ (i := 6) (N := some 129) (v := ?_) (a' := ?_) #[true, true, true, true, true, true, true, false, false, false, false, false, false, false, false, false, false, false, false, false, false, false, false, false, false, false, false, false, false, false, false, false, false, false, false, false, false, false, false, false, false, false, false, false, false, false, false, false] rfl rfl (by kernel_rfl) (fun _ _ _ h => h) (Or.inl ⟨by rfl, ?_⟩) ?_ ?_
            rotate_left
            · intro w'
              go_simp
              with_reducible rfl
            rotate_left
            · simp only [Act.put, List.setIfInBounds_toArray, List.set_cons_zero, List.set_cons_succ, i64_w, i32_w]
              try rfl
            refine pure_ (i := 8) (N := some 131) (v := ?_) (a' := ?_) #[true, true, true, true, true, true, true, false, true, false, false, false, false, false, false, false, false, false, false, false, false, false, false, false, false, false, false, false, false, false, false, false, false, false, false, false, false, false, false, false, false, false, false, false, false, false, false, false] rfl rfl (by kernel_rfl) (fun _ _ _ h => h) (Or.inl ⟨by rfl, ?_⟩) ?_ ?_
            rotate_left
            · intro w'
              go_simp
              with_reducible rfl
            rotate_left
            · simp only [Act.put, List.setIfInBounds_toArray, List.set_cons_zero, List.set_cons_succ, i64_w, i32_w]
              try rfl
            refine take_ (i := 9) (N := some 132) (v := ?_) (a' := ?_) #[true, true, true, true, true, true, true, false, true, true, false, false, false, false, false, false, false, false, false, false, false, false, false, false, false, false, false, false, false, false, false, false, false, false, false, false, false, false, false, false, false, false, false, false, false, false, false, false] rfl rfl (by kernel_rfl) (fun _ _ _ h => h) (Or.inl ⟨by rfl, ?_⟩) hHeld ?_ ?_
            rotate_left
            · rintro w' ⟨s0, s1, s2⟩
              go_simp
              with_reducible rfl
            rotate_left
            · simp only [Act.put, List.setIfInBounds_toArray, List.set_cons_zero, List.set_cons_succ, i64_w, i32_w]
              try rfl
            refine pure_ (i := 10) (N := some 133) (v := ?_) (a' := ?_) #[true, true, true, true, true, true, true, false, true, true, true, false, false, false, false, false, false, false, false, false, false, false, false, false, false, false, false, false, false, false, false, false, false, false, false, false, false, false, false, false, false, false, false, false, false, false, false, false] rfl rfl (by kernel_rfl) (fun _ _ _ h => h) (Or.inl ⟨by rfl, ?_⟩) ?_ ?_
            rotate_left
            · intro w'
              go_simp
              with_reducible rfl
            rotate_left
            · simp only [Act.put, List.setIfInBounds_toArray, List.set_cons_zero, List.set_cons_succ, i64_w, i32_w]
              try rfl
            refine one_ (i := 7) (N := some 130) #[true, true, true, true, true, true, true, true, true, true, true, false, false, false, false, false, false, false, false, false, false, false, false, false, false, false, false, false, false, false, false, false, false, false, false, false, false, false, false, false, false, false, false, false, false, false, false, false] rfl rfl (by kernel_rfl) (by decide) (fun K hK => ?_)
            refine goes_ Try.func20 (by kernel_rfl) rfl #[.pointer (some ⟨g, 0, none⟩)] (by rfl) rfl rfl (by (try simp only [List.map_toArray, List.map_cons, List.map_nil]); first | done | rfl) ?_
            refine (ck_len HPa.out.c.k).mono ?_
            rintro e wb ⟨rfl, hbb⟩
            have HPb := Lib.hid (HPa.out.later hbb)
            have eb0 := pw_cell_below hbb ea0
            have eb1 := pw_cell_below hbb ea1
            have eb2 := pw_cell_below hbb ea2
            clear hbb
            refine ⟨_, rfl, ?_⟩
            refine hK.out _ _ ⟨eb0, eb1, eb2⟩ (fun hHeld => ?_)
            clear hK K
            refine norm_ (a' := ?_) ?_ ?_
            rotate_left
            · show Act.put _ (some 130) _ = _
              simp only [Act.put, List.setIfInBounds_toArray, List.set_cons_zero, List.set_cons_succ, i64_w, i32_w]
              try rfl
            refine pure_ (i := 11) (N := some 134) (v := ?_) (a' := ?_) #[true, true, true, true, true, true, true, true, true, true, true, true, false, false, false, false, false, false, false, false, false, false, false, false, false, false, false, false, false, false, false, false, false, false, false, false, false, false, false, false, false, false, false, false, false, false, false, false] rfl rfl (by kernel_rfl) (fun _ _ _ h => h) (Or.inl ⟨by rfl, ?_⟩) ?_ ?_
            rotate_left
            · intro w'
              go_simp
              with_reducible rfl
            rotate_left
            · simp only [Act.put, List.setIfInBounds_toArray, List.set_cons_zero, List.set_cons_succ, i64_w, i32_w]
              try rfl
            refine pure_ (i := 12) (N := some 135) (v := ?_) (a' := ?_) #[true, true, true, true, true, true, true, true, true, true, true, true, true, false, false, false, false, false, false, false, false, false, false, false, false, false, false, false, false, false, false, false, false, false, false, false, false, false, false, false, false, false, false, false, false, false, false, false] rfl rfl (by kernel_rfl) (fun _ _ _ h => h) (Or.inl ⟨by rfl, ?_⟩) ?_ ?_
            rotate_left
            · intro w'
              go_simp
              with_reducible rfl
            rotate_left
            · simp only [Act.put, List.setIfInBounds_toArray, List.set_cons_zero, List.set_cons_succ, i64_w, i32_w]
              try rfl
            refine pure_ (i := 13) (N := some 136) (v := ?_) (a' := ?_) #[true, true, true, true, true, true, true, true, true, true, true, true, true, true, false, false, false, false, false, false, false, false, false, false, false, false, false, false, false, false, false, false, false, false, false, false, false, false, false, false, false, false, false, false, false, false, false, false] rfl rfl (by kernel_rfl) (fun _ _ _ h => h) (Or.inl ⟨by rfl, ?_⟩) ?_ ?_
            rotate_left
            · intro w'
              go_simp
              with_reducible rfl
            rotate_left
            · simp only [Act.put, List.setIfInBounds_toArray, List.set_cons_zero, List.set_cons_succ, i64_w, i32_w]
              try rfl
            refine pure_ (i := 14) (N := some 137) (v := ?_) (a' := ?_) #[true, true, true, true, true, true, true, true, true, true, true, true, true, true, true, false, false, false, false, false, false, false, false, false, false, false, false, false, false, false, false, false, false, false, false, false, false, false, false, false, false, false, false, false, false, false, false, false] rfl rfl (by kernel_rfl) (fun _ _ _ h => h) (Or.inl ⟨by rfl, ?_⟩) ?_ ?_
            rotate_left
            · intro w'
              go_simp
              with_reducible rfl
            rotate_left
            · simp only [Act.put, List.setIfInBounds_toArray, List.set_cons_zero, List.set_cons_succ, i64_w, i32_w]
              try rfl
            refine pure_ (i := 15) (N := some 138) (v := ?_) (a' := ?_) #[true, true, true, true, true, true, true, true, true, true, true, true, true, true, true, true, false, false, false, false, false, false, false, false, false, false, false, false, false, false, false, false, false, false, false, false, false, false, false, false, false, false, false, false, false, false, false, false] rfl rfl (by kernel_rfl) (fun _ _ _ h => h) (Or.inl ⟨by rfl, ?_⟩) ?_ ?_
            rotate_left
            · intro w'
              go_simp
              with_reducible rfl
            rotate_left
            · simp only [Act.put, List.setIfInBounds_toArray, List.set_cons_zero, List.set_cons_succ, i64_w, i32_w]
              try rfl
            refine pure_ (i := 16) (N := some 139) (v := ?_) (a' := ?_) #[true, true, true, true, true, true, true, true, true, true, true, true, true, true, true, true, true, false, false, false, false, false, false, false, false, false, false, false, false, false, false, false, false, false, false, false, false, false, false, false, false, false, false, false, false, false, false, false] rfl rfl (by kernel_rfl) (fun _ _ _ h => h) (Or.inl ⟨by rfl, ?_⟩) ?_ ?_
            rotate_left
            · intro w'
              go_simp
              with_reducible rfl
            rotate_left
            · simp only [Act.put, List.setIfInBounds_toArray, List.set_cons_zero, List.set_cons_succ, i64_w, i32_w]
              try rfl
            refine pure_ (i := 17) (N := some 140) (v := ?_) (a' := ?_) #[true, true, true, true, true, true, true, true, true, true, true, true, true, true, true, true, true, true, false, false, false, false, false, false, false, false, false, false, false, false, false, false, false, false, false, false, false, false, false, false, false, false, false, false, false, false, false, false] rfl rfl (by kernel_rfl) (fun _ _ _ h => h) (Or.inl ⟨by rfl, ?_⟩) ?_ ?_
            rotate_left
            · intro w'
              go_simp
              with_reducible rfl
            rotate_left
            · simp only [Act.put, List.setIfInBounds_toArray, List.set_cons_zero, List.set_cons_succ, i64_w, i32_w]
              try rfl
            refine pure_ (i := 18) (N := some 141) (v := ?_) (a' := ?_) #[true, true, true, true, true, true, true, true, true, true, true, true, true, true, true, true, true, true, true, false, false, false, false, false, false, false, false, false, false, false, false, false, false, false, false, false, false, false, false, false, false, false, false, false, false, false, false, false] rfl rfl (by kernel_rfl) (fun _ _ _ h => h) (Or.inl ⟨by rfl, ?_⟩) ?_ ?_
            rotate_left
            · intro w'
              go_simp
              with_reducible rfl
            rotate_left
            · simp only [Act.put, List.setIfInBounds_toArray, List.set_cons_zero, List.set_cons_succ, i64_w, i32_w]
              try rfl
            refine pure_ (i := 19) (N := some 142) (v := ?_) (a' := ?_) #[true, true, true, true, true, true, true, true, true, true, true, true, true, true, true, true, true, true, true, true, false, false, false, false, false, false, false, false, false, false, false, false, false, false, false, false, false, false, false, false, false, false, false, false, false, false, false, false] rfl rfl (by kernel_rfl) (fun _ _ _ h => h) (Or.inl ⟨by rfl, ?_⟩) ?_ ?_
            rotate_left
            · intro w'
              go_simp
              with_reducible rfl
            rotate_left
            · simp only [Act.put, List.setIfInBounds_toArray, List.set_cons_zero, List.set_cons_succ, i64_w, i32_w]
              try rfl
            refine pure_ (i := 20) (N := some 143) (v := ?_) (a' := ?_) #[true, true, true, true, true, true, true, true, true, true, true, true, true, true, true, true, true, true, true, true, true, false, false, false, false, false, false, false, false, false, false, false, false, false, false, false, false, false, false, false, false, false, false, false, false, false, false, false] rfl rfl (by kernel_rfl) (fun _ _ _ h => h) (Or.inl ⟨by rfl, ?_⟩) ?_ ?_
            rotate_left
            · intro w'
              go_simp
              with_reducible rfl
            rotate_left
            · simp only [Act.put, List.setIfInBounds_toArray, List.set_cons_zero, List.set_cons_succ, i64_w, i32_w]
              try rfl
            refine pure_ (i := 21) (N := some 144) (v := undef) (a' := ?_) #[true, true, true, true, true, true, true, true, true, true, true, true, true, true, true, true, true, true, true, true, true, true, false, false, false, false, false, false, false, false, false, false, false, false, false, false, false, false, false, false, false, false, false, false, false, false, false, false] rfl rfl (by kernel_rfl) (fun _ _ _ h => h) (Or.inr ⟨by rfl, rfl⟩) ?_ ?_
            rotate_left
            · simp only [Act.put, List.setIfInBounds_toArray, List.set_cons_zero, List.set_cons_succ, i64_w, i32_w]
              try rfl
            refine pure_ (i := 22) (N := some 145) (v := undef) (a' := ?_) #[true, true, true, true, true, true, true, true, true, true, true, true, true, true, true, true, true, true, true, true, true, true, true, false, false, false, false, false, false, false, false, false, false, false, false, false, false, false, false, false, false, false, false, false, false, false, false, false] rfl rfl (by kernel_rfl) (fun _ _ _ h => h) (Or.inr ⟨by rfl, rfl⟩) ?_ ?_
            rotate_left
            · simp only [Act.put, List.setIfInBounds_toArray, List.set_cons_zero, List.set_cons_succ, i64_w, i32_w]
              try rfl
            refine pure_ (i := 23) (N := some 146) (v := undef) (a' := ?_) #[true, true, true, true, true, true, true, true, true, true, true, true, true, true, true, true, true, true, true, true, true, true, true, true, false, false, false, false, false, false, false, false, false, false, false, false, false, false, false, false, false, false, false, false, false, false, false, false] rfl rfl (by kernel_rfl) (fun _ _ _ h => h) (Or.inr ⟨by rfl, rfl⟩) ?_ ?_
            rotate_left
            · simp only [Act.put, List.setIfInBounds_toArray, List.set_cons_zero, List.set_cons_succ, i64_w, i32_w]
              try rfl
            refine pure_ (i := 24) (N := some 147) (v := undef) (a' := ?_) #[true, true, true, true, true, true, true, true, true, true, true, true, true, true, true, true, true, true, true, true, true, true, true, true, true, false, false, false, false, false, false, false, false, false, false, false, false, false, false, false, false, false, false, false, false, false, false, false] rfl rfl (by kernel_rfl) (fun _ _ _ h => h) (Or.inr ⟨by rfl, rfl⟩) ?_ ?_
            rotate_left
            · simp only [Act.put, List.setIfInBounds_toArray, List.set_cons_zero, List.set_cons_succ, i64_w, i32_w]
              try rfl
            refine pure_ (i := 25) (N := some 148) (v := undef) (a' := ?_) #[true, true, true, true, true, true, true, true, true, true, true, true, true, true, true, true, true, true, true, true, true, true, true, true, true, true, false, false, false, false, false, false, false, false, false, false, false, false, false, false, false, false, false, false, false, false, false, false] rfl rfl (by kernel_rfl) (fun _ _ _ h => h) (Or.inr ⟨by rfl, rfl⟩) ?_ ?_
            rotate_left
            · simp only [Act.put, List.setIfInBounds_toArray, List.set_cons_zero, List.set_cons_succ, i64_w, i32_w]
              try rfl
            refine pure_ (i := 26) (N := some 149) (v := undef) (a' := ?_) #[true, true, true, true, true, true, true, true, true, true, true, true, true, true, true, true, true, true, true, true, true, true, true, true, true, true, true, false, false, false, false, false, false, false, false, false, false, false, false, false, false, false, false, false, false, false, false, false] rfl rfl (by kernel_rfl) (fun _ _ _ h => h) (Or.inr ⟨by rfl, rfl⟩) ?_ ?_
            rotate_left
            · simp only [Act.put, List.setIfInBounds_toArray, List.set_cons_zero, List.set_cons_succ, i64_w, i32_w]
              try rfl
            refine pure_ (i := 27) (N := some 150) (v := ?_) (a' := ?_) #[true, true, true, true, true, true, true, true, true, true, true, true, true, true, true, true, true, true, true, true, true, true, true, true, true, true, true, true, false, false, false, false, false, false, false, false, false, false, false, false, false, false, false, false, false, false, false, false] rfl rfl (by kernel_rfl) (fun _ _ _ h => h) (Or.inl ⟨by rfl, ?_⟩) ?_ ?_
            rotate_left
            · intro w'
              go_simp
              with_reducible rfl
            rotate_left
            · simp only [Act.put, List.setIfInBounds_toArray, List.set_cons_zero, List.set_cons_succ, i64_w, i32_w]
              try rfl
            refine pure_ (i := 28) (N := some 151) (v := ?_) (a' := ?_) #[true, true, true, true, true, true, true, true, true, true, true, true, true, true, true, true, true, true, true, true, true, true, true, true, true, true, true, true, true, false, false, false, false, false, false, false, false, false, false, false, false, false, false, false, false, false, false, false] rfl rfl (by kernel_rfl) (fun _ _ _ h => h) (Or.inl ⟨by rfl, ?_⟩) ?_ ?_
            rotate_left
            · intro w'
              go_simp
              with_reducible rfl
            rotate_left
            · simp only [Act.put, List.setIfInBounds_toArray, List.set_cons_zero, List.set_cons_succ, i64_w, i32_w]
              try rfl
            refine pure_ (i := 29) (N := some 152) (v := ?_) (a' := ?_) #[true, true, true, true, true, true, true, true, true, true, true, true, true, true, true, true, true, true, true, true, true, true, true, true, true, true, true, true, true, true, false, false, false, false, false, false, false, false, false, false, false, false, false, false, false, false, false, false] rfl rfl (by kernel_rfl) (fun _ _ _ h => h) (Or.inl ⟨by rfl, ?_⟩) ?_ ?_
            rotate_left
            · intro w'
              go_simp
              with_reducible rfl
            rotate_left
            · simp only [Act.put, List.setIfInBounds_toArray, List.set_cons_zero, List.set_cons_succ, i64_w, i32_w]
              try rfl
            refine pure_ (i := 30) (N := some 153) (v := ?_) (a' := ?_) #[true, true, true, true, true, true, true, true, true, true, true, true, true, true, true, true, true, true, true, true, true, true, true, true, true, true, true, true, true, true, true, false, false, false, false, false, false, false, false, false, false, false, false, false, false, false, false, false] rfl rfl (by kernel_rfl) (fun _ _ _ h => h) (Or.inl ⟨by rfl, ?_⟩) ?_ ?_
            rotate_left
            · intro w'
              go_simp
              with_reducible rfl
            rotate_left
            · simp only [Act.put, List.setIfInBounds_toArray, List.set_cons_zero, List.set_cons_succ, i64_w, i32_w]
              try rfl
            refine pure_ (i := 31) (N := some 154) (v := ?_) (a' := ?_) #[true, true, true, true, true, true, true, true, true, true, true, true, true, true, true, true, true, true, true, true, true, true, true, true, true, true, true, true, true, true, true, true, false, false, false, false, false, false, false, false, false, false, false, false, false, false, false, false] rfl rfl (by kernel_rfl) (fun _ _ _ h => h) (Or.inl ⟨by rfl, ?_⟩) ?_ ?_
            rotate_left
            · intro w'
              go_simp
              with_reducible rfl
            rotate_left
            · simp only [Act.put, List.setIfInBounds_toArray, List.set_cons_zero, List.set_cons_succ, i64_w, i32_w]
              try rfl
            refine pure_ (i := 32) (N := some 155) (v := ?_) (a' := ?_) #[true, true, true, true, true, true, true, true, true, true, true, true, true, true, true, true, true, true, true, true, true, true, true, true, true, true, true, true, true, true, true, true, true, false, false, false, false, false, false, false, false, false, false, false, false, false, false, false] rfl rfl (by kernel_rfl) (fun _ _ _ h => h) (Or.inl ⟨by rfl, ?_⟩) ?_ ?_
            rotate_left
            · intro w'
              go_simp
              with_reducible rfl
            rotate_left
            · simp only [Act.put, List.setIfInBounds_toArray, List.set_cons_zero, List.set_cons_succ, i64_w, i32_w]
              try rfl
            refine pure_ (i := 33) (N := some 156) (v := ?_) (a' := ?_) #[true, true, true, true, true, true, true, true, true, true, true, true, true, true, true, true, true, true, true, true, true, true, true, true, true, true, true, true, true, true, true, true, true, true, false, false, false, false, false, false, false, false, false, false, false, false, false, false] rfl rfl (by kernel_rfl) (fun _ _ _ h => h) (Or.inl ⟨by rfl, ?_⟩) ?_ ?_
            rotate_left
            · intro w'
              go_simp
              with_reducible rfl
            rotate_left
            · simp only [Act.put, List.setIfInBounds_toArray, List.set_cons_zero, List.set_cons_succ, i64_w, i32_w]
              try rfl
            refine pure_ (i := 34) (N := some 157) (v := ?_) (a' := ?_) #[true, true, true, true, true, true, true, true, true, true, true, true, true, true, true, true, true, true, true, true, true, true, true, true, true, true, true, true, true, true, true, true, true, true, true, false, false, false, false, false, false, false, false, false, false, false, false, false] rfl rfl (by kernel_rfl) (fun _ _ _ h => h) (Or.inl ⟨by rfl, ?_⟩) ?_ ?_
            rotate_left
            · intro w'
              go_simp
              with_reducible rfl
            rotate_left
            · simp only [Act.put, List.setIfInBounds_toArray, List.set_cons_zero, List.set_cons_succ, i64_w, i32_w]
              try rfl
            refine pure_ (i := 35) (N := some 158) (v := ?_) (a' := ?_) #[true, true, true, true, true, true, true, true, true, true, true, true, true, true, true, true, true, true, true, true, true, true, true, true, true, true, true, true, true, true, true, true, true, true, true, true, false, false, false, false, false, false, false, false, false, false, false, false] rfl rfl (by kernel_rfl) (fun _ _ _ h => h) (Or.inl ⟨by rfl, ?_⟩) ?_ ?_
            rotate_left
            · intro w'
              go_simp
              with_reducible rfl
            rotate_left
            · simp only [Act.put, List.setIfInBounds_toArray, List.set_cons_zero, List.set_cons_succ, i64_w, i32_w]
              try rfl
            refine pure_ (i := 36) (N := some 159) (v := ?_) (a' := ?_) #[true, true, true, true, true, true, true, true, true, true, true, true, true, true, true, true, true, true, true, true, true, true, true, true, true, true, true, true, true, true, true, true, true, true, true, true, true, false, false, false, false, false, false, false, false, false, false, false] rfl rfl (by kernel_rfl) (fun _ _ _ h => h) (Or.inl ⟨by rfl, ?_⟩) ?_ ?_
            rotate_left
            · intro w'
              go_simp
              with_reducible rfl
            rotate_left
            · simp only [Act.put, List.setIfInBounds_toArray, List.set_cons_zero, List.set_cons_succ, i64_w, i32_w]
              try rfl
            refine pure_ (i := 37) (N := some 160) (v := ?_) (a' := ?_) #[true, true, true, true, true, true, true, true, true, true, true, true, true, true, true, true, true, true, true, true, true, true, true, true, true, true, true, true, true, true, true, true, true, true, true, true, true, true, false, false, false, false, false, false, false, false, false, false] rfl rfl (by kernel_rfl) (fun _ _ _ h => h) (Or.inl ⟨by rfl, ?_⟩) ?_ ?_
            rotate_left
            · intro w'
              go_simp
              with_reducible rfl
            rotate_left
            · simp only [Act.put, List.setIfInBounds_toArray, List.set_cons_zero, List.set_cons_succ, i64_w, i32_w]
              try rfl
            refine pure_ (i := 38) (N := some 161) (v := ?_) (a' := ?_) #[true, true, true, true, true, true, true, true, true, true, true, true, true, true, true, true, true, true, true, true, true, true, true, true, true, true, true, true, true, true, true, true, true, true, true, true, true, true, true, false, false, false, false, false, false, false, false, false] rfl rfl (by kernel_rfl) (fun _ _ _ h => h) (Or.inl ⟨by rfl, ?_⟩) ?_ ?_
            rotate_left
            · intro w'
              go_simp
              with_reducible rfl
            rotate_left
            · simp only [Act.put, List.setIfInBounds_toArray, List.set_cons_zero, List.set_cons_succ, i64_w, i32_w]
              try rfl
            refine pure_ (i := 39) (N := some 162) (v := ?_) (a' := ?_) #[true, true, true, true, true, true, true, true, true, true, true, true, true, true, true, true, true, true, true, true, true, true, true, true, true, true, true, true, true, true, true, true, true, true, true, true, true, true, true, true, false, false, false, false, false, false, false, false] rfl rfl (by kernel_rfl) (fun _ _ _ h => h) (Or.inl ⟨by rfl, ?_⟩) ?_ ?_
            rotate_left
            · intro w'
              go_simp
              with_reducible rfl
            rotate_left
            · simp only [Act.put, List.setIfInBounds_toArray, List.set_cons_zero, List.set_cons_succ, i64_w, i32_w]
              try rfl
            refine pure_ (i := 40) (N := some 163) (v := ?_) (a' := ?_) #[true, true, true, true, true, true, true, true, true, true, true, true, true, true, true, true, true, true, true, true, true, true, true, true, true, true, true, true, true, true, true, true, true, true, true, true, true, true, true, true, true, false, false, false, false, false, false, false] rfl rfl (by kernel_rfl) (fun _ _ _ h => h) (Or.inl ⟨by rfl, ?_⟩) ?_ ?_
            rotate_left
            · intro w'
              go_simp
              with_reducible rfl
            rotate_left
            · simp only [Act.put, List.setIfInBounds_toArray, List.set_cons_zero, List.set_cons_succ, i64_w, i32_w]
              try rfl
            refine pure_ (i := 41) (N := some 164) (v := ?_) (a' := ?_) #[true, true, true, true, true, true, true, true, true, true, true, true, true, true, true, true, true, true, true, true, true, true, true, true, true, true, true, true, true, true, true, true, true, true, true, true, true, true, true, true, true, true, false, false, false, false, false, false] rfl rfl (by kernel_rfl) (fun _ _ _ h => h) (Or.inl ⟨by rfl, ?_⟩) ?_ ?_
            rotate_left
            · intro w'
              go_simp
              with_reducible rfl
            rotate_left
            · simp only [Act.put, List.setIfInBounds_toArray, List.set_cons_zero, List.set_cons_succ, i64_w, i32_w]
              try rfl
            refine pure_ (i := 42) (N := some 165) (v := ?_) (a' := ?_) #[true, true, true, true, true, true, true, true, true, true, true, true, true, true, true, true, true, true, true, true, true, true, true, true, true, true, true, true, true, true, true, true, true, true, true, true, true, true, true, true, true, true, true, false, false, false, false, false] rfl rfl (by kernel_rfl) (fun _ _ _ h => h) (Or.inl ⟨by rfl, ?_⟩) ?_ ?_
            rotate_left
            · intro w'
              go_simp
              with_reducible rfl
            rotate_left
            · simp only [Act.put, List.setIfInBounds_toArray, List.set_cons_zero, List.set_cons_succ, i64_w, i32_w]
              try rfl
            refine pure_ (i := 43) (N := some 166) (v := ?_) (a' := ?_) #[true, true, true, true, true, true, true, true, true, true, true, true, true, true, true, true, true, true, true, true, true, true, true, true, true, true, true, true, true, true, true, true, true, true, true, true, true, true, true, true, true, true, true, true, false, false, false, false] rfl rfl (by kernel_rfl) (fun _ _ _ h => h) (Or.inl ⟨by rfl, ?_⟩) ?_ ?_
            rotate_left
            · intro w'
              go_simp
              with_reducible rfl
            rotate_left
            · simp only [Act.put, List.setIfInBounds_toArray, List.set_cons_zero, List.set_cons_succ, i64_w, i32_w]
              try rfl
            refine pure_ (i := 44) (N := some 167) (v := ?_) (a' := ?_) #[true, true, true, true, true, true, true, true, true, true, true, true, true, true, true, true, true, true, true, true, true, true, true, true, true, true, true, true, true, true, true, true, true, true, true, true, true, true, true, true, true, true, true, true, true, false, false, false] rfl rfl (by kernel_rfl) (fun _ _ _ h => h) (Or.inl ⟨by rfl, ?_⟩) ?_ ?_
            rotate_left
            · intro w'
              go_simp
              with_reducible rfl
            rotate_left
            · simp only [Act.put, List.setIfInBounds_toArray, List.set_cons_zero, List.set_cons_succ, i64_w, i32_w]
              try rfl
            refine take_ (i := 45) (N := some 168) (v := ?_) (a' := ?_) #[true, true, true, true, true, true, true, true, true, true, true, true, true, true, true, true, true, true, true, true, true, true, true, true, true, true, true, true, true, true, true, true, true, true, true, true, true, true, true, true, true, true, true, true, true, true, false, false] rfl rfl (by kernel_rfl) (fun _ _ _ h => h) (Or.inl ⟨by rfl, ?_⟩) hHeld ?_ ?_
            rotate_left
            · rintro w' ⟨s0, s1, s2⟩
              go_simp
              with_reducible rfl
            rotate_left
            · simp only [Act.put, List.setIfInBounds_toArray, List.set_cons_zero, List.set_cons_succ, i64_w, i32_w]
              try rfl
            refine pure_ (i := 46) (N := some 169) (v := ?_) (a' := ?_) #[true, true, true, true, true, true, true, true, true, true, true, true, true, true, true, true, true, true, true, true, true, true, true, true, true, true, true, true, true, true, true, true, true, true, true, true, true, true, true, true, true, true, true, true, true, true, true, false] rfl rfl (by kernel_rfl) (fun _ _ _ h => h) (Or.inl ⟨by rfl, ?_⟩) ?_ ?_
            rotate_left
            · intro w'
              go_simp
              with_reducible rfl
            rotate_left
            · simp only [Act.put, List.setIfInBounds_toArray, List.set_cons_zero, List.set_cons_succ, i64_w, i32_w]
              try rfl
            refine pure_ (i := 47) (N := some 170) (v := ?_) (a' := ?_) #[true, true, true, true, true, true, true, true, true, true, true, true, true, true, true, true, true, true, true, true, true, true, true, true, true, true, true, true, true, true, true, true, true, true, true, true, true, true, true, true, true, true, true, true, true, true, true, true] rfl rfl (by kernel_rfl) (fun _ _ _ h => h) (Or.inl ⟨by rfl, ?_⟩) ?_ ?_
            rotate_left
            · intro w'
              go_simp
              with_reducible rfl
            rotate_left
            · simp only [Act.put, List.setIfInBounds_toArray, List.set_cons_zero, List.set_cons_succ, i64_w, i32_w]
              try rfl
            refine done_ (by kernel_rfl) ?_
            clear hHeld e0 e1 e2 ea0 ea1 ea2 eb0 eb1 eb2
            go_wp2_with fail
            go_roundw
            case rel => exact ⟨k + 1, R, now, xs, _, ys, by omega, by go_num, HPb⟩
            case measure => simp [intOf]; omega
          · have hwf := hfr hh
            have HLF := Lib.hid (left_find (now := now) hh)
            clear hfr
            go_upto_region 33 with (first
              | (go_at_call 10; (with_reducible refine (HFD.out _ HP.out).mono ?_); rintro e w3 ⟨rfl, hb⟩; rw [hh]; have HP3 := Lib.hid (HP.out.later hb); clear hb p0 p1)
              | (go_at_call 16; (with_reducible refine (ck_left HP3.out.c.k ask).mono ?_); rintro e w4 ⟨rfl, hb⟩; rw [hh, HLF.out]; have HP4 := Lib.hid (HP3.out.later hb); have p0 := (blk_cell HP4.out.x 0).trans rfl; have p1 := (blk_cell HP4.out.x 1).trans rfl; clear hb)
              | (go_at_call 17; (with_reducible refine (HNX.out _ HP4.out).mono ?_); rintro e w5 ⟨rfl, hb⟩; have HP5 := Lib.hid ((HP4.out.later hb).later (below_alloc (Below.refl _ _) (.cells #[.int .i64 (headI xs), .int .i64 (nextV xs)] 48))); have HN5 := Lib.hid (blk_new w5 (.cells #[.int .i64 (headI xs), .int .i64 (nextV xs)] 48)); clear hb p0 p1)
              | (go_at_call 18; (with_reducible refine (ck_next HP5.out.c.k).mono ?_); rintro e w6 ⟨rfl, hb⟩; have HP6 := Lib.hid (HP5.out.later hb); have HN6 := Lib.hid (blk_below HN5.out hb); clear hb))
            have HP9 := Lib.hid (HP6.out.later (below_drew (Below.refl _ _)))
            have e0 := (blk_cell (blk_drew HP6.out.x) 0).trans rfl
            have e1 := (blk_cell (blk_drew HP6.out.x) 1).trans rfl
            have e2 := (blk_cell (blk_drew HN6.out) 1).trans rfl
            obtain ⟨bn, hbn⟩ : ∃ bn, w5.heap.size = bn := ⟨_, rfl⟩
            rw [hbn] at e2
            simp only [hbn]
            clear HP HP3 HP4 HP5 HP6 HN5 HN6 hbn HFD HNX HCY
            refine start_ (n := 48) (S := fun W' => W'.cell? ⟨gx, 0, none⟩ = some (.int .i64 now) ∧ W'.cell? ⟨gx, 1, none⟩ = some (.slice Av xs.length kv) ∧ W'.cell? ⟨bn, 1, none⟩ = some (.int .i64 (nextV xs))) (ds := []) #[false, false, false, false, false, false, false, false, false, false, false, false, false, false, false, false, false, false, false, false, false, false, false, false, false, false, false, false, false, false, false, false, false, false, false, false, false, false, false, false, false, false, false, false, false, false, false, false] (by kernel_rfl) rfl rfl ⟨e0, e1, e2⟩ (fun hHeld => ?_)
            refine pure_ (i := 0) (N := some 123) (v := ?_) (a' := ?_) #[true, false, false, false, false, false, false, false, false, false, false, false, false, false, false, false, false, false, false, false, false, false, false, false, false, false, false, false, false, false, false, false, false, false, false, false, false, false, false, false, false, false, false, false, false, false, false, false] rfl rfl (by kernel_rfl) (fun _ _ _ h => h) (Or.inl ⟨by rfl, ?_⟩) ?_ ?_
            rotate_left
            · intro w'
              go_simp
              with_reducible rfl
            rotate_left
            · simp only [Act.put, List.setIfInBounds_toArray, List.set_cons_zero, List.set_cons_succ, i64_w, i32_w]
              try rfl
            refine pure_ (i := 2) (N := some 125) (v := ?_) (a' := ?_) #[true, false, true, false, false, false, false, false, false, false, false, false, false, false, false, false, false, false, false, false, false, false, false, false, false, false, false, false, false, false, false, false, false, false, false, false, false, false, false, false, false, false, false, false, false, false, false, false] rfl rfl (by kernel_rfl) (fun _ _ _ h => h) (Or.inl ⟨by rfl, ?_⟩) ?_ ?_
            rotate_left
            · intro w'
              go_simp
              with_reducible rfl
            rotate_left
            · simp only [Act.put, List.setIfInBounds_toArray, List.set_cons_zero, List.set_cons_succ, i64_w, i32_w]
              try rfl
            refine take_ (i := 3) (N := some 126) (v := ?_) (a' := ?_) #[true, false, true, true, false, false, false, false, false, false, false, false, false, false, false, false, false, false, false, false, false, false, false, false, false, false, false, false, false, false, false, false, false, false, false, false, false, false, false, false, false, false, false, false, false, false, false, false] rfl rfl (by kernel_rfl) (fun _ _ _ h => h) (Or.inl ⟨by rfl, ?_⟩) hHeld ?_ ?_
            rotate_left
            · rintro w' ⟨s0, s1, s2⟩
              go_simp
              with_reducible rfl
            rotate_left
            · simp only [Act.put, List.setIfInBounds_toArray, List.set_cons_zero, List.set_cons_succ, i64_w, i32_w]
              try rfl
            refine one_ (i := 1) (N := some 124) #[true, true, true, true, false, false, false, false, false, false, false, false, false, false, false, false, false, false, false, false, false, false, false, false, false, false, false, false, false, false, false, false, false, false, false, false, false, false, false, false, false, false, false, false, false, false, false, false] rfl rfl (by kernel_rfl) (by decide) (fun K hK => ?_)
            refine goes_ Try.func19 (by kernel_rfl) rfl #[.pointer (some ⟨g, 0, none⟩)] (by rfl) rfl rfl (by (try simp only [List.map_toArray, List.map_cons, List.map_nil]); first | done | rfl) ?_
            refine (ck_now HP9.out.c.k).mono ?_
            rintro e wa ⟨rfl, hba⟩
            have HPa := Lib.hid (HP9.out.later hba)
            have ea0 := pw_cell_below hba e0
            have ea1 := pw_cell_below hba e1
            have ea2 := pw_cell_below hba e2
            clear hba
            refine ⟨_, rfl, ?_⟩
            refine hK.out _ _ ⟨ea0, ea1, ea2⟩ (fun hHeld => ?_)
            clear hK K
            refine norm_ (a' := ?_) ?_ ?_
            rotate_left
            · show Act.put _ (some 124) _ = _
              simp only [Act.put, List.setIfInBounds_toArray, List.set_cons_zero, List.set_cons_succ, i64_w, i32_w]
              try rfl
            refine pure_ (i := 4) (N := some 127) (v := ?_) (a' := ?_) #[true, true, true, true, true, false, false, false, false, false, false, false, false, false, false, false, false, false, false, false, false, false, false, false, false, false, false, false, false, false, false, false, false, false, false, false, false, false, false, false, false, false, false, false, false, false, false, false] rfl rfl (by kernel_rfl) (fun _ _ _ h => h) (Or.inl ⟨by rfl, ?_⟩) ?_ ?_
            rotate_left
            · intro w'
              go_simp
              with_reducible rfl
            rotate_left
            · simp only [Act.put, List.setIfInBounds_toArray, List.set_cons_zero, List.set_cons_succ, i64_w, i32_w]
              try rfl
            refine pure_ (i := 5) (N := some 128) (v := ?_) (a' := ?_) #[true, true, true, true, true, true, false, false, false, false, false, false, false, false, false, false, false, false, false, false, false, false, false, false, false, false, false, false, false, false, false, false, false, false, false, false, false, false, false, false, false, false, false, false, false, false, false, false] rfl rfl (by kernel_rfl) (fun _ _ _ h => h) (Or.inl ⟨by rfl, ?_⟩) ?_ ?_
            rotate_left
            · intro w'
              go_simp
              with_reducible rfl
            rotate_left
            · simp only [Act.put, List.setIfInBounds_toArray, List.set_cons_zero, List.set_cons_succ, i64_w, i32_w]
              try rfl
            refine pure_ (i := 6) (N := some 129) (v := ?_) (a' := ?_) #[true, true, true, true, true, true, true, false, false, false, false, false, false, false, false, false, false, false, false, false, false, false, false, false, false, false, false, false, false, false, false, false, false, false, false, false, false, false, false, false, false, false, false, false, false, false, false, false] rfl rfl (by kernel_rfl) (fun _ _ _ h => h) (Or.inl ⟨by rfl, ?_⟩) ?_ ?_
            rotate_left
            · intro w'
              go_simp
              with_reducible rfl
            rotate_left
            · simp only [Act.put, List.setIfInBounds_toArray, List.set_cons_zero, List.set_cons_succ, i64_w, i32_w]
              try rfl
            refine pure_ (i := 8) (N := some 131) (v := ?_) (a' := ?_) #[true, true, true, true, true, true, true, false, true, false, false, false, false, false, false, false, false, false, false, false, false, false, false, false, false, false, false, false, false, false, false, false, false, false, false, false, false, false, false, false, false, false, false, false, false, false, false, false] rfl rfl (by kernel_rfl) (fun _ _ _ h => h) (Or.inl ⟨by rfl, ?_⟩) ?_ ?_
            rotate_left
            · intro w'
              go_simp
              with_reducible rfl
            rotate_left
            · simp only [Act.put, List.setIfInBounds_toArray, List.set_cons_zero, List.set_cons_succ, i64_w, i32_w]
              try rfl
            refine take_ (i := 9) (N := some 132) (v := ?_) (a' := ?_) #[true, true, true, true, true, true, true, false, true, true, false, false, false, false, false, false, false, false, false, false, false, false, false, false, false, false, false, false, false, false, false, false, false, false, false, false, false, false, false, false, false, false, false, false, false, false, false, false] rfl rfl (by kernel_rfl) (fun _ _ _ h => h) (Or.inl ⟨by rfl, ?_⟩) hHeld ?_ ?_
            rotate_left
            · rintro w' ⟨s0, s1, s2⟩
              go_simp
              with_reducible rfl
            rotate_left
            · simp only [Act.put, List.setIfInBounds_toArray, List.set_cons_zero, List.set_cons_succ, i64_w, i32_w]
              try rfl
            refine pure_ (i := 10) (N := some 133) (v := ?_) (a' := ?_) #[true, true, true, true, true, true, true, false, true, true, true, false, false, false, false, false, false, false, false, false, false, false, false, false, false, false, false, false, false, false, false, false, false, false, false, false, false, false, false, false, false, false, false, false, false, false, false, false] rfl rfl (by kernel_rfl) (fun _ _ _ h => h) (Or.inl ⟨by rfl, ?_⟩) ?_ ?_
            rotate_left
            · intro w'
              go_simp
              with_reducible rfl
            rotate_left
            · simp only [Act.put, List.setIfInBounds_toArray, List.set_cons_zero, List.set_cons_succ, i64_w, i32_w]
              try rfl
            refine one_ (i := 7) (N := some 130) #[true, true, true, true, true, true, true, true, true, true, true, false, false, false, false, false, false, false, false, false, false, false, false, false, false, false, false, false, false, false, false, false, false, false, false, false, false, false, false, false, false, false, false, false, false, false, false, false] rfl rfl (by kernel_rfl) (by decide) (fun K hK => ?_)
            refine goes_ Try.func20 (by kernel_rfl) rfl #[.pointer (some ⟨g, 0, none⟩)] (by rfl) rfl rfl (by (try simp only [List.map_toArray, List.map_cons, List.map_nil]); first | done | rfl) ?_
            refine (ck_len HPa.out.c.k).mono ?_
            rintro e wb ⟨rfl, hbb⟩
            have HPb := Lib.hid (HPa.out.later hbb)
            have eb0 := pw_cell_below hbb ea0
            have eb1 := pw_cell_below hbb ea1
            have eb2 := pw_cell_below hbb ea2
            clear hbb
            refine ⟨_, rfl, ?_⟩
            refine hK.out _ _ ⟨eb0, eb1, eb2⟩ (fun hHeld => ?_)
            clear hK K
            refine norm_ (a' := ?_) ?_ ?_
            rotate_left
            · show Act.put _ (some 130) _ = _
              simp only [Act.put, List.setIfInBounds_toArray, List.set_cons_zero, List.set_cons_succ, i64_w, i32_w]
              try rfl
            refine pure_ (i := 11) (N := some 134) (v := ?_) (a' := ?_) #[true, true, true, true, true, true, true, true, true, true, true, true, false, false, false, false, false, false, false, false, false, false, false, false, false, false, false, false, false, false, false, false, false, false, false, false, false, false, false, false, false, false, false, false, false, false, false, false] rfl rfl (by kernel_rfl) (fun _ _ _ h => h) (Or.inl ⟨by rfl, ?_⟩) ?_ ?_
            rotate_left
            · intro w'
              go_simp
              with_reducible rfl
            rotate_left
            · simp only [Act.put, List.setIfInBounds_toArray, List.set_cons_zero, List.set_cons_succ, i64_w, i32_w]
              try rfl
            refine pure_ (i := 12) (N := some 135) (v := ?_) (a' := ?_) #[true, true, true, true, true, true, true, true, true, true, true, true, true, false, false, false, false, false, false, false, false, false, false, false, false, false, false, false, false, false, false, false, false, false, false, false, false, false, false, false, false, false, false, false, false, false, false, false] rfl rfl (by kernel_rfl) (fun _ _ _ h => h) (Or.inl ⟨by rfl, ?_⟩) ?_ ?_
            rotate_left
            · intro w'
              go_simp
              with_reducible rfl
            rotate_left
            · simp only [Act.put, List.setIfInBounds_toArray, List.set_cons_zero, List.set_cons_succ, i64_w, i32_w]
              try rfl
            refine pure_ (i := 13) (N := some 136) (v := ?_) (a' := ?_) #[true, true, true, true, true, true, true, true, true, true, true, true, true, true, false, false, false, false, false, false, false, false, false, false, false, false, false, false, false, false, false, false, false, false, false, false, false, false, false, false, false, false, false, false, false, false, false, false] rfl rfl (by kernel_rfl) (fun _ _ _ h => h) (Or.inl ⟨by rfl, ?_⟩) ?_ ?_
            rotate_left
            · intro w'
              go_simp
              with_reducible rfl
            rotate_left
            · simp only [Act.put, List.setIfInBounds_toArray, List.set_cons_zero, List.set_cons_succ, i64_w, i32_w]
              try rfl
            refine pure_ (i := 14) (N := some 137) (v := ?_) (a' := ?_) #[true, true, true, true, true, true, true, true, true, true, true, true, true, true, true, false, false, false, false, false, false, false, false, false, false, false, false, false, false, false, false, false, false, false, false, false, false, false, false, false, false, false, false, false, false, false, false, false] rfl rfl (by kernel_rfl) (fun _ _ _ h => h) (Or.inl ⟨by rfl, ?_⟩) ?_ ?_
            rotate_left
            · intro w'
              go_simp
              with_reducible rfl
            rotate_left
            · simp only [Act.put, List.setIfInBounds_toArray, List.set_cons_zero, List.set_cons_succ, i64_w, i32_w]
              try rfl
            refine pure_ (i := 15) (N := some 138) (v := ?_) (a' := ?_) #[true, true, true, true, true, true, true, true, true, true, true, true, true, true, true, true, false, false, false, false, false, false, false, false, false, false, false, false, false, false, false, false, false, false, false, false, false, false, false, false, false, false, false, false, false, false, false, false] rfl rfl (by kernel_rfl) (fun _ _ _ h => h) (Or.inl ⟨by rfl, ?_⟩) ?_ ?_
            rotate_left
            · intro w'
              go_simp
              with_reducible rfl
            rotate_left
            · simp only [Act.put, List.setIfInBounds_toArray, List.set_cons_zero, List.set_cons_succ, i64_w, i32_w]
              try rfl
            refine pure_ (i := 16) (N := some 139) (v := ?_) (a' := ?_) #[true, true, true, true, true, true, true, true, true, true, true, true, true, true, true, true, true, false, false, false, false, false, false, false, false, false, false, false, false, false, false, false, false, false, false, false, false, false, false, false, false, false, false, false, false, false, false, false] rfl rfl (by kernel_rfl) (fun _ _ _ h => h) (Or.inl ⟨by rfl, ?_⟩) ?_ ?_
            rotate_left
            · intro w'
              go_simp
              with_reducible rfl
            rotate_left
            · simp only [Act.put, List.setIfInBounds_toArray, List.set_cons_zero, List.set_cons_succ, i64_w, i32_w]
              try rfl
            refine pure_ (i := 17) (N := some 140) (v := ?_) (a' := ?_) #[true, true, true, true, true, true, true, true, true, true, true, true, true, true, true, true, true, true, false, false, false, false, false, false, false, false, false, false, false, false, false, false, false, false, false, false, false, false, false, false, false, false, false, false, false, false, false, false] rfl rfl (by kernel_rfl) (fun _ _ _ h => h) (Or.inl ⟨by rfl, ?_⟩) ?_ ?_
            rotate_left
            · intro w'
              go_simp
              with_reducible rfl
            rotate_left
            · simp only [Act.put, List.setIfInBounds_toArray, List.set_cons_zero, List.set_cons_succ, i64_w, i32_w]
              try rfl
            refine pure_ (i := 18) (N := some 141) (v := ?_) (a' := ?_) #[true, true, true, true, true, true, true, true, true, true, true, true, true, true, true, true, true, true, true, false, false, false, false, false, false, false, false, false, false, false, false, false, false, false, false, false, false, false, false, false, false, false, false, false, false, false, false, false] rfl rfl (by kernel_rfl) (fun _ _ _ h => h) (Or.inl ⟨by rfl, ?_⟩) ?_ ?_
            rotate_left
            · intro w'
              go_simp
              with_reducible rfl
            rotate_left
            · simp only [Act.put, List.setIfInBounds_toArray, List.set_cons_zero, List.set_cons_succ, i64_w, i32_w]
              try rfl
            refine pure_ (i := 19) (N := some 142) (v := ?_) (a' := ?_) #[true, true, true, true, true, true, true, true, true, true, true, true, true, true, true, true, true, true, true, true, false, false, false, false, false, false, false, false, false, false, false, false, false, false, false, false, false, false, false, false, false, false, false, false, false, false, false, false] rfl rfl (by kernel_rfl) (fun _ _ _ h => h) (Or.inl ⟨by rfl, ?_⟩) ?_ ?_
            rotate_left
            · intro w'
              go_simp
              with_reducible rfl
            rotate_left
            · simp only [Act.put, List.setIfInBounds_toArray, List.set_cons_zero, List.set_cons_succ, i64_w, i32_w]
              try rfl
            refine pure_ (i := 20) (N := some 143) (v := ?_) (a' := ?_) #[true, true, true, true, true, true, true, true, true, true, true, true, true, true, true, true, true, true, true, true, true, false, false, false, false, false, false, false, false, false, false, false, false, false, false, false, false, false, false, false, false, false, false, false, false, false, false, false] rfl rfl (by kernel_rfl) (fun _ _ _ h => h) (Or.inl ⟨by rfl, ?_⟩) ?_ ?_
            rotate_left
            · intro w'
              go_simp
              with_reducible rfl
            rotate_left
            · simp only [Act.put, List.setIfInBounds_toArray, List.set_cons_zero, List.set_cons_succ, i64_w, i32_w]
              try rfl
            refine pure_ (i := 21) (N := some 144) (v := ?_) (a' := ?_) #[true, true, true, true, true, true, true, true, true, true, true, true, true, true, true, true, true, true, true, true, true, true, false, false, false, false, false, false, false, false, false, false, false, false, false, false, false, false, false, false, false, false, false, false, false, false, false, false] rfl rfl (by kernel_rfl) (fun _ _ _ h => h) (Or.inl ⟨by rfl, ?_⟩) ?_ ?_
            rotate_left
            · intro w'
              go_simp
              with_reducible rfl
            rotate_left
            · simp only [Act.put, List.setIfInBounds_toArray, List.set_cons_zero, List.set_cons_succ, i64_w, i32_w]
              try rfl
            refine pure_ (i := 22) (N := some 145) (v := ?_) (a' := ?_) #[true, true, true, true, true, true, true, true, true, true, true, true, true, true, true, true, true, true, true, true, true, true, true, false, false, false, false, false, false, false, false, false, false, false, false, false, false, false, false, false, false, false, false, false, false, false, false, false] rfl rfl (by kernel_rfl) (fun _ _ _ h => h) (Or.inl ⟨by rfl, ?_⟩) ?_ ?_
            rotate_left
            · intro w'
              go_simp
              with_reducible rfl
            rotate_left
            · simp only [Act.put, List.setIfInBounds_toArray, List.set_cons_zero, List.set_cons_succ, i64_w, i32_w]
              try rfl
            refine pure_ (i := 23) (N := some 146) (v := ?_) (a' := ?_) #[true, true, true, true, true, true, true, true, true, true, true, true, true, true, true, true, true, true, true, true, true, true, true, true, false, false, false, false, false, false, false, false, false, false, false, false, false, false, false, false, false, false, false, false, false, false, false, false] rfl rfl (by kernel_rfl) (fun _ _ _ h => h) (Or.inl ⟨by rfl, ?_⟩) ?_ ?_
            rotate_left
            · intro w'
              go_simp
              with_reducible rfl
            rotate_left
            · simp only [Act.put, List.setIfInBounds_toArray, List.set_cons_zero, List.set_cons_succ, i64_w, i32_w]
              try rfl
            refine take_ (i := 24) (N := some 147) (v := ?_) (a' := ?_) #[true, true, true, true, true, true, true, true, true, true, true, true, true, true, true, true, true, true, true, true, true, true, true, true, true, false, false, false, false, false, false, false, false, false, false, false, false, false, false, false, false, false, false, false, false, false, false, false] rfl rfl (by kernel_rfl) (fun _ _ _ h => h) (Or.inl ⟨by rfl, ?_⟩) hHeld ?_ ?_
            rotate_left
            · rintro w' ⟨s0, s1, s2⟩
              go_simp
              with_reducible rfl
            rotate_left
            · simp only [Act.put, List.setIfInBounds_toArray, List.set_cons_zero, List.set_cons_succ, i64_w, i32_w]
              try rfl
            refine pure_ (i := 25) (N := some 148) (v := ?_) (a' := ?_) #[true, true, true, true, true, true, true, true, true, true, true, true, true, true, true, true, true, true, true, true, true, true, true, true, true, true, false, false, false, false, false, false, false, false, false, false, false, false, false, false, false, false, false, false, false, false, false, false] rfl rfl (by kernel_rfl) (fun _ _ _ h => h) (Or.inl ⟨by rfl, ?_⟩) ?_ ?_
            rotate_left
            · intro w'
              go_simp
              with_reducible rfl
            rotate_left
            · simp only [Act.put, List.setIfInBounds_toArray, List.set_cons_zero, List.set_cons_succ, i64_w, i32_w]
              try rfl
            refine pure_ (i := 26) (N := some 149) (v := ?_) (a' := ?_) #[true, true, true, true, true, true, true, true, true, true, true, true, true, true, true, true, true, true, true, true, true, true, true, true, true, true, true, false, false, false, false, false, false, false, false, false, false, false, false, false, false, false, false, false, false, false, false, false] rfl rfl (by kernel_rfl) (fun _ _ _ h => h) (Or.inl ⟨by rfl, ?_⟩) ?_ ?_
            rotate_left
            · intro w'
              go_simp
              with_reducible rfl
            rotate_left
            · simp only [Act.put, List.setIfInBounds_toArray, List.set_cons_zero, List.set_cons_succ, i64_w, i32_w]
              try rfl
            refine pure_ (i := 27) (N := some 150) (v := ?_) (a' := ?_) #[true, true, true, true, true, true, true, true, true, true, true, true, true, true, true, true, true, true, true, true, true, true, true, true, true, true, true, true, false, false, false, false, false, false, false, false, false, false, false, false, false, false, false, false, false, false, false, false] rfl rfl (by kernel_rfl) (fun _ _ _ h => h) (Or.inl ⟨by rfl, ?_⟩) ?_ ?_
            rotate_left
            · intro w'
              go_simp
              with_reducible rfl
            rotate_left
            · simp only [Act.put, List.setIfInBounds_toArray, List.set_cons_zero, List.set_cons_succ, i64_w, i32_w]
              try rfl
            refine pure_ (i := 28) (N := some 151) (v := ?_) (a' := ?_) #[true, true, true, true, true, true, true, true, true, true, true, true, true, true, true, true, true, true, true, true, true, true, true, true, true, true, true, true, true, false, false, false, false, false, false, false, false, false, false, false, false, false, false, false, false, false, false, false] rfl rfl (by kernel_rfl) (fun _ _ _ h => h) (Or.inl ⟨by rfl, ?_⟩) ?_ ?_
            rotate_left
            · intro w'
              go_simp
              with_reducible rfl
            rotate_left
            · simp only [Act.put, List.setIfInBounds_toArray, List.set_cons_zero, List.set_cons_succ, i64_w, i32_w]
              try rfl
            refine pure_ (i := 29) (N := some 152) (v := ?_) (a' := ?_) #[true, true, true, true, true, true, true, true, true, true, true, true, true, true, true, true, true, true, true, true, true, true, true, true, true, true, true, true, true, true, false, false, false, false, false, false, false, false, false, false, false, false, false, false, false, false, false, false] rfl rfl (by kernel_rfl) (fun _ _ _ h => h) (Or.inl ⟨by rfl, ?_⟩) ?_ ?_
            rotate_left
            · intro w'
              go_simp
              with_reducible rfl
            rotate_left
            · simp only [Act.put, List.setIfInBounds_toArray, List.set_cons_zero, List.set_cons_succ, i64_w, i32_w]
              try rfl
            refine pure_ (i := 30) (N := some 153) (v := ?_) (a' := ?_) #[true, true, true, true, true, true, true, true, true, true, true, true, true, true, true, true, true, true, true, true, true, true, true, true, true, true, true, true, true, true, true, false, false, false, false, false, false, false, false, false, false, false, false, false, false, false, false, false] rfl rfl (by kernel_rfl) (fun _ _ _ h => h) (Or.inl ⟨by rfl, ?_⟩) ?_ ?_
            rotate_left
            · intro w'
              go_simp
              with_reducible rfl
            rotate_left
            · simp only [Act.put, List.setIfInBounds_toArray, List.set_cons_zero, List.set_cons_succ, i64_w, i32_w]
              try rfl
            refine pure_ (i := 31) (N := some 154) (v := ?_) (a' := ?_) #[true, true, true, true, true, true, true, true, true, true, true, true, true, true, true, true, true, true, true, true, true, true, true, true, true, true, true, true, true, true, true, true, false, false, false, false, false, false, false, false, false, false, false, false, false, false, false, false] rfl rfl (by kernel_rfl) (fun _ _ _ h => h) (Or.inl ⟨by rfl, ?_⟩) ?_ ?_
            rotate_left
            · intro w'
              go_simp
              with_reducible rfl
            rotate_left
            · simp only [Act.put, List.setIfInBounds_toArray, List.set_cons_zero, List.set_cons_succ, i64_w, i32_w]
              try rfl
            refine pure_ (i := 32) (N := some 155) (v := ?_) (a' := ?_) #[true, true, true, true, true, true, true, true, true, true, true, true, true, true, true, true, true, true, true, true, true, true, true, true, true, true, true, true, true, true, true, true, true, false, false, false, false, false, false, false, false, false, false, false, false, false, false, false] rfl rfl (by kernel_rfl) (fun _ _ _ h => h) (Or.inl ⟨by rfl, ?_⟩) ?_ ?_
            rotate_left
            · intro w'
              go_simp
              with_reducible rfl
            rotate_left
            · simp only [Act.put, List.setIfInBounds_toArray, List.set_cons_zero, List.set_cons_succ, i64_w, i32_w]
              try rfl
            refine pure_ (i := 33) (N := some 156) (v := undef) (a' := ?_) #[true, true, true, true, true, true, true, true, true, true, true, true, true, true, true, true, true, true, true, true, true, true, true, true, true, true, true, true, true, true, true, true, true, true, false, false, false, false, false, false, false, false, false, false, false, false, false, false] rfl rfl (by kernel_rfl) (fun _ _ _ h => h) (Or.inr ⟨by rfl, rfl⟩) ?_ ?_
            rotate_left
            · simp only [Act.put, List.setIfInBounds_toArray, List.set_cons_zero, List.set_cons_succ, i64_w, i32_w]
              try rfl
            refine pure_ (i := 34) (N := some 157) (v := undef) (a' := ?_) #[true, true, true, true, true, true, true, true, true, true, true, true, true, true, true, true, true, true, true, true, true, true, true, true, true, true, true, true, true, true, true, true, true, true, true, false, false, false, false, false, false, false, false, false, false, false, false, false] rfl rfl (by kernel_rfl) (fun _ _ _ h => h) (Or.inr ⟨by rfl, rfl⟩) ?_ ?_
            rotate_left
            · simp only [Act.put, List.setIfInBounds_toArray, List.set_cons_zero, List.set_cons_succ, i64_w, i32_w]
              try rfl
            refine pure_ (i := 35) (N := some 158) (v := ?_) (a' := ?_) #[true, true, true, true, true, true, true, true, true, true, true, true, true, true, true, true, true, true, true, true, true, true, true, true, true, true, true, true, true, true, true, true, true, true, true, true, false, false, false, false, false, false, false, false, false, false, false, false] rfl rfl (by kernel_rfl) (fun _ _ _ h => h) (Or.inl ⟨by rfl, ?_⟩) ?_ ?_
            rotate_left
            · intro w'
              go_simp
              with_reducible rfl
            rotate_left
            · simp only [Act.put, List.setIfInBounds_toArray, List.set_cons_zero, List.set_cons_succ, i64_w, i32_w]
              try rfl
            refine pure_ (i := 36) (N := some 159) (v := ?_) (a' := ?_) #[true, true, true, true, true, true, true, true, true, true, true, true, true, true, true, true, true, true, true, true, true, true, true, true, true, true, true, true, true, true, true, true, true, true, true, true, true, false, false, false, false, false, false, false, false, false, false, false] rfl rfl (by kernel_rfl) (fun _ _ _ h => h) (Or.inl ⟨by rfl, ?_⟩) ?_ ?_
            rotate_left
            · intro w'
              go_simp
              with_reducible rfl
            rotate_left
            · simp only [Act.put, List.setIfInBounds_toArray, List.set_cons_zero, List.set_cons_succ, i64_w, i32_w]
              try rfl
            refine pure_ (i := 37) (N := some 160) (v := ?_) (a' := ?_) #[true, true, true, true, true, true, true, true, true, true, true, true, true, true, true, true, true, true, true, true, true, true, true, true, true, true, true, true, true, true, true, true, true, true, true, true, true, true, false, false, false, false, false, false, false, false, false, false] rfl rfl (by kernel_rfl) (fun _ _ _ h => h) (Or.inl ⟨by rfl, ?_⟩) ?_ ?_
            rotate_left
            · intro w'
              go_simp
              with_reducible rfl
            rotate_left
            · simp only [Act.put, List.setIfInBounds_toArray, List.set_cons_zero, List.set_cons_succ, i64_w, i32_w]
              try rfl
            refine pure_ (i := 38) (N := some 161) (v := ?_) (a' := ?_) #[true, true, true, true, true, true, true, true, true, true, true, true, true, true, true, true, true, true, true, true, true, true, true, true, true, true, true, true, true, true, true, true, true, true, true, true, true, true, true, false, false, false, false, false, false, false, false, false] rfl rfl (by kernel_rfl) (fun _ _ _ h => h) (Or.inl ⟨by rfl, ?_⟩) ?_ ?_
            rotate_left
            · intro w'
              go_simp
              with_reducible rfl
            rotate_left
            · simp only [Act.put, List.setIfInBounds_toArray, List.set_cons_zero, List.set_cons_succ, i64_w, i32_w]
              try rfl
            refine pure_ (i := 39) (N := some 162) (v := ?_) (a' := ?_) #[true, true, true, true, true, true, true, true, true, true, true, true, true, true, true, true, true, true, true, true, true, true, true, true, true, true, true, true, true, true, true, true, true, true, true, true, true, true, true, true, false, false, false, false, false, false, false, false] rfl rfl (by kernel_rfl) (fun _ _ _ h => h) (Or.inl ⟨by rfl, ?_⟩) ?_ ?_
            rotate_left
            · intro w'
              go_simp
              with_reducible rfl
            rotate_left
            · simp only [Act.put, List.setIfInBounds_toArray, List.set_cons_zero, List.set_cons_succ, i64_w, i32_w]
              try rfl
            refine pure_ (i := 40) (N := some 163) (v := ?_) (a' := ?_) #[true, true, true, true, true, true, true, true, true, true, true, true, true, true, true, true, true, true, true, true, true, true, true, true, true, true, true, true, true, true, true, true, true, true, true, true, true, true, true, true, true, false, false, false, false, false, false, false] rfl rfl (by kernel_rfl) (fun _ _ _ h => h) (Or.inl ⟨by rfl, ?_⟩) ?_ ?_
            rotate_left
            · intro w'
              go_simp
              with_reducible rfl
            rotate_left
            · simp only [Act.put, List.setIfInBounds_toArray, List.set_cons_zero, List.set_cons_succ, i64_w, i32_w]
              try rfl
            refine pure_ (i := 41) (N := some 164) (v := ?_) (a' := ?_) #[true, true, true, true, true, true, true, true, true, true, true, true, true, true, true, true, true, true, true, true, true, true, true, true, true, true, true, true, true, true, true, true, true, true, true, true, true, true, true, true, true, true, false, false, false, false, false, false] rfl rfl (by kernel_rfl) (fun _ _ _ h => h) (Or.inl ⟨by rfl, ?_⟩) ?_ ?_
            rotate_left
            · intro w'
              go_simp
              with_reducible rfl
            rotate_left
            · simp only [Act.put, List.setIfInBounds_toArray, List.set_cons_zero, List.set_cons_succ, i64_w, i32_w]
              try rfl
            refine pure_ (i := 42) (N := some 165) (v := ?_) (a' := ?_) #[true, true, true, true, true, true, true, true, true, true, true, true, true, true, true, true, true, true, true, true, true, true, true, true, true, true, true, true, true, true, true, true, true, true, true, true, true, true, true, true, true, true, true, false, false, false, false, false] rfl rfl (by kernel_rfl) (fun _ _ _ h => h) (Or.inl ⟨by rfl, ?_⟩) ?_ ?_
            rotate_left
            · intro w'
              go_simp
              with_reducible rfl
            rotate_left
            · simp only [Act.put, List.setIfInBounds_toArray, List.set_cons_zero, List.set_cons_succ, i64_w, i32_w]
              try rfl
            refine pure_ (i := 43) (N := some 166) (v := ?_) (a' := ?_) #[true, true, true, true, true, true, true, true, true, true, true, true, true, true, true, true, true, true, true, true, true, true, true, true, true, true, true, true, true, true, true, true, true, true, true, true, true, true, true, true, true, true, true, true, false, false, false, false] rfl rfl (by kernel_rfl) (fun _ _ _ h => h) (Or.inl ⟨by rfl, ?_⟩) ?_ ?_
            rotate_left
            · intro w'
              go_simp
              with_reducible rfl
            rotate_left
            · simp only [Act.put, List.setIfInBounds_toArray, List.set_cons_zero, List.set_cons_succ, i64_w, i32_w]
              try rfl
            refine pure_ (i := 44) (N := some 167) (v := ?_) (a' := ?_) #[true, true, true, true, true, true, true, true, true, true, true, true, true, true, true, true, true, true, true, true, true, true, true, true, true, true, true, true, true, true, true, true, true, true, true, true, true, true, true, true, true, true, true, true, true, false, false, false] rfl rfl (by kernel_rfl) (fun _ _ _ h => h) (Or.inl ⟨by rfl, ?_⟩) ?_ ?_
            rotate_left
            · intro w'
              go_simp
              with_reducible rfl
            rotate_left
            · simp only [Act.put, List.setIfInBounds_toArray, List.set_cons_zero, List.set_cons_succ, i64_w, i32_w]
              try rfl
            refine take_ (i := 45) (N := some 168) (v := ?_) (a' := ?_) #[true, true, true, true, true, true, true, true, true, true, true, true, true, true, true, true, true, true, true, true, true, true, true, true, true, true, true, true, true, true, true, true, true, true, true, true, true, true, true, true, true, true, true, true, true, true, false, false] rfl rfl (by kernel_rfl) (fun _ _ _ h => h) (Or.inl ⟨by rfl, ?_⟩) hHeld ?_ ?_
            rotate_left
            · rintro w' ⟨s0, s1, s2⟩
              go_simp
              with_reducible rfl
            rotate_left
            · simp only [Act.put, List.setIfInBounds_toArray, List.set_cons_zero, List.set_cons_succ, i64_w, i32_w]
              try rfl
            refine pure_ (i := 46) (N := some 169) (v := ?_) (a' := ?_) #[true, true, true, true, true, true, true, true, true, true, true, true, true, true, true, true, true, true, true, true, true, true, true, true, true, true, true, true, true, true, true, true, true, true, true, true, true, true, true, true, true, true, true, true, true, true, true, false] rfl rfl (by kernel_rfl) (fun _ _ _ h => h) (Or.inl ⟨by rfl, ?_⟩) ?_ ?_
            rotate_left
            · intro w'
              go_simp
              with_reducible rfl
            rotate_left
            · simp only [Act.put, List.setIfInBounds_toArray, List.set_cons_zero, List.set_cons_succ, i64_w, i32_w]
              try rfl
            refine pure_ (i := 47) (N := some 170) (v := ?_) (a' := ?_) #[true, true, true, true, true, true, true, true, true, true, true, true, true, true, true, true, true, true, true, true, true, true, true, true, true, true, true, true, true, true, true, true, true, true, true, true, true, true, true, true, true, true, true, true, true, true, true, true] rfl rfl (by kernel_rfl) (fun _ _ _ h => h) (Or.inl ⟨by rfl, ?_⟩) ?_ ?_
            rotate_left
            · intro w'
              go_simp
              with_reducible rfl
            rotate_left
            · simp only [Act.put, List.setIfInBounds_toArray, List.set_cons_zero, List.set_cons_succ, i64_w, i32_w]
              try rfl
            refine done_ (by kernel_rfl) ?_
            clear hHeld e0 e1 e2 ea0 ea1 ea2 eb0 eb1 eb2
            go_wp2_with fail
            go_roundw
            case rel => exact ⟨k + 1, R, now, xs, _, ys, by omega, by go_num, HPb⟩
            case measure => simp [intOf]; omega
    · obtain rfl : k = n := by omega
      go_wp2_with fail
      go_ret
      exact ⟨rfl, HS.out.c.b⟩
end Go.Proofs.Ytccmelpnmjdclaa.H
