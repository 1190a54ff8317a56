/- AddrRounds: the walk over the law's text, with its set of the places seen. -/
import Derived.Test.YtddccpgbjlejhaaRounds
import Derived.Test.YtddccpgbjlejhaaPx2
import Derived.Test.YtddccpgbjlejhaaPlain
namespace Go.Proofs.Ytddccpgbjlejhaa.Rounds
open Go.RowKit Go.Shelf Go.Maps Go.Proofs.YtddccpgbjlejhaaW.PrintWords Go.Proofs.YtddccpgbjlejhaaW.PrintLast Go.Proofs.YtddccpgbjlejhaaW.PrintMore
open Go.Proofs.Ytddccpgbjlejhaa.Hand
open Go.Proofs.Ytddccpgbjlejhaa
set_option linter.unusedVariables false
set_option linter.unusedSimpArgs false

theorem list_row (s0 s1 frm dst most : Int) (w : World) :
    Calls Try.prog 22 #[.agg #[.int .i64 s0, .int .i64 s1], .int .i64 frm, .int .i64 dst, .int .i64 most] w fun e W' =>
      ∃ v, e = .returned v ∧ W'.ownsRow w.heap.size 3 1 v (listed s0 s1 frm dst most).length (nums .i64 (listed s0 s1 frm dst most)) ∧ Below w.heap.size w W' :=
  callsIn_wide.1 (list_in s0 s1 frm dst most w)
theorem own_lower {w : World} {base base' size n : Nat} {e : TypeId} {v : Value} {xs : List Value} (h : w.ownsRow base e size v n xs) (hb : base' ≤ base) : w.ownsRow base' e size v n xs := by
  refine ⟨h.1, h.2.imp id ?_⟩
  rintro ⟨g, cap, cur, rfl, hg, r⟩
  exact ⟨g, cap, cur, rfl, Nat.le_trans hb hg, r⟩
theorem own_form {w : World} {base size n : Nat} {e : TypeId} {v : Value} {xs : List Value} (h : w.ownsRow base e size v n xs) (hn : 0 < n) : ∃ g cap, v = .slice (some ⟨g, 0, none⟩) n cap := by
  rcases h.2 with ⟨_, h0⟩ | ⟨g, cap, _, rfl, _⟩
  · omega
  · exact ⟨g, cap, rfl⟩
theorem own_map_ne {H : Type} {P : Program} {k : TypeId} {R : Value → Option (DataW H × List MemPlace)} {b m : Nat} {D : DataW H} {w : World} {base size n : Nat} {e : TypeId} {v : Value} {xs : List Value} (h : w.ownsRow base e size v n xs) (hm : w.ownsMap P k R b m D) : v.ownBlock = none ∨ v.ownBlock ≠ some b := by
  obtain ⟨es, clock, hb, _⟩ := hm
  rcases h.2 with ⟨rfl, _⟩ | ⟨g, cap, cur, rfl, _, hg, _⟩
  · exact .inl rfl
  · refine .inr fun he => ?_
    obtain rfl : g = b := by simpa [Value.ownBlock] using he
    rw [hb] at hg
    cases hg
theorem blk_map_ne {H : Type} {P : Program} {k : TypeId} {R : Value → Option (DataW H × List MemPlace)} {b m : Nat} {D : DataW H} {w : World} {g t : Nat} {cs : Array Value} (h : w.heap[g]? = some (.cells cs t (0, 0))) (hm : w.ownsMap P k R b m D) : some g ≠ some b := by
  obtain ⟨es, clock, hb, _⟩ := hm
  intro he
  injection he with he
  subst he
  rw [hb] at h
  cases h
theorem law3 : Keyed Try.prog 3 := int_keyed Try.underlying3
theorem zero4 (w : World) : (zeroValue 4).run Try.prog w = .ok (.bool false) w := by kernel_rfl

section
variable {P : Program} {ops : Array Oper} {C : World → Prop} {Q : Act → Prop} {a : Act} {o : Oper} {rest : List Oper}
theorem wp_region_class (C : World → Prop) {id : Nat} {Q : Exit → Act → World → Prop} {a : Act} {w : World} {l : List Oper} (hm : P.follows .mixedOrders = true) (hB : Region.lexB .any l.toArray = true) (hC : C { w with drawn := w.drawn + 1 })
    (h : wpQuiet P l.toArray C (fun a' => ∀ w', C w' → Q .normal a' w') l a) : (Code.region id l.toArray true).wp P Q a w :=
  wp_region_quiet hm hB hC (by simpa using h)
theorem quiet_mv {K : Act → Prop} (x : Operand) (v : Value) (h : o.op = .move x) (hv : a.eval x = v) (hk : K (a.put o.dst v)) : o.quiet P a C K :=
  BigFrame.quiet_move x h (by rw [hv]; exact hk)
theorem quiet_asg {K : Act → Prop} (x : Operand) (v : Value) (h : o.op = .assign x) (hv : a.eval x = v) (hk : K (a.put o.dst v)) : o.quiet P a C K :=
  BigFrame.quiet_assign x h (by rw [hv]; exact hk)
theorem quiet_run {K : Act → Prop} (v : Value) (h : ∀ W, C W → (execOp a.eval o).run P W = .ok (.value v) W) (hk : K (a.put o.dst v)) : o.quiet P a C K :=
  ⟨v, fun w hw => by unfold Oper.quietAt; rw [h w hw]; exact ⟨rfl, rfl⟩, hk⟩
theorem quiet_call {K : Act → Prop} {f : FuncId} {fn : Func} {os_ : Array Operand} {ts : Array TypeId} (v : Value) (hf : P.funcs[f]? = some fn) (hname : (fn.name == "runtime.NumGoroutine") = false) (hb : fn.body.isSome = true) (args : Array Value)
    (hop : o.op = .call { callee := .value (.func f), args := os_, argTypes := ts }) (hargs : os_.map a.eval = args)
    (h : ∀ W, C W → Calls P f args W fun e w'' => e = .returned v ∧ C w'') (hk : K (a.put o.dst v)) : o.quiet P a C K := by
  refine ⟨v, fun w hw => ?_, hk⟩
  have he := enters_ hf hname hb args w
  unfold Oper.quietAt execOp
  simp [hop, resolve, Deferred.ofValue, invoke, Act.eval, hargs, he]
  exact ⟨rfl, h w hw⟩
end

set_option maxHeartbeats 8000000 in
set_option maxRecDepth 100000 in
theorem rounds_all (s0 s1 frm dst x y : Int) (w : World) (h1 : 1 ≤ cells s0 s1) (h2 : cells s0 s1 ≤ 300) :
    Calls Try.prog 6 #[.agg #[.int .i64 s0, .int .i64 s1], .int .i64 frm, .int .i64 dst, .int .i64 x, .int .i64 y] w fun e w' => e = .returned (.bool true) ∧ Below w.heap.size w w' := by
  have hu35 := Try.underlying35
  have hmm := @run_makeMap Try.prog
  have HAL := Aside0.mk (Plain.alive_ok (k := 6) (by decide))
  obtain ⟨N, hN⟩ : ∃ N, N = cells s0 s1 := ⟨_, rfl⟩
  have HCF := Aside0.mk (show A.addr_Cells.f s0 s1 = some N from by rw [hN]; exact cells_f s0 s1)
  have hmv : ∀ a b, A.addr_Move.f s0 s1 a b = some ((a + b) % N) := fun a b => by rw [hN]; exact move_mod s0 s1 a b (by omega)
  obtain ⟨f, hf⟩ : ∃ f, f = (frm + 0) % N := ⟨_, rfl⟩
  obtain ⟨t, ht⟩ : ∃ t, t = (dst + 0) % N := ⟨_, rfl⟩
  have M1 := Aside0.mk (show A.addr_Move.f s0 s1 frm 0 = some f from by rw [hf]; exact hmv _ _)
  have M2 := Aside0.mk (show A.addr_Move.f s0 s1 dst 0 = some t from by rw [ht]; exact hmv _ _)
  have f0 : 0 ≤ f := by rw [hf]; exact Int.emod_nonneg _ (by omega)
  have f1 : f < N := by rw [hf]; exact Int.emod_lt_of_pos _ (by omega)
  have t0 : 0 ≤ t := by rw [ht]; exact Int.emod_nonneg _ (by omega)
  have t1 : t < N := by rw [ht]; exact Int.emod_lt_of_pos _ (by omega)
  obtain ⟨L, hL⟩ : ∃ L, L = N.toNat := ⟨_, rfl⟩
  obtain ⟨all, hall⟩ : ∃ all, all = (List.range L).map (place N f) := ⟨_, rfl⟩
  have hlen : all.length = L := by rw [hall, List.length_map, List.length_range]
  have hLN : (L : Int) = N := by omega
  obtain ⟨l1, hl1⟩ : ∃ l, l = listed s0 s1 f t 400 := ⟨_, rfl⟩
  obtain ⟨l2, hl2⟩ : ∃ l, l = listed s0 s1 t f 400 := ⟨_, rfl⟩
  have HLR1 := Aside0.mk (fun W => by have h := list_row s0 s1 f t 400 W; rw [← hl1] at h; exact h)
  have HLR2 := Aside0.mk (fun W => by have h := list_row s0 s1 t f 400 W; rw [← hl2] at h; exact h)
  have e1 : l1 = (List.range (many N f t)).map (place N f) := by
    rw [hl1]; rw [hN] at f1 t1 ⊢; exact listed_of f0 f1 t0 t1 h2
  have e2 : l2 = (List.range (many N t f)).map (place N t) := by
    rw [hl2]; rw [hN] at f1 t1 ⊢; exact listed_of t0 t1 f0 f1 h2
  have m1 := many_le f0 f1 t0 t1
  have m2 := many_le t0 t1 f0 f1
  have HL1 := Aside0.mk (show 0 < l1.length by rw [e1, List.length_map, List.length_range]; omega)
  have HPOS := Aside0.mk (show 0 < L by omega)
  have HLEN := Aside0.mk hlen
  have hn3 : N ≤ 300 := by rw [hN]; exact h2
  have HLS := Aside0.mk (show l1.length ≤ 300 ∧ l2.length ≤ 300 by rw [e1, e2, List.length_map, List.length_range, List.length_map, List.length_range]; omega)
  have HSAME := Aside0.mk (show f = t → l1 = all by intro h; rw [e1, ← h, round_all f0 f1, hall, hL])
  have HBOTH := Aside0.mk (show ¬ f = t → l1 ++ l2 = all by intro h; rw [e1, e2, both f0 f1 t0 t1 h, hall, hL])
  clear e1 e2 m1 m2 hl1 hl2 hn3
  have c1 : (N == 0) = false := by simp; omega
  have c2 : decide (N > 300) = false := by simp; omega
  have HALL := Aside0.mk hall
  have HMV := Aside0.mk hmv
  have HLN := Aside0.mk hLN
  clear hall hf ht hmv hL hlen hLN
  rw [← hN] at h1 h2
  clear hN
  have HB := Aside0.mk (Below.refl w.heap.size w)
  go_enter Try.func6, Try.ntmps6
  go_upto_region 10 with (first | ((with_reducible refine gate_dst (N := 5) rfl ?_); refine box_event ?hg (N := 5) ?hd (cs := #[.int .i64 s0, .int .i64 s1]) (t := 35) ?hr ?_; (case hd => rfl); (case hg => rfl); (case hr => first | (go_simp; done) | (go_simp; rfl)); intro g hg wa hbox hb; have n0_ := Aside0.mk (below_step (by repeat (first | (with_reducible first | exact HB.out | apply below_alloc | apply pw_below_drewN | apply below_drew1) | exact HB.out)) hb); have n1_ := Aside0.mk hbox; have n2_ := Aside0.mk ((by rw [hg]; exact (below_size (by repeat (first | (with_reducible first | exact HB.out | apply below_alloc | apply pw_below_drewN | apply below_drew1) | exact HB.out)))) : w.heap.size ≤ g); clear HB; have HB := n0_; have BK := n1_; have GW := n2_; clear n0_ n1_ n2_; clear hb hbox hg; have hczwa0 : wa.cell? ⟨g, 0, none⟩ = some (.int .i64 s0) := (blk_cell BK.out 0).trans rfl; have hczwa1 : wa.cell? ⟨g, 1, none⟩ = some (.int .i64 s1) := (blk_cell BK.out 1).trans rfl; have hfzwa0 := blk_frozen BK.out 0; have hfzwa1 := blk_frozen BK.out 1) | ((with_reducible refine gate_callee (f := 8) rfl ?_); refine goesL_ (some 16) rfl rfl Try.func8 (by kernel_rfl) rfl #[] rfl (by (try simp only [List.map_toArray, List.map_cons, List.map_nil]); first | done | rfl) ?_; (with_reducible refine (P.greenscreenlaw02_alive.calls 6 true rfl _ HAL.out).mono ?_); rintro e wb ⟨rfl, hb⟩; refine ⟨_, rfl, ?_⟩; have n0_ := Aside0.mk (blk_below (g := g) (o := .cells #[.int .i64 s0, .int .i64 s1] 35 (0, 0)) (by (with_reducible repeat (first | refine blk_drewN ?_ _ | refine blk_drew ?_ | refine blk_alloc ?_ _)); exact BK.out) hb); have n1_ := Aside0.mk (below_step (by repeat (first | (with_reducible first | exact HB.out | apply below_alloc | apply pw_below_drewN | apply below_drew1) | exact HB.out)) hb); clear BK; clear HB; have BK := n0_; have HB := n1_; clear n0_ n1_; (try clear hb); have hczwb0 : wb.cell? ⟨g, 0, none⟩ = some (.int .i64 s0) := (blk_cell BK.out 0).trans rfl; have hczwb1 : wb.cell? ⟨g, 1, none⟩ = some (.int .i64 s1) := (blk_cell BK.out 1).trans rfl; have hfzwb0 := blk_frozen BK.out 0; have hfzwb1 := blk_frozen BK.out 1) | ((with_reducible refine gate_callee (f := 19) rfl ?_); refine goesL_ (some 19) rfl rfl Try.func19 (by kernel_rfl) rfl #[.agg #[.int .i64 s0, .int .i64 s1]] rfl (by (try simp only [List.map_toArray, List.map_cons, List.map_nil]); first | done | rfl) ?_; (with_reducible refine (A.addr_Cells.calls s0 s1 N _ HCF.out).mono ?_); rintro e u3 ⟨rfl, hb⟩; refine ⟨_, rfl, ?_⟩; have n0_ := Aside0.mk (blk_below (g := g) (o := .cells #[.int .i64 s0, .int .i64 s1] 35 (0, 0)) (by (with_reducible repeat (first | refine blk_drewN ?_ _ | refine blk_drew ?_ | refine blk_alloc ?_ _)); exact BK.out) hb); have n1_ := Aside0.mk (below_step (by repeat (first | (with_reducible first | exact HB.out | apply below_alloc | apply pw_below_drewN | apply below_drew1) | exact HB.out)) hb); clear BK; clear HB; have BK := n0_; have HB := n1_; clear n0_ n1_; (try clear hb); have hczu30 : u3.cell? ⟨g, 0, none⟩ = some (.int .i64 s0) := (blk_cell BK.out 0).trans rfl; have hczu31 : u3.cell? ⟨g, 1, none⟩ = some (.int .i64 s1) := (blk_cell BK.out 1).trans rfl; have hfzu30 := blk_frozen BK.out 0; have hfzu31 := blk_frozen BK.out 1) | ((with_reducible refine gate_callee (f := 23) rfl ?_); refine goesL_ (some 28) rfl rfl Try.func23 (by kernel_rfl) rfl #[.agg #[.int .i64 s0, .int .i64 s1], .int .i64 frm, .int .i64 0] rfl (by (try simp only [List.map_toArray, List.map_cons, List.map_nil]); first | done | rfl) ?_; (with_reducible refine (A.addr_Move.calls s0 s1 frm 0 f _ M1.out).mono ?_); rintro e wd ⟨rfl, hb⟩; refine ⟨_, rfl, ?_⟩; have n0_ := Aside0.mk (blk_below (g := g) (o := .cells #[.int .i64 s0, .int .i64 s1] 35 (0, 0)) (by (with_reducible repeat (first | refine blk_drewN ?_ _ | refine blk_drew ?_ | refine blk_alloc ?_ _)); exact BK.out) hb); have n1_ := Aside0.mk (below_step (by repeat (first | (with_reducible first | exact HB.out | apply below_alloc | apply pw_below_drewN | apply below_drew1) | exact HB.out)) hb); clear BK; clear HB; have BK := n0_; have HB := n1_; clear n0_ n1_; (try clear hb); have hczwd0 : wd.cell? ⟨g, 0, none⟩ = some (.int .i64 s0) := (blk_cell BK.out 0).trans rfl; have hczwd1 : wd.cell? ⟨g, 1, none⟩ = some (.int .i64 s1) := (blk_cell BK.out 1).trans rfl; have hfzwd0 := blk_frozen BK.out 0; have hfzwd1 := blk_frozen BK.out 1) | ((with_reducible refine gate_callee (f := 23) rfl ?_); refine goesL_ (some 31) rfl rfl Try.func23 (by kernel_rfl) rfl #[.agg #[.int .i64 s0, .int .i64 s1], .int .i64 dst, .int .i64 0] rfl (by (try simp only [List.map_toArray, List.map_cons, List.map_nil]); first | done | rfl) ?_; (with_reducible refine (A.addr_Move.calls s0 s1 dst 0 t _ M2.out).mono ?_); rintro e we ⟨rfl, hb⟩; refine ⟨_, rfl, ?_⟩; have n0_ := Aside0.mk (blk_below (g := g) (o := .cells #[.int .i64 s0, .int .i64 s1] 35 (0, 0)) (by (with_reducible repeat (first | refine blk_drewN ?_ _ | refine blk_drew ?_ | refine blk_alloc ?_ _)); exact BK.out) hb); have n1_ := Aside0.mk (below_step (by repeat (first | (with_reducible first | exact HB.out | apply below_alloc | apply pw_below_drewN | apply below_drew1) | exact HB.out)) hb); clear BK; clear HB; have BK := n0_; have HB := n1_; clear n0_ n1_; (try clear hb); have hczwe0 : we.cell? ⟨g, 0, none⟩ = some (.int .i64 s0) := (blk_cell BK.out 0).trans rfl; have hczwe1 : we.cell? ⟨g, 1, none⟩ = some (.int .i64 s1) := (blk_cell BK.out 1).trans rfl; have hfzwe0 := blk_frozen BK.out 0; have hfzwe1 := blk_frozen BK.out 1) | go_in)
  refine wp_region_class (fun W => W.heap[g]? = some (.cells #[.int .i64 s0, .int .i64 s1] 35 (0, 0)) ∧ Below w.heap.size w W) (by kernel_rfl) (by kernel_rfl) ⟨BK.out, ⟨HB.out.os, HB.out.tape, HB.out.output, HB.out.size, HB.out.block⟩⟩ ?_
  refine BigFrame.wpQuiet_want (by rfl) (fun K hK => quiet_run (.agg #[.int .i64 s0, .int .i64 s1]) (fun W hW => by have hcz0 : W.cell? ⟨g, 0, none⟩ = some (.int .i64 s0) := (blk_cell hW.1 0).trans rfl; have hcz1 : W.cell? ⟨g, 1, none⟩ = some (.int .i64 s1) := (blk_cell hW.1 1).trans rfl; have hfz0 := blk_frozen hW.1 0; have hfz1 := blk_frozen hW.1 1; go_simp) ?_)
  refine hK _ ?_
  clear hK K
  (try simp only [Act.put, List.setIfInBounds_toArray, List.set_cons_zero, List.set_cons_succ])
  refine BigFrame.wpQuiet_want (by rfl) (fun K hK => quiet_mv _ (.int .i64 frm) rfl rfl ?_)
  refine hK _ ?_
  clear hK K
  (try simp only [Act.put, List.setIfInBounds_toArray, List.set_cons_zero, List.set_cons_succ])
  refine BigFrame.wpQuiet_want (by rfl) (fun K hK => quiet_call (.int .i64 f) Try.func23 (by kernel_rfl) rfl #[.agg #[.int .i64 s0, .int .i64 s1], .int .i64 frm, .int .i64 0] rfl (by (try simp only [List.map_toArray, List.map_cons, List.map_nil]); first | done | rfl) (fun W hW => (A.addr_Move.calls s0 s1 frm 0 f W M1.out).mono (by rintro e w2 ⟨rfl, hb⟩; exact ⟨rfl, blk_below hW.1 hb, below_step hW.2 hb⟩)) ?_)
  refine hK _ ?_
  clear hK K
  (try simp only [Act.put, List.setIfInBounds_toArray, List.set_cons_zero, List.set_cons_succ])
  refine BigFrame.wpQuiet_want (by rfl) (fun K hK => quiet_run (.agg #[.int .i64 s0, .int .i64 s1]) (fun W hW => by have hcz0 : W.cell? ⟨g, 0, none⟩ = some (.int .i64 s0) := (blk_cell hW.1 0).trans rfl; have hcz1 : W.cell? ⟨g, 1, none⟩ = some (.int .i64 s1) := (blk_cell hW.1 1).trans rfl; have hfz0 := blk_frozen hW.1 0; have hfz1 := blk_frozen hW.1 1; go_simp) ?_)
  refine hK _ ?_
  clear hK K
  (try simp only [Act.put, List.setIfInBounds_toArray, List.set_cons_zero, List.set_cons_succ])
  refine BigFrame.wpQuiet_want (by rfl) (fun K hK => quiet_mv _ (.int .i64 dst) rfl rfl ?_)
  refine hK _ ?_
  clear hK K
  (try simp only [Act.put, List.setIfInBounds_toArray, List.set_cons_zero, List.set_cons_succ])
  refine BigFrame.wpQuiet_want (by rfl) (fun K hK => quiet_call (.int .i64 t) Try.func23 (by kernel_rfl) rfl #[.agg #[.int .i64 s0, .int .i64 s1], .int .i64 dst, .int .i64 0] rfl (by (try simp only [List.map_toArray, List.map_cons, List.map_nil]); first | done | rfl) (fun W hW => (A.addr_Move.calls s0 s1 dst 0 t W M2.out).mono (by rintro e w2 ⟨rfl, hb⟩; exact ⟨rfl, blk_below hW.1 hb, below_step hW.2 hb⟩)) ?_)
  refine hK _ ?_
  clear hK K
  (try simp only [Act.put, List.setIfInBounds_toArray, List.set_cons_zero, List.set_cons_succ])
  refine BigFrame.wpQuiet_want (by rfl) (fun K hK => quiet_asg _ (.int .i64 f) rfl rfl ?_)
  refine hK _ ?_
  clear hK K
  (try simp only [Act.put, List.setIfInBounds_toArray, List.set_cons_zero, List.set_cons_succ])
  refine BigFrame.wpQuiet_want (by rfl) (fun K hK => quiet_asg _ (.int .i64 t) rfl rfl ?_)
  refine hK _ ?_
  clear hK K
  (try simp only [Act.put, List.setIfInBounds_toArray, List.set_cons_zero, List.set_cons_succ])
  refine wpQuiet_nil ?_
  rintro we ⟨bk, hb⟩
  clear BK HB
  have BK := Aside0.mk bk
  have HB := Aside0.mk hb
  clear bk hb
  have hczwe0 : we.cell? ⟨g, 0, none⟩ = some (.int .i64 s0) := (blk_cell BK.out 0).trans rfl
  have hczwe1 : we.cell? ⟨g, 1, none⟩ = some (.int .i64 s1) := (blk_cell BK.out 1).trans rfl
  have hfzwe0 := blk_frozen BK.out 0
  have hfzwe1 := blk_frozen BK.out 1
  go_upto_region 10 with (first | ((with_reducible refine gate_callee (f := 22) rfl ?_); refine goesL_ (some 51) rfl rfl Try.func22 (by kernel_rfl) rfl #[.agg #[.int .i64 s0, .int .i64 s1], .int .i64 f, .int .i64 t, .int .i64 400] rfl (by (try simp only [List.map_toArray, List.map_cons, List.map_nil]); first | done | rfl) ?_; (with_reducible refine (HLR1.out _).mono ?_); rintro e wf ⟨v1, rfl, hrow, hb⟩; refine ⟨_, rfl, ?_⟩; have n0_ := Aside0.mk (blk_below (g := g) (o := .cells #[.int .i64 s0, .int .i64 s1] 35 (0, 0)) (by (with_reducible repeat (first | refine blk_drewN ?_ _ | refine blk_drew ?_ | refine blk_alloc ?_ _)); exact BK.out) hb); have n1_ := Aside0.mk (below_step (by repeat (first | (with_reducible first | exact HB.out | apply below_alloc | apply pw_below_drewN | apply below_drew1) | exact HB.out)) hb); obtain ⟨ga, capa, rfl⟩ := own_form hrow HL1.out; have HRa := Aside0.mk (own_lower hrow (below_size (by repeat (first | (with_reducible first | exact HB.out | apply below_alloc | apply pw_below_drewN | apply below_drew1) | exact HB.out)))); clear hrow; clear BK; clear HB; have BK := n0_; have HB := n1_; clear n0_ n1_; (try clear hb); have hczwf0 : wf.cell? ⟨g, 0, none⟩ = some (.int .i64 s0) := (blk_cell BK.out 0).trans rfl; have hczwf1 : wf.cell? ⟨g, 1, none⟩ = some (.int .i64 s1) := (blk_cell BK.out 1).trans rfl; have hfzwf0 := blk_frozen BK.out 0; have hfzwf1 := blk_frozen BK.out 1) | go_in)
  go_cut [12, 54] (fun v12 v54 wq => v12 = .slice (some ⟨ga, 0, none⟩) l1.length capa ∧ (∃ bb : Bool, v54 = .bool bb ∧ (bb = true ↔ ¬ f = t)) ∧ Aside0 (wq.ownsRow w.heap.size 3 1 (.slice (some ⟨ga, 0, none⟩) l1.length capa) l1.length (nums .i64 l1)) ∧ Aside0 (wq.heap[g]? = some (.cells #[.int .i64 s0, .int .i64 s1] 35 (0, 0))) ∧ Aside0 (Below w.heap.size w wq))
  case first =>
    go_wp2
    go_meet
    case rel => exact ⟨rfl, ⟨_, rfl, by simp⟩, HRa, BK, HB⟩
  obtain ⟨rfl, ⟨bb, rfl, hbb⟩, HRa, BK, HB⟩ := hcut
  have HBB := Aside0.mk hbb
  clear hbb
  rename_i K1 k1 K2 k2
  refine k2 _ _ ?_
  clear k2 K2
  have hczwc0 : wc.cell? ⟨g, 0, none⟩ = some (.int .i64 s0) := (blk_cell BK.out 0).trans rfl
  have hczwc1 : wc.cell? ⟨g, 1, none⟩ = some (.int .i64 s1) := (blk_cell BK.out 1).trans rfl
  have hfzwc0 := blk_frozen BK.out 0
  have hfzwc1 := blk_frozen BK.out 1
  go_cut [12] (fun v12 wq => ∃ (g1 cap : Nat), v12 = .slice (some ⟨g1, 0, none⟩) L cap ∧ Aside0 (wq.ownsRow w.heap.size 3 1 (.slice (some ⟨g1, 0, none⟩) L cap) L (nums .i64 all)) ∧ Aside0 (wq.heap[g]? = some (.cells #[.int .i64 s0, .int .i64 s1] 35 (0, 0))) ∧ Aside0 (Below w.heap.size w wq))
  case first =>
    by_cases hft : f = t
    · obtain rfl : bb = false := by
        have h := HBB.out
        cases bb
        · rfl
        · exact absurd hft (h.1 rfl)
      have hr := HRa.out
      rw [HSAME.out hft, HLEN.out] at hr
      have hlq : l1.length = L := by rw [HSAME.out hft, HLEN.out]
      go_wp2
      go_meet
      case rel => exact ⟨_, _, by rw [hlq], ⟨by first | exact hr | (rw [hlq]; exact hr) | (rw [← hlq] at hr ⊢; exact hr)⟩, BK, HB⟩
    · obtain rfl : bb = true := HBB.out.2 hft
      have HCAT := Aside0.mk (HBOTH.out hft)
      go_wp2_with (first | ((with_reducible refine gate_callee (f := 22) rfl ?_); refine goesL_ (some 59) rfl rfl Try.func22 (by kernel_rfl) rfl #[.agg #[.int .i64 s0, .int .i64 s1], .int .i64 t, .int .i64 f, .int .i64 400] rfl (by (try simp only [List.map_toArray, List.map_cons, List.map_nil]); first | done | rfl) ?_; (with_reducible refine (HLR2.out _).mono ?_); rintro e wh ⟨v1, rfl, hrow, hb⟩; refine ⟨_, rfl, ?_⟩; have n0_ := Aside0.mk (blk_below (g := g) (o := .cells #[.int .i64 s0, .int .i64 s1] 35 (0, 0)) (by (with_reducible repeat (first | refine blk_drewN ?_ _ | refine blk_drew ?_ | refine blk_alloc ?_ _)); exact BK.out) hb); have n1_ := Aside0.mk (below_step (by repeat (first | (with_reducible first | exact HB.out | apply below_alloc | apply pw_below_drewN | apply below_drew1) | exact HB.out)) hb); have n_HRa := Aside0.mk (pw_own_below HRa.out hb); clear HRa; obtain ⟨A2, c2_, rfl, hrd⟩ := own_reads hrow; have HRD := Aside0.mk hrd; clear hrow hrd; clear BK; clear HB; have BK := n0_; have HB := n1_; clear n0_ n1_; have HRa := n_HRa; clear n_HRa; (try clear hb); have hczwh0 : wh.cell? ⟨g, 0, none⟩ = some (.int .i64 s0) := (blk_cell BK.out 0).trans rfl; have hczwh1 : wh.cell? ⟨g, 1, none⟩ = some (.int .i64 s1) := (blk_cell BK.out 1).trans rfl; have hfzwh0 := blk_frozen BK.out 0; have hfzwh1 := blk_frozen BK.out 1) | (at_builtin; refine print_append_row (w0 := w) w.heap.size rfl _ _ 41 3 .i64 8 rfl Try.underlying41 info3 (by decide) _ l1 l2 A2 _ c2_ rfl rfl HRa.out HRD.out HB.out HB.out.size (by have := HL1.out; have := HLS.out; omega) ?_; intro v2 w2 hown hb2 hg2 hat2; have n0_ := Aside0.mk (blk_grown BK.out hg2 (own_ne HRa.out BK.out (by decide))); have n1_ := Aside0.mk hb2; rw [HCAT.out, HLEN.out] at hown; obtain ⟨g2, cap2, rfl⟩ := own_form hown (by have := HPOS.out; omega); have HR := Aside0.mk hown; clear hown hb2 hg2 hat2 HRa HRD BK HB; have BK := n0_; have HB := n1_; clear n0_ n1_) | go_in)
      go_meet
      case rel => exact ⟨_, _, rfl, HR, BK, HB⟩
  case rest =>
    obtain ⟨g1, cap, rfl, HR, BK, HB⟩ := hcut
    clear HSAME HBOTH HLR1 HLR2
    have hszw : w.heap.size ≤ wc.heap.size := HB.out.size
    go_wp2
    go_loopw [64] (fun i wr => ∃ k : Nat, i = .int .i64 k ∧ k ≤ L ∧ Aside0 (wr.ownsMap Try.prog 3 (plainElem Try.prog 4) wc.heap.size k (Dk N f k)) ∧ Aside0 (wr.ownsRow w.heap.size 3 1 (.slice (some ⟨g1, 0, none⟩) L cap) L (nums .i64 all)) ∧ Aside0 (wr.heap[g]? = some (.cells #[.int .i64 s0, .int .i64 s1] 35 (0, 0))) ∧ Aside0 (Below w.heap.size w wr))
      (fun i _ => L - (intOf i).toNat)
    case atStart => exact ⟨0, rfl, Nat.zero_le _, ⟨World.ownsMap_made _ _ _ _⟩, ⟨HR.out.alloc _⟩, ⟨by (with_reducible repeat (first | refine blk_drewN ?_ _ | refine blk_drew ?_ | refine blk_alloc ?_ _)); exact BK.out⟩, ⟨HB.out.alloc HB.out.size _⟩⟩
    case round =>
      obtain ⟨k, rfl, hk, HM, HRr, BKr, HBr⟩ := hrel
      clear HR BK HB
      have HR := HRr
      have BK := BKr
      have HB := HBr
      clear HRr BKr HBr
      have hcz0 : wr.cell? ⟨g, 0, none⟩ = some (.int .i64 s0) := (blk_cell BK.out 0).trans rfl
      have hcz1 : wr.cell? ⟨g, 1, none⟩ = some (.int .i64 s1) := (blk_cell BK.out 1).trans rfl
      have hfz0 := blk_frozen BK.out 0
      have hfz1 := blk_frozen BK.out 1
      have hN' := HLN.out
      by_cases hkl : k < L
      · obtain ⟨hca, hcb⟩ := own_at HR.out (k : Int) (by omega) (by omega)
        rw [Int.toNat_natCast] at hca hcb
        have hp : rd all (k : Int) = place N f k := by
          rw [HALL.out]
          simp [rd, List.getD, hkl]
        rw [hp] at hca
        have HAT := Aside0.mk (Dk_at f0 f1 k k (Nat.le_refl _) (by omega))
        have hmv := HMV.out f k
        rw [place_mod f0 f1 (by omega)] at hmv
        obtain ⟨p0, p1⟩ := place_range f0 f1 (i := k) (by omega)
        have HKEY := Aside0.mk (show keyOf Try.prog 3 (.int .i64 (place N f k)) = some (.int .i64 (place N f k)) from keyOf_int_mk Try.underlying3 (by rw [← wrap_of (a := place N f k) (by omega) (by omega)]; exact Go.RowKit.wrap64_wf _))
        have HDK := Aside0.mk (show Dk N f (k + 1) = (Dk N f k).put (.int .i64 (place N f k)) (.lit (.bool true)) from rfl)
        obtain ⟨p, hpe⟩ : ∃ p, p = place N f k := ⟨_, rfl⟩
        rw [← hpe] at hca HAT hmv p0 p1 HKEY HDK
        clear hp hpe
        have M3 := Aside0.mk hmv
        clear hmv hN'
        go_wp2_with (first | (at_lookup; refine wpList_lookup_bool _ rfl _ _ 48 rfl 3 4 law3 Try.underlying48 Try.underlying4 (zero4 _) wc.heap.size k _ rfl HM.out _ _ rfl HKEY.out false HAT.out ?_) | ((with_reducible refine gate_callee (f := 23) rfl ?_); (try (refine gate_guard (by rfl) ?_; dsimp only)); refine goesL_ (some 77) rfl rfl Try.func23 (by kernel_rfl) rfl #[.agg #[.int .i64 s0, .int .i64 s1], .int .i64 f, .int .i64 (k : Int)] rfl (by (try simp only [List.map_toArray, List.map_cons, List.map_nil]); first | done | rfl) ?_; (with_reducible refine (A.addr_Move.calls s0 s1 f k p _ M3.out).mono ?_); rintro e w5 ⟨rfl, hb⟩; refine ⟨_, rfl, ?_⟩; have n0_ := Aside0.mk (blk_below (g := g) (o := .cells #[.int .i64 s0, .int .i64 s1] 35 (0, 0)) (by (with_reducible repeat (first | refine blk_drewN ?_ _ | refine blk_drew ?_ | refine blk_alloc ?_ _)); exact BK.out) hb); have n1_ := Aside0.mk (below_step (by repeat (first | (with_reducible first | exact HB.out | apply below_alloc | apply pw_below_drewN | apply below_drew1) | exact HB.out)) hb); have n_HM := Aside0.mk (HM.out.kept (grown_of_below hb none) (by simp)); clear HM; have n_HR := Aside0.mk (pw_own_below HR.out hb); clear HR; clear BK; clear HB; have BK := n0_; have HB := n1_; clear n0_ n1_; have HM := n_HM; clear n_HM; have HR := n_HR; clear n_HR; (try clear hb); have hczw50 : w5.cell? ⟨g, 0, none⟩ = some (.int .i64 s0) := (blk_cell BK.out 0).trans rfl; have hczw51 : w5.cell? ⟨g, 1, none⟩ = some (.int .i64 s1) := (blk_cell BK.out 1).trans rfl; have hfzw50 := blk_frozen BK.out 0; have hfzw51 := blk_frozen BK.out 1) | (at_mapUpdate; refine wpList_mapUpdate_own _ rfl _ _ _ 48 rfl 3 4 law3 Try.underlying48 (plainElem Try.prog 4) wc.heap.size k _ rfl HM.out (by unfold maxLen; have := HLN.out; omega) _ _ _ rfl rfl HKEY.out (.lit (.bool true)) [] (plainElem_bool Try.underlying4 true) ?_) | go_in)
        intro w6 hown6 hgrow6
        have n0_ := Aside0.mk (blk_grown BK.out hgrow6 (blk_map_ne BK.out HM.out))
        have n1_ := Aside0.mk (Below.grown HB.out hgrow6 HB.out.size (fun j hj => by cases hj; exact hszw))
        have n2_ := Aside0.mk (HR.out.kept hgrow6 (own_map_ne HR.out HM.out))
        have n3_ := Aside0.mk hown6
        clear BK HB HR HM hown6 hgrow6
        have BK := n0_
        have HB := n1_
        have HR := n2_
        have HM := n3_
        clear n0_ n1_ n2_ n3_
        go_wp2
        have hN' := HLN.out
        refine ⟨⟨k + 1, by rw [wrap_of (by omega) (by omega)]; rfl, by omega, ⟨by rw [HDK.out]; exact HM.out⟩, HR, BK, HB⟩, ?_⟩
        rw [wrap_of (by omega) (by omega)]
        simp only [intOf]
        omega
      · obtain rfl : k = L := by omega
        go_wp2
        obtain ⟨X, hX⟩ : ∃ X, bits BinOp.and IntKind.i64 x 65535 = X := ⟨_, rfl⟩
        obtain ⟨Y, hY⟩ : ∃ Y, bits BinOp.and IntKind.i64 y 65535 = Y := ⟨_, rfl⟩
        rw [hX, hY]
        obtain ⟨X0, X1⟩ : 0 ≤ X ∧ X < 65536 := by rw [← hX, show bits BinOp.and IntKind.i64 x 65535 = x % 65536 from Plain.i64_mask 16 (by decide) x]; omega
        obtain ⟨Y0, Y1⟩ : 0 ≤ Y ∧ Y < 65536 := by rw [← hY, show bits BinOp.and IntKind.i64 y 65535 = y % 65536 from Plain.i64_mask 16 (by decide) y]; omega
        clear hX hY
        obtain ⟨z, hz⟩ : ∃ z, z = (f + X) % N := ⟨_, rfl⟩
        obtain ⟨u, hu⟩ : ∃ u, u = (f + (X - Y)) % N := ⟨_, rfl⟩
        have M4 := Aside0.mk (show A.addr_Move.f s0 s1 f N = some f by rw [HMV.out, Int.add_emod_right, Int.emod_eq_of_lt f0 f1])
        have M5 := Aside0.mk (show A.addr_Move.f s0 s1 f X = some z by rw [HMV.out, hz])
        have M6 := Aside0.mk (show A.addr_Move.f s0 s1 z (-Y) = some u by rw [HMV.out, hz, hu, Int.emod_add_emod, show f + X + -Y = f + (X - Y) by omega])
        have M7 := Aside0.mk (show A.addr_Move.f s0 s1 f (X - Y) = some u by rw [HMV.out, hu])
        have w1 : IntKind.i64.wrap (-Y) = -Y := by rw [i64_w]; exact wrap_of (by omega) (by omega)
        have w2 : IntKind.i64.wrap (X - Y) = X - Y := by rw [i64_w]; exact wrap_of (by omega) (by omega)
        clear hz hu
        refine wp_region_class (fun W => W.heap[g]? = some (.cells #[.int .i64 s0, .int .i64 s1] 35 (0, 0)) ∧ Below w.heap.size w W) (by kernel_rfl) (by kernel_rfl) ⟨BK.out, ⟨HB.out.os, HB.out.tape, HB.out.output, HB.out.size, HB.out.block⟩⟩ ?_
        refine BigFrame.wpQuiet_want (by rfl) (fun K hK => quiet_mv _ (.slice (some ⟨g1, 0, none⟩) k cap) rfl rfl ?_)
        refine hK _ ?_
        clear hK K
        (try simp only [Act.put, List.setIfInBounds_toArray, List.set_cons_zero, List.set_cons_succ])
        refine BigFrame.wpQuiet_want (by rfl) (fun K hK => quiet_run (.int .i64 (k : Int)) (fun W hW => by go_simp) ?_)
        refine hK _ ?_
        clear hK K
        (try simp only [Act.put, List.setIfInBounds_toArray, List.set_cons_zero, List.set_cons_succ])
        refine BigFrame.wpQuiet_want (by rfl) (fun K hK => quiet_mv _ (.int .i64 N) rfl rfl ?_)
        refine hK _ ?_
        clear hK K
        (try simp only [Act.put, List.setIfInBounds_toArray, List.set_cons_zero, List.set_cons_succ])
        refine BigFrame.wpQuiet_want (by rfl) (fun K hK => quiet_run (.bool true) (fun W hW => by go_simp) ?_)
        refine hK _ ?_
        clear hK K
        (try simp only [Act.put, List.setIfInBounds_toArray, List.set_cons_zero, List.set_cons_succ])
        refine BigFrame.wpQuiet_want (by rfl) (fun K hK => quiet_mv _ (.bool true) rfl rfl ?_)
        refine hK _ ?_
        clear hK K
        (try simp only [Act.put, List.setIfInBounds_toArray, List.set_cons_zero, List.set_cons_succ])
        refine BigFrame.wpQuiet_want (by rfl) (fun K hK => quiet_run (.agg #[.int .i64 s0, .int .i64 s1]) (fun W hW => by have hcz0 : W.cell? ⟨g, 0, none⟩ = some (.int .i64 s0) := (blk_cell hW.1 0).trans rfl; have hcz1 : W.cell? ⟨g, 1, none⟩ = some (.int .i64 s1) := (blk_cell hW.1 1).trans rfl; have hfz0 := blk_frozen hW.1 0; have hfz1 := blk_frozen hW.1 1; go_simp) ?_)
        refine hK _ ?_
        clear hK K
        (try simp only [Act.put, List.setIfInBounds_toArray, List.set_cons_zero, List.set_cons_succ])
        refine BigFrame.wpQuiet_want (by rfl) (fun K hK => quiet_mv _ (.int .i64 f) rfl rfl ?_)
        refine hK _ ?_
        clear hK K
        (try simp only [Act.put, List.setIfInBounds_toArray, List.set_cons_zero, List.set_cons_succ])
        refine BigFrame.wpQuiet_want (by rfl) (fun K hK => quiet_mv _ (.int .i64 N) rfl rfl ?_)
        refine hK _ ?_
        clear hK K
        (try simp only [Act.put, List.setIfInBounds_toArray, List.set_cons_zero, List.set_cons_succ])
        refine BigFrame.wpQuiet_want (by rfl) (fun K hK => quiet_call (.int .i64 f) Try.func23 (by kernel_rfl) rfl #[.agg #[.int .i64 s0, .int .i64 s1], .int .i64 f, .int .i64 N] rfl (by (try simp only [List.map_toArray, List.map_cons, List.map_nil]); first | done | rfl) (fun W hW => (A.addr_Move.calls s0 s1 f N f W M4.out).mono (by rintro e w2 ⟨rfl, hb⟩; exact ⟨rfl, blk_below hW.1 hb, below_step hW.2 hb⟩)) ?_)
        refine hK _ ?_
        clear hK K
        (try simp only [Act.put, List.setIfInBounds_toArray, List.set_cons_zero, List.set_cons_succ])
        refine BigFrame.wpQuiet_want (by rfl) (fun K hK => quiet_mv _ (.int .i64 f) rfl rfl ?_)
        refine hK _ ?_
        clear hK K
        (try simp only [Act.put, List.setIfInBounds_toArray, List.set_cons_zero, List.set_cons_succ])
        refine BigFrame.wpQuiet_want (by rfl) (fun K hK => quiet_run (.bool true) (fun W hW => by go_simp) ?_)
        refine hK _ ?_
        clear hK K
        (try simp only [Act.put, List.setIfInBounds_toArray, List.set_cons_zero, List.set_cons_succ])
        refine BigFrame.wpQuiet_want (by rfl) (fun K hK => quiet_run (.bool true) (fun W hW => by go_simp) ?_)
        refine hK _ ?_
        clear hK K
        (try simp only [Act.put, List.setIfInBounds_toArray, List.set_cons_zero, List.set_cons_succ])
        refine BigFrame.wpQuiet_want (by rfl) (fun K hK => quiet_mv _ (.bool true) rfl rfl ?_)
        refine hK _ ?_
        clear hK K
        (try simp only [Act.put, List.setIfInBounds_toArray, List.set_cons_zero, List.set_cons_succ])
        refine BigFrame.wpQuiet_want (by rfl) (fun K hK => quiet_run (.agg #[.int .i64 s0, .int .i64 s1]) (fun W hW => by have hcz0 : W.cell? ⟨g, 0, none⟩ = some (.int .i64 s0) := (blk_cell hW.1 0).trans rfl; have hcz1 : W.cell? ⟨g, 1, none⟩ = some (.int .i64 s1) := (blk_cell hW.1 1).trans rfl; have hfz0 := blk_frozen hW.1 0; have hfz1 := blk_frozen hW.1 1; go_simp) ?_)
        refine hK _ ?_
        clear hK K
        (try simp only [Act.put, List.setIfInBounds_toArray, List.set_cons_zero, List.set_cons_succ])
        refine BigFrame.wpQuiet_want (by rfl) (fun K hK => quiet_run (.agg #[.int .i64 s0, .int .i64 s1]) (fun W hW => by have hcz0 : W.cell? ⟨g, 0, none⟩ = some (.int .i64 s0) := (blk_cell hW.1 0).trans rfl; have hcz1 : W.cell? ⟨g, 1, none⟩ = some (.int .i64 s1) := (blk_cell hW.1 1).trans rfl; have hfz0 := blk_frozen hW.1 0; have hfz1 := blk_frozen hW.1 1; go_simp) ?_)
        refine hK _ ?_
        clear hK K
        (try simp only [Act.put, List.setIfInBounds_toArray, List.set_cons_zero, List.set_cons_succ])
        refine BigFrame.wpQuiet_want (by rfl) (fun K hK => quiet_mv _ (.int .i64 f) rfl rfl ?_)
        refine hK _ ?_
        clear hK K
        (try simp only [Act.put, List.setIfInBounds_toArray, List.set_cons_zero, List.set_cons_succ])
        refine BigFrame.wpQuiet_want (by rfl) (fun K hK => quiet_mv _ (.int .i64 X) rfl rfl ?_)
        refine hK _ ?_
        clear hK K
        (try simp only [Act.put, List.setIfInBounds_toArray, List.set_cons_zero, List.set_cons_succ])
        refine BigFrame.wpQuiet_want (by rfl) (fun K hK => quiet_call (.int .i64 z) Try.func23 (by kernel_rfl) rfl #[.agg #[.int .i64 s0, .int .i64 s1], .int .i64 f, .int .i64 X] rfl (by (try simp only [List.map_toArray, List.map_cons, List.map_nil]); first | done | rfl) (fun W hW => (A.addr_Move.calls s0 s1 f X z W M5.out).mono (by rintro e w2 ⟨rfl, hb⟩; exact ⟨rfl, blk_below hW.1 hb, below_step hW.2 hb⟩)) ?_)
        refine hK _ ?_
        clear hK K
        (try simp only [Act.put, List.setIfInBounds_toArray, List.set_cons_zero, List.set_cons_succ])
        refine BigFrame.wpQuiet_want (by rfl) (fun K hK => quiet_mv _ (.int .i64 Y) rfl rfl ?_)
        refine hK _ ?_
        clear hK K
        (try simp only [Act.put, List.setIfInBounds_toArray, List.set_cons_zero, List.set_cons_succ])
        refine BigFrame.wpQuiet_want (by rfl) (fun K hK => quiet_run (.int .i64 (-Y)) (fun W hW => by go_simp) ?_)
        refine hK _ ?_
        clear hK K
        (try simp only [Act.put, List.setIfInBounds_toArray, List.set_cons_zero, List.set_cons_succ])
        refine BigFrame.wpQuiet_want (by rfl) (fun K hK => quiet_call (.int .i64 u) Try.func23 (by kernel_rfl) rfl #[.agg #[.int .i64 s0, .int .i64 s1], .int .i64 z, .int .i64 (-Y)] rfl (by (try simp only [List.map_toArray, List.map_cons, List.map_nil]); first | done | rfl) (fun W hW => (A.addr_Move.calls s0 s1 z (-Y) u W M6.out).mono (by rintro e w2 ⟨rfl, hb⟩; exact ⟨rfl, blk_below hW.1 hb, below_step hW.2 hb⟩)) ?_)
        refine hK _ ?_
        clear hK K
        (try simp only [Act.put, List.setIfInBounds_toArray, List.set_cons_zero, List.set_cons_succ])
        refine BigFrame.wpQuiet_want (by rfl) (fun K hK => quiet_run (.agg #[.int .i64 s0, .int .i64 s1]) (fun W hW => by have hcz0 : W.cell? ⟨g, 0, none⟩ = some (.int .i64 s0) := (blk_cell hW.1 0).trans rfl; have hcz1 : W.cell? ⟨g, 1, none⟩ = some (.int .i64 s1) := (blk_cell hW.1 1).trans rfl; have hfz0 := blk_frozen hW.1 0; have hfz1 := blk_frozen hW.1 1; go_simp) ?_)
        refine hK _ ?_
        clear hK K
        (try simp only [Act.put, List.setIfInBounds_toArray, List.set_cons_zero, List.set_cons_succ])
        refine BigFrame.wpQuiet_want (by rfl) (fun K hK => quiet_mv _ (.int .i64 f) rfl rfl ?_)
        refine hK _ ?_
        clear hK K
        (try simp only [Act.put, List.setIfInBounds_toArray, List.set_cons_zero, List.set_cons_succ])
        refine BigFrame.wpQuiet_want (by rfl) (fun K hK => quiet_mv _ (.int .i64 X) rfl rfl ?_)
        refine hK _ ?_
        clear hK K
        (try simp only [Act.put, List.setIfInBounds_toArray, List.set_cons_zero, List.set_cons_succ])
        refine BigFrame.wpQuiet_want (by rfl) (fun K hK => quiet_mv _ (.int .i64 Y) rfl rfl ?_)
        refine hK _ ?_
        clear hK K
        (try simp only [Act.put, List.setIfInBounds_toArray, List.set_cons_zero, List.set_cons_succ])
        refine BigFrame.wpQuiet_want (by rfl) (fun K hK => quiet_run (.int .i64 (X - Y)) (fun W hW => by go_simp) ?_)
        refine hK _ ?_
        clear hK K
        (try simp only [Act.put, List.setIfInBounds_toArray, List.set_cons_zero, List.set_cons_succ])
        refine BigFrame.wpQuiet_want (by rfl) (fun K hK => quiet_call (.int .i64 u) Try.func23 (by kernel_rfl) rfl #[.agg #[.int .i64 s0, .int .i64 s1], .int .i64 f, .int .i64 (X - Y)] rfl (by (try simp only [List.map_toArray, List.map_cons, List.map_nil]); first | done | rfl) (fun W hW => (A.addr_Move.calls s0 s1 f (X - Y) u W M7.out).mono (by rintro e w2 ⟨rfl, hb⟩; exact ⟨rfl, blk_below hW.1 hb, below_step hW.2 hb⟩)) ?_)
        refine hK _ ?_
        clear hK K
        (try simp only [Act.put, List.setIfInBounds_toArray, List.set_cons_zero, List.set_cons_succ])
        refine BigFrame.wpQuiet_want (by rfl) (fun K hK => quiet_run (.bool true) (fun W hW => by go_simp) ?_)
        refine hK _ ?_
        clear hK K
        (try simp only [Act.put, List.setIfInBounds_toArray, List.set_cons_zero, List.set_cons_succ])
        refine BigFrame.wpQuiet_want (by rfl) (fun K hK => quiet_run (.bool true) (fun W hW => by go_simp) ?_)
        refine hK _ ?_
        clear hK K
        (try simp only [Act.put, List.setIfInBounds_toArray, List.set_cons_zero, List.set_cons_succ])
        refine BigFrame.wpQuiet_want (by rfl) (fun K hK => quiet_asg _ (.bool true) rfl rfl ?_)
        refine hK _ ?_
        clear hK K
        (try simp only [Act.put, List.setIfInBounds_toArray, List.set_cons_zero, List.set_cons_succ])
        refine wpQuiet_nil ?_
        rintro w9 ⟨bk, hb⟩
        go_wp2
        go_ret
        exact ⟨rfl, hb⟩

set_option maxHeartbeats 8000000 in
set_option maxRecDepth 100000 in
theorem rounds_none (s0 s1 frm dst x y : Int) (w : World) (h : cells s0 s1 = 0 ∨ 300 < cells s0 s1) :
    Calls Try.prog 6 #[.agg #[.int .i64 s0, .int .i64 s1], .int .i64 frm, .int .i64 dst, .int .i64 x, .int .i64 y] w fun e w' => e = .returned (.bool true) ∧ Below w.heap.size w w' := by
  have hu35 := Try.underlying35
  have HAL := Aside0.mk (Plain.alive_ok (k := 6) (by decide))
  obtain ⟨N, hN⟩ : ∃ N, N = cells s0 s1 := ⟨_, rfl⟩
  have HCF := Aside0.mk (show A.addr_Cells.f s0 s1 = some N from by rw [hN]; exact cells_f s0 s1)
  rw [← hN] at h
  clear hN
  have HB := Aside0.mk (Below.refl w.heap.size w)
  rcases h with h | h
  · have c1 : (N == 0) = true := by simpa using h
    go_enter Try.func6, Try.ntmps6
    go_wp2_with (first | ((with_reducible refine gate_dst (N := 5) rfl ?_); refine box_event ?hg (N := 5) ?hd (cs := #[.int .i64 s0, .int .i64 s1]) (t := 35) ?hr ?_; (case hd => rfl); (case hg => rfl); (case hr => first | (go_simp; done) | (go_simp; rfl)); intro g hg wa hbox hb; have n0_ := Aside0.mk (below_step (by repeat (first | (with_reducible first | exact HB.out | apply below_alloc | apply pw_below_drewN | apply below_drew1) | exact HB.out)) hb); have n1_ := Aside0.mk hbox; have n2_ := Aside0.mk ((by rw [hg]; exact (below_size (by repeat (first | (with_reducible first | exact HB.out | apply below_alloc | apply pw_below_drewN | apply below_drew1) | exact HB.out)))) : w.heap.size ≤ g); clear HB; have HB := n0_; have BK := n1_; have GW := n2_; clear n0_ n1_ n2_; clear hb hbox hg; have hczwa0 : wa.cell? ⟨g, 0, none⟩ = some (.int .i64 s0) := (blk_cell BK.out 0).trans rfl; have hczwa1 : wa.cell? ⟨g, 1, none⟩ = some (.int .i64 s1) := (blk_cell BK.out 1).trans rfl; have hfzwa0 := blk_frozen BK.out 0; have hfzwa1 := blk_frozen BK.out 1) | ((with_reducible refine gate_callee (f := 8) rfl ?_); refine goesL_ (some 16) rfl rfl Try.func8 (by kernel_rfl) rfl #[] rfl (by (try simp only [List.map_toArray, List.map_cons, List.map_nil]); first | done | rfl) ?_; (with_reducible refine (P.greenscreenlaw02_alive.calls 6 true rfl _ HAL.out).mono ?_); rintro e wb ⟨rfl, hb⟩; refine ⟨_, rfl, ?_⟩; have n0_ := Aside0.mk (blk_below (g := g) (o := .cells #[.int .i64 s0, .int .i64 s1] 35 (0, 0)) (by (with_reducible repeat (first | refine blk_drewN ?_ _ | refine blk_drew ?_ | refine blk_alloc ?_ _)); exact BK.out) hb); have n1_ := Aside0.mk (below_step (by repeat (first | (with_reducible first | exact HB.out | apply below_alloc | apply pw_below_drewN | apply below_drew1) | exact HB.out)) hb); clear BK; clear HB; have BK := n0_; have HB := n1_; clear n0_ n1_; (try clear hb); have hczwb0 : wb.cell? ⟨g, 0, none⟩ = some (.int .i64 s0) := (blk_cell BK.out 0).trans rfl; have hczwb1 : wb.cell? ⟨g, 1, none⟩ = some (.int .i64 s1) := (blk_cell BK.out 1).trans rfl; have hfzwb0 := blk_frozen BK.out 0; have hfzwb1 := blk_frozen BK.out 1) | ((with_reducible refine gate_callee (f := 19) rfl ?_); refine goesL_ (some 19) rfl rfl Try.func19 (by kernel_rfl) rfl #[.agg #[.int .i64 s0, .int .i64 s1]] rfl (by (try simp only [List.map_toArray, List.map_cons, List.map_nil]); first | done | rfl) ?_; (with_reducible refine (A.addr_Cells.calls s0 s1 N _ HCF.out).mono ?_); rintro e u3 ⟨rfl, hb⟩; refine ⟨_, rfl, ?_⟩; have n0_ := Aside0.mk (blk_below (g := g) (o := .cells #[.int .i64 s0, .int .i64 s1] 35 (0, 0)) (by (with_reducible repeat (first | refine blk_drewN ?_ _ | refine blk_drew ?_ | refine blk_alloc ?_ _)); exact BK.out) hb); have n1_ := Aside0.mk (below_step (by repeat (first | (with_reducible first | exact HB.out | apply below_alloc | apply pw_below_drewN | apply below_drew1) | exact HB.out)) hb); clear BK; clear HB; have BK := n0_; have HB := n1_; clear n0_ n1_; (try clear hb); have hczu30 : u3.cell? ⟨g, 0, none⟩ = some (.int .i64 s0) := (blk_cell BK.out 0).trans rfl; have hczu31 : u3.cell? ⟨g, 1, none⟩ = some (.int .i64 s1) := (blk_cell BK.out 1).trans rfl; have hfzu30 := blk_frozen BK.out 0; have hfzu31 := blk_frozen BK.out 1) | go_in)
    go_ret
    exact ⟨rfl, HB.out⟩
  · have c1 : (N == 0) = false := by simp; omega
    have c2 : decide (N > 300) = true := by simp; omega
    go_enter Try.func6, Try.ntmps6
    go_wp2_with (first | ((with_reducible refine gate_dst (N := 5) rfl ?_); refine box_event ?hg (N := 5) ?hd (cs := #[.int .i64 s0, .int .i64 s1]) (t := 35) ?hr ?_; (case hd => rfl); (case hg => rfl); (case hr => first | (go_simp; done) | (go_simp; rfl)); intro g hg wa hbox hb; have n0_ := Aside0.mk (below_step (by repeat (first | (with_reducible first | exact HB.out | apply below_alloc | apply pw_below_drewN | apply below_drew1) | exact HB.out)) hb); have n1_ := Aside0.mk hbox; have n2_ := Aside0.mk ((by rw [hg]; exact (below_size (by repeat (first | (with_reducible first | exact HB.out | apply below_alloc | apply pw_below_drewN | apply below_drew1) | exact HB.out)))) : w.heap.size ≤ g); clear HB; have HB := n0_; have BK := n1_; have GW := n2_; clear n0_ n1_ n2_; clear hb hbox hg; have hczwa0 : wa.cell? ⟨g, 0, none⟩ = some (.int .i64 s0) := (blk_cell BK.out 0).trans rfl; have hczwa1 : wa.cell? ⟨g, 1, none⟩ = some (.int .i64 s1) := (blk_cell BK.out 1).trans rfl; have hfzwa0 := blk_frozen BK.out 0; have hfzwa1 := blk_frozen BK.out 1) | ((with_reducible refine gate_callee (f := 8) rfl ?_); refine goesL_ (some 16) rfl rfl Try.func8 (by kernel_rfl) rfl #[] rfl (by (try simp only [List.map_toArray, List.map_cons, List.map_nil]); first | done | rfl) ?_; (with_reducible refine (P.greenscreenlaw02_alive.calls 6 true rfl _ HAL.out).mono ?_); rintro e wb ⟨rfl, hb⟩; refine ⟨_, rfl, ?_⟩; have n0_ := Aside0.mk (blk_below (g := g) (o := .cells #[.int .i64 s0, .int .i64 s1] 35 (0, 0)) (by (with_reducible repeat (first | refine blk_drewN ?_ _ | refine blk_drew ?_ | refine blk_alloc ?_ _)); exact BK.out) hb); have n1_ := Aside0.mk (below_step (by repeat (first | (with_reducible first | exact HB.out | apply below_alloc | apply pw_below_drewN | apply below_drew1) | exact HB.out)) hb); clear BK; clear HB; have BK := n0_; have HB := n1_; clear n0_ n1_; (try clear hb); have hczwb0 : wb.cell? ⟨g, 0, none⟩ = some (.int .i64 s0) := (blk_cell BK.out 0).trans rfl; have hczwb1 : wb.cell? ⟨g, 1, none⟩ = some (.int .i64 s1) := (blk_cell BK.out 1).trans rfl; have hfzwb0 := blk_frozen BK.out 0; have hfzwb1 := blk_frozen BK.out 1) | ((with_reducible refine gate_callee (f := 19) rfl ?_); refine goesL_ (some 19) rfl rfl Try.func19 (by kernel_rfl) rfl #[.agg #[.int .i64 s0, .int .i64 s1]] rfl (by (try simp only [List.map_toArray, List.map_cons, List.map_nil]); first | done | rfl) ?_; (with_reducible refine (A.addr_Cells.calls s0 s1 N _ HCF.out).mono ?_); rintro e u3 ⟨rfl, hb⟩; refine ⟨_, rfl, ?_⟩; have n0_ := Aside0.mk (blk_below (g := g) (o := .cells #[.int .i64 s0, .int .i64 s1] 35 (0, 0)) (by (with_reducible repeat (first | refine blk_drewN ?_ _ | refine blk_drew ?_ | refine blk_alloc ?_ _)); exact BK.out) hb); have n1_ := Aside0.mk (below_step (by repeat (first | (with_reducible first | exact HB.out | apply below_alloc | apply pw_below_drewN | apply below_drew1) | exact HB.out)) hb); clear BK; clear HB; have BK := n0_; have HB := n1_; clear n0_ n1_; (try clear hb); have hczu30 : u3.cell? ⟨g, 0, none⟩ = some (.int .i64 s0) := (blk_cell BK.out 0).trans rfl; have hczu31 : u3.cell? ⟨g, 1, none⟩ = some (.int .i64 s1) := (blk_cell BK.out 1).trans rfl; have hfzu30 := blk_frozen BK.out 0; have hfzu31 := blk_frozen BK.out 1) | go_in)
    go_ret
    exact ⟨rfl, HB.out⟩
end Go.Proofs.Ytddccpgbjlejhaa.Rounds
namespace Go.Proofs.Ytddccpgbjlejhaa.P
open Go.RowKit
def greenscreenlaw02_AddrRounds.f (_ _ _ _ _ _ : Int) : Option Bool := some true
theorem greenscreenlaw02_AddrRounds.calls (a0_0 a0_1 a1 a2 a3 a4 : Int) (r : Bool) (hr_ : r = true) (w : World) (_ : greenscreenlaw02_AddrRounds.f a0_0 a0_1 a1 a2 a3 a4 = some r) :
    Calls Try.prog 6 #[.agg #[.int .i64 a0_0, .int .i64 a0_1], .int .i64 a1, .int .i64 a2, .int .i64 a3, .int .i64 a4] w fun e w' => e = .returned (.bool r) ∧ Below w.heap.size w w' := by
  subst hr_
  have hr := Hand.cells_range a0_0 a0_1
  by_cases h : 1 ≤ Hand.cells a0_0 a0_1 ∧ Hand.cells a0_0 a0_1 ≤ 300
  · exact Rounds.rounds_all a0_0 a0_1 a1 a2 a3 a4 w h.1 h.2
  · exact Rounds.rounds_none a0_0 a0_1 a1 a2 a3 a4 w (by omega)
end Go.Proofs.Ytddccpgbjlejhaa.P
