/- MailPlays: the walk over the law's text. -/
/- MailPlays: what the row asks of the walk. -/
import Derived.Test.YtofemimgjcjpdaaAny
import Derived.Deep.RegionHeld3
namespace Go.Proofs.Ytofemimgjcjpdaa.H
open Go.Conc Go.RowKit Go.Shelf
open Go.Proofs.YtofemimgjcjpdaaW.PrintWords (ReadsInt readsInt_of pw_cell_below)
set_option linter.unusedVariables false
set_option linter.unusedSimpArgs false

section
variable {P : Program} {ops : Array Oper} {C : World → Prop} {Q : Act → Prop} {a : Act} {o : Oper} {rest : List Oper}
theorem wp_region_class (C : World → Prop) {id : Nat} {Q : Exit → Act → World → Prop} {a : Act} {w : World} {l : List Oper} (hm : P.follows .mixedOrders = true) (hB : Region.lexB .any l.toArray = true) (hC : C { w with drawn := w.drawn + 1 })
    (h : wpQuiet P l.toArray C (fun a' => ∀ w', C w' → Q .normal a' w') l a) : (Code.region id l.toArray true).wp P Q a w :=
  wp_region_quiet hm hB hC (by simpa using h)
theorem quiet_skip {Q : Act → Prop} (h : wpQuiet P ops C Q rest (a.put o.dst undef)) (hw : Region.wanted o (yielded ops a.tmps) = false) : wpQuiet P ops C Q (o :: rest) a := BigFrame.wpQuiet_skip hw h
theorem quiet_mv {K : Act → Prop} (x : Operand) (v : Value) (h : o.op = .move x) (hv : a.eval x = v) (hk : K (a.put o.dst v)) : o.quiet P a C K :=
  BigFrame.quiet_move x h (by rw [hv]; exact hk)
theorem quiet_asg {K : Act → Prop} (x : Operand) (v : Value) (h : o.op = .assign x) (hv : a.eval x = v) (hk : K (a.put o.dst v)) : o.quiet P a C K :=
  BigFrame.quiet_assign x h (by rw [hv]; exact hk)
theorem quiet_run {K : Act → Prop} (v : Value) (h : ∀ W, C W → (execOp a.eval o).run P W = .ok (.value v) W) (hk : K (a.put o.dst v)) : o.quiet P a C K :=
  ⟨v, fun w hw => by unfold Oper.quietAt; rw [h w hw]; exact ⟨rfl, rfl⟩, hk⟩
theorem quiet_call {K : Act → Prop} {f : FuncId} {fn : Func} {os_ : Array Operand} {ts : Array TypeId} (v : Value) (hf : P.funcs[f]? = some fn) (hname : (fn.name == "runtime.NumGoroutine") = false) (hb : fn.body.isSome = true) (args : Array Value)
    (hop : o.op = .call { callee := .value (.func f), args := os_, argTypes := ts }) (hargs : os_.map a.eval = args)
    (h : ∀ W, C W → Calls P f args W fun e w'' => e = .returned v ∧ C w'') (hk : K (a.put o.dst v)) : o.quiet P a C K := by
  refine ⟨v, fun w hw => ?_, hk⟩
  have he := Go.Proofs.YtofemimgjcjpdaaW.PrintLast.enters_ hf hname hb args w
  unfold Oper.quietAt execOp
  simp [hop, resolve, Deferred.ofValue, invoke, Act.eval, hargs, he]
  exact ⟨rfl, h w hw⟩
end

set_option maxHeartbeats 8000000 in
set_option maxRecDepth 100000 in
theorem plays_calls (a b : Int) (A2 : Option Addr) (c0 : Nat) (ops : List A.S33) (w : World) (hR : Go.Proofs.YtofemimgjcjpdaaW.PrintWords.Kd.C A.k33 w A2 ops.length ops) (h80 : ops.length ≤ 80) :
    Calls Try.prog 3 #[.int .i64 a, .int .i64 b, .slice A2 ops.length c0] w fun e w' => e = .returned (.bool true) ∧ Below w.heap.size w w' := by
  have HR := Lib.hid hR
  clear hR
  go_enter Try.func3, Try.ntmps3
  go_wp2_with fail
  refine (alive_any _).mono ?_
  rintro e W0 ⟨rfl, hb0⟩
  have HB0 := Lib.hid hb0
  clear hb0
  go_wp2_with fail
  refine (new_any _ a).mono ?_
  rintro e W1 ⟨g, c, rfl, hq1, hg, hc, hb1⟩
  have HN1 := Lib.hid (And.intro hq1 (And.intro hg (And.intro hc hb1)))
  clear hq1 hg hc hb1
  go_wp2_with fail
  refine (new_any _ b).mono ?_
  rintro e W2 ⟨g2, c2, rfl, hq2, hg2, hc2, hb2⟩
  have HD : Hid (Duo (held a) (held b) w g c [] false g2 c2 [] false W2) := Lib.hid (by
    obtain ⟨hq1, hg, hc, hb1⟩ := HN1.out
    have h0 := HB0.out.size
    exact duo_new w hq1 (HB0.out.trans (hb1.mono h0)) (by omega) (by omega) hq2 hb2 hg2 hc2)
  clear hq2 hg2 hc2 hb2 HN1
  go_wp2_with fail
  refine (rnew a _).mono ?_
  rintro e W3 ⟨v1, rfl, hr1, hb3⟩
  have HN1 := Lib.hid (And.intro hr1 hb3)
  clear hr1 hb3
  go_wp2_with fail
  refine (rnew b _).mono ?_
  rintro e W4 ⟨v2, rfl, hr2, hb4⟩
  have HN2 := Lib.hid (And.intro hr2 hb4)
  clear hr2 hb4
  go_wp2_with fail
  have HS : Hid (Same w W2.heap.size W4.heap.size (held a) (held b) g c g2 c2 (W4.alloc (Obj.cells #[v1, .int .i64 (held a), .bool false, v2, .int .i64 (held b), .bool false] 29))) := Lib.hid (by
    obtain ⟨hr1, hb3⟩ := HN1.out
    obtain ⟨hr2, hb4⟩ := HN2.out
    have hq0 := new_at W2 (Obj.cells #[.pointer (some ⟨g, 0, none⟩), .pointer (some ⟨g2, 0, none⟩)] 24)
    have hb := (Below.refl W4.heap.size W4).alloc (Nat.le_refl _) (Obj.cells #[v1, .int .i64 (held a), .bool false, v2, .int .i64 (held b), .bool false] 29)
    have h2 := (Below.refl W2.heap.size W2).alloc (Nat.le_refl _) (Obj.cells #[.pointer (some ⟨g, 0, none⟩), .pointer (some ⟨g2, 0, none⟩)] 24)
    have hD := ((HD.out.later h2).later hb3).later hb4
    exact ⟨[], [], false, false, v1, v2, hD.later hb, Nat.zero_le _, Nat.zero_le _, blk_keep hb (blk_keep hb4 (blk_keep hb3 hq0)), new_at _ _, (hr1.stay (Stay.of_below hb4)).stay (Stay.of_below hb), hr2.stay (Stay.of_below hb), hD.b.size⟩)
  clear HN1 HN2 HD HB0
  revert HS
  obtain ⟨k1, hk1⟩ : ∃ k1, k1 = held a := ⟨_, rfl⟩
  obtain ⟨k2, hk2⟩ : ∃ k2, k2 = held b := ⟨_, rfl⟩
  obtain ⟨Q, hQ⟩ : ∃ Q, Q = W2.heap.size := ⟨_, rfl⟩
  obtain ⟨X, hX⟩ : ∃ X, X = W4.heap.size := ⟨_, rfl⟩
  have l1 : k1 ≤ 1024 := by rw [hk1]; exact held_le a
  have l2 : k2 ≤ 1024 := by rw [hk2]; exact held_le b
  rw [← hk1, ← hk2]
  obtain ⟨W5, hW5⟩ : ∃ W5, W5 = W4.alloc (Obj.cells #[v1, .int .i64 k1, .bool false, v2, .int .i64 k2, .bool false] 29) := ⟨_, rfl⟩
  rw [← hQ, ← hX, ← hW5]
  intro HS
  clear hk1 hk2 hQ hX hW5
  obtain ⟨n, hn⟩ : ∃ n, n = ops.length := ⟨_, rfl⟩
  have HNN := Lib.hid hn
  have hn80 : n ≤ 80 := by omega
  rw [← hn]
  clear hn h80
  go_loopw [30] (fun v wr => ∃ k : Nat, k ≤ n ∧ v = .int .i64 k ∧ Same w Q X k1 k2 g c g2 c2 wr) (fun v _ => n - (intOf v).toNat)
  case atStart => exact ⟨0, Nat.zero_le _, rfl, HS.out⟩
  case round =>
    clear HS
    obtain ⟨k, hk, rfl, hs⟩ := hrel
    by_cases hlt : k < n
    · have hlt' : k < ops.length := by rw [← HNN.out]; exact hlt
      obtain ⟨ad, rfl, hc0, hc1, hc2⟩ := A.ops_at HR.out k hlt'
      obtain ⟨⟨K, Z, B⟩, hop⟩ : ∃ op, op = ops[k]'hlt' := ⟨_, rfl⟩
      rw [← hop] at hc0 hc1 hc2
      obtain ⟨xs, ys, s, s2, v1, v2, hsm⟩ := hs.sm
      have hc0 := pw_cell_below hsm.d.b hc0
      have hc1 := pw_cell_below hsm.d.b hc1
      have hc2 := pw_cell_below hsm.d.b hc2
      dsimp only at hc0 hc1 hc2
      clear hsm hop hlt'
      have HS := Lib.hid (hs.later ((Below.refl wr.heap.size wr).alloc (Nat.le_refl _) (Obj.cells #[.int .i64 K, .int .i64 Z, .bool B] 33)))
      clear hs
      go_upto_if 35 with fail
      go_cut [11] (fun v11 wx => ∃ i : Int, (i = 0 ∨ i = 1) ∧ v11 = .int .i64 i ∧ wx = wr.alloc (Obj.cells #[.int .i64 K, .int .i64 Z, .bool B] 33))
      case first =>
        cases B
        all_goals
          go_wp2_with fail
          go_meet
          case rel => first | exact ⟨0, .inl rfl, rfl, rfl⟩ | exact ⟨1, .inr rfl, rfl, rfl⟩
      case rest =>
        obtain ⟨i, hi, rfl, rfl⟩ := hcut
        rename_i Ka ka Kb kb
        refine kb _ _ ?_
        clear kb Kb
        go_wp2_with (go_at_call 10; (with_reducible refine (step_at HS.out l1 l2 K Z B i hi).mono ?_); rintro e w1 ⟨rfl, hs⟩; have H1 := Lib.hid hs; clear hs HS hc0 hc1 hc2)
        obtain ⟨xs, ys, s, s2, v1, v2, hsm⟩ := H1.out.sm
        have HM := Lib.hid hsm
        clear hsm H1
        go_loopw [44] (fun v wr => ∃ j : Nat, j ≤ 2 ∧ v = .int .i64 j ∧ Sm w Q X k1 k2 g c g2 c2 xs ys s s2 v1 v2 wr) (fun v _ => 2 - (intOf v).toNat)
        case atStart => exact ⟨0, Nat.zero_le _, rfl, HM.out⟩
        case round =>
          clear HM
          obtain ⟨j, hj, rfl, hsm⟩ := hrel
          have HM := Lib.hid hsm
          clear hsm
          obtain rfl | rfl | rfl : j = 0 ∨ j = 1 ∨ j = 2 := by omega
          · obtain ⟨A1, m1, cp1, rfl⟩ := HM.out.r1.form
            obtain rfl : m1 = xs.length := by obtain ⟨_, _, e, _⟩ := HM.out.r1; injection e
            obtain ⟨ob, hob⟩ : ∃ ob, overB xs s = ob := ⟨_, rfl⟩
            have hdec : (s = false ∧ ob = false) ∨ (s = true ∧ ob = true ∧ ((xs.length : Int) == 0) = true) ∨ (s = true ∧ ob = false ∧ ((xs.length : Int) == 0) = false) := by
              rw [← hob]
              unfold overB
              cases s <;> cases xs <;> simp <;> omega
            have HOB := Lib.hid hob
            clear hob
            rcases hdec with ⟨rfl, rfl⟩ | ⟨rfl, rfl, hz⟩ | ⟨rfl, rfl, hz⟩
            · have HQ := Lib.hid (rs0_start HM.out)
              go_wp2_with fail
              refine wp_region_class (fun w' => w'.cell? ⟨Q, 0, none⟩ = some (.pointer (some ⟨g, 0, none⟩)) ∧ w'.cell? ⟨X, 0, none⟩ = some (.slice A1 xs.length cp1) ∧ w'.cell? ⟨X, 1, none⟩ = some (.int .i64 k1) ∧ w'.cell? ⟨X, 2, none⟩ = some (.bool false) ∧ Below wr.heap.size wr w') (by kernel_rfl) (by kernel_rfl) HQ.out ?_
              refine BigFrame.wpQuiet_want (by rfl) (fun K hK => quiet_mv _ (.slice (some ⟨Q, 0, none⟩) 2 2) rfl rfl ?_)
              refine hK _ ?_
              clear hK K
              (try simp only [Act.put, List.setIfInBounds_toArray, List.set_cons_zero, List.set_cons_succ])
              refine BigFrame.wpQuiet_want (by rfl) (fun K hK => quiet_mv _ (.int .i64 0) rfl rfl ?_)
              refine hK _ ?_
              clear hK K
              (try simp only [Act.put, List.setIfInBounds_toArray, List.set_cons_zero, List.set_cons_succ])
              refine BigFrame.wpQuiet_want (by rfl) (fun K hK => quiet_run (.pointer (some ⟨Q, 0, none⟩)) (fun W hW => by go_simp) ?_)
              refine hK _ ?_
              clear hK K
              (try simp only [Act.put, List.setIfInBounds_toArray, List.set_cons_zero, List.set_cons_succ])
              refine BigFrame.wpQuiet_want (by rfl) (fun K hK => quiet_run (.pointer (some ⟨g, 0, none⟩)) (fun W hW => by (have c0 := hW.1; go_simp)) ?_)
              refine hK _ ?_
              clear hK K
              (try simp only [Act.put, List.setIfInBounds_toArray, List.set_cons_zero, List.set_cons_succ])
              refine BigFrame.wpQuiet_want (by rfl) (fun K hK => quiet_call (.int .i64 xs.length) Try.func11 (by kernel_rfl) rfl #[.pointer (some ⟨g, 0, none⟩)] rfl (by (try simp only [List.map_toArray, List.map_cons, List.map_nil]); first | done | rfl) (fun W hW => ((rs0_len HM.out hW).mono (fun _ _ h => ⟨h.1, by rw [h.2]; exact hW⟩))) ?_)
              refine hK _ ?_
              clear hK K
              (try simp only [Act.put, List.setIfInBounds_toArray, List.set_cons_zero, List.set_cons_succ])
              refine BigFrame.wpQuiet_want (by rfl) (fun K hK => quiet_mv _ (.slice (some ⟨X, 0, none⟩) 2 2) rfl rfl ?_)
              refine hK _ ?_
              clear hK K
              (try simp only [Act.put, List.setIfInBounds_toArray, List.set_cons_zero, List.set_cons_succ])
              refine BigFrame.wpQuiet_want (by rfl) (fun K hK => quiet_mv _ (.int .i64 0) rfl rfl ?_)
              refine hK _ ?_
              clear hK K
              (try simp only [Act.put, List.setIfInBounds_toArray, List.set_cons_zero, List.set_cons_succ])
              refine BigFrame.wpQuiet_want (by rfl) (fun K hK => quiet_run (.pointer (some ⟨X, 0, none⟩)) (fun W hW => by go_simp) ?_)
              refine hK _ ?_
              clear hK K
              (try simp only [Act.put, List.setIfInBounds_toArray, List.set_cons_zero, List.set_cons_succ])
              refine BigFrame.wpQuiet_want (by rfl) (fun K hK => quiet_run (.pointer (some ⟨X, 0, none⟩)) (fun W hW => by go_simp) ?_)
              refine hK _ ?_
              clear hK K
              (try simp only [Act.put, List.setIfInBounds_toArray, List.set_cons_zero, List.set_cons_succ])
              refine BigFrame.wpQuiet_want (by rfl) (fun K hK => quiet_run ((.slice A1 xs.length cp1)) (fun W hW => by (have c0 := hW.2.1; go_simp)) ?_)
              refine hK _ ?_
              clear hK K
              (try simp only [Act.put, List.setIfInBounds_toArray, List.set_cons_zero, List.set_cons_succ])
              refine BigFrame.wpQuiet_want (by rfl) (fun K hK => quiet_run (.int .i64 xs.length) (fun W hW => by go_simp) ?_)
              refine hK _ ?_
              clear hK K
              (try simp only [Act.put, List.setIfInBounds_toArray, List.set_cons_zero, List.set_cons_succ])
              refine BigFrame.wpQuiet_want (by rfl) (fun K hK => quiet_run (.bool false) (fun W hW => by go_simp) ?_)
              refine hK _ ?_
              clear hK K
              (try simp only [Act.put, List.setIfInBounds_toArray, List.set_cons_zero, List.set_cons_succ])
              refine BigFrame.wpQuiet_want (by rfl) (fun K hK => quiet_mv _ (.bool false) rfl rfl ?_)
              refine hK _ ?_
              clear hK K
              (try simp only [Act.put, List.setIfInBounds_toArray, List.set_cons_zero, List.set_cons_succ])
              refine BigFrame.wpQuiet_want (by rfl) (fun K hK => quiet_mv _ (.slice (some ⟨Q, 0, none⟩) 2 2) rfl rfl ?_)
              refine hK _ ?_
              clear hK K
              (try simp only [Act.put, List.setIfInBounds_toArray, List.set_cons_zero, List.set_cons_succ])
              refine BigFrame.wpQuiet_want (by rfl) (fun K hK => quiet_mv _ (.int .i64 0) rfl rfl ?_)
              refine hK _ ?_
              clear hK K
              (try simp only [Act.put, List.setIfInBounds_toArray, List.set_cons_zero, List.set_cons_succ])
              refine BigFrame.wpQuiet_want (by rfl) (fun K hK => quiet_run (.pointer (some ⟨Q, 0, none⟩)) (fun W hW => by go_simp) ?_)
              refine hK _ ?_
              clear hK K
              (try simp only [Act.put, List.setIfInBounds_toArray, List.set_cons_zero, List.set_cons_succ])
              refine BigFrame.wpQuiet_want (by rfl) (fun K hK => quiet_run (.pointer (some ⟨g, 0, none⟩)) (fun W hW => by (have c0 := hW.1; go_simp)) ?_)
              refine hK _ ?_
              clear hK K
              (try simp only [Act.put, List.setIfInBounds_toArray, List.set_cons_zero, List.set_cons_succ])
              refine BigFrame.wpQuiet_want (by rfl) (fun K hK => quiet_call (.int .i64 (roomN k1 xs false)) Try.func12 (by kernel_rfl) rfl #[.pointer (some ⟨g, 0, none⟩)] rfl (by (try simp only [List.map_toArray, List.map_cons, List.map_nil]); first | done | rfl) (fun W hW => (rs0_room HM.out l1 l2 hW)) ?_)
              refine hK _ ?_
              clear hK K
              (try simp only [Act.put, List.setIfInBounds_toArray, List.set_cons_zero, List.set_cons_succ])
              refine BigFrame.wpQuiet_want (by rfl) (fun K hK => quiet_mv _ (.slice (some ⟨X, 0, none⟩) 2 2) rfl rfl ?_)
              refine hK _ ?_
              clear hK K
              (try simp only [Act.put, List.setIfInBounds_toArray, List.set_cons_zero, List.set_cons_succ])
              refine BigFrame.wpQuiet_want (by rfl) (fun K hK => quiet_mv _ (.int .i64 0) rfl rfl ?_)
              refine hK _ ?_
              clear hK K
              (try simp only [Act.put, List.setIfInBounds_toArray, List.set_cons_zero, List.set_cons_succ])
              refine BigFrame.wpQuiet_want (by rfl) (fun K hK => quiet_run (.pointer (some ⟨X, 0, none⟩)) (fun W hW => by go_simp) ?_)
              refine hK _ ?_
              clear hK K
              (try simp only [Act.put, List.setIfInBounds_toArray, List.set_cons_zero, List.set_cons_succ])
              refine BigFrame.wpQuiet_want (by rfl) (fun K hK => quiet_run (.agg #[(.slice A1 xs.length cp1), .int .i64 k1, .bool false]) (fun W hW => by (have c0 := hW.2.1; have c1 := hW.2.2.1; have c2 := hW.2.2.2.1; go_simp)) ?_)
              refine hK _ ?_
              clear hK K
              (try simp only [Act.put, List.setIfInBounds_toArray, List.set_cons_zero, List.set_cons_succ])
              refine BigFrame.wpQuiet_want (by rfl) (fun K hK => quiet_call (.int .i64 (roomN k1 xs false)) Try.func13 (by kernel_rfl) rfl #[.agg #[(.slice A1 xs.length cp1), .int .i64 k1, .bool false]] rfl (by (try simp only [List.map_toArray, List.map_cons, List.map_nil]); first | done | rfl) (fun W hW => (rs0_rroom HM.out l1 l2 hW)) ?_)
              refine hK _ ?_
              clear hK K
              (try simp only [Act.put, List.setIfInBounds_toArray, List.set_cons_zero, List.set_cons_succ])
              refine BigFrame.wpQuiet_want (by rfl) (fun K hK => quiet_run (.bool false) (fun W hW => by go_simp) ?_)
              refine hK _ ?_
              clear hK K
              (try simp only [Act.put, List.setIfInBounds_toArray, List.set_cons_zero, List.set_cons_succ])
              refine BigFrame.wpQuiet_want (by rfl) (fun K hK => quiet_run (.bool false) (fun W hW => by go_simp) ?_)
              refine hK _ ?_
              clear hK K
              (try simp only [Act.put, List.setIfInBounds_toArray, List.set_cons_zero, List.set_cons_succ])
              refine BigFrame.wpQuiet_want (by rfl) (fun K hK => quiet_mv _ (.bool false) rfl rfl ?_)
              refine hK _ ?_
              clear hK K
              (try simp only [Act.put, List.setIfInBounds_toArray, List.set_cons_zero, List.set_cons_succ])
              refine BigFrame.wpQuiet_want (by rfl) (fun K hK => quiet_mv _ (.slice (some ⟨Q, 0, none⟩) 2 2) rfl rfl ?_)
              refine hK _ ?_
              clear hK K
              (try simp only [Act.put, List.setIfInBounds_toArray, List.set_cons_zero, List.set_cons_succ])
              refine BigFrame.wpQuiet_want (by rfl) (fun K hK => quiet_mv _ (.int .i64 0) rfl rfl ?_)
              refine hK _ ?_
              clear hK K
              (try simp only [Act.put, List.setIfInBounds_toArray, List.set_cons_zero, List.set_cons_succ])
              refine BigFrame.wpQuiet_want (by rfl) (fun K hK => quiet_run (.pointer (some ⟨Q, 0, none⟩)) (fun W hW => by go_simp) ?_)
              refine hK _ ?_
              clear hK K
              (try simp only [Act.put, List.setIfInBounds_toArray, List.set_cons_zero, List.set_cons_succ])
              refine BigFrame.wpQuiet_want (by rfl) (fun K hK => quiet_run (.pointer (some ⟨g, 0, none⟩)) (fun W hW => by (have c0 := hW.1; go_simp)) ?_)
              refine hK _ ?_
              clear hK K
              (try simp only [Act.put, List.setIfInBounds_toArray, List.set_cons_zero, List.set_cons_succ])
              refine BigFrame.wpQuiet_want (by rfl) (fun K hK => quiet_call (.bool false) Try.func14 (by kernel_rfl) rfl #[.pointer (some ⟨g, 0, none⟩)] rfl (by (try simp only [List.map_toArray, List.map_cons, List.map_nil]); first | done | rfl) (fun W hW => ((rs0_over HM.out HOB.out hW).mono (fun _ _ h => ⟨h.1, by rw [h.2]; exact hW⟩))) ?_)
              refine hK _ ?_
              clear hK K
              (try simp only [Act.put, List.setIfInBounds_toArray, List.set_cons_zero, List.set_cons_succ])
              refine BigFrame.wpQuiet_want (by rfl) (fun K hK => quiet_mv _ (.slice (some ⟨X, 0, none⟩) 2 2) rfl rfl ?_)
              refine hK _ ?_
              clear hK K
              (try simp only [Act.put, List.setIfInBounds_toArray, List.set_cons_zero, List.set_cons_succ])
              refine BigFrame.wpQuiet_want (by rfl) (fun K hK => quiet_mv _ (.int .i64 0) rfl rfl ?_)
              refine hK _ ?_
              clear hK K
              (try simp only [Act.put, List.setIfInBounds_toArray, List.set_cons_zero, List.set_cons_succ])
              refine BigFrame.wpQuiet_want (by rfl) (fun K hK => quiet_run (.pointer (some ⟨X, 0, none⟩)) (fun W hW => by go_simp) ?_)
              refine hK _ ?_
              clear hK K
              (try simp only [Act.put, List.setIfInBounds_toArray, List.set_cons_zero, List.set_cons_succ])
              refine BigFrame.wpQuiet_want (by rfl) (fun K hK => quiet_run (.pointer (some ⟨X, 2, none⟩)) (fun W hW => by go_simp) ?_)
              refine hK _ ?_
              clear hK K
              (try simp only [Act.put, List.setIfInBounds_toArray, List.set_cons_zero, List.set_cons_succ])
              refine BigFrame.wpQuiet_want (by rfl) (fun K hK => quiet_run (.bool false) (fun W hW => by (have c0 := hW.2.2.2.1; go_simp)) ?_)
              refine hK _ ?_
              clear hK K
              (try simp only [Act.put, List.setIfInBounds_toArray, List.set_cons_zero, List.set_cons_succ])
              refine BigFrame.wpQuiet_want (by rfl) (fun K hK => quiet_mv _ (.bool false) rfl rfl ?_)
              refine hK _ ?_
              clear hK K
              (try simp only [Act.put, List.setIfInBounds_toArray, List.set_cons_zero, List.set_cons_succ])
              with_reducible refine quiet_skip ?_ (by with_unfolding_all rfl)
              (try simp only [Act.put, List.setIfInBounds_toArray, List.set_cons_zero, List.set_cons_succ])
              with_reducible refine quiet_skip ?_ (by with_unfolding_all rfl)
              (try simp only [Act.put, List.setIfInBounds_toArray, List.set_cons_zero, List.set_cons_succ])
              with_reducible refine quiet_skip ?_ (by with_unfolding_all rfl)
              (try simp only [Act.put, List.setIfInBounds_toArray, List.set_cons_zero, List.set_cons_succ])
              with_reducible refine quiet_skip ?_ (by with_unfolding_all rfl)
              (try simp only [Act.put, List.setIfInBounds_toArray, List.set_cons_zero, List.set_cons_succ])
              with_reducible refine quiet_skip ?_ (by with_unfolding_all rfl)
              (try simp only [Act.put, List.setIfInBounds_toArray, List.set_cons_zero, List.set_cons_succ])
              with_reducible refine quiet_skip ?_ (by with_unfolding_all rfl)
              (try simp only [Act.put, List.setIfInBounds_toArray, List.set_cons_zero, List.set_cons_succ])
              with_reducible refine quiet_skip ?_ (by with_unfolding_all rfl)
              (try simp only [Act.put, List.setIfInBounds_toArray, List.set_cons_zero, List.set_cons_succ])
              refine BigFrame.wpQuiet_want (by rfl) (fun K hK => quiet_run (.bool false) (fun W hW => by go_simp) ?_)
              refine hK _ ?_
              clear hK K
              (try simp only [Act.put, List.setIfInBounds_toArray, List.set_cons_zero, List.set_cons_succ])
              refine BigFrame.wpQuiet_want (by rfl) (fun K hK => quiet_run (.bool false) (fun W hW => by go_simp) ?_)
              refine hK _ ?_
              clear hK K
              (try simp only [Act.put, List.setIfInBounds_toArray, List.set_cons_zero, List.set_cons_succ])
              refine BigFrame.wpQuiet_want (by rfl) (fun K hK => quiet_run (.bool false) (fun W hW => by go_simp) ?_)
              refine hK _ ?_
              clear hK K
              (try simp only [Act.put, List.setIfInBounds_toArray, List.set_cons_zero, List.set_cons_succ])
              refine wpQuiet_nil ?_
              rintro w9 hrs
              have HM2 := Lib.hid (rs0_end HM.out hrs)
              clear hrs
              go_wp2_with fail
              go_roundw
              case rel => exact ⟨1, by omega, by go_num, HM2.out⟩
              case measure => simp [intOf]
            · have HQ := Lib.hid (rs0_start HM.out)
              go_wp2_with fail
              refine wp_region_class (fun w' => w'.cell? ⟨Q, 0, none⟩ = some (.pointer (some ⟨g, 0, none⟩)) ∧ w'.cell? ⟨X, 0, none⟩ = some (.slice A1 xs.length cp1) ∧ w'.cell? ⟨X, 1, none⟩ = some (.int .i64 k1) ∧ w'.cell? ⟨X, 2, none⟩ = some (.bool true) ∧ Below wr.heap.size wr w') (by kernel_rfl) (by kernel_rfl) HQ.out ?_
              refine BigFrame.wpQuiet_want (by rfl) (fun K hK => quiet_mv _ (.slice (some ⟨Q, 0, none⟩) 2 2) rfl rfl ?_)
              refine hK _ ?_
              clear hK K
              (try simp only [Act.put, List.setIfInBounds_toArray, List.set_cons_zero, List.set_cons_succ])
              refine BigFrame.wpQuiet_want (by rfl) (fun K hK => quiet_mv _ (.int .i64 0) rfl rfl ?_)
              refine hK _ ?_
              clear hK K
              (try simp only [Act.put, List.setIfInBounds_toArray, List.set_cons_zero, List.set_cons_succ])
              refine BigFrame.wpQuiet_want (by rfl) (fun K hK => quiet_run (.pointer (some ⟨Q, 0, none⟩)) (fun W hW => by go_simp) ?_)
              refine hK _ ?_
              clear hK K
              (try simp only [Act.put, List.setIfInBounds_toArray, List.set_cons_zero, List.set_cons_succ])
              refine BigFrame.wpQuiet_want (by rfl) (fun K hK => quiet_run (.pointer (some ⟨g, 0, none⟩)) (fun W hW => by (have c0 := hW.1; go_simp)) ?_)
              refine hK _ ?_
              clear hK K
              (try simp only [Act.put, List.setIfInBounds_toArray, List.set_cons_zero, List.set_cons_succ])
              refine BigFrame.wpQuiet_want (by rfl) (fun K hK => quiet_call (.int .i64 xs.length) Try.func11 (by kernel_rfl) rfl #[.pointer (some ⟨g, 0, none⟩)] rfl (by (try simp only [List.map_toArray, List.map_cons, List.map_nil]); first | done | rfl) (fun W hW => ((rs0_len HM.out hW).mono (fun _ _ h => ⟨h.1, by rw [h.2]; exact hW⟩))) ?_)
              refine hK _ ?_
              clear hK K
              (try simp only [Act.put, List.setIfInBounds_toArray, List.set_cons_zero, List.set_cons_succ])
              refine BigFrame.wpQuiet_want (by rfl) (fun K hK => quiet_mv _ (.slice (some ⟨X, 0, none⟩) 2 2) rfl rfl ?_)
              refine hK _ ?_
              clear hK K
              (try simp only [Act.put, List.setIfInBounds_toArray, List.set_cons_zero, List.set_cons_succ])
              refine BigFrame.wpQuiet_want (by rfl) (fun K hK => quiet_mv _ (.int .i64 0) rfl rfl ?_)
              refine hK _ ?_
              clear hK K
              (try simp only [Act.put, List.setIfInBounds_toArray, List.set_cons_zero, List.set_cons_succ])
              refine BigFrame.wpQuiet_want (by rfl) (fun K hK => quiet_run (.pointer (some ⟨X, 0, none⟩)) (fun W hW => by go_simp) ?_)
              refine hK _ ?_
              clear hK K
              (try simp only [Act.put, List.setIfInBounds_toArray, List.set_cons_zero, List.set_cons_succ])
              refine BigFrame.wpQuiet_want (by rfl) (fun K hK => quiet_run (.pointer (some ⟨X, 0, none⟩)) (fun W hW => by go_simp) ?_)
              refine hK _ ?_
              clear hK K
              (try simp only [Act.put, List.setIfInBounds_toArray, List.set_cons_zero, List.set_cons_succ])
              refine BigFrame.wpQuiet_want (by rfl) (fun K hK => quiet_run ((.slice A1 xs.length cp1)) (fun W hW => by (have c0 := hW.2.1; go_simp)) ?_)
              refine hK _ ?_
              clear hK K
              (try simp only [Act.put, List.setIfInBounds_toArray, List.set_cons_zero, List.set_cons_succ])
              refine BigFrame.wpQuiet_want (by rfl) (fun K hK => quiet_run (.int .i64 xs.length) (fun W hW => by go_simp) ?_)
              refine hK _ ?_
              clear hK K
              (try simp only [Act.put, List.setIfInBounds_toArray, List.set_cons_zero, List.set_cons_succ])
              refine BigFrame.wpQuiet_want (by rfl) (fun K hK => quiet_run (.bool false) (fun W hW => by go_simp) ?_)
              refine hK _ ?_
              clear hK K
              (try simp only [Act.put, List.setIfInBounds_toArray, List.set_cons_zero, List.set_cons_succ])
              refine BigFrame.wpQuiet_want (by rfl) (fun K hK => quiet_mv _ (.bool false) rfl rfl ?_)
              refine hK _ ?_
              clear hK K
              (try simp only [Act.put, List.setIfInBounds_toArray, List.set_cons_zero, List.set_cons_succ])
              refine BigFrame.wpQuiet_want (by rfl) (fun K hK => quiet_mv _ (.slice (some ⟨Q, 0, none⟩) 2 2) rfl rfl ?_)
              refine hK _ ?_
              clear hK K
              (try simp only [Act.put, List.setIfInBounds_toArray, List.set_cons_zero, List.set_cons_succ])
              refine BigFrame.wpQuiet_want (by rfl) (fun K hK => quiet_mv _ (.int .i64 0) rfl rfl ?_)
              refine hK _ ?_
              clear hK K
              (try simp only [Act.put, List.setIfInBounds_toArray, List.set_cons_zero, List.set_cons_succ])
              refine BigFrame.wpQuiet_want (by rfl) (fun K hK => quiet_run (.pointer (some ⟨Q, 0, none⟩)) (fun W hW => by go_simp) ?_)
              refine hK _ ?_
              clear hK K
              (try simp only [Act.put, List.setIfInBounds_toArray, List.set_cons_zero, List.set_cons_succ])
              refine BigFrame.wpQuiet_want (by rfl) (fun K hK => quiet_run (.pointer (some ⟨g, 0, none⟩)) (fun W hW => by (have c0 := hW.1; go_simp)) ?_)
              refine hK _ ?_
              clear hK K
              (try simp only [Act.put, List.setIfInBounds_toArray, List.set_cons_zero, List.set_cons_succ])
              refine BigFrame.wpQuiet_want (by rfl) (fun K hK => quiet_call (.int .i64 (roomN k1 xs true)) Try.func12 (by kernel_rfl) rfl #[.pointer (some ⟨g, 0, none⟩)] rfl (by (try simp only [List.map_toArray, List.map_cons, List.map_nil]); first | done | rfl) (fun W hW => (rs0_room HM.out l1 l2 hW)) ?_)
              refine hK _ ?_
              clear hK K
              (try simp only [Act.put, List.setIfInBounds_toArray, List.set_cons_zero, List.set_cons_succ])
              refine BigFrame.wpQuiet_want (by rfl) (fun K hK => quiet_mv _ (.slice (some ⟨X, 0, none⟩) 2 2) rfl rfl ?_)
              refine hK _ ?_
              clear hK K
              (try simp only [Act.put, List.setIfInBounds_toArray, List.set_cons_zero, List.set_cons_succ])
              refine BigFrame.wpQuiet_want (by rfl) (fun K hK => quiet_mv _ (.int .i64 0) rfl rfl ?_)
              refine hK _ ?_
              clear hK K
              (try simp only [Act.put, List.setIfInBounds_toArray, List.set_cons_zero, List.set_cons_succ])
              refine BigFrame.wpQuiet_want (by rfl) (fun K hK => quiet_run (.pointer (some ⟨X, 0, none⟩)) (fun W hW => by go_simp) ?_)
              refine hK _ ?_
              clear hK K
              (try simp only [Act.put, List.setIfInBounds_toArray, List.set_cons_zero, List.set_cons_succ])
              refine BigFrame.wpQuiet_want (by rfl) (fun K hK => quiet_run (.agg #[(.slice A1 xs.length cp1), .int .i64 k1, .bool true]) (fun W hW => by (have c0 := hW.2.1; have c1 := hW.2.2.1; have c2 := hW.2.2.2.1; go_simp)) ?_)
              refine hK _ ?_
              clear hK K
              (try simp only [Act.put, List.setIfInBounds_toArray, List.set_cons_zero, List.set_cons_succ])
              refine BigFrame.wpQuiet_want (by rfl) (fun K hK => quiet_call (.int .i64 (roomN k1 xs true)) Try.func13 (by kernel_rfl) rfl #[.agg #[(.slice A1 xs.length cp1), .int .i64 k1, .bool true]] rfl (by (try simp only [List.map_toArray, List.map_cons, List.map_nil]); first | done | rfl) (fun W hW => (rs0_rroom HM.out l1 l2 hW)) ?_)
              refine hK _ ?_
              clear hK K
              (try simp only [Act.put, List.setIfInBounds_toArray, List.set_cons_zero, List.set_cons_succ])
              refine BigFrame.wpQuiet_want (by rfl) (fun K hK => quiet_run (.bool false) (fun W hW => by go_simp) ?_)
              refine hK _ ?_
              clear hK K
              (try simp only [Act.put, List.setIfInBounds_toArray, List.set_cons_zero, List.set_cons_succ])
              refine BigFrame.wpQuiet_want (by rfl) (fun K hK => quiet_run (.bool false) (fun W hW => by go_simp) ?_)
              refine hK _ ?_
              clear hK K
              (try simp only [Act.put, List.setIfInBounds_toArray, List.set_cons_zero, List.set_cons_succ])
              refine BigFrame.wpQuiet_want (by rfl) (fun K hK => quiet_mv _ (.bool false) rfl rfl ?_)
              refine hK _ ?_
              clear hK K
              (try simp only [Act.put, List.setIfInBounds_toArray, List.set_cons_zero, List.set_cons_succ])
              refine BigFrame.wpQuiet_want (by rfl) (fun K hK => quiet_mv _ (.slice (some ⟨Q, 0, none⟩) 2 2) rfl rfl ?_)
              refine hK _ ?_
              clear hK K
              (try simp only [Act.put, List.setIfInBounds_toArray, List.set_cons_zero, List.set_cons_succ])
              refine BigFrame.wpQuiet_want (by rfl) (fun K hK => quiet_mv _ (.int .i64 0) rfl rfl ?_)
              refine hK _ ?_
              clear hK K
              (try simp only [Act.put, List.setIfInBounds_toArray, List.set_cons_zero, List.set_cons_succ])
              refine BigFrame.wpQuiet_want (by rfl) (fun K hK => quiet_run (.pointer (some ⟨Q, 0, none⟩)) (fun W hW => by go_simp) ?_)
              refine hK _ ?_
              clear hK K
              (try simp only [Act.put, List.setIfInBounds_toArray, List.set_cons_zero, List.set_cons_succ])
              refine BigFrame.wpQuiet_want (by rfl) (fun K hK => quiet_run (.pointer (some ⟨g, 0, none⟩)) (fun W hW => by (have c0 := hW.1; go_simp)) ?_)
              refine hK _ ?_
              clear hK K
              (try simp only [Act.put, List.setIfInBounds_toArray, List.set_cons_zero, List.set_cons_succ])
              refine BigFrame.wpQuiet_want (by rfl) (fun K hK => quiet_call (.bool true) Try.func14 (by kernel_rfl) rfl #[.pointer (some ⟨g, 0, none⟩)] rfl (by (try simp only [List.map_toArray, List.map_cons, List.map_nil]); first | done | rfl) (fun W hW => ((rs0_over HM.out HOB.out hW).mono (fun _ _ h => ⟨h.1, by rw [h.2]; exact hW⟩))) ?_)
              refine hK _ ?_
              clear hK K
              (try simp only [Act.put, List.setIfInBounds_toArray, List.set_cons_zero, List.set_cons_succ])
              refine BigFrame.wpQuiet_want (by rfl) (fun K hK => quiet_mv _ (.slice (some ⟨X, 0, none⟩) 2 2) rfl rfl ?_)
              refine hK _ ?_
              clear hK K
              (try simp only [Act.put, List.setIfInBounds_toArray, List.set_cons_zero, List.set_cons_succ])
              refine BigFrame.wpQuiet_want (by rfl) (fun K hK => quiet_mv _ (.int .i64 0) rfl rfl ?_)
              refine hK _ ?_
              clear hK K
              (try simp only [Act.put, List.setIfInBounds_toArray, List.set_cons_zero, List.set_cons_succ])
              refine BigFrame.wpQuiet_want (by rfl) (fun K hK => quiet_run (.pointer (some ⟨X, 0, none⟩)) (fun W hW => by go_simp) ?_)
              refine hK _ ?_
              clear hK K
              (try simp only [Act.put, List.setIfInBounds_toArray, List.set_cons_zero, List.set_cons_succ])
              refine BigFrame.wpQuiet_want (by rfl) (fun K hK => quiet_run (.pointer (some ⟨X, 2, none⟩)) (fun W hW => by go_simp) ?_)
              refine hK _ ?_
              clear hK K
              (try simp only [Act.put, List.setIfInBounds_toArray, List.set_cons_zero, List.set_cons_succ])
              refine BigFrame.wpQuiet_want (by rfl) (fun K hK => quiet_run (.bool true) (fun W hW => by (have c0 := hW.2.2.2.1; go_simp)) ?_)
              refine hK _ ?_
              clear hK K
              (try simp only [Act.put, List.setIfInBounds_toArray, List.set_cons_zero, List.set_cons_succ])
              refine BigFrame.wpQuiet_want (by rfl) (fun K hK => quiet_mv _ (.bool true) rfl rfl ?_)
              refine hK _ ?_
              clear hK K
              (try simp only [Act.put, List.setIfInBounds_toArray, List.set_cons_zero, List.set_cons_succ])
              refine BigFrame.wpQuiet_want (by rfl) (fun K hK => quiet_mv _ (.slice (some ⟨X, 0, none⟩) 2 2) rfl rfl ?_)
              refine hK _ ?_
              clear hK K
              (try simp only [Act.put, List.setIfInBounds_toArray, List.set_cons_zero, List.set_cons_succ])
              refine BigFrame.wpQuiet_want (by rfl) (fun K hK => quiet_mv _ (.int .i64 0) rfl rfl ?_)
              refine hK _ ?_
              clear hK K
              (try simp only [Act.put, List.setIfInBounds_toArray, List.set_cons_zero, List.set_cons_succ])
              refine BigFrame.wpQuiet_want (by rfl) (fun K hK => quiet_run (.pointer (some ⟨X, 0, none⟩)) (fun W hW => by go_simp) ?_)
              refine hK _ ?_
              clear hK K
              (try simp only [Act.put, List.setIfInBounds_toArray, List.set_cons_zero, List.set_cons_succ])
              refine BigFrame.wpQuiet_want (by rfl) (fun K hK => quiet_run (.pointer (some ⟨X, 0, none⟩)) (fun W hW => by go_simp) ?_)
              refine hK _ ?_
              clear hK K
              (try simp only [Act.put, List.setIfInBounds_toArray, List.set_cons_zero, List.set_cons_succ])
              refine BigFrame.wpQuiet_want (by rfl) (fun K hK => quiet_run ((.slice A1 xs.length cp1)) (fun W hW => by (have c0 := hW.2.1; go_simp)) ?_)
              refine hK _ ?_
              clear hK K
              (try simp only [Act.put, List.setIfInBounds_toArray, List.set_cons_zero, List.set_cons_succ])
              refine BigFrame.wpQuiet_want (by rfl) (fun K hK => quiet_run (.int .i64 xs.length) (fun W hW => by go_simp) ?_)
              refine hK _ ?_
              clear hK K
              (try simp only [Act.put, List.setIfInBounds_toArray, List.set_cons_zero, List.set_cons_succ])
              refine BigFrame.wpQuiet_want (by rfl) (fun K hK => quiet_run (.bool true) (fun W hW => by go_simp) ?_)
              refine hK _ ?_
              clear hK K
              (try simp only [Act.put, List.setIfInBounds_toArray, List.set_cons_zero, List.set_cons_succ])
              refine BigFrame.wpQuiet_want (by rfl) (fun K hK => quiet_run (.bool true) (fun W hW => by go_simp) ?_)
              refine hK _ ?_
              clear hK K
              (try simp only [Act.put, List.setIfInBounds_toArray, List.set_cons_zero, List.set_cons_succ])
              refine BigFrame.wpQuiet_want (by rfl) (fun K hK => quiet_run (.bool false) (fun W hW => by go_simp) ?_)
              refine hK _ ?_
              clear hK K
              (try simp only [Act.put, List.setIfInBounds_toArray, List.set_cons_zero, List.set_cons_succ])
              refine BigFrame.wpQuiet_want (by rfl) (fun K hK => quiet_run (.bool false) (fun W hW => by go_simp) ?_)
              refine hK _ ?_
              clear hK K
              (try simp only [Act.put, List.setIfInBounds_toArray, List.set_cons_zero, List.set_cons_succ])
              refine wpQuiet_nil ?_
              rintro w9 hrs
              have HM2 := Lib.hid (rs0_end HM.out hrs)
              clear hrs
              go_wp2_with fail
              go_roundw
              case rel => exact ⟨1, by omega, by go_num, HM2.out⟩
              case measure => simp [intOf]
            · have HQ := Lib.hid (rs0_start HM.out)
              go_wp2_with fail
              refine wp_region_class (fun w' => w'.cell? ⟨Q, 0, none⟩ = some (.pointer (some ⟨g, 0, none⟩)) ∧ w'.cell? ⟨X, 0, none⟩ = some (.slice A1 xs.length cp1) ∧ w'.cell? ⟨X, 1, none⟩ = some (.int .i64 k1) ∧ w'.cell? ⟨X, 2, none⟩ = some (.bool true) ∧ Below wr.heap.size wr w') (by kernel_rfl) (by kernel_rfl) HQ.out ?_
              refine BigFrame.wpQuiet_want (by rfl) (fun K hK => quiet_mv _ (.slice (some ⟨Q, 0, none⟩) 2 2) rfl rfl ?_)
              refine hK _ ?_
              clear hK K
              (try simp only [Act.put, List.setIfInBounds_toArray, List.set_cons_zero, List.set_cons_succ])
              refine BigFrame.wpQuiet_want (by rfl) (fun K hK => quiet_mv _ (.int .i64 0) rfl rfl ?_)
              refine hK _ ?_
              clear hK K
              (try simp only [Act.put, List.setIfInBounds_toArray, List.set_cons_zero, List.set_cons_succ])
              refine BigFrame.wpQuiet_want (by rfl) (fun K hK => quiet_run (.pointer (some ⟨Q, 0, none⟩)) (fun W hW => by go_simp) ?_)
              refine hK _ ?_
              clear hK K
              (try simp only [Act.put, List.setIfInBounds_toArray, List.set_cons_zero, List.set_cons_succ])
              refine BigFrame.wpQuiet_want (by rfl) (fun K hK => quiet_run (.pointer (some ⟨g, 0, none⟩)) (fun W hW => by (have c0 := hW.1; go_simp)) ?_)
              refine hK _ ?_
              clear hK K
              (try simp only [Act.put, List.setIfInBounds_toArray, List.set_cons_zero, List.set_cons_succ])
              refine BigFrame.wpQuiet_want (by rfl) (fun K hK => quiet_call (.int .i64 xs.length) Try.func11 (by kernel_rfl) rfl #[.pointer (some ⟨g, 0, none⟩)] rfl (by (try simp only [List.map_toArray, List.map_cons, List.map_nil]); first | done | rfl) (fun W hW => ((rs0_len HM.out hW).mono (fun _ _ h => ⟨h.1, by rw [h.2]; exact hW⟩))) ?_)
              refine hK _ ?_
              clear hK K
              (try simp only [Act.put, List.setIfInBounds_toArray, List.set_cons_zero, List.set_cons_succ])
              refine BigFrame.wpQuiet_want (by rfl) (fun K hK => quiet_mv _ (.slice (some ⟨X, 0, none⟩) 2 2) rfl rfl ?_)
              refine hK _ ?_
              clear hK K
              (try simp only [Act.put, List.setIfInBounds_toArray, List.set_cons_zero, List.set_cons_succ])
              refine BigFrame.wpQuiet_want (by rfl) (fun K hK => quiet_mv _ (.int .i64 0) rfl rfl ?_)
              refine hK _ ?_
              clear hK K
              (try simp only [Act.put, List.setIfInBounds_toArray, List.set_cons_zero, List.set_cons_succ])
              refine BigFrame.wpQuiet_want (by rfl) (fun K hK => quiet_run (.pointer (some ⟨X, 0, none⟩)) (fun W hW => by go_simp) ?_)
              refine hK _ ?_
              clear hK K
              (try simp only [Act.put, List.setIfInBounds_toArray, List.set_cons_zero, List.set_cons_succ])
              refine BigFrame.wpQuiet_want (by rfl) (fun K hK => quiet_run (.pointer (some ⟨X, 0, none⟩)) (fun W hW => by go_simp) ?_)
              refine hK _ ?_
              clear hK K
              (try simp only [Act.put, List.setIfInBounds_toArray, List.set_cons_zero, List.set_cons_succ])
              refine BigFrame.wpQuiet_want (by rfl) (fun K hK => quiet_run ((.slice A1 xs.length cp1)) (fun W hW => by (have c0 := hW.2.1; go_simp)) ?_)
              refine hK _ ?_
              clear hK K
              (try simp only [Act.put, List.setIfInBounds_toArray, List.set_cons_zero, List.set_cons_succ])
              refine BigFrame.wpQuiet_want (by rfl) (fun K hK => quiet_run (.int .i64 xs.length) (fun W hW => by go_simp) ?_)
              refine hK _ ?_
              clear hK K
              (try simp only [Act.put, List.setIfInBounds_toArray, List.set_cons_zero, List.set_cons_succ])
              refine BigFrame.wpQuiet_want (by rfl) (fun K hK => quiet_run (.bool false) (fun W hW => by go_simp) ?_)
              refine hK _ ?_
              clear hK K
              (try simp only [Act.put, List.setIfInBounds_toArray, List.set_cons_zero, List.set_cons_succ])
              refine BigFrame.wpQuiet_want (by rfl) (fun K hK => quiet_mv _ (.bool false) rfl rfl ?_)
              refine hK _ ?_
              clear hK K
              (try simp only [Act.put, List.setIfInBounds_toArray, List.set_cons_zero, List.set_cons_succ])
              refine BigFrame.wpQuiet_want (by rfl) (fun K hK => quiet_mv _ (.slice (some ⟨Q, 0, none⟩) 2 2) rfl rfl ?_)
              refine hK _ ?_
              clear hK K
              (try simp only [Act.put, List.setIfInBounds_toArray, List.set_cons_zero, List.set_cons_succ])
              refine BigFrame.wpQuiet_want (by rfl) (fun K hK => quiet_mv _ (.int .i64 0) rfl rfl ?_)
              refine hK _ ?_
              clear hK K
              (try simp only [Act.put, List.setIfInBounds_toArray, List.set_cons_zero, List.set_cons_succ])
              refine BigFrame.wpQuiet_want (by rfl) (fun K hK => quiet_run (.pointer (some ⟨Q, 0, none⟩)) (fun W hW => by go_simp) ?_)
              refine hK _ ?_
              clear hK K
              (try simp only [Act.put, List.setIfInBounds_toArray, List.set_cons_zero, List.set_cons_succ])
              refine BigFrame.wpQuiet_want (by rfl) (fun K hK => quiet_run (.pointer (some ⟨g, 0, none⟩)) (fun W hW => by (have c0 := hW.1; go_simp)) ?_)
              refine hK _ ?_
              clear hK K
              (try simp only [Act.put, List.setIfInBounds_toArray, List.set_cons_zero, List.set_cons_succ])
              refine BigFrame.wpQuiet_want (by rfl) (fun K hK => quiet_call (.int .i64 (roomN k1 xs true)) Try.func12 (by kernel_rfl) rfl #[.pointer (some ⟨g, 0, none⟩)] rfl (by (try simp only [List.map_toArray, List.map_cons, List.map_nil]); first | done | rfl) (fun W hW => (rs0_room HM.out l1 l2 hW)) ?_)
              refine hK _ ?_
              clear hK K
              (try simp only [Act.put, List.setIfInBounds_toArray, List.set_cons_zero, List.set_cons_succ])
              refine BigFrame.wpQuiet_want (by rfl) (fun K hK => quiet_mv _ (.slice (some ⟨X, 0, none⟩) 2 2) rfl rfl ?_)
              refine hK _ ?_
              clear hK K
              (try simp only [Act.put, List.setIfInBounds_toArray, List.set_cons_zero, List.set_cons_succ])
              refine BigFrame.wpQuiet_want (by rfl) (fun K hK => quiet_mv _ (.int .i64 0) rfl rfl ?_)
              refine hK _ ?_
              clear hK K
              (try simp only [Act.put, List.setIfInBounds_toArray, List.set_cons_zero, List.set_cons_succ])
              refine BigFrame.wpQuiet_want (by rfl) (fun K hK => quiet_run (.pointer (some ⟨X, 0, none⟩)) (fun W hW => by go_simp) ?_)
              refine hK _ ?_
              clear hK K
              (try simp only [Act.put, List.setIfInBounds_toArray, List.set_cons_zero, List.set_cons_succ])
              refine BigFrame.wpQuiet_want (by rfl) (fun K hK => quiet_run (.agg #[(.slice A1 xs.length cp1), .int .i64 k1, .bool true]) (fun W hW => by (have c0 := hW.2.1; have c1 := hW.2.2.1; have c2 := hW.2.2.2.1; go_simp)) ?_)
              refine hK _ ?_
              clear hK K
              (try simp only [Act.put, List.setIfInBounds_toArray, List.set_cons_zero, List.set_cons_succ])
              refine BigFrame.wpQuiet_want (by rfl) (fun K hK => quiet_call (.int .i64 (roomN k1 xs true)) Try.func13 (by kernel_rfl) rfl #[.agg #[(.slice A1 xs.length cp1), .int .i64 k1, .bool true]] rfl (by (try simp only [List.map_toArray, List.map_cons, List.map_nil]); first | done | rfl) (fun W hW => (rs0_rroom HM.out l1 l2 hW)) ?_)
              refine hK _ ?_
              clear hK K
              (try simp only [Act.put, List.setIfInBounds_toArray, List.set_cons_zero, List.set_cons_succ])
              refine BigFrame.wpQuiet_want (by rfl) (fun K hK => quiet_run (.bool false) (fun W hW => by go_simp) ?_)
              refine hK _ ?_
              clear hK K
              (try simp only [Act.put, List.setIfInBounds_toArray, List.set_cons_zero, List.set_cons_succ])
              refine BigFrame.wpQuiet_want (by rfl) (fun K hK => quiet_run (.bool false) (fun W hW => by go_simp) ?_)
              refine hK _ ?_
              clear hK K
              (try simp only [Act.put, List.setIfInBounds_toArray, List.set_cons_zero, List.set_cons_succ])
              refine BigFrame.wpQuiet_want (by rfl) (fun K hK => quiet_mv _ (.bool false) rfl rfl ?_)
              refine hK _ ?_
              clear hK K
              (try simp only [Act.put, List.setIfInBounds_toArray, List.set_cons_zero, List.set_cons_succ])
              refine BigFrame.wpQuiet_want (by rfl) (fun K hK => quiet_mv _ (.slice (some ⟨Q, 0, none⟩) 2 2) rfl rfl ?_)
              refine hK _ ?_
              clear hK K
              (try simp only [Act.put, List.setIfInBounds_toArray, List.set_cons_zero, List.set_cons_succ])
              refine BigFrame.wpQuiet_want (by rfl) (fun K hK => quiet_mv _ (.int .i64 0) rfl rfl ?_)
              refine hK _ ?_
              clear hK K
              (try simp only [Act.put, List.setIfInBounds_toArray, List.set_cons_zero, List.set_cons_succ])
              refine BigFrame.wpQuiet_want (by rfl) (fun K hK => quiet_run (.pointer (some ⟨Q, 0, none⟩)) (fun W hW => by go_simp) ?_)
              refine hK _ ?_
              clear hK K
              (try simp only [Act.put, List.setIfInBounds_toArray, List.set_cons_zero, List.set_cons_succ])
              refine BigFrame.wpQuiet_want (by rfl) (fun K hK => quiet_run (.pointer (some ⟨g, 0, none⟩)) (fun W hW => by (have c0 := hW.1; go_simp)) ?_)
              refine hK _ ?_
              clear hK K
              (try simp only [Act.put, List.setIfInBounds_toArray, List.set_cons_zero, List.set_cons_succ])
              refine BigFrame.wpQuiet_want (by rfl) (fun K hK => quiet_call (.bool false) Try.func14 (by kernel_rfl) rfl #[.pointer (some ⟨g, 0, none⟩)] rfl (by (try simp only [List.map_toArray, List.map_cons, List.map_nil]); first | done | rfl) (fun W hW => ((rs0_over HM.out HOB.out hW).mono (fun _ _ h => ⟨h.1, by rw [h.2]; exact hW⟩))) ?_)
              refine hK _ ?_
              clear hK K
              (try simp only [Act.put, List.setIfInBounds_toArray, List.set_cons_zero, List.set_cons_succ])
              refine BigFrame.wpQuiet_want (by rfl) (fun K hK => quiet_mv _ (.slice (some ⟨X, 0, none⟩) 2 2) rfl rfl ?_)
              refine hK _ ?_
              clear hK K
              (try simp only [Act.put, List.setIfInBounds_toArray, List.set_cons_zero, List.set_cons_succ])
              refine BigFrame.wpQuiet_want (by rfl) (fun K hK => quiet_mv _ (.int .i64 0) rfl rfl ?_)
              refine hK _ ?_
              clear hK K
              (try simp only [Act.put, List.setIfInBounds_toArray, List.set_cons_zero, List.set_cons_succ])
              refine BigFrame.wpQuiet_want (by rfl) (fun K hK => quiet_run (.pointer (some ⟨X, 0, none⟩)) (fun W hW => by go_simp) ?_)
              refine hK _ ?_
              clear hK K
              (try simp only [Act.put, List.setIfInBounds_toArray, List.set_cons_zero, List.set_cons_succ])
              refine BigFrame.wpQuiet_want (by rfl) (fun K hK => quiet_run (.pointer (some ⟨X, 2, none⟩)) (fun W hW => by go_simp) ?_)
              refine hK _ ?_
              clear hK K
              (try simp only [Act.put, List.setIfInBounds_toArray, List.set_cons_zero, List.set_cons_succ])
              refine BigFrame.wpQuiet_want (by rfl) (fun K hK => quiet_run (.bool true) (fun W hW => by (have c0 := hW.2.2.2.1; go_simp)) ?_)
              refine hK _ ?_
              clear hK K
              (try simp only [Act.put, List.setIfInBounds_toArray, List.set_cons_zero, List.set_cons_succ])
              refine BigFrame.wpQuiet_want (by rfl) (fun K hK => quiet_mv _ (.bool true) rfl rfl ?_)
              refine hK _ ?_
              clear hK K
              (try simp only [Act.put, List.setIfInBounds_toArray, List.set_cons_zero, List.set_cons_succ])
              refine BigFrame.wpQuiet_want (by rfl) (fun K hK => quiet_mv _ (.slice (some ⟨X, 0, none⟩) 2 2) rfl rfl ?_)
              refine hK _ ?_
              clear hK K
              (try simp only [Act.put, List.setIfInBounds_toArray, List.set_cons_zero, List.set_cons_succ])
              refine BigFrame.wpQuiet_want (by rfl) (fun K hK => quiet_mv _ (.int .i64 0) rfl rfl ?_)
              refine hK _ ?_
              clear hK K
              (try simp only [Act.put, List.setIfInBounds_toArray, List.set_cons_zero, List.set_cons_succ])
              refine BigFrame.wpQuiet_want (by rfl) (fun K hK => quiet_run (.pointer (some ⟨X, 0, none⟩)) (fun W hW => by go_simp) ?_)
              refine hK _ ?_
              clear hK K
              (try simp only [Act.put, List.setIfInBounds_toArray, List.set_cons_zero, List.set_cons_succ])
              refine BigFrame.wpQuiet_want (by rfl) (fun K hK => quiet_run (.pointer (some ⟨X, 0, none⟩)) (fun W hW => by go_simp) ?_)
              refine hK _ ?_
              clear hK K
              (try simp only [Act.put, List.setIfInBounds_toArray, List.set_cons_zero, List.set_cons_succ])
              refine BigFrame.wpQuiet_want (by rfl) (fun K hK => quiet_run ((.slice A1 xs.length cp1)) (fun W hW => by (have c0 := hW.2.1; go_simp)) ?_)
              refine hK _ ?_
              clear hK K
              (try simp only [Act.put, List.setIfInBounds_toArray, List.set_cons_zero, List.set_cons_succ])
              refine BigFrame.wpQuiet_want (by rfl) (fun K hK => quiet_run (.int .i64 xs.length) (fun W hW => by go_simp) ?_)
              refine hK _ ?_
              clear hK K
              (try simp only [Act.put, List.setIfInBounds_toArray, List.set_cons_zero, List.set_cons_succ])
              refine BigFrame.wpQuiet_want (by rfl) (fun K hK => quiet_run (.bool false) (fun W hW => by go_simp) ?_)
              refine hK _ ?_
              clear hK K
              (try simp only [Act.put, List.setIfInBounds_toArray, List.set_cons_zero, List.set_cons_succ])
              refine BigFrame.wpQuiet_want (by rfl) (fun K hK => quiet_run (.bool false) (fun W hW => by go_simp) ?_)
              refine hK _ ?_
              clear hK K
              (try simp only [Act.put, List.setIfInBounds_toArray, List.set_cons_zero, List.set_cons_succ])
              refine BigFrame.wpQuiet_want (by rfl) (fun K hK => quiet_run (.bool false) (fun W hW => by go_simp) ?_)
              refine hK _ ?_
              clear hK K
              (try simp only [Act.put, List.setIfInBounds_toArray, List.set_cons_zero, List.set_cons_succ])
              refine BigFrame.wpQuiet_want (by rfl) (fun K hK => quiet_run (.bool false) (fun W hW => by go_simp) ?_)
              refine hK _ ?_
              clear hK K
              (try simp only [Act.put, List.setIfInBounds_toArray, List.set_cons_zero, List.set_cons_succ])
              refine wpQuiet_nil ?_
              rintro w9 hrs
              have HM2 := Lib.hid (rs0_end HM.out hrs)
              clear hrs
              go_wp2_with fail
              go_roundw
              case rel => exact ⟨1, by omega, by go_num, HM2.out⟩
              case measure => simp [intOf]
          · obtain ⟨A1, m1, cp1, rfl⟩ := HM.out.r2.form
            obtain rfl : m1 = ys.length := by obtain ⟨_, _, e, _⟩ := HM.out.r2; injection e
            obtain ⟨ob, hob⟩ : ∃ ob, overB ys s2 = ob := ⟨_, rfl⟩
            have hdec : (s2 = false ∧ ob = false) ∨ (s2 = true ∧ ob = true ∧ ((ys.length : Int) == 0) = true) ∨ (s2 = true ∧ ob = false ∧ ((ys.length : Int) == 0) = false) := by
              rw [← hob]
              unfold overB
              cases s2 <;> cases ys <;> simp <;> omega
            have HOB := Lib.hid hob
            clear hob
            rcases hdec with ⟨rfl, rfl⟩ | ⟨rfl, rfl, hz⟩ | ⟨rfl, rfl, hz⟩
            · have HQ := Lib.hid (rs1_start HM.out)
              go_wp2_with fail
              refine wp_region_class (fun w' => w'.cell? ⟨Q, 1, none⟩ = some (.pointer (some ⟨g2, 0, none⟩)) ∧ w'.cell? ⟨X, 3, none⟩ = some (.slice A1 ys.length cp1) ∧ w'.cell? ⟨X, 4, none⟩ = some (.int .i64 k2) ∧ w'.cell? ⟨X, 5, none⟩ = some (.bool false) ∧ Below wr.heap.size wr w') (by kernel_rfl) (by kernel_rfl) HQ.out ?_
              refine BigFrame.wpQuiet_want (by rfl) (fun K hK => quiet_mv _ (.slice (some ⟨Q, 0, none⟩) 2 2) rfl rfl ?_)
              refine hK _ ?_
              clear hK K
              (try simp only [Act.put, List.setIfInBounds_toArray, List.set_cons_zero, List.set_cons_succ])
              refine BigFrame.wpQuiet_want (by rfl) (fun K hK => quiet_mv _ (.int .i64 1) rfl rfl ?_)
              refine hK _ ?_
              clear hK K
              (try simp only [Act.put, List.setIfInBounds_toArray, List.set_cons_zero, List.set_cons_succ])
              refine BigFrame.wpQuiet_want (by rfl) (fun K hK => quiet_run (.pointer (some ⟨Q, 1, none⟩)) (fun W hW => by go_simp) ?_)
              refine hK _ ?_
              clear hK K
              (try simp only [Act.put, List.setIfInBounds_toArray, List.set_cons_zero, List.set_cons_succ])
              refine BigFrame.wpQuiet_want (by rfl) (fun K hK => quiet_run (.pointer (some ⟨g2, 0, none⟩)) (fun W hW => by (have c0 := hW.1; go_simp)) ?_)
              refine hK _ ?_
              clear hK K
              (try simp only [Act.put, List.setIfInBounds_toArray, List.set_cons_zero, List.set_cons_succ])
              refine BigFrame.wpQuiet_want (by rfl) (fun K hK => quiet_call (.int .i64 ys.length) Try.func11 (by kernel_rfl) rfl #[.pointer (some ⟨g2, 0, none⟩)] rfl (by (try simp only [List.map_toArray, List.map_cons, List.map_nil]); first | done | rfl) (fun W hW => ((rs1_len HM.out hW).mono (fun _ _ h => ⟨h.1, by rw [h.2]; exact hW⟩))) ?_)
              refine hK _ ?_
              clear hK K
              (try simp only [Act.put, List.setIfInBounds_toArray, List.set_cons_zero, List.set_cons_succ])
              refine BigFrame.wpQuiet_want (by rfl) (fun K hK => quiet_mv _ (.slice (some ⟨X, 0, none⟩) 2 2) rfl rfl ?_)
              refine hK _ ?_
              clear hK K
              (try simp only [Act.put, List.setIfInBounds_toArray, List.set_cons_zero, List.set_cons_succ])
              refine BigFrame.wpQuiet_want (by rfl) (fun K hK => quiet_mv _ (.int .i64 1) rfl rfl ?_)
              refine hK _ ?_
              clear hK K
              (try simp only [Act.put, List.setIfInBounds_toArray, List.set_cons_zero, List.set_cons_succ])
              refine BigFrame.wpQuiet_want (by rfl) (fun K hK => quiet_run (.pointer (some ⟨X, 3, none⟩)) (fun W hW => by go_simp) ?_)
              refine hK _ ?_
              clear hK K
              (try simp only [Act.put, List.setIfInBounds_toArray, List.set_cons_zero, List.set_cons_succ])
              refine BigFrame.wpQuiet_want (by rfl) (fun K hK => quiet_run (.pointer (some ⟨X, 3, none⟩)) (fun W hW => by go_simp) ?_)
              refine hK _ ?_
              clear hK K
              (try simp only [Act.put, List.setIfInBounds_toArray, List.set_cons_zero, List.set_cons_succ])
              refine BigFrame.wpQuiet_want (by rfl) (fun K hK => quiet_run ((.slice A1 ys.length cp1)) (fun W hW => by (have c0 := hW.2.1; go_simp)) ?_)
              refine hK _ ?_
              clear hK K
              (try simp only [Act.put, List.setIfInBounds_toArray, List.set_cons_zero, List.set_cons_succ])
              refine BigFrame.wpQuiet_want (by rfl) (fun K hK => quiet_run (.int .i64 ys.length) (fun W hW => by go_simp) ?_)
              refine hK _ ?_
              clear hK K
              (try simp only [Act.put, List.setIfInBounds_toArray, List.set_cons_zero, List.set_cons_succ])
              refine BigFrame.wpQuiet_want (by rfl) (fun K hK => quiet_run (.bool false) (fun W hW => by go_simp) ?_)
              refine hK _ ?_
              clear hK K
              (try simp only [Act.put, List.setIfInBounds_toArray, List.set_cons_zero, List.set_cons_succ])
              refine BigFrame.wpQuiet_want (by rfl) (fun K hK => quiet_mv _ (.bool false) rfl rfl ?_)
              refine hK _ ?_
              clear hK K
              (try simp only [Act.put, List.setIfInBounds_toArray, List.set_cons_zero, List.set_cons_succ])
              refine BigFrame.wpQuiet_want (by rfl) (fun K hK => quiet_mv _ (.slice (some ⟨Q, 0, none⟩) 2 2) rfl rfl ?_)
              refine hK _ ?_
              clear hK K
              (try simp only [Act.put, List.setIfInBounds_toArray, List.set_cons_zero, List.set_cons_succ])
              refine BigFrame.wpQuiet_want (by rfl) (fun K hK => quiet_mv _ (.int .i64 1) rfl rfl ?_)
              refine hK _ ?_
              clear hK K
              (try simp only [Act.put, List.setIfInBounds_toArray, List.set_cons_zero, List.set_cons_succ])
              refine BigFrame.wpQuiet_want (by rfl) (fun K hK => quiet_run (.pointer (some ⟨Q, 1, none⟩)) (fun W hW => by go_simp) ?_)
              refine hK _ ?_
              clear hK K
              (try simp only [Act.put, List.setIfInBounds_toArray, List.set_cons_zero, List.set_cons_succ])
              refine BigFrame.wpQuiet_want (by rfl) (fun K hK => quiet_run (.pointer (some ⟨g2, 0, none⟩)) (fun W hW => by (have c0 := hW.1; go_simp)) ?_)
              refine hK _ ?_
              clear hK K
              (try simp only [Act.put, List.setIfInBounds_toArray, List.set_cons_zero, List.set_cons_succ])
              refine BigFrame.wpQuiet_want (by rfl) (fun K hK => quiet_call (.int .i64 (roomN k2 ys false)) Try.func12 (by kernel_rfl) rfl #[.pointer (some ⟨g2, 0, none⟩)] rfl (by (try simp only [List.map_toArray, List.map_cons, List.map_nil]); first | done | rfl) (fun W hW => (rs1_room HM.out l1 l2 hW)) ?_)
              refine hK _ ?_
              clear hK K
              (try simp only [Act.put, List.setIfInBounds_toArray, List.set_cons_zero, List.set_cons_succ])
              refine BigFrame.wpQuiet_want (by rfl) (fun K hK => quiet_mv _ (.slice (some ⟨X, 0, none⟩) 2 2) rfl rfl ?_)
              refine hK _ ?_
              clear hK K
              (try simp only [Act.put, List.setIfInBounds_toArray, List.set_cons_zero, List.set_cons_succ])
              refine BigFrame.wpQuiet_want (by rfl) (fun K hK => quiet_mv _ (.int .i64 1) rfl rfl ?_)
              refine hK _ ?_
              clear hK K
              (try simp only [Act.put, List.setIfInBounds_toArray, List.set_cons_zero, List.set_cons_succ])
              refine BigFrame.wpQuiet_want (by rfl) (fun K hK => quiet_run (.pointer (some ⟨X, 3, none⟩)) (fun W hW => by go_simp) ?_)
              refine hK _ ?_
              clear hK K
              (try simp only [Act.put, List.setIfInBounds_toArray, List.set_cons_zero, List.set_cons_succ])
              refine BigFrame.wpQuiet_want (by rfl) (fun K hK => quiet_run (.agg #[(.slice A1 ys.length cp1), .int .i64 k2, .bool false]) (fun W hW => by (have c0 := hW.2.1; have c1 := hW.2.2.1; have c2 := hW.2.2.2.1; go_simp)) ?_)
              refine hK _ ?_
              clear hK K
              (try simp only [Act.put, List.setIfInBounds_toArray, List.set_cons_zero, List.set_cons_succ])
              refine BigFrame.wpQuiet_want (by rfl) (fun K hK => quiet_call (.int .i64 (roomN k2 ys false)) Try.func13 (by kernel_rfl) rfl #[.agg #[(.slice A1 ys.length cp1), .int .i64 k2, .bool false]] rfl (by (try simp only [List.map_toArray, List.map_cons, List.map_nil]); first | done | rfl) (fun W hW => (rs1_rroom HM.out l1 l2 hW)) ?_)
              refine hK _ ?_
              clear hK K
              (try simp only [Act.put, List.setIfInBounds_toArray, List.set_cons_zero, List.set_cons_succ])
              refine BigFrame.wpQuiet_want (by rfl) (fun K hK => quiet_run (.bool false) (fun W hW => by go_simp) ?_)
              refine hK _ ?_
              clear hK K
              (try simp only [Act.put, List.setIfInBounds_toArray, List.set_cons_zero, List.set_cons_succ])
              refine BigFrame.wpQuiet_want (by rfl) (fun K hK => quiet_run (.bool false) (fun W hW => by go_simp) ?_)
              refine hK _ ?_
              clear hK K
              (try simp only [Act.put, List.setIfInBounds_toArray, List.set_cons_zero, List.set_cons_succ])
              refine BigFrame.wpQuiet_want (by rfl) (fun K hK => quiet_mv _ (.bool false) rfl rfl ?_)
              refine hK _ ?_
              clear hK K
              (try simp only [Act.put, List.setIfInBounds_toArray, List.set_cons_zero, List.set_cons_succ])
              refine BigFrame.wpQuiet_want (by rfl) (fun K hK => quiet_mv _ (.slice (some ⟨Q, 0, none⟩) 2 2) rfl rfl ?_)
              refine hK _ ?_
              clear hK K
              (try simp only [Act.put, List.setIfInBounds_toArray, List.set_cons_zero, List.set_cons_succ])
              refine BigFrame.wpQuiet_want (by rfl) (fun K hK => quiet_mv _ (.int .i64 1) rfl rfl ?_)
              refine hK _ ?_
              clear hK K
              (try simp only [Act.put, List.setIfInBounds_toArray, List.set_cons_zero, List.set_cons_succ])
              refine BigFrame.wpQuiet_want (by rfl) (fun K hK => quiet_run (.pointer (some ⟨Q, 1, none⟩)) (fun W hW => by go_simp) ?_)
              refine hK _ ?_
              clear hK K
              (try simp only [Act.put, List.setIfInBounds_toArray, List.set_cons_zero, List.set_cons_succ])
              refine BigFrame.wpQuiet_want (by rfl) (fun K hK => quiet_run (.pointer (some ⟨g2, 0, none⟩)) (fun W hW => by (have c0 := hW.1; go_simp)) ?_)
              refine hK _ ?_
              clear hK K
              (try simp only [Act.put, List.setIfInBounds_toArray, List.set_cons_zero, List.set_cons_succ])
              refine BigFrame.wpQuiet_want (by rfl) (fun K hK => quiet_call (.bool false) Try.func14 (by kernel_rfl) rfl #[.pointer (some ⟨g2, 0, none⟩)] rfl (by (try simp only [List.map_toArray, List.map_cons, List.map_nil]); first | done | rfl) (fun W hW => ((rs1_over HM.out HOB.out hW).mono (fun _ _ h => ⟨h.1, by rw [h.2]; exact hW⟩))) ?_)
              refine hK _ ?_
              clear hK K
              (try simp only [Act.put, List.setIfInBounds_toArray, List.set_cons_zero, List.set_cons_succ])
              refine BigFrame.wpQuiet_want (by rfl) (fun K hK => quiet_mv _ (.slice (some ⟨X, 0, none⟩) 2 2) rfl rfl ?_)
              refine hK _ ?_
              clear hK K
              (try simp only [Act.put, List.setIfInBounds_toArray, List.set_cons_zero, List.set_cons_succ])
              refine BigFrame.wpQuiet_want (by rfl) (fun K hK => quiet_mv _ (.int .i64 1) rfl rfl ?_)
              refine hK _ ?_
              clear hK K
              (try simp only [Act.put, List.setIfInBounds_toArray, List.set_cons_zero, List.set_cons_succ])
              refine BigFrame.wpQuiet_want (by rfl) (fun K hK => quiet_run (.pointer (some ⟨X, 3, none⟩)) (fun W hW => by go_simp) ?_)
              refine hK _ ?_
              clear hK K
              (try simp only [Act.put, List.setIfInBounds_toArray, List.set_cons_zero, List.set_cons_succ])
              refine BigFrame.wpQuiet_want (by rfl) (fun K hK => quiet_run (.pointer (some ⟨X, 5, none⟩)) (fun W hW => by go_simp) ?_)
              refine hK _ ?_
              clear hK K
              (try simp only [Act.put, List.setIfInBounds_toArray, List.set_cons_zero, List.set_cons_succ])
              refine BigFrame.wpQuiet_want (by rfl) (fun K hK => quiet_run (.bool false) (fun W hW => by (have c0 := hW.2.2.2.1; go_simp)) ?_)
              refine hK _ ?_
              clear hK K
              (try simp only [Act.put, List.setIfInBounds_toArray, List.set_cons_zero, List.set_cons_succ])
              refine BigFrame.wpQuiet_want (by rfl) (fun K hK => quiet_mv _ (.bool false) rfl rfl ?_)
              refine hK _ ?_
              clear hK K
              (try simp only [Act.put, List.setIfInBounds_toArray, List.set_cons_zero, List.set_cons_succ])
              with_reducible refine quiet_skip ?_ (by with_unfolding_all rfl)
              (try simp only [Act.put, List.setIfInBounds_toArray, List.set_cons_zero, List.set_cons_succ])
              with_reducible refine quiet_skip ?_ (by with_unfolding_all rfl)
              (try simp only [Act.put, List.setIfInBounds_toArray, List.set_cons_zero, List.set_cons_succ])
              with_reducible refine quiet_skip ?_ (by with_unfolding_all rfl)
              (try simp only [Act.put, List.setIfInBounds_toArray, List.set_cons_zero, List.set_cons_succ])
              with_reducible refine quiet_skip ?_ (by with_unfolding_all rfl)
              (try simp only [Act.put, List.setIfInBounds_toArray, List.set_cons_zero, List.set_cons_succ])
              with_reducible refine quiet_skip ?_ (by with_unfolding_all rfl)
              (try simp only [Act.put, List.setIfInBounds_toArray, List.set_cons_zero, List.set_cons_succ])
              with_reducible refine quiet_skip ?_ (by with_unfolding_all rfl)
              (try simp only [Act.put, List.setIfInBounds_toArray, List.set_cons_zero, List.set_cons_succ])
              with_reducible refine quiet_skip ?_ (by with_unfolding_all rfl)
              (try simp only [Act.put, List.setIfInBounds_toArray, List.set_cons_zero, List.set_cons_succ])
              refine BigFrame.wpQuiet_want (by rfl) (fun K hK => quiet_run (.bool false) (fun W hW => by go_simp) ?_)
              refine hK _ ?_
              clear hK K
              (try simp only [Act.put, List.setIfInBounds_toArray, List.set_cons_zero, List.set_cons_succ])
              refine BigFrame.wpQuiet_want (by rfl) (fun K hK => quiet_run (.bool false) (fun W hW => by go_simp) ?_)
              refine hK _ ?_
              clear hK K
              (try simp only [Act.put, List.setIfInBounds_toArray, List.set_cons_zero, List.set_cons_succ])
              refine BigFrame.wpQuiet_want (by rfl) (fun K hK => quiet_run (.bool false) (fun W hW => by go_simp) ?_)
              refine hK _ ?_
              clear hK K
              (try simp only [Act.put, List.setIfInBounds_toArray, List.set_cons_zero, List.set_cons_succ])
              refine wpQuiet_nil ?_
              rintro w9 hrs
              have HM2 := Lib.hid (rs1_end HM.out hrs)
              clear hrs
              go_wp2_with fail
              go_roundw
              case rel => exact ⟨2, by omega, by go_num, HM2.out⟩
              case measure => simp [intOf]
            · have HQ := Lib.hid (rs1_start HM.out)
              go_wp2_with fail
              refine wp_region_class (fun w' => w'.cell? ⟨Q, 1, none⟩ = some (.pointer (some ⟨g2, 0, none⟩)) ∧ w'.cell? ⟨X, 3, none⟩ = some (.slice A1 ys.length cp1) ∧ w'.cell? ⟨X, 4, none⟩ = some (.int .i64 k2) ∧ w'.cell? ⟨X, 5, none⟩ = some (.bool true) ∧ Below wr.heap.size wr w') (by kernel_rfl) (by kernel_rfl) HQ.out ?_
              refine BigFrame.wpQuiet_want (by rfl) (fun K hK => quiet_mv _ (.slice (some ⟨Q, 0, none⟩) 2 2) rfl rfl ?_)
              refine hK _ ?_
              clear hK K
              (try simp only [Act.put, List.setIfInBounds_toArray, List.set_cons_zero, List.set_cons_succ])
              refine BigFrame.wpQuiet_want (by rfl) (fun K hK => quiet_mv _ (.int .i64 1) rfl rfl ?_)
              refine hK _ ?_
              clear hK K
              (try simp only [Act.put, List.setIfInBounds_toArray, List.set_cons_zero, List.set_cons_succ])
              refine BigFrame.wpQuiet_want (by rfl) (fun K hK => quiet_run (.pointer (some ⟨Q, 1, none⟩)) (fun W hW => by go_simp) ?_)
              refine hK _ ?_
              clear hK K
              (try simp only [Act.put, List.setIfInBounds_toArray, List.set_cons_zero, List.set_cons_succ])
              refine BigFrame.wpQuiet_want (by rfl) (fun K hK => quiet_run (.pointer (some ⟨g2, 0, none⟩)) (fun W hW => by (have c0 := hW.1; go_simp)) ?_)
              refine hK _ ?_
              clear hK K
              (try simp only [Act.put, List.setIfInBounds_toArray, List.set_cons_zero, List.set_cons_succ])
              refine BigFrame.wpQuiet_want (by rfl) (fun K hK => quiet_call (.int .i64 ys.length) Try.func11 (by kernel_rfl) rfl #[.pointer (some ⟨g2, 0, none⟩)] rfl (by (try simp only [List.map_toArray, List.map_cons, List.map_nil]); first | done | rfl) (fun W hW => ((rs1_len HM.out hW).mono (fun _ _ h => ⟨h.1, by rw [h.2]; exact hW⟩))) ?_)
              refine hK _ ?_
              clear hK K
              (try simp only [Act.put, List.setIfInBounds_toArray, List.set_cons_zero, List.set_cons_succ])
              refine BigFrame.wpQuiet_want (by rfl) (fun K hK => quiet_mv _ (.slice (some ⟨X, 0, none⟩) 2 2) rfl rfl ?_)
              refine hK _ ?_
              clear hK K
              (try simp only [Act.put, List.setIfInBounds_toArray, List.set_cons_zero, List.set_cons_succ])
              refine BigFrame.wpQuiet_want (by rfl) (fun K hK => quiet_mv _ (.int .i64 1) rfl rfl ?_)
              refine hK _ ?_
              clear hK K
              (try simp only [Act.put, List.setIfInBounds_toArray, List.set_cons_zero, List.set_cons_succ])
              refine BigFrame.wpQuiet_want (by rfl) (fun K hK => quiet_run (.pointer (some ⟨X, 3, none⟩)) (fun W hW => by go_simp) ?_)
              refine hK _ ?_
              clear hK K
              (try simp only [Act.put, List.setIfInBounds_toArray, List.set_cons_zero, List.set_cons_succ])
              refine BigFrame.wpQuiet_want (by rfl) (fun K hK => quiet_run (.pointer (some ⟨X, 3, none⟩)) (fun W hW => by go_simp) ?_)
              refine hK _ ?_
              clear hK K
              (try simp only [Act.put, List.setIfInBounds_toArray, List.set_cons_zero, List.set_cons_succ])
              refine BigFrame.wpQuiet_want (by rfl) (fun K hK => quiet_run ((.slice A1 ys.length cp1)) (fun W hW => by (have c0 := hW.2.1; go_simp)) ?_)
              refine hK _ ?_
              clear hK K
              (try simp only [Act.put, List.setIfInBounds_toArray, List.set_cons_zero, List.set_cons_succ])
              refine BigFrame.wpQuiet_want (by rfl) (fun K hK => quiet_run (.int .i64 ys.length) (fun W hW => by go_simp) ?_)
              refine hK _ ?_
              clear hK K
              (try simp only [Act.put, List.setIfInBounds_toArray, List.set_cons_zero, List.set_cons_succ])
              refine BigFrame.wpQuiet_want (by rfl) (fun K hK => quiet_run (.bool false) (fun W hW => by go_simp) ?_)
              refine hK _ ?_
              clear hK K
              (try simp only [Act.put, List.setIfInBounds_toArray, List.set_cons_zero, List.set_cons_succ])
              refine BigFrame.wpQuiet_want (by rfl) (fun K hK => quiet_mv _ (.bool false) rfl rfl ?_)
              refine hK _ ?_
              clear hK K
              (try simp only [Act.put, List.setIfInBounds_toArray, List.set_cons_zero, List.set_cons_succ])
              refine BigFrame.wpQuiet_want (by rfl) (fun K hK => quiet_mv _ (.slice (some ⟨Q, 0, none⟩) 2 2) rfl rfl ?_)
              refine hK _ ?_
              clear hK K
              (try simp only [Act.put, List.setIfInBounds_toArray, List.set_cons_zero, List.set_cons_succ])
              refine BigFrame.wpQuiet_want (by rfl) (fun K hK => quiet_mv _ (.int .i64 1) rfl rfl ?_)
              refine hK _ ?_
              clear hK K
              (try simp only [Act.put, List.setIfInBounds_toArray, List.set_cons_zero, List.set_cons_succ])
              refine BigFrame.wpQuiet_want (by rfl) (fun K hK => quiet_run (.pointer (some ⟨Q, 1, none⟩)) (fun W hW => by go_simp) ?_)
              refine hK _ ?_
              clear hK K
              (try simp only [Act.put, List.setIfInBounds_toArray, List.set_cons_zero, List.set_cons_succ])
              refine BigFrame.wpQuiet_want (by rfl) (fun K hK => quiet_run (.pointer (some ⟨g2, 0, none⟩)) (fun W hW => by (have c0 := hW.1; go_simp)) ?_)
              refine hK _ ?_
              clear hK K
              (try simp only [Act.put, List.setIfInBounds_toArray, List.set_cons_zero, List.set_cons_succ])
              refine BigFrame.wpQuiet_want (by rfl) (fun K hK => quiet_call (.int .i64 (roomN k2 ys true)) Try.func12 (by kernel_rfl) rfl #[.pointer (some ⟨g2, 0, none⟩)] rfl (by (try simp only [List.map_toArray, List.map_cons, List.map_nil]); first | done | rfl) (fun W hW => (rs1_room HM.out l1 l2 hW)) ?_)
              refine hK _ ?_
              clear hK K
              (try simp only [Act.put, List.setIfInBounds_toArray, List.set_cons_zero, List.set_cons_succ])
              refine BigFrame.wpQuiet_want (by rfl) (fun K hK => quiet_mv _ (.slice (some ⟨X, 0, none⟩) 2 2) rfl rfl ?_)
              refine hK _ ?_
              clear hK K
              (try simp only [Act.put, List.setIfInBounds_toArray, List.set_cons_zero, List.set_cons_succ])
              refine BigFrame.wpQuiet_want (by rfl) (fun K hK => quiet_mv _ (.int .i64 1) rfl rfl ?_)
              refine hK _ ?_
              clear hK K
              (try simp only [Act.put, List.setIfInBounds_toArray, List.set_cons_zero, List.set_cons_succ])
              refine BigFrame.wpQuiet_want (by rfl) (fun K hK => quiet_run (.pointer (some ⟨X, 3, none⟩)) (fun W hW => by go_simp) ?_)
              refine hK _ ?_
              clear hK K
              (try simp only [Act.put, List.setIfInBounds_toArray, List.set_cons_zero, List.set_cons_succ])
              refine BigFrame.wpQuiet_want (by rfl) (fun K hK => quiet_run (.agg #[(.slice A1 ys.length cp1), .int .i64 k2, .bool true]) (fun W hW => by (have c0 := hW.2.1; have c1 := hW.2.2.1; have c2 := hW.2.2.2.1; go_simp)) ?_)
              refine hK _ ?_
              clear hK K
              (try simp only [Act.put, List.setIfInBounds_toArray, List.set_cons_zero, List.set_cons_succ])
              refine BigFrame.wpQuiet_want (by rfl) (fun K hK => quiet_call (.int .i64 (roomN k2 ys true)) Try.func13 (by kernel_rfl) rfl #[.agg #[(.slice A1 ys.length cp1), .int .i64 k2, .bool true]] rfl (by (try simp only [List.map_toArray, List.map_cons, List.map_nil]); first | done | rfl) (fun W hW => (rs1_rroom HM.out l1 l2 hW)) ?_)
              refine hK _ ?_
              clear hK K
              (try simp only [Act.put, List.setIfInBounds_toArray, List.set_cons_zero, List.set_cons_succ])
              refine BigFrame.wpQuiet_want (by rfl) (fun K hK => quiet_run (.bool false) (fun W hW => by go_simp) ?_)
              refine hK _ ?_
              clear hK K
              (try simp only [Act.put, List.setIfInBounds_toArray, List.set_cons_zero, List.set_cons_succ])
              refine BigFrame.wpQuiet_want (by rfl) (fun K hK => quiet_run (.bool false) (fun W hW => by go_simp) ?_)
              refine hK _ ?_
              clear hK K
              (try simp only [Act.put, List.setIfInBounds_toArray, List.set_cons_zero, List.set_cons_succ])
              refine BigFrame.wpQuiet_want (by rfl) (fun K hK => quiet_mv _ (.bool false) rfl rfl ?_)
              refine hK _ ?_
              clear hK K
              (try simp only [Act.put, List.setIfInBounds_toArray, List.set_cons_zero, List.set_cons_succ])
              refine BigFrame.wpQuiet_want (by rfl) (fun K hK => quiet_mv _ (.slice (some ⟨Q, 0, none⟩) 2 2) rfl rfl ?_)
              refine hK _ ?_
              clear hK K
              (try simp only [Act.put, List.setIfInBounds_toArray, List.set_cons_zero, List.set_cons_succ])
              refine BigFrame.wpQuiet_want (by rfl) (fun K hK => quiet_mv _ (.int .i64 1) rfl rfl ?_)
              refine hK _ ?_
              clear hK K
              (try simp only [Act.put, List.setIfInBounds_toArray, List.set_cons_zero, List.set_cons_succ])
              refine BigFrame.wpQuiet_want (by rfl) (fun K hK => quiet_run (.pointer (some ⟨Q, 1, none⟩)) (fun W hW => by go_simp) ?_)
              refine hK _ ?_
              clear hK K
              (try simp only [Act.put, List.setIfInBounds_toArray, List.set_cons_zero, List.set_cons_succ])
              refine BigFrame.wpQuiet_want (by rfl) (fun K hK => quiet_run (.pointer (some ⟨g2, 0, none⟩)) (fun W hW => by (have c0 := hW.1; go_simp)) ?_)
              refine hK _ ?_
              clear hK K
              (try simp only [Act.put, List.setIfInBounds_toArray, List.set_cons_zero, List.set_cons_succ])
              refine BigFrame.wpQuiet_want (by rfl) (fun K hK => quiet_call (.bool true) Try.func14 (by kernel_rfl) rfl #[.pointer (some ⟨g2, 0, none⟩)] rfl (by (try simp only [List.map_toArray, List.map_cons, List.map_nil]); first | done | rfl) (fun W hW => ((rs1_over HM.out HOB.out hW).mono (fun _ _ h => ⟨h.1, by rw [h.2]; exact hW⟩))) ?_)
              refine hK _ ?_
              clear hK K
              (try simp only [Act.put, List.setIfInBounds_toArray, List.set_cons_zero, List.set_cons_succ])
              refine BigFrame.wpQuiet_want (by rfl) (fun K hK => quiet_mv _ (.slice (some ⟨X, 0, none⟩) 2 2) rfl rfl ?_)
              refine hK _ ?_
              clear hK K
              (try simp only [Act.put, List.setIfInBounds_toArray, List.set_cons_zero, List.set_cons_succ])
              refine BigFrame.wpQuiet_want (by rfl) (fun K hK => quiet_mv _ (.int .i64 1) rfl rfl ?_)
              refine hK _ ?_
              clear hK K
              (try simp only [Act.put, List.setIfInBounds_toArray, List.set_cons_zero, List.set_cons_succ])
              refine BigFrame.wpQuiet_want (by rfl) (fun K hK => quiet_run (.pointer (some ⟨X, 3, none⟩)) (fun W hW => by go_simp) ?_)
              refine hK _ ?_
              clear hK K
              (try simp only [Act.put, List.setIfInBounds_toArray, List.set_cons_zero, List.set_cons_succ])
              refine BigFrame.wpQuiet_want (by rfl) (fun K hK => quiet_run (.pointer (some ⟨X, 5, none⟩)) (fun W hW => by go_simp) ?_)
              refine hK _ ?_
              clear hK K
              (try simp only [Act.put, List.setIfInBounds_toArray, List.set_cons_zero, List.set_cons_succ])
              refine BigFrame.wpQuiet_want (by rfl) (fun K hK => quiet_run (.bool true) (fun W hW => by (have c0 := hW.2.2.2.1; go_simp)) ?_)
              refine hK _ ?_
              clear hK K
              (try simp only [Act.put, List.setIfInBounds_toArray, List.set_cons_zero, List.set_cons_succ])
              refine BigFrame.wpQuiet_want (by rfl) (fun K hK => quiet_mv _ (.bool true) rfl rfl ?_)
              refine hK _ ?_
              clear hK K
              (try simp only [Act.put, List.setIfInBounds_toArray, List.set_cons_zero, List.set_cons_succ])
              refine BigFrame.wpQuiet_want (by rfl) (fun K hK => quiet_mv _ (.slice (some ⟨X, 0, none⟩) 2 2) rfl rfl ?_)
              refine hK _ ?_
              clear hK K
              (try simp only [Act.put, List.setIfInBounds_toArray, List.set_cons_zero, List.set_cons_succ])
              refine BigFrame.wpQuiet_want (by rfl) (fun K hK => quiet_mv _ (.int .i64 1) rfl rfl ?_)
              refine hK _ ?_
              clear hK K
              (try simp only [Act.put, List.setIfInBounds_toArray, List.set_cons_zero, List.set_cons_succ])
              refine BigFrame.wpQuiet_want (by rfl) (fun K hK => quiet_run (.pointer (some ⟨X, 3, none⟩)) (fun W hW => by go_simp) ?_)
              refine hK _ ?_
              clear hK K
              (try simp only [Act.put, List.setIfInBounds_toArray, List.set_cons_zero, List.set_cons_succ])
              refine BigFrame.wpQuiet_want (by rfl) (fun K hK => quiet_run (.pointer (some ⟨X, 3, none⟩)) (fun W hW => by go_simp) ?_)
              refine hK _ ?_
              clear hK K
              (try simp only [Act.put, List.setIfInBounds_toArray, List.set_cons_zero, List.set_cons_succ])
              refine BigFrame.wpQuiet_want (by rfl) (fun K hK => quiet_run ((.slice A1 ys.length cp1)) (fun W hW => by (have c0 := hW.2.1; go_simp)) ?_)
              refine hK _ ?_
              clear hK K
              (try simp only [Act.put, List.setIfInBounds_toArray, List.set_cons_zero, List.set_cons_succ])
              refine BigFrame.wpQuiet_want (by rfl) (fun K hK => quiet_run (.int .i64 ys.length) (fun W hW => by go_simp) ?_)
              refine hK _ ?_
              clear hK K
              (try simp only [Act.put, List.setIfInBounds_toArray, List.set_cons_zero, List.set_cons_succ])
              refine BigFrame.wpQuiet_want (by rfl) (fun K hK => quiet_run (.bool true) (fun W hW => by go_simp) ?_)
              refine hK _ ?_
              clear hK K
              (try simp only [Act.put, List.setIfInBounds_toArray, List.set_cons_zero, List.set_cons_succ])
              refine BigFrame.wpQuiet_want (by rfl) (fun K hK => quiet_run (.bool true) (fun W hW => by go_simp) ?_)
              refine hK _ ?_
              clear hK K
              (try simp only [Act.put, List.setIfInBounds_toArray, List.set_cons_zero, List.set_cons_succ])
              refine BigFrame.wpQuiet_want (by rfl) (fun K hK => quiet_run (.bool false) (fun W hW => by go_simp) ?_)
              refine hK _ ?_
              clear hK K
              (try simp only [Act.put, List.setIfInBounds_toArray, List.set_cons_zero, List.set_cons_succ])
              refine BigFrame.wpQuiet_want (by rfl) (fun K hK => quiet_run (.bool false) (fun W hW => by go_simp) ?_)
              refine hK _ ?_
              clear hK K
              (try simp only [Act.put, List.setIfInBounds_toArray, List.set_cons_zero, List.set_cons_succ])
              refine wpQuiet_nil ?_
              rintro w9 hrs
              have HM2 := Lib.hid (rs1_end HM.out hrs)
              clear hrs
              go_wp2_with fail
              go_roundw
              case rel => exact ⟨2, by omega, by go_num, HM2.out⟩
              case measure => simp [intOf]
            · have HQ := Lib.hid (rs1_start HM.out)
              go_wp2_with fail
              refine wp_region_class (fun w' => w'.cell? ⟨Q, 1, none⟩ = some (.pointer (some ⟨g2, 0, none⟩)) ∧ w'.cell? ⟨X, 3, none⟩ = some (.slice A1 ys.length cp1) ∧ w'.cell? ⟨X, 4, none⟩ = some (.int .i64 k2) ∧ w'.cell? ⟨X, 5, none⟩ = some (.bool true) ∧ Below wr.heap.size wr w') (by kernel_rfl) (by kernel_rfl) HQ.out ?_
              refine BigFrame.wpQuiet_want (by rfl) (fun K hK => quiet_mv _ (.slice (some ⟨Q, 0, none⟩) 2 2) rfl rfl ?_)
              refine hK _ ?_
              clear hK K
              (try simp only [Act.put, List.setIfInBounds_toArray, List.set_cons_zero, List.set_cons_succ])
              refine BigFrame.wpQuiet_want (by rfl) (fun K hK => quiet_mv _ (.int .i64 1) rfl rfl ?_)
              refine hK _ ?_
              clear hK K
              (try simp only [Act.put, List.setIfInBounds_toArray, List.set_cons_zero, List.set_cons_succ])
              refine BigFrame.wpQuiet_want (by rfl) (fun K hK => quiet_run (.pointer (some ⟨Q, 1, none⟩)) (fun W hW => by go_simp) ?_)
              refine hK _ ?_
              clear hK K
              (try simp only [Act.put, List.setIfInBounds_toArray, List.set_cons_zero, List.set_cons_succ])
              refine BigFrame.wpQuiet_want (by rfl) (fun K hK => quiet_run (.pointer (some ⟨g2, 0, none⟩)) (fun W hW => by (have c0 := hW.1; go_simp)) ?_)
              refine hK _ ?_
              clear hK K
              (try simp only [Act.put, List.setIfInBounds_toArray, List.set_cons_zero, List.set_cons_succ])
              refine BigFrame.wpQuiet_want (by rfl) (fun K hK => quiet_call (.int .i64 ys.length) Try.func11 (by kernel_rfl) rfl #[.pointer (some ⟨g2, 0, none⟩)] rfl (by (try simp only [List.map_toArray, List.map_cons, List.map_nil]); first | done | rfl) (fun W hW => ((rs1_len HM.out hW).mono (fun _ _ h => ⟨h.1, by rw [h.2]; exact hW⟩))) ?_)
              refine hK _ ?_
              clear hK K
              (try simp only [Act.put, List.setIfInBounds_toArray, List.set_cons_zero, List.set_cons_succ])
              refine BigFrame.wpQuiet_want (by rfl) (fun K hK => quiet_mv _ (.slice (some ⟨X, 0, none⟩) 2 2) rfl rfl ?_)
              refine hK _ ?_
              clear hK K
              (try simp only [Act.put, List.setIfInBounds_toArray, List.set_cons_zero, List.set_cons_succ])
              refine BigFrame.wpQuiet_want (by rfl) (fun K hK => quiet_mv _ (.int .i64 1) rfl rfl ?_)
              refine hK _ ?_
              clear hK K
              (try simp only [Act.put, List.setIfInBounds_toArray, List.set_cons_zero, List.set_cons_succ])
              refine BigFrame.wpQuiet_want (by rfl) (fun K hK => quiet_run (.pointer (some ⟨X, 3, none⟩)) (fun W hW => by go_simp) ?_)
              refine hK _ ?_
              clear hK K
              (try simp only [Act.put, List.setIfInBounds_toArray, List.set_cons_zero, List.set_cons_succ])
              refine BigFrame.wpQuiet_want (by rfl) (fun K hK => quiet_run (.pointer (some ⟨X, 3, none⟩)) (fun W hW => by go_simp) ?_)
              refine hK _ ?_
              clear hK K
              (try simp only [Act.put, List.setIfInBounds_toArray, List.set_cons_zero, List.set_cons_succ])
              refine BigFrame.wpQuiet_want (by rfl) (fun K hK => quiet_run ((.slice A1 ys.length cp1)) (fun W hW => by (have c0 := hW.2.1; go_simp)) ?_)
              refine hK _ ?_
              clear hK K
              (try simp only [Act.put, List.setIfInBounds_toArray, List.set_cons_zero, List.set_cons_succ])
              refine BigFrame.wpQuiet_want (by rfl) (fun K hK => quiet_run (.int .i64 ys.length) (fun W hW => by go_simp) ?_)
              refine hK _ ?_
              clear hK K
              (try simp only [Act.put, List.setIfInBounds_toArray, List.set_cons_zero, List.set_cons_succ])
              refine BigFrame.wpQuiet_want (by rfl) (fun K hK => quiet_run (.bool false) (fun W hW => by go_simp) ?_)
              refine hK _ ?_
              clear hK K
              (try simp only [Act.put, List.setIfInBounds_toArray, List.set_cons_zero, List.set_cons_succ])
              refine BigFrame.wpQuiet_want (by rfl) (fun K hK => quiet_mv _ (.bool false) rfl rfl ?_)
              refine hK _ ?_
              clear hK K
              (try simp only [Act.put, List.setIfInBounds_toArray, List.set_cons_zero, List.set_cons_succ])
              refine BigFrame.wpQuiet_want (by rfl) (fun K hK => quiet_mv _ (.slice (some ⟨Q, 0, none⟩) 2 2) rfl rfl ?_)
              refine hK _ ?_
              clear hK K
              (try simp only [Act.put, List.setIfInBounds_toArray, List.set_cons_zero, List.set_cons_succ])
              refine BigFrame.wpQuiet_want (by rfl) (fun K hK => quiet_mv _ (.int .i64 1) rfl rfl ?_)
              refine hK _ ?_
              clear hK K
              (try simp only [Act.put, List.setIfInBounds_toArray, List.set_cons_zero, List.set_cons_succ])
              refine BigFrame.wpQuiet_want (by rfl) (fun K hK => quiet_run (.pointer (some ⟨Q, 1, none⟩)) (fun W hW => by go_simp) ?_)
              refine hK _ ?_
              clear hK K
              (try simp only [Act.put, List.setIfInBounds_toArray, List.set_cons_zero, List.set_cons_succ])
              refine BigFrame.wpQuiet_want (by rfl) (fun K hK => quiet_run (.pointer (some ⟨g2, 0, none⟩)) (fun W hW => by (have c0 := hW.1; go_simp)) ?_)
              refine hK _ ?_
              clear hK K
              (try simp only [Act.put, List.setIfInBounds_toArray, List.set_cons_zero, List.set_cons_succ])
              refine BigFrame.wpQuiet_want (by rfl) (fun K hK => quiet_call (.int .i64 (roomN k2 ys true)) Try.func12 (by kernel_rfl) rfl #[.pointer (some ⟨g2, 0, none⟩)] rfl (by (try simp only [List.map_toArray, List.map_cons, List.map_nil]); first | done | rfl) (fun W hW => (rs1_room HM.out l1 l2 hW)) ?_)
              refine hK _ ?_
              clear hK K
              (try simp only [Act.put, List.setIfInBounds_toArray, List.set_cons_zero, List.set_cons_succ])
              refine BigFrame.wpQuiet_want (by rfl) (fun K hK => quiet_mv _ (.slice (some ⟨X, 0, none⟩) 2 2) rfl rfl ?_)
              refine hK _ ?_
              clear hK K
              (try simp only [Act.put, List.setIfInBounds_toArray, List.set_cons_zero, List.set_cons_succ])
              refine BigFrame.wpQuiet_want (by rfl) (fun K hK => quiet_mv _ (.int .i64 1) rfl rfl ?_)
              refine hK _ ?_
              clear hK K
              (try simp only [Act.put, List.setIfInBounds_toArray, List.set_cons_zero, List.set_cons_succ])
              refine BigFrame.wpQuiet_want (by rfl) (fun K hK => quiet_run (.pointer (some ⟨X, 3, none⟩)) (fun W hW => by go_simp) ?_)
              refine hK _ ?_
              clear hK K
              (try simp only [Act.put, List.setIfInBounds_toArray, List.set_cons_zero, List.set_cons_succ])
              refine BigFrame.wpQuiet_want (by rfl) (fun K hK => quiet_run (.agg #[(.slice A1 ys.length cp1), .int .i64 k2, .bool true]) (fun W hW => by (have c0 := hW.2.1; have c1 := hW.2.2.1; have c2 := hW.2.2.2.1; go_simp)) ?_)
              refine hK _ ?_
              clear hK K
              (try simp only [Act.put, List.setIfInBounds_toArray, List.set_cons_zero, List.set_cons_succ])
              refine BigFrame.wpQuiet_want (by rfl) (fun K hK => quiet_call (.int .i64 (roomN k2 ys true)) Try.func13 (by kernel_rfl) rfl #[.agg #[(.slice A1 ys.length cp1), .int .i64 k2, .bool true]] rfl (by (try simp only [List.map_toArray, List.map_cons, List.map_nil]); first | done | rfl) (fun W hW => (rs1_rroom HM.out l1 l2 hW)) ?_)
              refine hK _ ?_
              clear hK K
              (try simp only [Act.put, List.setIfInBounds_toArray, List.set_cons_zero, List.set_cons_succ])
              refine BigFrame.wpQuiet_want (by rfl) (fun K hK => quiet_run (.bool false) (fun W hW => by go_simp) ?_)
              refine hK _ ?_
              clear hK K
              (try simp only [Act.put, List.setIfInBounds_toArray, List.set_cons_zero, List.set_cons_succ])
              refine BigFrame.wpQuiet_want (by rfl) (fun K hK => quiet_run (.bool false) (fun W hW => by go_simp) ?_)
              refine hK _ ?_
              clear hK K
              (try simp only [Act.put, List.setIfInBounds_toArray, List.set_cons_zero, List.set_cons_succ])
              refine BigFrame.wpQuiet_want (by rfl) (fun K hK => quiet_mv _ (.bool false) rfl rfl ?_)
              refine hK _ ?_
              clear hK K
              (try simp only [Act.put, List.setIfInBounds_toArray, List.set_cons_zero, List.set_cons_succ])
              refine BigFrame.wpQuiet_want (by rfl) (fun K hK => quiet_mv _ (.slice (some ⟨Q, 0, none⟩) 2 2) rfl rfl ?_)
              refine hK _ ?_
              clear hK K
              (try simp only [Act.put, List.setIfInBounds_toArray, List.set_cons_zero, List.set_cons_succ])
              refine BigFrame.wpQuiet_want (by rfl) (fun K hK => quiet_mv _ (.int .i64 1) rfl rfl ?_)
              refine hK _ ?_
              clear hK K
              (try simp only [Act.put, List.setIfInBounds_toArray, List.set_cons_zero, List.set_cons_succ])
              refine BigFrame.wpQuiet_want (by rfl) (fun K hK => quiet_run (.pointer (some ⟨Q, 1, none⟩)) (fun W hW => by go_simp) ?_)
              refine hK _ ?_
              clear hK K
              (try simp only [Act.put, List.setIfInBounds_toArray, List.set_cons_zero, List.set_cons_succ])
              refine BigFrame.wpQuiet_want (by rfl) (fun K hK => quiet_run (.pointer (some ⟨g2, 0, none⟩)) (fun W hW => by (have c0 := hW.1; go_simp)) ?_)
              refine hK _ ?_
              clear hK K
              (try simp only [Act.put, List.setIfInBounds_toArray, List.set_cons_zero, List.set_cons_succ])
              refine BigFrame.wpQuiet_want (by rfl) (fun K hK => quiet_call (.bool false) Try.func14 (by kernel_rfl) rfl #[.pointer (some ⟨g2, 0, none⟩)] rfl (by (try simp only [List.map_toArray, List.map_cons, List.map_nil]); first | done | rfl) (fun W hW => ((rs1_over HM.out HOB.out hW).mono (fun _ _ h => ⟨h.1, by rw [h.2]; exact hW⟩))) ?_)
              refine hK _ ?_
              clear hK K
              (try simp only [Act.put, List.setIfInBounds_toArray, List.set_cons_zero, List.set_cons_succ])
              refine BigFrame.wpQuiet_want (by rfl) (fun K hK => quiet_mv _ (.slice (some ⟨X, 0, none⟩) 2 2) rfl rfl ?_)
              refine hK _ ?_
              clear hK K
              (try simp only [Act.put, List.setIfInBounds_toArray, List.set_cons_zero, List.set_cons_succ])
              refine BigFrame.wpQuiet_want (by rfl) (fun K hK => quiet_mv _ (.int .i64 1) rfl rfl ?_)
              refine hK _ ?_
              clear hK K
              (try simp only [Act.put, List.setIfInBounds_toArray, List.set_cons_zero, List.set_cons_succ])
              refine BigFrame.wpQuiet_want (by rfl) (fun K hK => quiet_run (.pointer (some ⟨X, 3, none⟩)) (fun W hW => by go_simp) ?_)
              refine hK _ ?_
              clear hK K
              (try simp only [Act.put, List.setIfInBounds_toArray, List.set_cons_zero, List.set_cons_succ])
              refine BigFrame.wpQuiet_want (by rfl) (fun K hK => quiet_run (.pointer (some ⟨X, 5, none⟩)) (fun W hW => by go_simp) ?_)
              refine hK _ ?_
              clear hK K
              (try simp only [Act.put, List.setIfInBounds_toArray, List.set_cons_zero, List.set_cons_succ])
              refine BigFrame.wpQuiet_want (by rfl) (fun K hK => quiet_run (.bool true) (fun W hW => by (have c0 := hW.2.2.2.1; go_simp)) ?_)
              refine hK _ ?_
              clear hK K
              (try simp only [Act.put, List.setIfInBounds_toArray, List.set_cons_zero, List.set_cons_succ])
              refine BigFrame.wpQuiet_want (by rfl) (fun K hK => quiet_mv _ (.bool true) rfl rfl ?_)
              refine hK _ ?_
              clear hK K
              (try simp only [Act.put, List.setIfInBounds_toArray, List.set_cons_zero, List.set_cons_succ])
              refine BigFrame.wpQuiet_want (by rfl) (fun K hK => quiet_mv _ (.slice (some ⟨X, 0, none⟩) 2 2) rfl rfl ?_)
              refine hK _ ?_
              clear hK K
              (try simp only [Act.put, List.setIfInBounds_toArray, List.set_cons_zero, List.set_cons_succ])
              refine BigFrame.wpQuiet_want (by rfl) (fun K hK => quiet_mv _ (.int .i64 1) rfl rfl ?_)
              refine hK _ ?_
              clear hK K
              (try simp only [Act.put, List.setIfInBounds_toArray, List.set_cons_zero, List.set_cons_succ])
              refine BigFrame.wpQuiet_want (by rfl) (fun K hK => quiet_run (.pointer (some ⟨X, 3, none⟩)) (fun W hW => by go_simp) ?_)
              refine hK _ ?_
              clear hK K
              (try simp only [Act.put, List.setIfInBounds_toArray, List.set_cons_zero, List.set_cons_succ])
              refine BigFrame.wpQuiet_want (by rfl) (fun K hK => quiet_run (.pointer (some ⟨X, 3, none⟩)) (fun W hW => by go_simp) ?_)
              refine hK _ ?_
              clear hK K
              (try simp only [Act.put, List.setIfInBounds_toArray, List.set_cons_zero, List.set_cons_succ])
              refine BigFrame.wpQuiet_want (by rfl) (fun K hK => quiet_run ((.slice A1 ys.length cp1)) (fun W hW => by (have c0 := hW.2.1; go_simp)) ?_)
              refine hK _ ?_
              clear hK K
              (try simp only [Act.put, List.setIfInBounds_toArray, List.set_cons_zero, List.set_cons_succ])
              refine BigFrame.wpQuiet_want (by rfl) (fun K hK => quiet_run (.int .i64 ys.length) (fun W hW => by go_simp) ?_)
              refine hK _ ?_
              clear hK K
              (try simp only [Act.put, List.setIfInBounds_toArray, List.set_cons_zero, List.set_cons_succ])
              refine BigFrame.wpQuiet_want (by rfl) (fun K hK => quiet_run (.bool false) (fun W hW => by go_simp) ?_)
              refine hK _ ?_
              clear hK K
              (try simp only [Act.put, List.setIfInBounds_toArray, List.set_cons_zero, List.set_cons_succ])
              refine BigFrame.wpQuiet_want (by rfl) (fun K hK => quiet_run (.bool false) (fun W hW => by go_simp) ?_)
              refine hK _ ?_
              clear hK K
              (try simp only [Act.put, List.setIfInBounds_toArray, List.set_cons_zero, List.set_cons_succ])
              refine BigFrame.wpQuiet_want (by rfl) (fun K hK => quiet_run (.bool false) (fun W hW => by go_simp) ?_)
              refine hK _ ?_
              clear hK K
              (try simp only [Act.put, List.setIfInBounds_toArray, List.set_cons_zero, List.set_cons_succ])
              refine BigFrame.wpQuiet_want (by rfl) (fun K hK => quiet_run (.bool false) (fun W hW => by go_simp) ?_)
              refine hK _ ?_
              clear hK K
              (try simp only [Act.put, List.setIfInBounds_toArray, List.set_cons_zero, List.set_cons_succ])
              refine wpQuiet_nil ?_
              rintro w9 hrs
              have HM2 := Lib.hid (rs1_end HM.out hrs)
              clear hrs
              go_wp2_with fail
              go_roundw
              case rel => exact ⟨2, by omega, by go_num, HM2.out⟩
              case measure => simp [intOf]
          · go_wp2_with fail
            go_roundw
            case rel => exact ⟨k + 1, by omega, by go_num, HM.out.same⟩
            case measure => simp [intOf]; omega
    · obtain rfl : k = n := by omega
      obtain ⟨xs, ys, s, s2, v1, v2, hsm⟩ := hs.sm
      have hlx : xs.length ≤ 1024 := Nat.le_trans hsm.lx l1
      have hly : ys.length ≤ 1024 := Nat.le_trans hsm.ly l2
      have H0 := Lib.hid (hsm.sn.later (w1 := wr.drew) bdr)
      clear hsm hs
      go_wp2_with fail
      go_region_held3 (fun w' => w'.cell? ⟨Q, 0, none⟩ = some (.pointer (some ⟨g, 0, none⟩)) ∧ w'.cell? ⟨Q, 1, none⟩ = some (.pointer (some ⟨g2, 0, none⟩)) ∧ w'.cell? ⟨X, 0, none⟩ = some v1 ∧ w'.cell? ⟨X, 3, none⟩ = some v2) (with_reducible first | exact H4.out.s4 | exact H3.out.s4 | exact H2.out.s4 | exact H1.out.s4 | exact H0.out.s4) (first
        | (go_at_call 16; first | (with_reducible refine (H2.out.take2 (by omega)).mono ?_; rintro e w3 ⟨Ad2, cp2, rfl, hcp2, hr2, h⟩; have H3 := Lib.hid h; have HR2 := Lib.hid hr2; clear h hr2) | (with_reducible refine (H0.out.take1 (by omega)).mono ?_; rintro e w1 ⟨Ad, cp, rfl, hcp, hr, h⟩; have H1 := Lib.hid h; have HR1 := Lib.hid hr; clear h hr))
        | (go_at_call 15; first | (with_reducible refine (H3.out.same2 hcp2 HR2.out (by omega)).mono ?_; rintro e w4 ⟨rfl, h⟩; have H4 := Lib.hid h; clear h) | (with_reducible refine (H1.out.same1 hcp HR1.out (by omega)).mono ?_; rintro e w2 ⟨rfl, h⟩; have H2 := Lib.hid h; clear h)))
      all_goals
        go_wp2_with fail
        go_ret
        exact ⟨rfl, H4.out.d.b⟩

end Go.Proofs.Ytofemimgjcjpdaa.H

namespace Go.Proofs.Ytofemimgjcjpdaa.H
open Go.Conc Go.RowKit Go.Shelf
set_option linter.unusedVariables false
set_option linter.unusedSimpArgs false
set_option maxHeartbeats 1000000 in
set_option maxRecDepth 100000 in
theorem plays_long (a b : Int) (A0 : Option Addr) (c0 : Nat) (n0 : Nat) (w : World) (h : 80 < n0) :
    Calls Try.prog 3 #[.int .i64 a, .int .i64 b, .slice A0 n0 c0] w fun e w' => e = .returned (.bool true) ∧ Below w.heap.size w w' := by
  have d0 : decide ((n0 : Int) > 80) = true := by simp; omega
  clear h
  go_enter Try.func3, Try.ntmps3
  go_wp2_with (go_at_call 7; refine (alive_any _).mono ?_; rintro e w1 ⟨rfl, hb⟩; have HB := Lib.hid hb; clear hb)
  go_ret
  exact ⟨rfl, HB.out⟩
end Go.Proofs.Ytofemimgjcjpdaa.H
namespace Go.Proofs.Ytofemimgjcjpdaa.A
open Go.RowKit Go.Proofs.YtofemimgjcjpdaaW.PrintWords
open Go.Proofs.Ytofemimgjcjpdaa
set_option linter.unusedVariables false
def greenscreenlaw03_MailPlays.f (_ _ : Int) (_ : List S33) : Option Bool := some true
theorem greenscreenlaw03_MailPlays.calls (a0 a1 : Int) (A2 : Option Addr) (c2 : Nat) (l2 : List S33) (r : Bool) (hr_ : r = true) (w : World) (hC2 : Kd.C k33 w A2 l2.length l2) (hcl2 : l2.length ≤ c2) (_ : greenscreenlaw03_MailPlays.f a0 a1 l2 = some r) :
    Calls Try.prog 3 #[.int .i64 a0, .int .i64 a1, .slice A2 l2.length c2] w fun e w' => e = .returned (.bool r) ∧ Below w.heap.size w w' := by
  subst hr_
  by_cases h : l2.length ≤ 80
  · exact H.plays_calls a0 a1 A2 c2 l2 w hC2 h
  · exact H.plays_long a0 a1 A2 c2 l2.length w (by omega)
end Go.Proofs.Ytofemimgjcjpdaa.A

