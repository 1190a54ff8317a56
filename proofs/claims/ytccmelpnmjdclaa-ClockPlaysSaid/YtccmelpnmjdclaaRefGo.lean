/- The document's Go. -/
import Derived.Test.YtccmelpnmjdclaaRefs
namespace Go.Proofs.Ytccmelpnmjdclaa.H
open Go.RowKit Go.Proofs.YtccmelpnmjdclaaW.PrintWords Go.Proofs.YtccmelpnmjdclaaW.PrintLast
set_option linter.unusedVariables false
set_option linter.unusedSimpArgs false
/-- The result is laid down. -/
def Sty3 (wr W1 w : World) : Prop := (∀ (v : Value) (m : Nat) (l : List Value), wr.ownsRow w.heap.size 3 1 v m l → W1.ownsRow w.heap.size 3 1 v m l) ∧ (∀ (B : Nat) (v : Value) (ys : List A.S48), Rr B wr v ys → Rr B W1 v ys) ∧ (Below w.heap.size w wr → Below w.heap.size w W1)
theorem sty3_set {wr w : World} {n : Int} {v : Value} {cs : Array Value} (hq : wr.heap[w.heap.size + 1]? = some (.cells cs 30 (0, 0))) (j : Nat) (u : Value) : Sty3 wr (wr.setCell ⟨w.heap.size + 1, j, none⟩ u) w := by
  refine ⟨fun v m l h => own_setCell h (fun e => ?_) _, fun B v ys h => Kd.R_set h hq (by decide) j u, fun h => below_set h (Nat.le_succ _)⟩
  obtain ⟨cells, hc⟩ := own_typed h _ e.symm
  have := hq.symm.trans hc
  injection this with this
  injection this with _ e
  cases e
theorem Sty3.trans {a b c w : World} (h : Sty3 a b w) (h2 : Sty3 b c w) : Sty3 a c w := ⟨fun v m l k => h2.1 v m l (h.1 v m l k), fun B v ys k => h2.2.1 B v ys (h.2.1 B v ys k), fun k => h2.2.2 (h.2.2 k)⟩
/-- Where the document's Go stands: k have rung. -/
structure Gr (w wr : World) (B : Nat) (n : Int) (xs : List A.S62) (k : Nat) (vo v : Value) (ys : List A.S48) : Prop where
  p : wr.heap[w.heap.size]? = some (.cells #[.int .i64 n, v] 30 (0, 0))
  q : wr.heap[w.heap.size + 1]? = some (.cells #[.int .i64 0, .slice none 0 0] 30 (0, 0))
  r : Rr B wr v ys
  m : Mir (xs.drop k) ys
  o : wr.ownsRow w.heap.size 3 1 vo ((xs.take k).map (·.f0)).length (nums .i64 ((xs.take k).map (·.f0)))
  b : Below w.heap.size w wr
theorem Gr.later {w wr W1 : World} {B : Nat} {n : Int} {xs : List A.S62} {k : Nat} {vo v : Value} {ys : List A.S48} (h : Gr w wr B n xs k vo v ys) (hb : Below wr.heap.size wr W1) : Gr w W1 B n xs k vo v ys :=
  ⟨blk_below h.p hb, blk_below h.q hb, Kd.R_below h.r hb, h.m, pw_own_below h.o hb, below_step h.b hb⟩
theorem drop_hd {x : A.S62} {xs : List A.S62} : dropL (x :: xs) x.f0 = xs := by
  unfold dropL
  rw [List.eraseP_cons, show (x.f0 == x.f0) = true by simp]
  rfl
theorem Gr.fin {w wr : World} {B : Nat} {n : Int} {xs : List A.S62} {k : Nat} {vo v : Value} {ys : List A.S48} (h : Gr w wr B n xs k vo v ys) (hk : k ≤ xs.length) (hJ : ∀ j : Nat, j < k → (A.rd_T62 xs (j : Int)).f1 ≤ n) (hN : k < xs.length → ¬ (A.rd_T62 xs (k : Int)).f1 ≤ n) {A : Option Addr} {c : Nat} (hv : vo = .slice A ((xs.take k).map (·.f0)).length c) (W1 : World) (hW : W1.heap[w.heap.size + 1]? = some (.cells #[.int .i64 n, v] 30 (0, 0)) ∧ Sty3 wr W1 w) :
    ∃ v' ys' A c, Ending.returned (.tuple #[.agg #[.int .i64 n, v], vo]) = .returned (.tuple #[.agg #[.int .i64 n, v'], .slice A (rung xs n).length c]) ∧ W1.ownsRow w.heap.size 3 1 (.slice A (rung xs n).length c) (rung xs n).length (nums .i64 (rung xs n)) ∧ Rr B W1 v' ys' ∧ Mir (leftA xs n) ys' ∧ Below w.heap.size w W1 := by
  obtain ⟨e1, e2⟩ := rung_at xs n k hk hJ hN
  have hr : rung xs n = (xs.take k).map (·.f0) := by rw [rung, e1]
  rw [hr, e2]
  subst hv
  exact ⟨v, ys, A, c, rfl, hW.2.1 _ _ _ h.o, hW.2.2.1 _ _ _ h.r, h.m, hW.2.2.2 h.b⟩
/-- The first one rings. -/
theorem Gr.step {w wr w5 w6 : World} {B : Nat} {n : Int} {xs : List A.S62} {k : Nat} {vo v v5 v6 : Value} {ys zs : List A.S48} {x : A.S62} (h : Gr w wr B n xs k vo v ys) (hB : B ≤ w.heap.size) (hx : xs.drop k = x :: xs.drop (k + 1))
    (ho : w5.ownsRow w.heap.size 3 1 v5 (((xs.take k).map (·.f0)) ++ [x.f0]).length (nums .i64 (((xs.take k).map (·.f0)) ++ [x.f0]))) (hg : wr.grownBy w5 vo.ownBlock) (hr : Rr w5.heap.size w6 v6 zs) (hm : Mir (dropL (xs.drop k) x.f0) zs) (hb : Below w5.heap.size w5 w6) (j0 j1 : Nat) :
    Gr w ((w6.setCell ⟨w.heap.size, 0, none⟩ (.int .i64 n)).setCell ⟨w.heap.size, 1, none⟩ v6) B n xs (k + 1) v5 v6 zs := by
  have hlt : k < xs.length := by
    rcases Nat.lt_or_ge k xs.length with h | h
    · exact h
    · rw [List.drop_eq_nil_of_le h] at hx
      cases hx
  have hxk : xs[k] = x := by
    rw [List.drop_eq_getElem_cons hlt] at hx
    exact (List.cons.inj hx).1
  have hne : ∀ g cs, wr.heap[g]? = some (.cells cs 30 (0, 0)) → some g ≠ vo.ownBlock := by
    intro g cs hg e
    obtain ⟨cells, hc⟩ := own_typed h.o g e.symm
    have := hg.symm.trans hc
    injection this with this
    injection this with _ e
    cases e
  have p5 := blk_below (blk_grown h.p hg (hne _ _ h.p)) hb
  have q5 := blk_below (blk_grown h.q hg (hne _ _ h.q)) hb
  have b5 : Below w.heap.size w w5 := pw_below_grown h.b _ h.b.size hg (fun k hk => own_base h.o k hk)
  have b6 := below_step b5 hb
  have p7 := blk_put p5 0 (.int .i64 n) rfl
  have hn1 : w.heap.size + 1 ≠ w.heap.size := by omega
  have o6 := pw_own_below ho hb
  have hon : some w.heap.size ≠ v5.ownBlock := by
    intro e
    obtain ⟨cells, hc⟩ := own_typed o6 _ e.symm
    have := p5.symm.trans hc
    injection this with this
    injection this with _ e
    cases e
  refine ⟨blk_put p7 1 v6 rfl, blk_far (blk_far q5 (p := ⟨w.heap.size, 0, none⟩) hn1 _) (p := ⟨w.heap.size, 1, none⟩) hn1 _, ?_, ?_, ?_, below_set (below_set b6 (Nat.le_refl _)) (Nat.le_refl _)⟩
  · exact Kd.R_lower (Kd.R_set (Kd.R_set hr p5 (by decide) 0 _) p7 (by decide) 1 _) (Nat.le_trans hB b5.size)
  · rw [hx, drop_hd] at hm
    exact hm
  · rw [List.take_succ_eq_append_getElem hlt, List.map_append, hxk]
    exact own_setCell (own_setCell o6 (p := ⟨w.heap.size, 0, none⟩) hon _) (p := ⟨w.heap.size, 1, none⟩) hon _
section
variable {w : World} {B : Nat} {A0 : Option Addr} {c0 : Nat} {now : Int} {xs : List A.S62} {ys : List A.S48}
set_option maxHeartbeats 4000000 in
set_option maxRecDepth 100000 in
theorem ref_go (hR : Rr B w (.slice A0 ys.length c0) ys) (hB : B ≤ w.heap.size) (hM : Mir xs ys) (hs : xs.Pairwise ltA) (hl : xs.length ≤ 64) (h0 : 0 ≤ now) (h1 : now ≤ 1099511627776) (ticks : Int) : Calls Try.prog 14 #[.agg #[.int .i64 now, .slice A0 ys.length c0], .int .i64 ticks] w fun e w' => ∃ v ys' A c, e = .returned (.tuple #[.agg #[.int .i64 (goN now ticks), v], .slice A (rung xs (goN now ticks)).length c]) ∧ w'.ownsRow w.heap.size 3 1 (.slice A (rung xs (goN now ticks)).length c) (rung xs (goN now ticks)).length (nums .i64 (rung xs (goN now ticks))) ∧ Rr B w' v ys' ∧ Mir (leftA xs (goN now ticks)) ys' ∧ Below w.heap.size w w' := by
  have hu30 := Try.underlying30
  have hu41 := Try.underlying41
  have hu48 := Try.underlying48
  have HR := Lib.hid hR
  have HM := Lib.hid hM
  have HS := Lib.hid hs
  have HL := Lib.hid hl
  have HBB := Lib.hid hB
  have H01 := Lib.hid (And.intro h0 h1)
  have hw1 : wrap64 (1099511627776 - now) = 1099511627776 - now := by unfold wrap64; omega
  have hb2 := below_alloc (below_alloc (Below.refl w.heap.size w) (.cells #[.int .i64 now, .slice A0 ys.length c0] 30)) (.cells #[.int .i64 0, .slice none 0 0] 30)
  have HB2 := Lib.hid hb2
  have HG0 := Lib.hid (blk_alloc (blk_new w (.cells #[.int .i64 now, .slice A0 ys.length c0] 30)) (.cells #[.int .i64 0, .slice none 0 0] 30))
  have HG1 := Lib.hid (blk_new1 w (.cells #[.int .i64 now, .slice A0 ys.length c0] 30) (.cells #[.int .i64 0, .slice none 0 0] 30))
  obtain ⟨n, hn⟩ : ∃ n, goN now ticks = n := ⟨_, rfl⟩
  rw [hn]
  have HNN := Lib.hid hn
  clear hR hM hs hb2 hB hl hn
  by_cases ht : 0 < ticks
  · by_cases hbig : 1099511627776 - now < ticks
    · go_enter Try.func14, Try.ntmps14
      go_upto_region 5 with fail
      have hN : now + (1099511627776 - now) = n := by have := HNN.out; unfold goN at this; omega
      simp only [hN]
      have hg0 := blk_alloc (blk_new w (.cells #[.int .i64 n, .slice A0 ys.length c0] 30)) (.cells #[.int .i64 0, .slice none 0 0] 30)
      have hg1 := blk_new1 w (.cells #[.int .i64 n, .slice A0 ys.length c0] 30) (.cells #[.int .i64 0, .slice none 0 0] 30)
      have hb2 := below_alloc (below_alloc (Below.refl w.heap.size w) (.cells #[.int .i64 n, .slice A0 ys.length c0] 30)) (.cells #[.int .i64 0, .slice none 0 0] 30)
      have hr2 := Kd.R_below HR.out hb2
      generalize (w.alloc (.cells #[.int .i64 n, .slice A0 ys.length c0] 30)).alloc (.cells #[.int .i64 0, .slice none 0 0] 30) = W2 at hg0 hg1 hb2 hr2 ⊢
      have HG2 : Hid (Gr w (W2.alloc (.cells (nums .i64 []).toArray 3)) B n xs 0 (.slice (some ⟨W2.heap.size, 0, none⟩) 0 0) (.slice A0 ys.length c0) ys) := Lib.hid (by
        have hb3 := below_alloc (Below.refl W2.heap.size W2) (.cells (nums .i64 []).toArray 3)
        exact ⟨blk_below hg0 hb3, blk_below hg1 hb3, Kd.R_below hr2 hb3, HM.out, own_lit W2 w.heap.size 3 .i64 [] hb2.size (by simp), below_step hb2 hb3⟩)
      clear hg0 hg1 hb2 hr2 HNN hN HG0 HG1 HB2 hw1 h0 h1 ht hbig
      go_wp2_with fail
      go_loopw [6] (fun v6 wr => ∃ k : Nat, ∃ v zs, k ≤ xs.length ∧ Hid (∀ j : Nat, j < k → (A.rd_T62 xs (j : Int)).f1 ≤ n) ∧ Hid (Gr w wr B n xs k v6 v zs)) (fun v6 _ => xs.length - slLen v6)
      case atStart => exact ⟨0, _, _, Nat.zero_le _, Lib.hid (fun j h => absurd h (Nat.not_lt_zero j)), HG2⟩
      case round =>
        obtain ⟨k, v, zs, hk, HJ, HG⟩ := hrel
        clear HG2
        obtain ⟨Av, kv, rfl⟩ := Kd.R_slice HG.out.r
        have hll : ((xs.take k).map (·.f0)).length = k := by rw [List.length_map, List.length_take]; omega
        obtain ⟨Ao, ko, eo⟩ := own_slice HG.out.o
        rw [hll] at eo
        subst eo
        have p0 := (blk_cell HG.out.p 0).trans rfl
        have p1 := (blk_cell HG.out.p 1).trans rfl
        have HNX : Hid (∀ W, Gr w W B n xs k (.slice Ao k ko) (.slice Av zs.length kv) zs → Calls Try.prog 17 #[.agg #[.int .i64 n, .slice Av zs.length kv]] W fun e w' => e = .returned (.tuple #[.agg #[.int .i64 (headI (xs.drop k)), .int .i64 (nextV (xs.drop k))], .bool (someL (xs.drop k))]) ∧ Below W.heap.size W w') := Lib.hid (fun W h => by
          obtain ⟨A', c', e, hc, hC⟩ := Kd.R_reads h.r
          obtain ⟨⟨rfl, _⟩, rfl⟩ : (Av = A' ∧ True) ∧ kv = c' := by simpa using e
          exact ref_next hC hc h.m (HS.out.sublist (List.drop_sublist _ _)) (by rw [List.length_drop]; have := HL.out; omega))
        have hend : ∀ W, Gr w W B n xs k (.slice Ao k ko) (.slice Av zs.length kv) zs → (k < xs.length → ¬ (A.rd_T62 xs (k : Int)).f1 ≤ n) → ∃ v' ys' A c, Ending.returned (.tuple #[.agg #[.int .i64 n, .slice Av zs.length kv], .slice Ao k ko]) = .returned (.tuple #[.agg #[.int .i64 n, v'], .slice A (rung xs n).length c]) ∧ ((W.setCell ⟨w.heap.size + 1, 0, none⟩ (.int .i64 n)).setCell ⟨w.heap.size + 1, 1, none⟩ (.slice Av zs.length kv)).ownsRow w.heap.size 3 1 (.slice A (rung xs n).length c) (rung xs n).length (nums .i64 (rung xs n)) ∧ Rr B ((W.setCell ⟨w.heap.size + 1, 0, none⟩ (.int .i64 n)).setCell ⟨w.heap.size + 1, 1, none⟩ (.slice Av zs.length kv)) v' ys' ∧ Mir (leftA xs n) ys' ∧ Below w.heap.size w ((W.setCell ⟨w.heap.size + 1, 0, none⟩ (.int .i64 n)).setCell ⟨w.heap.size + 1, 1, none⟩ (.slice Av zs.length kv)) := fun W h hN => by
          have hq1 := blk_put h.q 0 (.int .i64 n) rfl
          exact h.fin hk HJ.out hN (by rw [hll]) _ ⟨blk_put hq1 1 _ rfl, (sty3_set (n := n) (v := .int .i64 0) h.q 0 _).trans (sty3_set (n := n) (v := .int .i64 0) hq1 1 _)⟩
        have HEND := Lib.hid hend
        clear hend
        obtain ⟨ds, hds⟩ : ∃ ds, xs.drop k = ds := ⟨_, rfl⟩
        rw [hds] at HNX
        cases ds with
        | nil =>
          have hkl : ¬ k < xs.length := fun h => by
            have := List.length_drop (i := k) (l := xs)
            rw [hds] at this
            simp at this
            omega
          have HKL := Lib.hid hkl
          clear hkl hds hll
          go_wp2_with (go_at_call 17; (with_reducible refine (HNX.out _ HG.out).mono ?_); rintro e w3 ⟨rfl, hb3⟩; have HG3 := Lib.hid ((HG.out.later hb3).later (below_alloc (Below.refl _ _) (.cells #[.int .i64 0, .int .i64 0] 48))); have r0 := (blk_cell HG3.out.p 0).trans rfl; have r1 := (blk_cell HG3.out.p 1).trans rfl; have q0 := (blk_cell HG3.out.q 0).trans rfl; have q1 := (blk_cell HG3.out.q 1).trans rfl; have f0 := blk_frozen HG3.out.q 0; have f1 := blk_frozen HG3.out.q 1; clear hb3; simp only [headI, nextV, someL])
          refine bodyPost_ret (results_ct rfl _ _ (w.heap.size + 1) 30 #[.int .i64 n, .slice Av zs.length kv] (0, 0) _ rfl (blk_put (blk_put HG3.out.q 0 _ rfl) 1 _ rfl) Try.underlying30 rfl (by kernel_rfl)) rfl ?_
          exact HEND.out _ HG3.out (fun h => absurd h HKL.out)
        | cons x rest =>
          have hkl : k < xs.length := by
            rcases Nat.lt_or_ge k xs.length with h | h
            · exact h
            · rw [List.drop_eq_nil_of_le h] at hds
              cases hds
          have hdr := List.drop_eq_getElem_cons hkl
          have hrd := rd_at xs k hkl
          rw [hds] at hdr
          obtain ⟨hx, hrest⟩ := List.cons.inj hdr
          have hds2 : xs.drop k = x :: xs.drop (k + 1) := by rw [hds, hrest]
          rw [← hx] at hrd
          have HRD := Lib.hid hrd
          have HDS := Lib.hid hds2
          have HKL := Lib.hid hkl
          clear hkl hds hll hdr hrest hx hrd hds2
          obtain ⟨x0, x1⟩ := x
          by_cases hle : x1 ≤ n
          · have HLE := Lib.hid hle
            have HJ2 : Hid (Hid (∀ j : Nat, j < k + 1 → (A.rd_T62 xs (j : Int)).f1 ≤ n)) := Lib.hid (Lib.hid (fun j hj => by
              rcases Nat.lt_or_ge j k with h | h
              · exact HJ.out j h
              · obtain rfl : j = k := by omega
                rw [HRD.out]; exact hle))
            go_upto_region 9 with (go_at_call 17; (with_reducible refine (HNX.out _ HG.out).mono ?_); rintro e w3 ⟨rfl, hb3⟩; have HG3 := Lib.hid ((HG.out.later hb3).later (below_alloc (Below.refl _ _) (.cells #[.int .i64 x0, .int .i64 x1] 48))); have HBQ := Lib.hid (blk_new w3 (.cells #[.int .i64 x0, .int .i64 x1] 48)); have r0 := (blk_cell HG3.out.p 0).trans rfl; have r1 := (blk_cell HG3.out.p 1).trans rfl; clear hb3; simp only [headI, nextV, someL])
            have b0 := (blk_cell HBQ.out 0).trans rfl
            generalize w3.alloc (.cells #[.int .i64 x0, .int .i64 x1] 48) = W4 at HG3 HBQ r0 r1 b0 ⊢
            obtain ⟨bq, hbq⟩ : ∃ bq, w3.heap.size = bq := ⟨_, rfl⟩
            rw [hbq] at HBQ b0
            simp only [hbq]
            clear hbq
            have hoo := HG3.out.o
            have hlk : ((xs.take k).map (·.f0)).length = k := by have := HKL.out; rw [List.length_map, List.length_take]; omega
            have HLK := Lib.hid hlk
            obtain ⟨ids, hids⟩ : ∃ ids, (xs.take k).map (·.f0) = ids := ⟨_, rfl⟩
            rw [hids] at hoo hlk
            have HOO := Lib.hid hoo
            have HIDS := Lib.hid hids
            have HIDL := Lib.hid hlk
            have HNB : Hid (∀ g cs t, W4.heap[g]? = some (.cells cs t (0, 0)) → t ≠ 3 → some g ≠ (Value.slice Ao k ko).ownBlock) := Lib.hid (fun g cs t hg ht e => by
              obtain ⟨cells, hc⟩ := own_typed hoo g e.symm
              have := hg.symm.trans hc
              injection this with this
              injection this with _ e
              exact ht e)
            clear hoo hids hlk
            have HDR : Hid (∀ W, Rr B W (.slice Av zs.length kv) zs → Calls Try.prog 11 #[.agg #[.int .i64 n, .slice Av zs.length kv], .int .i64 x0] W fun e w' => ∃ v ys', e = .returned (.agg #[.int .i64 n, v]) ∧ Rr W.heap.size w' v ys' ∧ Mir (dropL (xs.drop k) x0) ys' ∧ Below W.heap.size W w') := Lib.hid (fun W h => by
              obtain ⟨A', c', e, hc, hC⟩ := Kd.R_reads h
              obtain ⟨⟨rfl, _⟩, rfl⟩ : (Av = A' ∧ True) ∧ kv = c' := by simpa using e
              exact ref_drop hC hc HG.out.m (by rw [List.length_drop]; have := HL.out; omega) x0)
            go_wp2_with (first
              | (at_builtin; refine print_append_num (w0 := W4) w.heap.size rfl (.tmp 41) (.tmp 44) 41 3 .i64 8 rfl Try.underlying41 info3 (by decide) (.slice Ao k ko) ids x0 rfl rfl HOO.out (Below.refl _ _) HG3.out.b.size (by have := HIDL.out; have := HKL.out; have := HL.out; omega) ?_; intro v5 w5 hown5 hb5 hg5 hat5; have hp5 := blk_grown HG3.out.p hg5 (HNB.out _ _ _ HG3.out.p (by decide)); have hq5 := blk_grown HBQ.out hg5 (HNB.out _ _ _ HBQ.out (by decide)); have HP5 := Lib.hid hp5; have s0 := (blk_cell hp5 0).trans rfl; have s1 := (blk_cell hp5 1).trans rfl; have b5 := (blk_cell hq5 0).trans rfl; have HR5 := Lib.hid (Kd.R_grown2 HG3.out.r rfl hg5 (fun g e => by
                  intro e2
                  obtain ⟨inner, ho⟩ := Kd.R_own HG3.out.r
                  obtain ⟨cells, hc⟩ := own_typed ho g e2.symm
                  exact HNB.out g cells 48 hc (by decide) e.symm)); obtain ⟨A5, k5, e5⟩ := own_slice hown5; rw [List.length_append, List.length_singleton] at e5; subst e5; have HO5 := Lib.hid hown5; have HG5 := Lib.hid hg5; clear hown5 hb5 hg5 hat5 hp5 hq5 r0 r1 b0)
              | (go_at_call 11; (with_reducible refine (HDR.out _ HR5.out).mono ?_); rintro e w6 ⟨v6, ys6, rfl, hr6, hm6, hb6⟩; obtain ⟨A6, k6, rfl⟩ := Kd.R_slice hr6; have hp6 := blk_below HP5.out hb6; have t0 := (blk_cell hp6 0).trans rfl; have t1 := (blk_cell hp6 1).trans rfl; have f0 := blk_frozen hp6 0; have f1 := blk_frozen hp6 1; have HR6 := Lib.hid hr6; have HM6 := Lib.hid hm6; have HB6 := Lib.hid hb6; clear hr6 hm6 hb6 hp6 s0 s1 b5))
            go_roundw
            case rel => exact ⟨k + 1, _, _, HKL.out, HJ2.out, Lib.hid (HG3.out.step HBB.out HDS.out (by rw [HIDS.out]; exact HO5.out) HG5.out HR6.out HM6.out HB6.out 0 0)⟩
            case measure => simp [slLen]; have := HKL.out; have := HIDL.out; omega
          · have hgt : n < x1 := by omega
            have HGT := Lib.hid hle
            go_wp2_with (go_at_call 17; (with_reducible refine (HNX.out _ HG.out).mono ?_); rintro e w3 ⟨rfl, hb3⟩; have HG3 := Lib.hid ((HG.out.later hb3).later (below_alloc (Below.refl _ _) (.cells #[.int .i64 x0, .int .i64 x1] 48))); have r0 := (blk_cell HG3.out.p 0).trans rfl; have r1 := (blk_cell HG3.out.p 1).trans rfl; have q0 := (blk_cell HG3.out.q 0).trans rfl; have q1 := (blk_cell HG3.out.q 1).trans rfl; have f0 := blk_frozen HG3.out.q 0; have f1 := blk_frozen HG3.out.q 1; clear hb3; simp only [headI, nextV, someL])
            refine bodyPost_ret (results_ct rfl _ _ (w.heap.size + 1) 30 #[.int .i64 n, .slice Av zs.length kv] (0, 0) _ rfl (blk_put (blk_put HG3.out.q 0 _ rfl) 1 _ rfl) Try.underlying30 rfl (by kernel_rfl)) rfl ?_
            exact HEND.out _ HG3.out (fun _ => by rw [HRD.out]; exact HGT.out)

    · go_enter Try.func14, Try.ntmps14
      go_upto_region 5 with fail
      have hN : now + ticks = n := by have := HNN.out; unfold goN at this; omega
      simp only [hN]
      have hg0 := blk_alloc (blk_new w (.cells #[.int .i64 n, .slice A0 ys.length c0] 30)) (.cells #[.int .i64 0, .slice none 0 0] 30)
      have hg1 := blk_new1 w (.cells #[.int .i64 n, .slice A0 ys.length c0] 30) (.cells #[.int .i64 0, .slice none 0 0] 30)
      have hb2 := below_alloc (below_alloc (Below.refl w.heap.size w) (.cells #[.int .i64 n, .slice A0 ys.length c0] 30)) (.cells #[.int .i64 0, .slice none 0 0] 30)
      have hr2 := Kd.R_below HR.out hb2
      generalize (w.alloc (.cells #[.int .i64 n, .slice A0 ys.length c0] 30)).alloc (.cells #[.int .i64 0, .slice none 0 0] 30) = W2 at hg0 hg1 hb2 hr2 ⊢
      have HG2 : Hid (Gr w (W2.alloc (.cells (nums .i64 []).toArray 3)) B n xs 0 (.slice (some ⟨W2.heap.size, 0, none⟩) 0 0) (.slice A0 ys.length c0) ys) := Lib.hid (by
        have hb3 := below_alloc (Below.refl W2.heap.size W2) (.cells (nums .i64 []).toArray 3)
        exact ⟨blk_below hg0 hb3, blk_below hg1 hb3, Kd.R_below hr2 hb3, HM.out, own_lit W2 w.heap.size 3 .i64 [] hb2.size (by simp), below_step hb2 hb3⟩)
      clear hg0 hg1 hb2 hr2 HNN hN HG0 HG1 HB2 hw1 h0 h1 ht hbig
      go_wp2_with fail
      go_loopw [6] (fun v6 wr => ∃ k : Nat, ∃ v zs, k ≤ xs.length ∧ Hid (∀ j : Nat, j < k → (A.rd_T62 xs (j : Int)).f1 ≤ n) ∧ Hid (Gr w wr B n xs k v6 v zs)) (fun v6 _ => xs.length - slLen v6)
      case atStart => exact ⟨0, _, _, Nat.zero_le _, Lib.hid (fun j h => absurd h (Nat.not_lt_zero j)), HG2⟩
      case round =>
        obtain ⟨k, v, zs, hk, HJ, HG⟩ := hrel
        clear HG2
        obtain ⟨Av, kv, rfl⟩ := Kd.R_slice HG.out.r
        have hll : ((xs.take k).map (·.f0)).length = k := by rw [List.length_map, List.length_take]; omega
        obtain ⟨Ao, ko, eo⟩ := own_slice HG.out.o
        rw [hll] at eo
        subst eo
        have p0 := (blk_cell HG.out.p 0).trans rfl
        have p1 := (blk_cell HG.out.p 1).trans rfl
        have HNX : Hid (∀ W, Gr w W B n xs k (.slice Ao k ko) (.slice Av zs.length kv) zs → Calls Try.prog 17 #[.agg #[.int .i64 n, .slice Av zs.length kv]] W fun e w' => e = .returned (.tuple #[.agg #[.int .i64 (headI (xs.drop k)), .int .i64 (nextV (xs.drop k))], .bool (someL (xs.drop k))]) ∧ Below W.heap.size W w') := Lib.hid (fun W h => by
          obtain ⟨A', c', e, hc, hC⟩ := Kd.R_reads h.r
          obtain ⟨⟨rfl, _⟩, rfl⟩ : (Av = A' ∧ True) ∧ kv = c' := by simpa using e
          exact ref_next hC hc h.m (HS.out.sublist (List.drop_sublist _ _)) (by rw [List.length_drop]; have := HL.out; omega))
        have hend : ∀ W, Gr w W B n xs k (.slice Ao k ko) (.slice Av zs.length kv) zs → (k < xs.length → ¬ (A.rd_T62 xs (k : Int)).f1 ≤ n) → ∃ v' ys' A c, Ending.returned (.tuple #[.agg #[.int .i64 n, .slice Av zs.length kv], .slice Ao k ko]) = .returned (.tuple #[.agg #[.int .i64 n, v'], .slice A (rung xs n).length c]) ∧ ((W.setCell ⟨w.heap.size + 1, 0, none⟩ (.int .i64 n)).setCell ⟨w.heap.size + 1, 1, none⟩ (.slice Av zs.length kv)).ownsRow w.heap.size 3 1 (.slice A (rung xs n).length c) (rung xs n).length (nums .i64 (rung xs n)) ∧ Rr B ((W.setCell ⟨w.heap.size + 1, 0, none⟩ (.int .i64 n)).setCell ⟨w.heap.size + 1, 1, none⟩ (.slice Av zs.length kv)) v' ys' ∧ Mir (leftA xs n) ys' ∧ Below w.heap.size w ((W.setCell ⟨w.heap.size + 1, 0, none⟩ (.int .i64 n)).setCell ⟨w.heap.size + 1, 1, none⟩ (.slice Av zs.length kv)) := fun W h hN => by
          have hq1 := blk_put h.q 0 (.int .i64 n) rfl
          exact h.fin hk HJ.out hN (by rw [hll]) _ ⟨blk_put hq1 1 _ rfl, (sty3_set (n := n) (v := .int .i64 0) h.q 0 _).trans (sty3_set (n := n) (v := .int .i64 0) hq1 1 _)⟩
        have HEND := Lib.hid hend
        clear hend
        obtain ⟨ds, hds⟩ : ∃ ds, xs.drop k = ds := ⟨_, rfl⟩
        rw [hds] at HNX
        cases ds with
        | nil =>
          have hkl : ¬ k < xs.length := fun h => by
            have := List.length_drop (i := k) (l := xs)
            rw [hds] at this
            simp at this
            omega
          have HKL := Lib.hid hkl
          clear hkl hds hll
          go_wp2_with (go_at_call 17; (with_reducible refine (HNX.out _ HG.out).mono ?_); rintro e w3 ⟨rfl, hb3⟩; have HG3 := Lib.hid ((HG.out.later hb3).later (below_alloc (Below.refl _ _) (.cells #[.int .i64 0, .int .i64 0] 48))); have r0 := (blk_cell HG3.out.p 0).trans rfl; have r1 := (blk_cell HG3.out.p 1).trans rfl; have q0 := (blk_cell HG3.out.q 0).trans rfl; have q1 := (blk_cell HG3.out.q 1).trans rfl; have f0 := blk_frozen HG3.out.q 0; have f1 := blk_frozen HG3.out.q 1; clear hb3; simp only [headI, nextV, someL])
          refine bodyPost_ret (results_ct rfl _ _ (w.heap.size + 1) 30 #[.int .i64 n, .slice Av zs.length kv] (0, 0) _ rfl (blk_put (blk_put HG3.out.q 0 _ rfl) 1 _ rfl) Try.underlying30 rfl (by kernel_rfl)) rfl ?_
          exact HEND.out _ HG3.out (fun h => absurd h HKL.out)
        | cons x rest =>
          have hkl : k < xs.length := by
            rcases Nat.lt_or_ge k xs.length with h | h
            · exact h
            · rw [List.drop_eq_nil_of_le h] at hds
              cases hds
          have hdr := List.drop_eq_getElem_cons hkl
          have hrd := rd_at xs k hkl
          rw [hds] at hdr
          obtain ⟨hx, hrest⟩ := List.cons.inj hdr
          have hds2 : xs.drop k = x :: xs.drop (k + 1) := by rw [hds, hrest]
          rw [← hx] at hrd
          have HRD := Lib.hid hrd
          have HDS := Lib.hid hds2
          have HKL := Lib.hid hkl
          clear hkl hds hll hdr hrest hx hrd hds2
          obtain ⟨x0, x1⟩ := x
          by_cases hle : x1 ≤ n
          · have HLE := Lib.hid hle
            have HJ2 : Hid (Hid (∀ j : Nat, j < k + 1 → (A.rd_T62 xs (j : Int)).f1 ≤ n)) := Lib.hid (Lib.hid (fun j hj => by
              rcases Nat.lt_or_ge j k with h | h
              · exact HJ.out j h
              · obtain rfl : j = k := by omega
                rw [HRD.out]; exact hle))
            go_upto_region 9 with (go_at_call 17; (with_reducible refine (HNX.out _ HG.out).mono ?_); rintro e w3 ⟨rfl, hb3⟩; have HG3 := Lib.hid ((HG.out.later hb3).later (below_alloc (Below.refl _ _) (.cells #[.int .i64 x0, .int .i64 x1] 48))); have HBQ := Lib.hid (blk_new w3 (.cells #[.int .i64 x0, .int .i64 x1] 48)); have r0 := (blk_cell HG3.out.p 0).trans rfl; have r1 := (blk_cell HG3.out.p 1).trans rfl; clear hb3; simp only [headI, nextV, someL])
            have b0 := (blk_cell HBQ.out 0).trans rfl
            generalize w3.alloc (.cells #[.int .i64 x0, .int .i64 x1] 48) = W4 at HG3 HBQ r0 r1 b0 ⊢
            obtain ⟨bq, hbq⟩ : ∃ bq, w3.heap.size = bq := ⟨_, rfl⟩
            rw [hbq] at HBQ b0
            simp only [hbq]
            clear hbq
            have hoo := HG3.out.o
            have hlk : ((xs.take k).map (·.f0)).length = k := by have := HKL.out; rw [List.length_map, List.length_take]; omega
            have HLK := Lib.hid hlk
            obtain ⟨ids, hids⟩ : ∃ ids, (xs.take k).map (·.f0) = ids := ⟨_, rfl⟩
            rw [hids] at hoo hlk
            have HOO := Lib.hid hoo
            have HIDS := Lib.hid hids
            have HIDL := Lib.hid hlk
            have HNB : Hid (∀ g cs t, W4.heap[g]? = some (.cells cs t (0, 0)) → t ≠ 3 → some g ≠ (Value.slice Ao k ko).ownBlock) := Lib.hid (fun g cs t hg ht e => by
              obtain ⟨cells, hc⟩ := own_typed hoo g e.symm
              have := hg.symm.trans hc
              injection this with this
              injection this with _ e
              exact ht e)
            clear hoo hids hlk
            have HDR : Hid (∀ W, Rr B W (.slice Av zs.length kv) zs → Calls Try.prog 11 #[.agg #[.int .i64 n, .slice Av zs.length kv], .int .i64 x0] W fun e w' => ∃ v ys', e = .returned (.agg #[.int .i64 n, v]) ∧ Rr W.heap.size w' v ys' ∧ Mir (dropL (xs.drop k) x0) ys' ∧ Below W.heap.size W w') := Lib.hid (fun W h => by
              obtain ⟨A', c', e, hc, hC⟩ := Kd.R_reads h
              obtain ⟨⟨rfl, _⟩, rfl⟩ : (Av = A' ∧ True) ∧ kv = c' := by simpa using e
              exact ref_drop hC hc HG.out.m (by rw [List.length_drop]; have := HL.out; omega) x0)
            go_wp2_with (first
              | (at_builtin; refine print_append_num (w0 := W4) w.heap.size rfl (.tmp 41) (.tmp 44) 41 3 .i64 8 rfl Try.underlying41 info3 (by decide) (.slice Ao k ko) ids x0 rfl rfl HOO.out (Below.refl _ _) HG3.out.b.size (by have := HIDL.out; have := HKL.out; have := HL.out; omega) ?_; intro v5 w5 hown5 hb5 hg5 hat5; have hp5 := blk_grown HG3.out.p hg5 (HNB.out _ _ _ HG3.out.p (by decide)); have hq5 := blk_grown HBQ.out hg5 (HNB.out _ _ _ HBQ.out (by decide)); have HP5 := Lib.hid hp5; have s0 := (blk_cell hp5 0).trans rfl; have s1 := (blk_cell hp5 1).trans rfl; have b5 := (blk_cell hq5 0).trans rfl; have HR5 := Lib.hid (Kd.R_grown2 HG3.out.r rfl hg5 (fun g e => by
                  intro e2
                  obtain ⟨inner, ho⟩ := Kd.R_own HG3.out.r
                  obtain ⟨cells, hc⟩ := own_typed ho g e2.symm
                  exact HNB.out g cells 48 hc (by decide) e.symm)); obtain ⟨A5, k5, e5⟩ := own_slice hown5; rw [List.length_append, List.length_singleton] at e5; subst e5; have HO5 := Lib.hid hown5; have HG5 := Lib.hid hg5; clear hown5 hb5 hg5 hat5 hp5 hq5 r0 r1 b0)
              | (go_at_call 11; (with_reducible refine (HDR.out _ HR5.out).mono ?_); rintro e w6 ⟨v6, ys6, rfl, hr6, hm6, hb6⟩; obtain ⟨A6, k6, rfl⟩ := Kd.R_slice hr6; have hp6 := blk_below HP5.out hb6; have t0 := (blk_cell hp6 0).trans rfl; have t1 := (blk_cell hp6 1).trans rfl; have f0 := blk_frozen hp6 0; have f1 := blk_frozen hp6 1; have HR6 := Lib.hid hr6; have HM6 := Lib.hid hm6; have HB6 := Lib.hid hb6; clear hr6 hm6 hb6 hp6 s0 s1 b5))
            go_roundw
            case rel => exact ⟨k + 1, _, _, HKL.out, HJ2.out, Lib.hid (HG3.out.step HBB.out HDS.out (by rw [HIDS.out]; exact HO5.out) HG5.out HR6.out HM6.out HB6.out 0 0)⟩
            case measure => simp [slLen]; have := HKL.out; have := HIDL.out; omega
          · have hgt : n < x1 := by omega
            have HGT := Lib.hid hle
            go_wp2_with (go_at_call 17; (with_reducible refine (HNX.out _ HG.out).mono ?_); rintro e w3 ⟨rfl, hb3⟩; have HG3 := Lib.hid ((HG.out.later hb3).later (below_alloc (Below.refl _ _) (.cells #[.int .i64 x0, .int .i64 x1] 48))); have r0 := (blk_cell HG3.out.p 0).trans rfl; have r1 := (blk_cell HG3.out.p 1).trans rfl; have q0 := (blk_cell HG3.out.q 0).trans rfl; have q1 := (blk_cell HG3.out.q 1).trans rfl; have f0 := blk_frozen HG3.out.q 0; have f1 := blk_frozen HG3.out.q 1; clear hb3; simp only [headI, nextV, someL])
            refine bodyPost_ret (results_ct rfl _ _ (w.heap.size + 1) 30 #[.int .i64 n, .slice Av zs.length kv] (0, 0) _ rfl (blk_put (blk_put HG3.out.q 0 _ rfl) 1 _ rfl) Try.underlying30 rfl (by kernel_rfl)) rfl ?_
            exact HEND.out _ HG3.out (fun _ => by rw [HRD.out]; exact HGT.out)

  · go_enter Try.func14, Try.ntmps14
    go_upto_region 5 with fail
    have hN : now = n := by have := HNN.out; unfold goN at this; omega
    simp only [hN]
    have hg0 := blk_alloc (blk_new w (.cells #[.int .i64 n, .slice A0 ys.length c0] 30)) (.cells #[.int .i64 0, .slice none 0 0] 30)
    have hg1 := blk_new1 w (.cells #[.int .i64 n, .slice A0 ys.length c0] 30) (.cells #[.int .i64 0, .slice none 0 0] 30)
    have hb2 := below_alloc (below_alloc (Below.refl w.heap.size w) (.cells #[.int .i64 n, .slice A0 ys.length c0] 30)) (.cells #[.int .i64 0, .slice none 0 0] 30)
    have hr2 := Kd.R_below HR.out hb2
    generalize (w.alloc (.cells #[.int .i64 n, .slice A0 ys.length c0] 30)).alloc (.cells #[.int .i64 0, .slice none 0 0] 30) = W2 at hg0 hg1 hb2 hr2 ⊢
    have HG2 : Hid (Gr w (W2.alloc (.cells (nums .i64 []).toArray 3)) B n xs 0 (.slice (some ⟨W2.heap.size, 0, none⟩) 0 0) (.slice A0 ys.length c0) ys) := Lib.hid (by
      have hb3 := below_alloc (Below.refl W2.heap.size W2) (.cells (nums .i64 []).toArray 3)
      exact ⟨blk_below hg0 hb3, blk_below hg1 hb3, Kd.R_below hr2 hb3, HM.out, own_lit W2 w.heap.size 3 .i64 [] hb2.size (by simp), below_step hb2 hb3⟩)
    clear hg0 hg1 hb2 hr2 HNN hN HG0 HG1 HB2 hw1 h0 h1 ht
    go_wp2_with fail
    go_loopw [6] (fun v6 wr => ∃ k : Nat, ∃ v zs, k ≤ xs.length ∧ Hid (∀ j : Nat, j < k → (A.rd_T62 xs (j : Int)).f1 ≤ n) ∧ Hid (Gr w wr B n xs k v6 v zs)) (fun v6 _ => xs.length - slLen v6)
    case atStart => exact ⟨0, _, _, Nat.zero_le _, Lib.hid (fun j h => absurd h (Nat.not_lt_zero j)), HG2⟩
    case round =>
      obtain ⟨k, v, zs, hk, HJ, HG⟩ := hrel
      clear HG2
      obtain ⟨Av, kv, rfl⟩ := Kd.R_slice HG.out.r
      have hll : ((xs.take k).map (·.f0)).length = k := by rw [List.length_map, List.length_take]; omega
      obtain ⟨Ao, ko, eo⟩ := own_slice HG.out.o
      rw [hll] at eo
      subst eo
      have p0 := (blk_cell HG.out.p 0).trans rfl
      have p1 := (blk_cell HG.out.p 1).trans rfl
      have HNX : Hid (∀ W, Gr w W B n xs k (.slice Ao k ko) (.slice Av zs.length kv) zs → Calls Try.prog 17 #[.agg #[.int .i64 n, .slice Av zs.length kv]] W fun e w' => e = .returned (.tuple #[.agg #[.int .i64 (headI (xs.drop k)), .int .i64 (nextV (xs.drop k))], .bool (someL (xs.drop k))]) ∧ Below W.heap.size W w') := Lib.hid (fun W h => by
        obtain ⟨A', c', e, hc, hC⟩ := Kd.R_reads h.r
        obtain ⟨⟨rfl, _⟩, rfl⟩ : (Av = A' ∧ True) ∧ kv = c' := by simpa using e
        exact ref_next hC hc h.m (HS.out.sublist (List.drop_sublist _ _)) (by rw [List.length_drop]; have := HL.out; omega))
      have hend : ∀ W, Gr w W B n xs k (.slice Ao k ko) (.slice Av zs.length kv) zs → (k < xs.length → ¬ (A.rd_T62 xs (k : Int)).f1 ≤ n) → ∃ v' ys' A c, Ending.returned (.tuple #[.agg #[.int .i64 n, .slice Av zs.length kv], .slice Ao k ko]) = .returned (.tuple #[.agg #[.int .i64 n, v'], .slice A (rung xs n).length c]) ∧ ((W.setCell ⟨w.heap.size + 1, 0, none⟩ (.int .i64 n)).setCell ⟨w.heap.size + 1, 1, none⟩ (.slice Av zs.length kv)).ownsRow w.heap.size 3 1 (.slice A (rung xs n).length c) (rung xs n).length (nums .i64 (rung xs n)) ∧ Rr B ((W.setCell ⟨w.heap.size + 1, 0, none⟩ (.int .i64 n)).setCell ⟨w.heap.size + 1, 1, none⟩ (.slice Av zs.length kv)) v' ys' ∧ Mir (leftA xs n) ys' ∧ Below w.heap.size w ((W.setCell ⟨w.heap.size + 1, 0, none⟩ (.int .i64 n)).setCell ⟨w.heap.size + 1, 1, none⟩ (.slice Av zs.length kv)) := fun W h hN => by
        have hq1 := blk_put h.q 0 (.int .i64 n) rfl
        exact h.fin hk HJ.out hN (by rw [hll]) _ ⟨blk_put hq1 1 _ rfl, (sty3_set (n := n) (v := .int .i64 0) h.q 0 _).trans (sty3_set (n := n) (v := .int .i64 0) hq1 1 _)⟩
      have HEND := Lib.hid hend
      clear hend
      obtain ⟨ds, hds⟩ : ∃ ds, xs.drop k = ds := ⟨_, rfl⟩
      rw [hds] at HNX
      cases ds with
      | nil =>
        have hkl : ¬ k < xs.length := fun h => by
          have := List.length_drop (i := k) (l := xs)
          rw [hds] at this
          simp at this
          omega
        have HKL := Lib.hid hkl
        clear hkl hds hll
        go_wp2_with (go_at_call 17; (with_reducible refine (HNX.out _ HG.out).mono ?_); rintro e w3 ⟨rfl, hb3⟩; have HG3 := Lib.hid ((HG.out.later hb3).later (below_alloc (Below.refl _ _) (.cells #[.int .i64 0, .int .i64 0] 48))); have r0 := (blk_cell HG3.out.p 0).trans rfl; have r1 := (blk_cell HG3.out.p 1).trans rfl; have q0 := (blk_cell HG3.out.q 0).trans rfl; have q1 := (blk_cell HG3.out.q 1).trans rfl; have f0 := blk_frozen HG3.out.q 0; have f1 := blk_frozen HG3.out.q 1; clear hb3; simp only [headI, nextV, someL])
        refine bodyPost_ret (results_ct rfl _ _ (w.heap.size + 1) 30 #[.int .i64 n, .slice Av zs.length kv] (0, 0) _ rfl (blk_put (blk_put HG3.out.q 0 _ rfl) 1 _ rfl) Try.underlying30 rfl (by kernel_rfl)) rfl ?_
        exact HEND.out _ HG3.out (fun h => absurd h HKL.out)
      | cons x rest =>
        have hkl : k < xs.length := by
          rcases Nat.lt_or_ge k xs.length with h | h
          · exact h
          · rw [List.drop_eq_nil_of_le h] at hds
            cases hds
        have hdr := List.drop_eq_getElem_cons hkl
        have hrd := rd_at xs k hkl
        rw [hds] at hdr
        obtain ⟨hx, hrest⟩ := List.cons.inj hdr
        have hds2 : xs.drop k = x :: xs.drop (k + 1) := by rw [hds, hrest]
        rw [← hx] at hrd
        have HRD := Lib.hid hrd
        have HDS := Lib.hid hds2
        have HKL := Lib.hid hkl
        clear hkl hds hll hdr hrest hx hrd hds2
        obtain ⟨x0, x1⟩ := x
        by_cases hle : x1 ≤ n
        · have HLE := Lib.hid hle
          have HJ2 : Hid (Hid (∀ j : Nat, j < k + 1 → (A.rd_T62 xs (j : Int)).f1 ≤ n)) := Lib.hid (Lib.hid (fun j hj => by
            rcases Nat.lt_or_ge j k with h | h
            · exact HJ.out j h
            · obtain rfl : j = k := by omega
              rw [HRD.out]; exact hle))
          go_upto_region 9 with (go_at_call 17; (with_reducible refine (HNX.out _ HG.out).mono ?_); rintro e w3 ⟨rfl, hb3⟩; have HG3 := Lib.hid ((HG.out.later hb3).later (below_alloc (Below.refl _ _) (.cells #[.int .i64 x0, .int .i64 x1] 48))); have HBQ := Lib.hid (blk_new w3 (.cells #[.int .i64 x0, .int .i64 x1] 48)); have r0 := (blk_cell HG3.out.p 0).trans rfl; have r1 := (blk_cell HG3.out.p 1).trans rfl; clear hb3; simp only [headI, nextV, someL])
          have b0 := (blk_cell HBQ.out 0).trans rfl
          generalize w3.alloc (.cells #[.int .i64 x0, .int .i64 x1] 48) = W4 at HG3 HBQ r0 r1 b0 ⊢
          obtain ⟨bq, hbq⟩ : ∃ bq, w3.heap.size = bq := ⟨_, rfl⟩
          rw [hbq] at HBQ b0
          simp only [hbq]
          clear hbq
          have hoo := HG3.out.o
          have hlk : ((xs.take k).map (·.f0)).length = k := by have := HKL.out; rw [List.length_map, List.length_take]; omega
          have HLK := Lib.hid hlk
          obtain ⟨ids, hids⟩ : ∃ ids, (xs.take k).map (·.f0) = ids := ⟨_, rfl⟩
          rw [hids] at hoo hlk
          have HOO := Lib.hid hoo
          have HIDS := Lib.hid hids
          have HIDL := Lib.hid hlk
          have HNB : Hid (∀ g cs t, W4.heap[g]? = some (.cells cs t (0, 0)) → t ≠ 3 → some g ≠ (Value.slice Ao k ko).ownBlock) := Lib.hid (fun g cs t hg ht e => by
            obtain ⟨cells, hc⟩ := own_typed hoo g e.symm
            have := hg.symm.trans hc
            injection this with this
            injection this with _ e
            exact ht e)
          clear hoo hids hlk
          have HDR : Hid (∀ W, Rr B W (.slice Av zs.length kv) zs → Calls Try.prog 11 #[.agg #[.int .i64 n, .slice Av zs.length kv], .int .i64 x0] W fun e w' => ∃ v ys', e = .returned (.agg #[.int .i64 n, v]) ∧ Rr W.heap.size w' v ys' ∧ Mir (dropL (xs.drop k) x0) ys' ∧ Below W.heap.size W w') := Lib.hid (fun W h => by
            obtain ⟨A', c', e, hc, hC⟩ := Kd.R_reads h
            obtain ⟨⟨rfl, _⟩, rfl⟩ : (Av = A' ∧ True) ∧ kv = c' := by simpa using e
            exact ref_drop hC hc HG.out.m (by rw [List.length_drop]; have := HL.out; omega) x0)
          go_wp2_with (first
            | (at_builtin; refine print_append_num (w0 := W4) w.heap.size rfl (.tmp 41) (.tmp 44) 41 3 .i64 8 rfl Try.underlying41 info3 (by decide) (.slice Ao k ko) ids x0 rfl rfl HOO.out (Below.refl _ _) HG3.out.b.size (by have := HIDL.out; have := HKL.out; have := HL.out; omega) ?_; intro v5 w5 hown5 hb5 hg5 hat5; have hp5 := blk_grown HG3.out.p hg5 (HNB.out _ _ _ HG3.out.p (by decide)); have hq5 := blk_grown HBQ.out hg5 (HNB.out _ _ _ HBQ.out (by decide)); have HP5 := Lib.hid hp5; have s0 := (blk_cell hp5 0).trans rfl; have s1 := (blk_cell hp5 1).trans rfl; have b5 := (blk_cell hq5 0).trans rfl; have HR5 := Lib.hid (Kd.R_grown2 HG3.out.r rfl hg5 (fun g e => by
                intro e2
                obtain ⟨inner, ho⟩ := Kd.R_own HG3.out.r
                obtain ⟨cells, hc⟩ := own_typed ho g e2.symm
                exact HNB.out g cells 48 hc (by decide) e.symm)); obtain ⟨A5, k5, e5⟩ := own_slice hown5; rw [List.length_append, List.length_singleton] at e5; subst e5; have HO5 := Lib.hid hown5; have HG5 := Lib.hid hg5; clear hown5 hb5 hg5 hat5 hp5 hq5 r0 r1 b0)
            | (go_at_call 11; (with_reducible refine (HDR.out _ HR5.out).mono ?_); rintro e w6 ⟨v6, ys6, rfl, hr6, hm6, hb6⟩; obtain ⟨A6, k6, rfl⟩ := Kd.R_slice hr6; have hp6 := blk_below HP5.out hb6; have t0 := (blk_cell hp6 0).trans rfl; have t1 := (blk_cell hp6 1).trans rfl; have f0 := blk_frozen hp6 0; have f1 := blk_frozen hp6 1; have HR6 := Lib.hid hr6; have HM6 := Lib.hid hm6; have HB6 := Lib.hid hb6; clear hr6 hm6 hb6 hp6 s0 s1 b5))
          go_roundw
          case rel => exact ⟨k + 1, _, _, HKL.out, HJ2.out, Lib.hid (HG3.out.step HBB.out HDS.out (by rw [HIDS.out]; exact HO5.out) HG5.out HR6.out HM6.out HB6.out 0 0)⟩
          case measure => simp [slLen]; have := HKL.out; have := HIDL.out; omega
        · have hgt : n < x1 := by omega
          have HGT := Lib.hid hle
          go_wp2_with (go_at_call 17; (with_reducible refine (HNX.out _ HG.out).mono ?_); rintro e w3 ⟨rfl, hb3⟩; have HG3 := Lib.hid ((HG.out.later hb3).later (below_alloc (Below.refl _ _) (.cells #[.int .i64 x0, .int .i64 x1] 48))); have r0 := (blk_cell HG3.out.p 0).trans rfl; have r1 := (blk_cell HG3.out.p 1).trans rfl; have q0 := (blk_cell HG3.out.q 0).trans rfl; have q1 := (blk_cell HG3.out.q 1).trans rfl; have f0 := blk_frozen HG3.out.q 0; have f1 := blk_frozen HG3.out.q 1; clear hb3; simp only [headI, nextV, someL])
          refine bodyPost_ret (results_ct rfl _ _ (w.heap.size + 1) 30 #[.int .i64 n, .slice Av zs.length kv] (0, 0) _ rfl (blk_put (blk_put HG3.out.q 0 _ rfl) 1 _ rfl) Try.underlying30 rfl (by kernel_rfl)) rfl ?_
          exact HEND.out _ HG3.out (fun _ => by rw [HRD.out]; exact HGT.out)
end
end Go.Proofs.Ytccmelpnmjdclaa.H
