/- mail.Queue.All: the iterator. -/
import Derived.Test.YtofemimgjcjpdaaRange
namespace Go.Proofs.Ytofemimgjcjpdaa.H
open Go.Conc Go.RowKit Go.Shelf
set_option linter.unusedVariables false
set_option linter.unusedSimpArgs false
attribute [local go_sem] Oper.semAt_some

def Kq (b g c : Nat) (W W' : World) : Prop := W.heap.size ≤ W'.heap.size ∧ W'.heap[b]? = W.heap[b]? ∧ W'.heap[g]? = W.heap[g]? ∧ W'.heap[c]? = W.heap[c]?
theorem Kq.trans {b g c : Nat} {A B C : World} (h : Kq b g c A B) (k : Kq b g c B C) : Kq b g c A C := ⟨Nat.le_trans h.1 k.1, k.2.1.trans h.2.1, k.2.2.1.trans h.2.2.1, k.2.2.2.trans h.2.2.2⟩
theorem Kq.isQ {b g c cap : Nat} {xs : List Int} {shut : Bool} {A B : World} (h : Kq b g c A B) (hq : IsQ A g c cap xs shut) : IsQ B g c cap xs shut := by
  obtain ⟨h1, s, r, h2⟩ := hq
  exact ⟨h.2.2.1.trans h1, s, r, h.2.2.2.trans h2⟩
def leftQ (c : Nat) (W : World) : Nat := match W.heap[c]? with | some (.chan _ buf _ _ _ _) => buf.size | _ => 0
theorem leftQ_eq {W : World} {g c cap : Nat} {xs : List Int} {shut : Bool} (h : IsQ W g c cap xs shut) : leftQ c W = xs.length := by
  obtain ⟨h1, s, r, h2⟩ := h
  simp [leftQ, h2, nums]

set_option maxHeartbeats 1000000 in
set_option maxRecDepth 100000 in
theorem all1_in (n : Nat) (hn : 1 ≤ n) (l Bq g c cap : Nat) (xs : List Int) (shut : Bool) (J Jx : List Int → World → Prop) (hJM : ∀ pre A B, J pre A → Turn (· = c) A B → J pre B)
    (hY : ∀ pre x W, J pre W → pre.length < xs.length → YieldAt Fence.wide (n - 1) Try.prog l #[.int .i64 x] W fun e W' =>
      (e = .returned (.bool true) ∧ J (pre ++ [x]) W' ∧ Kq Bq g c W W') ∨ (e = .returned (.bool false) ∧ Jx (pre ++ [x]) W' ∧ Kq Bq g c W W'))
    (W : World) (hB : W.heap[Bq]? = some (.cells #[.pointer (some ⟨g, 0, none⟩)] 24 (0, 0))) (hQ : IsQ W g c cap xs shut) (h0 : J [] W) :
    CallsIn Fence.wide n Try.prog 27 #[.func (.yield l) #[] #[], .pointer (some ⟨Bq, 0, none⟩)] W fun e W' => (∃ v, e = .returned v) ∧
      ((∃ ys, (ys = xs ∧ IsQ W' g c cap [] shut) ∧ J ys W') ∨ (∃ pre, (pre <+: xs ∧ IsQ W' g c cap (xs.drop pre.length) shut) ∧ Jx pre W')) := by
  refine callsIn_of_wp Try.func27 rfl trivial ?_ rfl
  simp only [Try.ntmps27, List.size_toArray, List.length_cons, List.length_nil, Nat.reduceAdd, Nat.reduceSub, Array.replicate_succ, Array.replicate_zero, List.push_toArray, List.append_toArray, List.nil_append, List.cons_append]
  gi_wp2
  gi_loopw [3] (fun _ wr => ∃ (pre rest : List Int), xs = pre ++ rest ∧ wr.heap[Bq]? = some (.cells #[.pointer (some ⟨g, 0, none⟩)] 24 (0, 0)) ∧ IsQ wr g c cap rest shut ∧ J pre wr)
    (fun _ wr => leftQ c wr)
  case atStart => exact ⟨[], xs, rfl, hB, hQ, h0⟩
  case round =>
    obtain ⟨pre, rest, hx, hb, hq, hj⟩ := hrel
    have hbc : Bq ≠ c := by
      rintro rfl
      obtain ⟨_, s, r, h2⟩ := hq
      rw [h2] at hb
      cases hb
    have f19 : Fence.wide.fn 19 := trivial
    have hc0 : wr.cell? ⟨Bq, 0, none⟩ = some (.pointer (some ⟨g, 0, none⟩)) := (cell_of hb 0).trans rfl
    cases rest with
    | nil =>
      have hg : Calls Try.prog 19 #[.pointer (some ⟨g, 0, none⟩)] wr fun e w' => e = .returned (.tuple #[.int .i64 0, .bool false]) ∧ w' = wr := by
        cases shut with
        | true => exact get_shut _ _ _ _ hq
        | false => exact get_none _ _ _ _ hq
      have HG := Lib.hid hg
      have HQ := Lib.hid hq
      have HX := Lib.hid hx
      clear hg hq hx hb
      gi_wp2_with (gi_at_call 19; refine (callsIn_wide.2 HG.out).mono ?_; rintro e w1 ⟨rfl, rfl⟩)
      refine ⟨fun _ h => (by cases h), ?_⟩
      gi_wp2
      refine bodyPost_ret (results_none rfl _ _ _) rfl ?_
      exact ⟨⟨_, rfl⟩, .inl ⟨pre, ⟨by simpa using HX.out.symm, HQ.out⟩, hj⟩⟩
    | cons x rest =>
      have HG := Lib.hid (get_some wr g c cap x rest shut hq)
      have HQ := Lib.hid hq
      have HX := Lib.hid hx
      have HB := Lib.hid hb
      have HJ := Lib.hid hj
      clear hq hx hb hj
      gi_wp2_with (gi_at_call 19; refine (callsIn_wide.2 HG.out).mono ?_; rintro e w1 ⟨rfl, hq1, ht1⟩; have HQ1 := Lib.hid hq1; have HT1 := Lib.hid ht1; obtain ⟨fn, tmps, assign, body, hy, hR⟩ := hY pre x w1 (hJM _ _ _ HJ.out ht1) (by rw [HX.out]; simp); clear hq1 ht1)
      refine hR.mono ?_
      rintro e W3 (⟨rfl, hJ3, hk3⟩ | ⟨rfl, hJx3, hk3⟩)
      · have HJ3 := Lib.hid hJ3
        have HK3 := Lib.hid hk3
        clear hJ3 hk3
        gi_wp2
        go_roundw
        case rel =>
          exact ⟨pre ++ [x], rest, by simp [HX.out], HK3.out.2.1.trans (HT1.out.blk HB.out hbc), HK3.out.isQ HQ1.out, HJ3.out⟩
        case measure => rw [leftQ_eq (HK3.out.isQ HQ1.out), leftQ_eq HQ.out]; simp
      · have HJ3 := Lib.hid hJx3
        have HK3 := Lib.hid hk3
        clear hJx3 hk3
        gi_wp2
        refine bodyPost_ret (results_none rfl _ _ _) rfl ?_
        refine ⟨⟨_, rfl⟩, .inr ⟨pre ++ [x], ⟨⟨rest, by simp [HX.out]⟩, ?_⟩, HJ3.out⟩⟩
        rw [HX.out]
        simpa using HK3.out.isQ HQ1.out

theorem all_moves (n : Nat) (hn : 1 ≤ n) (Bq g c cap : Nat) (xs : List Int) (shut : Bool) (w : World) (hB : w.heap[Bq]? = some (.cells #[.pointer (some ⟨g, 0, none⟩)] 24 (0, 0))) (hQ : IsQ w g c cap xs shut) :
    SeqMoves Fence.wide n Try.prog 27 #[.pointer (some ⟨Bq, 0, none⟩)] (fun x => #[.int .i64 x]) (Kq Bq g c) (Turn (· = c)) (fun ys W' => ys = xs ∧ IsQ W' g c cap [] shut) (fun pre W' => pre <+: xs ∧ IsQ W' g c cap (xs.drop pre.length) shut) xs.length w := by
  intro l J Jx W hW hA hAx hM hMx hY h0
  have hB' : W.heap[Bq]? = _ := (hW.block _ (Array.getElem?_eq_some_iff.1 hB).1).trans hB
  have hQ' : IsQ W g c cap xs shut := by
    have hl := hQ.lt
    obtain ⟨h1, s, r, h2⟩ := hQ
    exact ⟨(hW.block _ hl.1).trans h1, s, r, (hW.block _ hl.2).trans h2⟩
  exact all1_in n hn l Bq g c cap xs shut J Jx hM hY W hB' hQ' h0
end Go.Proofs.Ytofemimgjcjpdaa.H
