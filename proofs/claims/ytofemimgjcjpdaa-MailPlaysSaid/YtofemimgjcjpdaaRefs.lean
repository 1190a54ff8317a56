/- The document's Put and Get of chapter 3: what they do. -/
import Derived.Test.YtofemimgjcjpdaaOps
namespace Go.Proofs.Ytofemimgjcjpdaa.H
open Go.Conc Go.RowKit Go.Shelf
open Go.Proofs.YtofemimgjcjpdaaW.PrintWords (ReadsInt print_append_row own_typed own_move own_base own_lt own_reads_of_le readsInt_of print_cut own_reads' below_alloc pw_cell_below)
set_option linter.unusedVariables false
set_option linter.unusedSimpArgs false

def Stay (W W' : World) : Prop := W.heap.size ≤ W'.heap.size ∧ ∀ (k : Nat) (cells : Array Value) (fr : Nat × Nat), W.heap[k]? = some (Obj.cells cells 3 fr) → W'.heap[k]? = W.heap[k]?
theorem Stay.of_turn {S : Nat → Prop} {W W' : World} (h : Turn S W W') (hS : ∀ i, S i → ∀ cells fr, W.heap[i]? ≠ some (Obj.cells cells 3 fr)) : Stay W W' :=
  ⟨h.size, fun k cells fr hk => h.block k (Array.getElem?_eq_some_iff.1 hk).1 (fun s => hS k s cells fr hk)⟩
theorem Stay.of_below {W W' : World} (h : Below W.heap.size W W') : Stay W W' := ⟨h.size, fun k cells fr hk => h.block k (Array.getElem?_eq_some_iff.1 hk).1⟩
theorem IsQ.no3 {w : World} {g c cap : Nat} {xs : List Int} {shut : Bool} (h : IsQ w g c cap xs shut) : ∀ i, (i = c ∨ i = g) → ∀ cells fr, w.heap[i]? ≠ some (Obj.cells cells 3 fr) := by
  obtain ⟨h1, s, r, h2⟩ := h
  rintro i (rfl | rfl) cells fr e
  · rw [h2] at e
    cases e
  · rw [h1] at e
    injection e with e
    injection e with _ e _
    cases e

/-- A slice of ints that is read. -/
def Rd (W : World) (v : Value) (xs : List Int) : Prop := ∃ A c, v = .slice A xs.length c ∧ xs.length ≤ c ∧ ReadsInt W .i64 A xs.length xs ∧ ∀ ad, A = some ad → ∃ cells fr, W.heap[ad.block]? = some (Obj.cells cells 3 fr)
theorem add_block' (a : Addr) (j : Nat) : (a.add j).block = a.block := by unfold Addr.add; split <;> rfl
theorem Rd.stay {W W' : World} {v : Value} {xs : List Int} (h : Rd W v xs) (hs : Stay W W') : Rd W' v xs := by
  obtain ⟨A, c, rfl, hc, ⟨h1, h2, h3⟩, h4⟩ := h
  refine ⟨A, c, rfl, hc, ⟨h1, h2, fun hn => ?_⟩, fun ad e => ?_⟩
  · obtain ⟨ad, rfl, hr⟩ := h3 hn
    obtain ⟨cells, fr, hb⟩ := h4 ad rfl
    refine ⟨ad, rfl, fun j hj => (World.cell?_of_block (w := W) ?_).trans (hr j hj)⟩
    rw [add_block']
    exact hs.2 _ _ _ hb
  · obtain ⟨cells, fr, hb⟩ := h4 ad e
    exact ⟨cells, fr, (hs.2 _ _ _ hb).trans hb⟩
theorem Rd.of_own {W : World} {base n : Nat} {v : Value} {xs : List Int} (h : W.ownsRow base 3 1 v n (ints xs)) : Rd W v xs := by
  have hl : n = xs.length := by have := h.1; simp [ints, Go.Proofs.YtofemimgjcjpdaaW.PrintWords.nums] at this; omega
  subst hl
  obtain ⟨A, c, rfl, hc, hr⟩ := own_reads_of_le (enc := Value.int .i64) (d := (0 : Int)) (xs := xs) h
  refine ⟨A, c, rfl, hc, readsInt_of.2 hr, fun ad e => ?_⟩
  subst e
  obtain ⟨cells, hb⟩ := own_typed h ad.block rfl
  exact ⟨cells, _, hb⟩
theorem own_stay {W W' : World} {base n : Nat} {v : Value} {xs : List Value} (h : W.ownsRow base 3 1 v n xs) (hs : Stay W W') : W'.ownsRow base 3 1 v n xs :=
  own_move h (fun k hk => by
    obtain ⟨cells, hc⟩ := own_typed h k hk
    exact hs.2 k cells _ hc)
theorem own_empty (W : World) (B : Nat) (hB : B ≤ W.heap.size) : (W.alloc (Obj.cells #[] 3)).ownsRow B 3 1 (.slice (some ⟨W.heap.size, 0, none⟩) 0 0) 0 [] := ⟨rfl, .inr ⟨W.heap.size, 0, #[], rfl, hB, World.alloc_heap_new W _, by simp⟩⟩
theorem reads_one (W : World) (x : Int) : ReadsInt (W.alloc (Obj.cells #[.int .i64 x] 3)) .i64 (some ⟨W.heap.size, 0, none⟩) 1 [x] := by
  refine ⟨rfl, by omega, fun _ => ⟨_, rfl, fun j hj => ?_⟩⟩
  obtain rfl : j = 0 := by omega
  exact (cell_of (World.alloc_heap_new W (Obj.cells #[.int .i64 x] 3)) 0).trans rfl
theorem stay_set {W : World} {a : Addr} {u : Value} (h : ∀ cells fr, W.heap[a.block]? ≠ some (Obj.cells cells 3 fr)) : Stay W (W.setCell a u) :=
  Stay.of_turn (turn_setCell W a u (· = a.block) rfl) (fun i e => by subst e; exact h)
theorem stay_refl (W : World) : Stay W W := ⟨Nat.le_refl _, fun _ _ _ _ => rfl⟩
theorem Stay.trans {A B C : World} (h : Stay A B) (k : Stay B C) : Stay A C := ⟨Nat.le_trans h.1 k.1, fun i cells fr hi => (k.2 i cells fr ((h.2 i cells fr hi).trans hi)).trans (h.2 i cells fr hi)⟩

theorem Rd.reads {W : World} {A : Option Addr} {c n : Nat} {xs : List Int} (h : Rd W (.slice A n c) xs) : ReadsInt W .i64 A n xs := by
  obtain ⟨A', c', e, _, hr, _⟩ := h
  injection e with e1 e2 e3
  subst e1 e2
  exact hr
theorem blk_app {W w1 : World} {b base n : Nat} {cs : Array Value} {v : Value} {xs : List Value} (hb : W.heap[b]? = some (Obj.cells cs 29 (0, 0))) (ho : W.ownsRow base 3 1 v n xs) (hg : W.grownBy w1 v.ownBlock) : w1.heap[b]? = some (Obj.cells cs 29 (0, 0)) := by
  refine (hg.block b (Array.getElem?_eq_some_iff.1 hb).1 (fun e => ?_)).trans hb
  obtain ⟨cells, hc⟩ := own_typed ho b e.symm
  rw [hb] at hc
  injection hc with hc
  injection hc with _ hc _
  cases hc
theorem blk_on {W : World} {b : Nat} {o : Obj} (hb : W.heap[b]? = some o) (o' : Obj) : (W.alloc o').heap[b]? = some o := (Below.heap_alloc _ _ _ (Array.getElem?_eq_some_iff.1 hb).1).trans hb
theorem blk_put0 {W : World} {g : Nat} {t : TypeId} {cs : Array Value} (h : W.heap[g]? = some (Obj.cells cs t (0, 0))) (i : Nat) (u : Value) : (W.setCell ⟨g, i, none⟩ u).heap[g]? = some (Obj.cells (cs.setIfInBounds i u) t (0, 0)) := by
  simp [World.setCell, Array.getElem?_modify, h]
theorem no3_of {W : World} {g : Nat} {t : TypeId} {cs : Array Value} (h : W.heap[g]? = some (Obj.cells cs t (0, 0))) (ht : t ≠ 3) : ∀ cells fr, W.heap[g]? ≠ some (Obj.cells cells 3 fr) := by
  intro cells fr e
  rw [h] at e
  injection e with e
  injection e with _ e _
  exact ht e
/-- What the document's Put hands back. -/
def RPut (W : World) (cap : Nat) (xs : List Int) (sh : Bool) (x : Int) (e : Ending) (w' : World) : Prop :=
  ∃ v, e = .returned (.tuple #[.agg #[v, .int .i64 cap, .bool sh], .int .i64 (putE cap xs sh)]) ∧ Rd w' v (putQ cap xs sh x) ∧ Below W.heap.size W w'

set_option maxHeartbeats 2000000 in
set_option maxRecDepth 100000 in
theorem rput (W : World) (v : Value) (cap : Nat) (xs : List Int) (sh : Bool) (x : Int) (hr : Rd W v xs) (hl : xs.length ≤ 5000) :
    Calls Try.prog 24 #[.agg #[v, .int .i64 cap, .bool sh], .int .i64 x] W (RPut W cap xs sh x) := by
  obtain ⟨A, c, rfl, hc, hrd, hty⟩ := hr
  have HRD := Lib.hid hrd
  have HTY := Lib.hid hty
  clear hrd hty
  have HR := Lib.hid (show Rd W (.slice A xs.length c) xs from ⟨A, c, rfl, hc, HRD.out, HTY.out⟩)
  cases sh with
  | true =>
    go_enter Try.func24, Try.ntmps24
    go_wp2
    refine bodyPost_ret (v := .tuple #[.agg #[.slice A xs.length c, .int .i64 cap, .bool true], .int .i64 60]) (by simp [results, Try.results24, go_sem]) rfl ⟨_, rfl, HR.out.stay ?_, ?_⟩
    all_goals first | exact Stay.of_below (by repeat (first | exact Below.refl _ _ | refine below_alloc ?_ _)) | (repeat (first | exact Below.refl _ _ | refine below_alloc ?_ _))
  | false =>
    by_cases hlt : xs.length < cap
    · have d0 : decide ((xs.length : Int) ≥ (cap : Int)) = false := by simp; omega
      go_enter Try.func24, Try.ntmps24
      have HE := Lib.hid (show (((W.alloc (Obj.cells #[.slice A xs.length c, .int .i64 cap, .bool false] 29)).alloc (Obj.cells #[.slice none 0 0, .int .i64 0, .bool false] 29)).alloc (Obj.cells #[] 3)).ownsRow W.heap.size 3 1 (.slice (some ⟨W.heap.size + 1 + 1, 0, none⟩) 0 0) 0 [] from by
        have h := own_empty ((W.alloc (Obj.cells #[.slice A xs.length c, .int .i64 cap, .bool false] 29)).alloc (Obj.cells #[.slice none 0 0, .int .i64 0, .bool false] 29)) W.heap.size (by simp; omega)
        simp only [World.size_alloc] at h
        exact h)
      have HRU := Lib.hid (show ∀ W', Below W.heap.size W W' → ReadsInt W' .i64 A xs.length xs from fun W' h => (HR.out.stay (Stay.of_below h)).reads)
      have hB0 := Lib.hid (show (((W.alloc (Obj.cells #[.slice A xs.length c, .int .i64 cap, .bool false] 29)).alloc (Obj.cells #[.slice none 0 0, .int .i64 0, .bool false] 29)).alloc (Obj.cells #[] 3)).heap[W.heap.size]? = some (Obj.cells #[.slice A xs.length c, .int .i64 cap, .bool false] 29 (0, 0)) from blk_on (blk_on (World.alloc_heap_new _ _) _) _)
      have hB1 := Lib.hid (show (((W.alloc (Obj.cells #[.slice A xs.length c, .int .i64 cap, .bool false] 29)).alloc (Obj.cells #[.slice none 0 0, .int .i64 0, .bool false] 29)).alloc (Obj.cells #[] 3)).heap[W.heap.size + 1]? = some (Obj.cells #[.slice none 0 0, .int .i64 0, .bool false] 29 (0, 0)) from blk_on (by
        have h := World.alloc_heap_new (W.alloc (Obj.cells #[.slice A xs.length c, .int .i64 cap, .bool false] 29)) (Obj.cells #[.slice none 0 0, .int .i64 0, .bool false] 29)
        rw [World.size_alloc] at h
        exact h) _)
      have hlen2 : xs.length + 1 ≤ 5001 := by omega
      go_wp2_with (first
        | (at_builtin; refine print_append_row (w0 := W) W.heap.size rfl (.tmp 18) (.tmp 20) 27 3 .i64 8 rfl Try.underlying27 info3' (by decide) _ [] xs A _ c rfl rfl HE.out (HRU.out _ (by repeat (first | exact Below.refl _ _ | refine below_alloc ?_ _))) (by repeat (first | exact Below.refl _ _ | refine below_alloc ?_ _)) (Below.size (B := W.heap.size) (by repeat (first | exact Below.refl _ _ | refine below_alloc ?_ _))) (by show (0 + xs.length) * 8 ≤ 140737488355328; omega) ?_; intro v1 w1 hown hb1 hg1 hat1; have HO1 := Lib.hid (show w1.ownsRow W.heap.size 3 1 v1 xs.length (ints xs) from hown); have HB1 := Lib.hid hb1; have HX0 := Lib.hid (blk_app hB0.out HE.out hg1); have HX1 := Lib.hid (blk_app hB1.out HE.out hg1); clear hown hb1 hg1 hat1)
        | (at_builtin; refine print_append_row (w0 := W) W.heap.size rfl (.tmp 22) (.tmp 24) 27 3 .i64 8 rfl Try.underlying27 info3' (by decide) v1 xs [x] _ _ _ rfl rfl (own_stay HO1.out (Stay.of_below ((Below.refl _ _).alloc (Nat.le_refl _) _))) (reads_one w1 x) (below_alloc HB1.out _) (Below.size (below_alloc HB1.out _)) (by omega) ?_; intro v2 w2 hown hb2 hg2 hat2; have HO2 := Lib.hid hown; have HB2 := Lib.hid hb2; have HY0 := Lib.hid (blk_app (blk_on HX0.out _) (own_stay HO1.out (Stay.of_below ((Below.refl _ _).alloc (Nat.le_refl _) _))) hg2); have HY1 := Lib.hid (blk_app (blk_on HX1.out _) (own_stay HO1.out (Stay.of_below ((Below.refl _ _).alloc (Nat.le_refl _) _))) hg2); obtain ⟨A2, cp2, rfl, _, _⟩ := own_reads_of_le (enc := Value.int .i64) (d := (0 : Int)) (xs := xs ++ [x]) hown; clear hown hb2 hg2 hat2; have hc0 := cell_of HY0.out 0; have hc1 := cell_of HY0.out 1; have hc2 := cell_of HY0.out 2; have he0 := cell_of HY1.out 0; have he1 := cell_of HY1.out 1; have he2 := cell_of HY1.out 2; have hf0 := froz_of HY0.out 0; have hg0 := froz_of HY1.out 0; have hg1 := froz_of HY1.out 1; have hg2 := froz_of HY1.out 2))
      have hd := (Below.heap_setCell w2 ⟨W.heap.size, 0, none⟩ (.slice A2 (xs.length + 1) cp2) (W.heap.size + 1) (by simp)).trans HY1.out
      have s0 : Stay w2 (w2.setCell ⟨W.heap.size, 0, none⟩ (.slice A2 (xs.length + 1) cp2)) := stay_set (no3_of HY0.out (by decide))
      have b0 := Below.setCell HB2.out (p := ⟨W.heap.size, 0, none⟩) (Nat.le_refl _) (.slice A2 (xs.length + 1) cp2)
      obtain ⟨w3, hw3⟩ : ∃ w3, w3 = w2.setCell ⟨W.heap.size, 0, none⟩ (.slice A2 (xs.length + 1) cp2) := ⟨_, rfl⟩
      rw [← hw3] at hd s0 b0 ⊢
      clear hw3 hc0 hc1 hc2 he0 he1 he2 hf0 hg0 hg1 hg2
      have hd1 := blk_put0 hd 0 (.slice A2 (xs.length + 1) cp2)
      have hd2 := blk_put0 hd1 1 (.int .i64 cap)
      have hd3 := blk_put0 hd2 2 (.bool false)
      have s1 := stay_set (a := ⟨W.heap.size + 1, 0, none⟩) (u := .slice A2 (xs.length + 1) cp2) (no3_of hd (by decide))
      have s2 := stay_set (a := ⟨W.heap.size + 1, 1, none⟩) (u := .int .i64 cap) (no3_of hd1 (by decide))
      have s3 := stay_set (a := ⟨W.heap.size + 1, 2, none⟩) (u := .bool false) (no3_of hd2 (by decide))
      have b3 := Below.setCell (Below.setCell (Below.setCell b0 (p := ⟨W.heap.size + 1, 0, none⟩) (Nat.le_succ _) (.slice A2 (xs.length + 1) cp2)) (p := ⟨W.heap.size + 1, 1, none⟩) (Nat.le_succ _) (.int .i64 cap)) (p := ⟨W.heap.size + 1, 2, none⟩) (Nat.le_succ _) (.bool false)
      have c0 := (cell_of hd3 0).trans rfl
      have c1 := (cell_of hd3 1).trans rfl
      have c2 := (cell_of hd3 2).trans rfl
      have hrd : Rd _ _ _ := ((Rd.of_own HO2.out).stay s0).stay (s1.trans (s2.trans s3))
      generalize (((w3.setCell ⟨W.heap.size + 1, 0, none⟩ (.slice A2 (xs.length + 1) cp2)).setCell ⟨W.heap.size + 1, 1, none⟩ (.int .i64 cap)).setCell ⟨W.heap.size + 1, 2, none⟩ (.bool false)) = w4 at c0 c1 c2 hrd b3 ⊢
      refine bodyPost_ret (v := .tuple #[.agg #[.slice A2 (xs.length + 1) cp2, .int .i64 cap, .bool false], .int .i64 0]) (by simp [results, Try.results24, go_sem, c0, c1, c2]) rfl ⟨.slice A2 (xs.length + 1) cp2, by rw [show putE cap xs false = 0 by simp [putE, hlt]], ?_, b3⟩
      simpa [putQ, hlt] using hrd
    · have d0 : decide ((xs.length : Int) ≥ (cap : Int)) = true := by simp; omega
      go_enter Try.func24, Try.ntmps24
      go_wp2
      refine bodyPost_ret (v := .tuple #[.agg #[.slice A xs.length c, .int .i64 cap, .bool false], .int .i64 6]) (by simp [results, Try.results24, go_sem]) rfl ⟨.slice A xs.length c, by rw [show putE cap xs false = 6 by simp [putE, hlt]], ?_, ?_⟩
      · rw [show putQ cap xs false x = xs by simp [putQ, hlt]]
        exact HR.out.stay (Stay.of_below (by repeat (first | exact Below.refl _ _ | refine below_alloc ?_ _)))
      · repeat (first | exact Below.refl _ _ | refine below_alloc ?_ _)

/-- What the document's Get hands back. -/
def RGet (W : World) (cap : Nat) (xs : List Int) (sh : Bool) (e : Ending) (w' : World) : Prop :=
  ∃ v, e = .returned (.tuple #[.agg #[v, .int .i64 cap, .bool sh], .int .i64 (xs.headD 0), .bool (!xs.isEmpty)]) ∧ Rd w' v xs.tail ∧ Below W.heap.size W w'

theorem Rd.tail {W : World} {A : Option Addr} {c : Nat} {x : Int} {xs : List Int} (h : Rd W (.slice A (xs.length + 1) c) (x :: xs)) :
    ∃ ad A', A = some ad ∧ W.cell? ad = some (.int .i64 x) ∧ (∀ W : World, (Instr.slice 27 (.slice (some ad) (xs.length + 1) c) (some (.int .i64 1)) none none).run Try.prog W = .ok (.slice A' xs.length (c - 1)) W) ∧ Rd W (.slice A' xs.length (c - 1)) xs := by
  obtain ⟨A', c', e, hc, hr, hty⟩ := h
  injection e with e1 e2 e3
  subst e1 e3
  obtain ⟨ad, rfl, hcell⟩ := hr.2.2 (by simp)
  obtain ⟨i0, hi, hz0, hz1, hz2⟩ := info_parts info3'
  obtain ⟨A2, hcut, hcr⟩ := print_cut (P := Try.prog) 27 3 .i64 Try.underlying27 hi hz1 (some ad) (xs.length + 1) c 1 (by omega)
  have h0 := hcell 0 (by simp)
  have h1 := hcr W .i64 (x :: xs) (by simpa using hc) (by simpa using hr)
  rw [show xs.length + 1 - 1 = xs.length by omega] at hcut h1
  refine ⟨ad, A2, rfl, by simpa [Addr.add] using h0, hcut, A2, c - 1, rfl, by simp at hc; omega, by simpa using h1, ?_⟩
  intro ad2 e2
  obtain ⟨cells, fr, hb⟩ := hty ad rfl
  have hrun := hcut W
  have hel : Try.prog.elem 27 = 3 := by simp [Program.elem, Try.underlying27]
  rw [run_slice_l W 27 (some ad) (xs.length + 1) c (by rw [hel]; exact Try.underlying27) .i64 ((1 : Nat) : Int) (by omega) (by omega), hel] at hrun
  simp [sizeOf, typeInfo, hi, hz1, sliced, Result.andThen] at hrun
  subst e2
  refine ⟨cells, fr, ?_⟩
  split at hrun
  · injection hrun with hrun
    rw [← hrun]
    exact hb
  · injection hrun with hrun
    rw [← hrun, add_block']
    exact hb

set_option maxHeartbeats 2000000 in
set_option maxRecDepth 100000 in
theorem rget (W : World) (v : Value) (cap : Nat) (xs : List Int) (sh : Bool) (hr : Rd W v xs) :
    Calls Try.prog 25 #[.agg #[v, .int .i64 cap, .bool sh]] W (RGet W cap xs sh) := by
  have hr0 := hr
  obtain ⟨A, c, rfl, hc, hrd, hty⟩ := hr
  clear hrd hty
  have HR := Lib.hid hr0
  cases xs with
  | nil =>
    clear hr0
    go_enter Try.func25, Try.ntmps25
    go_wp2
    refine bodyPost_ret (v := .tuple #[.agg #[.slice A 0 c, .int .i64 cap, .bool sh], .int .i64 0, .bool false]) (by simp [results, Try.results25, go_sem]) rfl ⟨.slice A 0 c, rfl, ?_, ?_⟩
    · exact HR.out.stay (Stay.of_below (by repeat (first | exact Below.refl _ _ | refine below_alloc ?_ _)))
    · repeat (first | exact Below.refl _ _ | refine below_alloc ?_ _)
  | cons x xs =>
    obtain ⟨ad, A', rfl, hcell, hcut, hrd2⟩ := Rd.tail hr0
    have HRD := Lib.hid hrd2
    have hc1 := pw_cell_below (show Below W.heap.size W ((W.alloc (Obj.cells #[.slice (some ad) (xs.length + 1) c, .int .i64 cap, .bool sh] 29)).alloc (Obj.cells #[.slice none 0 0, .int .i64 0, .bool false] 29)) by (repeat (first | exact Below.refl _ _ | refine below_alloc ?_ _))) hcell
    have h0e : (((xs.length : Int) + 1) == 0) = false := by simp; omega
    clear hrd2 hr0 hcell
    simp only [List.length_cons] at hc ⊢
    go_enter Try.func25, Try.ntmps25
    go_wp2
    refine bodyPost_ret (v := .tuple #[.agg #[.slice A' xs.length (c - 1), .int .i64 cap, .bool sh], .int .i64 x, .bool true]) (by simp [results, Try.results25, go_sem]) rfl ⟨.slice A' xs.length (c - 1), rfl, ?_, ?_⟩
    · exact HRD.out.stay (Stay.of_below (by repeat (first | exact Below.refl _ _ | refine below_alloc ?_ _)))
    · repeat (first | exact Below.refl _ _ | refine below_alloc ?_ _)

theorem rroom (W : World) (v : Value) (cap : Nat) (xs : List Int) (sh : Bool) (hr : Rd W v xs) (hl : xs.length ≤ 5000) (hc : cap ≤ 5000) :
    Calls Try.prog 13 #[.agg #[v, .int .i64 cap, .bool sh]] W fun e w' => e = .returned (.int .i64 (roomN cap xs sh)) ∧ Below W.heap.size W w' := by
  obtain ⟨Ax, c, rfl, hc2, hrd, _⟩ := hr
  refine A.greenscreenref03_Room.calls Ax c xs cap sh (roomN cap xs sh) W (Go.Proofs.YtofemimgjcjpdaaW.PrintWords.Kd.C_of_reads (readsInt_of.1 hrd)) hc2 ?_
  unfold A.greenscreenref03_Room.f roomN
  cases sh with
  | true => rfl
  | false =>
    have : wrap64 ((cap : Int) - xs.length) = (cap : Int) - xs.length := by unfold wrap64; omega
    simp [this]
end Go.Proofs.Ytofemimgjcjpdaa.H
