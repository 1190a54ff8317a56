/- (*query.Terminal).lay: what each kind of field turns. -/
import Derived.Test.YtpdihhfeekoplaaHand
import Derived.Test.YtpdihhfeekoplaaAx3
namespace Go.Proofs.Ytpdihhfeekoplaa.P
open Go.RowKit Go.Proofs.YtpdihhfeekoplaaW.PrintWords Go.Proofs.YtpdihhfeekoplaaW.PrintLast Go.Proofs.YtpdihhfeekoplaaW.PrintMore
set_option linter.unusedVariables false
set_option linter.unusedSimpArgs false
attribute [local go_sem] max2_int min2_int max_two min_two max_three min_three max_four min_four

/-- A terminal in memory. -/
def term (p0 p1 o0 o1 : Int) (vc vl : Value) : Obj := .cells #[.int .i64 p0, .int .i64 p1, .int .i64 o0, .int .i64 o1, vc, vl] 26 (0, 0)
/-- All but block g stays. -/
structure Turned (w w' : World) (g : Nat) : Prop where
  os : w'.os = w.os
  tape : w'.tape = w.tape
  output : w'.output = w.output
  keep : KeepBut w w' g none
theorem Turned.of_below {w w' : World} {g : Nat} (h : Below w.heap.size w w') : Turned w w' g := ⟨h.os, h.tape, h.output, KeepBut.of_below h g none⟩
theorem Turned.set {w w' : World} {g : Nat} (h : Turned w w' g) (j : Nat) (u : Value) : Turned w (w'.setCell ⟨g, j, none⟩ u) g := ⟨h.os, h.tape, h.output, h.keep.set_ j u⟩
theorem Turned.drew {w w' : World} {g : Nat} (h : Turned w w' g) : Turned w w'.drew g := ⟨h.os, h.tape, h.output, h.keep⟩

set_option maxHeartbeats 2000000 in
set_option maxRecDepth 100000 in
theorem lay_colors (g : Nat) (p0 p1 o0 o1 : Int) (vc vl : Value) (A : Option Addr) (c : Nat) (l : List Int) (w : World) (hb : w.heap[g]? = some (term p0 p1 o0 o1 vc vl)) (hC : Kd.C (Kd.int .u8) w A l.length l) (hc : l.length ≤ c) (hlim : l.length < 100000) (hl : 0 < l.length) (h1 : vc.oneCell' = true) :
    Calls Try.prog 26 #[.pointer (some ⟨g, 0, none⟩), .int .u8 134, .slice A l.length c] w fun e w' => e = .returned (.bool true) ∧ ∃ v, w'.heap[g]? = some (term p0 p1 o0 o1 v vl) ∧ (Kd.int .u8).R 5 w' w.heap.size (fun k => k ≠ g) v (l.drop 1) ∧ Turned w w' g := by
  have hr := readsInt_of.2 (Kd.reads_of_C (d := (0 : Int)) hC)
  obtain ⟨ad, rfl, _⟩ := hr.2.2 hl
  have hd := ReadsInt.drop_ hr 1 hl hc
  have hB := Aside0.mk hb
  have hlt := blk_lt hb
  clear hb hC
  have hlp : (0 : Int) < (l.length : Int) := by omega
  have hld : (l.drop 1).length = l.length - 1 := by simp
  have tail : ∀ (v : Value) (w1 : World) (hR : (Kd.int .u8).R 5 w1 w.heap.size (fun _ => True) v (l.drop 1)) (hb1 : Below w.heap.size w w1), (w1.setCell ⟨g, 4, none⟩ v).heap[g]? = some (term p0 p1 o0 o1 v vl) ∧ (Kd.int .u8).R 5 (w1.setCell ⟨g, 4, none⟩ v) w.heap.size (fun k => k ≠ g) v (l.drop 1) ∧ Turned w (w1.setCell ⟨g, 4, none⟩ v) g := by
    intro v w1 hR hb1
    have hk := blk_set (show w1.heap[g]? = some (.cells #[.int .i64 p0, .int .i64 p1, .int .i64 o0, .int .i64 o1, vc, vl] 26 (0, 0)) from (hb1.block g hlt).trans hB.out) 4 v
    simp only [List.setIfInBounds_toArray, List.set_cons_zero, List.set_cons_succ] at hk
    have hR2 := Kd.R_mono (Kd.R_bound hR) (fun k hk => show k ≠ g by have := hk.2.1; omega)
    exact ⟨hk, Kd.R_far hR2 (fun k hk => hk) v, (Turned.of_below hb1).set 4 v⟩
  have T := Aside0.mk tail
  clear tail
  by_cases hc1 : c = 1
  · rw [if_pos hc1] at hd
    have HCL := Aside0.mk (fun (w1 : World) (h : w1 = w) => by
      subst h
      have h := clone_calls (some ad) (c - 1) (l.drop 1) w1 (Kd.C_of_reads (by rw [hld]; exact readsInt_of.1 hd)) (by omega) (by omega)
      rw [hld] at h
      exact h)
    subst hc1
    have hl1 : l.length = 1 := by omega
    clear hd hr
    go_enter Try.func26, Try.ntmps26
    go_wp2_with ((with_reducible refine gate_callee (f := 32) rfl ?_); refine goesL_ (some 24) rfl rfl Try.func32 (by kernel_rfl) rfl #[.slice (some ad) (l.length - 1) (1 - 1)] rfl (by (try simp only [List.map_toArray, List.map_cons, List.map_nil]); first | done | rfl | (go_simp; done)) ?_; refine (HCL.out w rfl).mono ?_; rintro e w1 ⟨v, rfl, hR, hb1⟩; obtain ⟨A2, c2, rfl, _⟩ := Kd.R_reads hR; refine ⟨_, rfl, ?_⟩; have HT := Aside0.mk (T.out _ w1 hR hb1); have hcx := (blk_cell ((hb1.block g hlt).trans hB.out) 4).trans rfl; have hfx := blk_frozen ((hb1.block g hlt).trans hB.out) 4; clear hR hb1)
    go_ret
    have hT := HT.out
    rw [hld, hl1] at hT
    exact ⟨rfl, _, hT⟩
  · rw [if_neg hc1] at hd
    have HCL := Aside0.mk (fun (w1 : World) (h : w1 = w) => by
      subst h
      have h := clone_calls (some (ad.add 1)) (c - 1) (l.drop 1) w1 (Kd.C_of_reads (by rw [hld]; exact readsInt_of.1 hd)) (by omega) (by omega)
      rw [hld] at h
      exact h)
    clear hd hr
    go_enter Try.func26, Try.ntmps26
    go_wp2_with ((with_reducible refine gate_callee (f := 32) rfl ?_); refine goesL_ (some 24) rfl rfl Try.func32 (by kernel_rfl) rfl #[.slice (some (ad.add 1)) (l.length - 1) (c - 1)] rfl (by (try simp only [List.map_toArray, List.map_cons, List.map_nil]); first | done | rfl | (go_simp; done)) ?_; refine (HCL.out w rfl).mono ?_; rintro e w1 ⟨v, rfl, hR, hb1⟩; obtain ⟨A2, c2, rfl, _⟩ := Kd.R_reads hR; refine ⟨_, rfl, ?_⟩; have HT := Aside0.mk (T.out _ w1 hR hb1); have hcx := (blk_cell ((hb1.block g hlt).trans hB.out) 4).trans rfl; have hfx := blk_frozen ((hb1.block g hlt).trans hB.out) 4; clear hR hb1)
    go_ret
    have hT := HT.out
    rw [hld] at hT
    exact ⟨rfl, _, hT⟩

set_option maxHeartbeats 2000000 in
set_option maxRecDepth 100000 in
theorem lay_lights (g : Nat) (p0 p1 o0 o1 : Int) (vc vl : Value) (A : Option Addr) (c : Nat) (l : List Int) (w : World) (hb : w.heap[g]? = some (term p0 p1 o0 o1 vc vl)) (hC : Kd.C (Kd.int .u8) w A l.length l) (hc : l.length ≤ c) (hlim : l.length < 100000) (hl : 0 < l.length) (h1 : vl.oneCell' = true) :
    Calls Try.prog 26 #[.pointer (some ⟨g, 0, none⟩), .int .u8 135, .slice A l.length c] w fun e w' => e = .returned (.bool true) ∧ ∃ v, w'.heap[g]? = some (term p0 p1 o0 o1 vc v) ∧ (Kd.int .u8).R 5 w' w.heap.size (fun k => k ≠ g) v (l.drop 1) ∧ Turned w w' g := by
  have hr := readsInt_of.2 (Kd.reads_of_C (d := (0 : Int)) hC)
  obtain ⟨ad, rfl, _⟩ := hr.2.2 hl
  have hd := ReadsInt.drop_ hr 1 hl hc
  have hB := Aside0.mk hb
  have hlt := blk_lt hb
  clear hb hC
  have hlp : (0 : Int) < (l.length : Int) := by omega
  have hld : (l.drop 1).length = l.length - 1 := by simp
  have tail : ∀ (v : Value) (w1 : World) (hR : (Kd.int .u8).R 5 w1 w.heap.size (fun _ => True) v (l.drop 1)) (hb1 : Below w.heap.size w w1), (w1.setCell ⟨g, 5, none⟩ v).heap[g]? = some (term p0 p1 o0 o1 vc v) ∧ (Kd.int .u8).R 5 (w1.setCell ⟨g, 5, none⟩ v) w.heap.size (fun k => k ≠ g) v (l.drop 1) ∧ Turned w (w1.setCell ⟨g, 5, none⟩ v) g := by
    intro v w1 hR hb1
    have hk := blk_set (show w1.heap[g]? = some (.cells #[.int .i64 p0, .int .i64 p1, .int .i64 o0, .int .i64 o1, vc, vl] 26 (0, 0)) from (hb1.block g hlt).trans hB.out) 5 v
    simp only [List.setIfInBounds_toArray, List.set_cons_zero, List.set_cons_succ] at hk
    have hR2 := Kd.R_mono (Kd.R_bound hR) (fun k hk => show k ≠ g by have := hk.2.1; omega)
    exact ⟨hk, Kd.R_far hR2 (fun k hk => hk) v, (Turned.of_below hb1).set 5 v⟩
  have T := Aside0.mk tail
  clear tail
  by_cases hc1 : c = 1
  · rw [if_pos hc1] at hd
    have HCL := Aside0.mk (fun (w1 : World) (h : w1 = w) => by
      subst h
      have h := clone_calls (some ad) (c - 1) (l.drop 1) w1 (Kd.C_of_reads (by rw [hld]; exact readsInt_of.1 hd)) (by omega) (by omega)
      rw [hld] at h
      exact h)
    subst hc1
    have hl1 : l.length = 1 := by omega
    clear hd hr
    go_enter Try.func26, Try.ntmps26
    go_wp2_with ((with_reducible refine gate_callee (f := 32) rfl ?_); refine goesL_ (some 38) rfl rfl Try.func32 (by kernel_rfl) rfl #[.slice (some ad) (l.length - 1) (1 - 1)] rfl (by (try simp only [List.map_toArray, List.map_cons, List.map_nil]); first | done | rfl | (go_simp; done)) ?_; refine (HCL.out w rfl).mono ?_; rintro e w1 ⟨v, rfl, hR, hb1⟩; obtain ⟨A2, c2, rfl, _⟩ := Kd.R_reads hR; refine ⟨_, rfl, ?_⟩; have HT := Aside0.mk (T.out _ w1 hR hb1); have hcx := (blk_cell ((hb1.block g hlt).trans hB.out) 5).trans rfl; have hfx := blk_frozen ((hb1.block g hlt).trans hB.out) 5; clear hR hb1)
    go_ret
    have hT := HT.out
    rw [hld, hl1] at hT
    exact ⟨rfl, _, hT⟩
  · rw [if_neg hc1] at hd
    have HCL := Aside0.mk (fun (w1 : World) (h : w1 = w) => by
      subst h
      have h := clone_calls (some (ad.add 1)) (c - 1) (l.drop 1) w1 (Kd.C_of_reads (by rw [hld]; exact readsInt_of.1 hd)) (by omega) (by omega)
      rw [hld] at h
      exact h)
    clear hd hr
    go_enter Try.func26, Try.ntmps26
    go_wp2_with ((with_reducible refine gate_callee (f := 32) rfl ?_); refine goesL_ (some 38) rfl rfl Try.func32 (by kernel_rfl) rfl #[.slice (some (ad.add 1)) (l.length - 1) (c - 1)] rfl (by (try simp only [List.map_toArray, List.map_cons, List.map_nil]); first | done | rfl | (go_simp; done)) ?_; refine (HCL.out w rfl).mono ?_; rintro e w1 ⟨v, rfl, hR, hb1⟩; obtain ⟨A2, c2, rfl, _⟩ := Kd.R_reads hR; refine ⟨_, rfl, ?_⟩; have HT := Aside0.mk (T.out _ w1 hR hb1); have hcx := (blk_cell ((hb1.block g hlt).trans hB.out) 5).trans rfl; have hfx := blk_frozen ((hb1.block g hlt).trans hB.out) 5; clear hR hb1)
    go_ret
    have hT := HT.out
    rw [hld] at hT
    exact ⟨rfl, _, hT⟩

end Go.Proofs.Ytpdihhfeekoplaa.P
