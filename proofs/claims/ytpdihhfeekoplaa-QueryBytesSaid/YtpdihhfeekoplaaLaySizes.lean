/- (*query.Terminal).lay of the sizes, and of what is taken as it is. -/
import Derived.Test.YtpdihhfeekoplaaHandLay
namespace Go.Proofs.Ytpdihhfeekoplaa.P
open Go.RowKit Go.Proofs.YtpdihhfeekoplaaW.PrintWords Go.Proofs.YtpdihhfeekoplaaW.PrintLast Go.Proofs.YtpdihhfeekoplaaW.PrintMore
open Go.Proofs.Ytpdihhfeekoplaa.A
set_option linter.unusedVariables false
set_option linter.unusedSimpArgs false
attribute [local go_sem] max2_int min2_int max_two min_two max_three min_three max_four min_four

def lay_T7 : Bool × List (List Nat × List Nat) := (true, [([], []), ([], []), ([], []), ([2], [2]), ([], []), ([4], [4]), ([5, 3], [5]), ([0, 0, 2, 3, 6], [0]), ([7, 0, 2, 3, 6], [7]), ([8, 3, 6, 0, 2, 3, 6], [3, 8]), ([1, 0, 1, 2, 3, 4, 5, 6, 7, 8, 9], [1]), ([10, 0, 1, 2, 3, 4, 5, 6, 7, 8, 9], [10]), ([11, 6, 9, 0, 1, 2, 3, 4, 5, 6, 7, 8, 9], [6, 11])])
theorem lay_tab7 : rtab .any (opsOf Try.f26 7) = lay_T7 := by kernel_rfl

set_option maxHeartbeats 2000000 in
set_option maxRecDepth 100000 in
theorem lay_sizes (g : Nat) (p0 p1 o0 o1 r1 r2 q1 q2 : Int) (vc vl : Value) (A : Option Addr) (c : Nat) (l : List Int) (w : World) (hb : w.heap[g]? = some (term p0 p1 o0 o1 vc vl)) (hC : Kd.C (Kd.int .u8) w A l.length l) (hc : l.length ≤ c) (hl : l.length = 8) (h1 : query_read.f l = some (r1, r2)) (h2 : query_read.f (l.drop 4) = some (q1, q2)) :
    Calls Try.prog 26 #[.pointer (some ⟨g, 0, none⟩), .int .u8 166, .slice A l.length c] w fun e w' => e = .returned (.bool true) ∧ w'.heap[g]? = some (term r1 r2 q1 q2 vc vl) ∧ Turned w w' g := by
  have hr := readsInt_of.2 (Kd.reads_of_C (d := (0 : Int)) hC)
  obtain ⟨ad, rfl, _⟩ := hr.2.2 (by omega)
  have hd := ReadsInt.drop_ hr 4 (by omega) hc
  rw [if_neg (by omega)] at hd
  have hB := Aside0.mk hb
  have hlt := blk_lt hb
  have hld : (l.drop 4).length = 4 := by simp [hl]
  have hcl : (4 : Nat) ≤ c - 4 := by omega
  have hc4 : ¬ (c = 4) := by omega
  have hr0 := hr
  have R1 := Aside0.mk (fun (w1 : World) (hb1 : Below w.heap.size w w1) =>
    query_read.calls (some ad) c l r1 r2 w1 (Kd.C_of_reads (readsInt_of.1 (hr0.below hb1))) hc h1)
  have R2 := Aside0.mk (fun (w1 : World) (hb1 : Below w.heap.size w w1) =>
    query_read.calls (some (ad.add 4)) (c - 4) (l.drop 4) q1 q2 w1 (Kd.C_of_reads (by rw [hld]; have := readsInt_of.1 (hd.below hb1); rw [hl] at this; exact this)) (by rw [hld]; exact hcl) h2)
  rw [hl] at R1 hc ⊢
  rw [hld] at R2
  clear hb hC hd hr hr0 h1 h2
  go_enter Try.func26, Try.ntmps26
  go_wp2
  refine start_ (n := 13) (S := fun _ => True) (ds := []) #[false, false, false, false, false, false, false, false, false, false, false, false, false] (by kernel_rfl) rfl rfl trivial (fun hHeld => ?_); refine with_tab lay_tab7 (fun HT_ => ?_)
  refine pure_ (i := 0) (N := some 49) (v := ?_) (a' := ?_) #[true, false, false, false, false, false, false, false, false, false, false, false, false] rfl rfl (any_of HT_.out (by kernel_rfl)) (fun _ _ _ h => h) (Or.inl ⟨by rfl, ?_⟩) ?_ ?_
  rotate_left
  · intro w'
    go_simp
    with_reducible rfl
  rotate_left
  · simp only [Act.put, List.setIfInBounds_toArray, List.set_cons_zero, List.set_cons_succ, i64_w, i32_w]
    rfl
  refine pure_ (i := 1) (N := some 50) (v := ?_) (a' := ?_) #[true, true, false, false, false, false, false, false, false, false, false, false, false] rfl rfl (any_of HT_.out (by kernel_rfl)) (fun _ _ _ h => h) (Or.inl ⟨by rfl, ?_⟩) ?_ ?_
  rotate_left
  · intro w'
    go_simp
    with_reducible rfl
  rotate_left
  · simp only [Act.put, List.setIfInBounds_toArray, List.set_cons_zero, List.set_cons_succ, i64_w, i32_w]
    rfl
  refine pure_ (i := 2) (N := some 51) (v := ?_) (a' := ?_) #[true, true, true, false, false, false, false, false, false, false, false, false, false] rfl rfl (any_of HT_.out (by kernel_rfl)) (fun _ _ _ h => h) (Or.inl ⟨by rfl, ?_⟩) ?_ ?_
  rotate_left
  · intro w'
    go_simp
    with_reducible rfl
  rotate_left
  · simp only [Act.put, List.setIfInBounds_toArray, List.set_cons_zero, List.set_cons_succ, i64_w, i32_w]
    rfl
  refine pure_ (i := 4) (N := some 53) (v := ?_) (a' := ?_) #[true, true, true, false, true, false, false, false, false, false, false, false, false] rfl rfl (any_of HT_.out (by kernel_rfl)) (fun _ _ _ h => h) (Or.inl ⟨by rfl, ?_⟩) ?_ ?_
  rotate_left
  · intro w'
    go_simp
    with_reducible rfl
  rotate_left
  · simp only [Act.put, List.setIfInBounds_toArray, List.set_cons_zero, List.set_cons_succ, i64_w, i32_w]
    rfl
  refine pure_ (i := 5) (N := some 54) (v := ?_) (a' := ?_) #[true, true, true, false, true, true, false, false, false, false, false, false, false] rfl rfl (any_of HT_.out (by kernel_rfl)) (fun _ _ _ h => h) (Or.inl ⟨by rfl, ?_⟩) ?_ ?_
  rotate_left
  · intro w'
    go_simp
    with_reducible rfl
  rotate_left
  · simp only [Act.put, List.setIfInBounds_toArray, List.set_cons_zero, List.set_cons_succ, i64_w, i32_w]
    rfl
  refine one_ (i := 3) (N := some 52) #[true, true, true, true, true, true, false, false, false, false, false, false, false] rfl rfl (one_of HT_.out (by kernel_rfl)) (by decide) (fun K hK => ?_)
  refine goes_ Try.func33 (by kernel_rfl) rfl #[.slice (some ad) 8 c] (by rfl) rfl rfl (by (try simp only [List.map_toArray, List.map_cons, List.map_nil]); first | done | rfl | (simp only [List.length_drop, List.length_take]; rfl)) ?_
  refine (R1.out _ (below_drew1 (Below.refl _ _))).mono ?_
  rintro e w1 ⟨rfl, hb⟩
  refine ⟨_, rfl, ?_⟩
  have HB1 := Aside0.mk (below_step (below_drew1 (Below.refl _ _)) hb)
  clear hb
  refine hK.out _ _ trivial (fun hHeld => ?_)
  clear hK K
  refine norm_ (a' := ?_) ?_ ?_
  rotate_left
  · show Act.put _ (some 52) _ = _
    simp only [Act.put, List.setIfInBounds_toArray, List.set_cons_zero, List.set_cons_succ, i64_w, i32_w]
    rfl
  have HB1' := HB1
  refine one_ (i := 6) (N := some 55) #[true, true, true, true, true, true, true, false, false, false, false, false, false] rfl rfl (one_of HT_.out (by kernel_rfl)) (by decide) (fun K hK => ?_)
  refine goes_ Try.func33 (by kernel_rfl) rfl #[.slice (some (ad.add 4)) 4 (c - 4)] (by rfl) rfl rfl (by (try simp only [List.map_toArray, List.map_cons, List.map_nil]); first | done | rfl | (go_simp; done)) ?_
  refine (R2.out w1 HB1.out).mono ?_
  rintro e w2 ⟨rfl, hb⟩
  refine ⟨_, rfl, ?_⟩
  have HB2 := Aside0.mk (below_step HB1.out hb)
  clear hb
  refine hK.out _ _ trivial (fun hHeld => ?_)
  clear hK K
  refine norm_ (a' := ?_) ?_ ?_
  rotate_left
  · show Act.put _ (some 55) _ = _
    simp only [Act.put, List.setIfInBounds_toArray, List.set_cons_zero, List.set_cons_succ, i64_w, i32_w]
    rfl
  refine pure_ (i := 7) (N := some 56) (v := ?_) (a' := ?_) #[true, true, true, true, true, true, true, true, false, false, false, false, false] rfl rfl (any_of HT_.out (by kernel_rfl)) (fun _ _ _ h => h) (Or.inl ⟨by rfl, ?_⟩) ?_ ?_
  rotate_left
  · intro w'
    go_simp
    with_reducible rfl
  rotate_left
  · simp only [Act.put, List.setIfInBounds_toArray, List.set_cons_zero, List.set_cons_succ, i64_w, i32_w]
    rfl
  refine pure_ (i := 8) (N := some 57) (v := ?_) (a' := ?_) #[true, true, true, true, true, true, true, true, true, false, false, false, false] rfl rfl (any_of HT_.out (by kernel_rfl)) (fun _ _ _ h => h) (Or.inl ⟨by rfl, ?_⟩) ?_ ?_
  rotate_left
  · intro w'
    go_simp
    with_reducible rfl
  rotate_left
  · simp only [Act.put, List.setIfInBounds_toArray, List.set_cons_zero, List.set_cons_succ, i64_w, i32_w]
    rfl
  have BK := Aside0.mk (show w2.heap[g]? = some (.cells #[.int .i64 p0, .int .i64 p1, .int .i64 o0, .int .i64 o1, vc, vl] 26 (0, 0)) from (HB2.out.block g hlt).trans hB.out)
  have HT2 := Aside0.mk (Turned.of_below (g := g) HB2.out)
  clear HB1 HB1' HB2
  refine one_ (i := 9) (N := none) #[true, true, true, true, true, true, true, true, true, true, false, false, false] rfl rfl (one_of HT_.out (by kernel_rfl)) (by decide) (fun K hK => ?_)
  have hs0 := (blk_cell BK.out 0).trans rfl
  have hfs0 := blk_frozen BK.out 0
  have hs1 := (blk_cell BK.out 1).trans rfl
  have hfs1 := blk_frozen BK.out 1
  refine skip_ (w1 := ?_) (by rfl) rfl ?_ ?_
  rotate_left
  · go_simp
    rfl
  refine hK.out _ _ trivial (fun hHeld => ?_)
  clear hK K hs0 hfs0 hs1 hfs1
  have n0_ := Aside0.mk (blk_put (cs := #[.int .i64 r1, .int .i64 p1, .int .i64 o0, .int .i64 o1, vc, vl]) (blk_put (cs := #[.int .i64 p0, .int .i64 p1, .int .i64 o0, .int .i64 o1, vc, vl]) BK.out 0 (.int .i64 r1) rfl) 1 (.int .i64 r2) rfl)
  have n1_ := Aside0.mk ((HT2.out.set 0 (.int .i64 r1)).set 1 (.int .i64 r2))
  clear BK HT2
  have BK := n0_
  have HT2 := n1_
  clear n0_ n1_
  refine pure_ (i := 10) (N := some 58) (v := ?_) (a' := ?_) #[true, true, true, true, true, true, true, true, true, true, true, false, false] rfl rfl (any_of HT_.out (by kernel_rfl)) (fun _ _ _ h => h) (Or.inl ⟨by rfl, ?_⟩) ?_ ?_
  rotate_left
  · intro w'
    go_simp
    with_reducible rfl
  rotate_left
  · simp only [Act.put, List.setIfInBounds_toArray, List.set_cons_zero, List.set_cons_succ, i64_w, i32_w]
    rfl
  refine pure_ (i := 11) (N := some 59) (v := ?_) (a' := ?_) #[true, true, true, true, true, true, true, true, true, true, true, true, false] rfl rfl (any_of HT_.out (by kernel_rfl)) (fun _ _ _ h => h) (Or.inl ⟨by rfl, ?_⟩) ?_ ?_
  rotate_left
  · intro w'
    go_simp
    with_reducible rfl
  rotate_left
  · simp only [Act.put, List.setIfInBounds_toArray, List.set_cons_zero, List.set_cons_succ, i64_w, i32_w]
    rfl
  refine one_ (i := 12) (N := none) #[true, true, true, true, true, true, true, true, true, true, true, true, true] rfl rfl (one_of HT_.out (by kernel_rfl)) (by decide) (fun K hK => ?_)
  have hs0 := (blk_cell BK.out 2).trans rfl
  have hfs0 := blk_frozen BK.out 2
  have hs1 := (blk_cell BK.out 3).trans rfl
  have hfs1 := blk_frozen BK.out 3
  refine skip_ (w1 := ?_) (by rfl) rfl ?_ ?_
  rotate_left
  · go_simp
    rfl
  refine hK.out _ _ trivial (fun hHeld => ?_)
  clear hK K hs0 hfs0 hs1 hfs1
  have n0_ := Aside0.mk (blk_put (cs := #[.int .i64 r1, .int .i64 r2, .int .i64 q1, .int .i64 o1, vc, vl]) (blk_put (cs := #[.int .i64 r1, .int .i64 r2, .int .i64 o0, .int .i64 o1, vc, vl]) BK.out 2 (.int .i64 q1) rfl) 3 (.int .i64 q2) rfl)
  have n1_ := Aside0.mk ((HT2.out.set 2 (.int .i64 q1)).set 3 (.int .i64 q2))
  clear BK HT2
  have BK := n0_
  have HT2 := n1_
  clear n0_ n1_
  refine done_ (done_of HT_.out (by kernel_rfl)) ?_
  go_wp2
  go_ret
  exact ⟨rfl, BK.out, HT2.out⟩
set_option maxHeartbeats 2000000 in
set_option maxRecDepth 100000 in
theorem lay_yes0 (p : Value) (A : Option Addr) (c n : Nat) (w : World) :
    Calls Try.prog 26 #[p, .int .u8 128, .slice A n c] w fun e w' => e = .returned (.bool true) ∧ Below w.heap.size w w' := by
  go_enter Try.func26, Try.ntmps26
  go_wp2
  go_ret
  exact ⟨rfl, Below.refl _ _⟩

set_option maxHeartbeats 2000000 in
set_option maxRecDepth 100000 in
theorem lay_yes1 (p : Value) (A : Option Addr) (c n : Nat) (w : World) :
    Calls Try.prog 26 #[p, .int .u8 129, .slice A n c] w fun e w' => e = .returned (.bool true) ∧ Below w.heap.size w w' := by
  go_enter Try.func26, Try.ntmps26
  go_wp2
  go_ret
  exact ⟨rfl, Below.refl _ _⟩

set_option maxHeartbeats 2000000 in
set_option maxRecDepth 100000 in
theorem lay_no2 (p : Value) (A : Option Addr) (c : Nat) (w : World) :
    Calls Try.prog 26 #[p, .int .u8 134, .slice A 0 c] w fun e w' => e = .returned (.bool false) ∧ Below w.heap.size w w' := by
  go_enter Try.func26, Try.ntmps26
  go_wp2
  go_ret
  exact ⟨rfl, Below.refl _ _⟩

set_option maxHeartbeats 2000000 in
set_option maxRecDepth 100000 in
theorem lay_no3 (p : Value) (A : Option Addr) (c : Nat) (w : World) :
    Calls Try.prog 26 #[p, .int .u8 135, .slice A 0 c] w fun e w' => e = .returned (.bool false) ∧ Below w.heap.size w w' := by
  go_enter Try.func26, Try.ntmps26
  go_wp2
  go_ret
  exact ⟨rfl, Below.refl _ _⟩

set_option maxHeartbeats 2000000 in
set_option maxRecDepth 100000 in
theorem lay_no4 (p : Value) (A : Option Addr) (c n : Nat) (w : World) (hn : n ≠ 8) :
    Calls Try.prog 26 #[p, .int .u8 166, .slice A n c] w fun e w' => e = .returned (.bool false) ∧ Below w.heap.size w w' := by
  have hn' : ¬ ((n : Int) = 8) := by omega
  clear hn
  go_enter Try.func26, Try.ntmps26
  go_wp2
  go_ret
  exact ⟨rfl, Below.refl _ _⟩

end Go.Proofs.Ytpdihhfeekoplaa.P
