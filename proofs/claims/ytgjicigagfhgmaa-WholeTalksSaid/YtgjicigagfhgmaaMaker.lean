/- record.Maker. -/
import Derived.Test.YtgjicigagfhgmaaFeeds
import Derived.Deep.RegionLaw
import Derived.Deep.QuietTactic
namespace Go.Proofs.Ytgjicigagfhgmaa.H
open Go.RowKit Go.Proofs.YtgjicigagfhgmaaW.PrintWords Go.Proofs.YtgjicigagfhgmaaW.PrintLast
set_option linter.unusedVariables false
set_option linter.unusedSimpArgs false
theorem upon_mono {P : Program} {o o' : Oper} {a : Act} {next next' : Act → World → Prop} {Q Q' : Exit → Act → World → Prop} (hd : o.dst = o'.dst) (hn : ∀ a w, next a w → next' a w) (hQ : ∀ c a w, ¬ Q' (.panic c) a w) (hO : ¬ LetsOut Q') :
    ∀ r, o'.upon P a next Q' r → o.upon P a next' Q r := by
  intro r h
  match r, h with
  | .ok (.value v) w', h => show next' (a.put o.dst v) w'; rw [hd]; exact hn _ _ h
  | .ok .skip w', h => show next' (a.put o.dst undef) w'; rw [hd]; exact hn _ _ h
  | .ok (.defer d) w', h => show next' ({ a with defers := d :: a.defers }.put o.dst undef) w'; rw [hd]; exact hn _ _ h
  | .ok (.enter f args) w', h =>
    refine Calls.mono h ?_
    rintro e w2 h2
    cases e with
    | returned v => show next' (a.put o.dst v) w2; rw [hd]; exact hn _ _ h2
    | panicked c => exact (hQ _ _ _ h2).elim
    | outgrown => exact (hO h2).elim
  | .ok (.row row args) w', h => exact Rows.mono h (fun v w2 h2 => by rw [hd]; exact hn _ _ h2)
  | .halt (.panic v) w', h => exact (hQ _ _ _ h).elim

theorem step_append_row {P : Program} {ops : Array Oper} {o : Oper} {a : Act} {w0 W : World} {K : Act → World → Prop} {Q : Exit → Act → World → Prop} {E : Prop} (hw : Region.wanted o (yielded ops a.tmps) = true) (base : Nat) (s x : Operand) (t e : TypeId) (k : IntKind) (bytes : Nat)
    (ho : o.op = .call { callee := .builtin .append, args := #[s, x], argTypes := #[t, t] })
    (ht : P.underlying t = some (.slice e)) (hinfo : (P.info? e).map (fun i => (i.zero, i.size, i.bytes)) = some (some (.int k 0), 1, bytes)) (hb0 : 0 < bytes)
    (v : Value) (xs ys : List Int) (A : Option Addr) (m c : Nat) (hs : a.eval s = v) (hx : a.eval x = .slice A m c)
    (HO : W.ownsRow base e 1 v xs.length (Go.Proofs.YtgjicigagfhgmaaW.PrintWords.nums k xs)) (HR : ReadsInt W k A m ys) (HB : Below base w0 W) (hbase : base ≤ W.heap.size) (hl : (xs.length + m) * bytes ≤ 140737488355328)
    (h : ∀ v1 w1, w1.ownsRow base e 1 v1 (xs ++ ys).length (Go.Proofs.YtgjicigagfhgmaaW.PrintWords.nums k (xs ++ ys)) → Below base w0 w1 → W.grownBy w1 v.ownBlock → (v1.ownBlock = v.ownBlock ∨ ∃ b, v1.ownBlock = some b ∧ W.heap.size ≤ b) → K (a.put o.dst v1) w1) :
    if Region.wanted o (yielded ops a.tmps) = true then Oper.wp P o a W K Q else E := by
  rw [if_pos hw]
  have hgd : ({ o with guard := none } : Oper).guard = none := rfl
  have k := print_append_row (P := P) (ops := ops) (Q := fun e a w => e = .normal ∧ K a w) (a := a) (rest := []) (o := { o with guard := none }) (w0 := w0) base hgd s x t e k bytes ho ht hinfo hb0 v xs ys A m c hs hx HO HR HB hbase hl (fun v1 w1 h1 h2 h3 h4 => ⟨rfl, h v1 w1 h1 h2 h3 h4⟩)
  unfold wpList at k
  rw [if_pos (by simp [Region.wanted])] at k
  have hO : ¬ LetsOut (fun (e : Exit) (a : Act) (w : World) => e = .normal ∧ K a w) := by
    rintro ⟨_, _, h, _⟩
    cases h
  rcases k with k | ⟨_, k⟩
  · exact upon_mono (o' := { o with guard := none }) rfl (fun a w h => h.2) (fun c a w h => by cases h.1) hO _ k
  · exact (hO k).elim


/-- All but a maker's block and its row stay. -/
structure Kp (w w' : World) (g : Nat) (row : Option Nat) : Prop where
  size : w.heap.size ≤ w'.heap.size
  block : ∀ k, k < w.heap.size → k ≠ g → some k ≠ row → w'.heap[k]? = w.heap[k]?
theorem Kp.set {a b : World} {g : Nat} {row : Option Nat} (h : Kp a b g row) (j : Nat) (u : Value) : Kp a (b.setCell ⟨g, j, none⟩ u) g row := ⟨by simpa [World.setCell] using h.size, fun k hk hg hr => (Below.heap_setCell b ⟨g, j, none⟩ u k hg).trans (h.block k hk hg hr)⟩
theorem Kp.of_below {a b : World} (h : Below a.heap.size a b) (g : Nat) (row : Option Nat) : Kp a b g row := ⟨h.size, fun k hk _ _ => h.block k hk⟩
theorem Kp.pre {a b c : World} {g : Nat} {row : Option Nat} (h : Below a.heap.size a b) (k : Kp b c g row) : Kp a c g row := ⟨Nat.le_trans h.size k.size, fun i hi hg hr => (k.block i (Nat.lt_of_lt_of_le hi h.size) hg hr).trans (h.block i hi)⟩
/-- A maker. -/
structure Mk (W : World) (g B : Nat) (v : Value) (bs : List Int) : Prop where
  p : W.heap[g]? = some (.cells #[v, .bool false] 39 (0, 0))
  o : W.ownsRow B 5 1 v bs.length (nums .u8 bs)
  b : B ≤ W.heap.size
section
variable {w : World} {g B : Nat} {v : Value} {bs : List Int}
theorem Mk.below {W1 : World} (h : Mk w g B v bs) (hb : Below w.heap.size w W1) : Mk W1 g B v bs := ⟨blk_below h.p hb, pw_own_below h.o hb, Nat.le_trans h.b hb.size⟩
set_option maxHeartbeats 4000000 in
set_option maxRecDepth 100000 in
theorem add_p {A0 : Option Addr} {c0 : Nat} {ys : List Int} (h : Mk w g B v bs) (hR : ReadsInt w .u8 A0 ys.length ys) (hc : ys.length ≤ c0) (hl : bs.length + ys.length ≤ 8192) : Calls Try.prog 26 #[.pointer (some ⟨g, 0, none⟩), .slice A0 ys.length c0] w fun e' w' => ∃ v', e' = .returned (.tuple #[]) ∧ Mk w' g B v' (bs ++ ys) ∧ Fd w w' g B ∧ Kp w w' g v.ownBlock := by
  have hu25 := Try.underlying25
  obtain ⟨A1, k1, rfl⟩ := own_slice h.o
  have H := Lib.hid h
  have HR := Lib.hid hR
  have HL := Lib.hid hl
  obtain ⟨i5, hi5, hz5⟩ := info5i
  have hcut := (print_take_int (P := Try.prog) (k := .u8) 25 5 Try.underlying25 hi5 hz5 A0 c0 ys (ys.length : Int) (by omega) (by omega) hc).1
  rw [Int.toNat_natCast, List.take_length] at hcut
  have p0 := (blk_cell h.p 0).trans rfl
  have hw1 : wrap64 (8192 - (bs.length : Int)) = 8192 - (bs.length : Int) := by unfold wrap64; omega
  have hmin : (if 8192 - (bs.length : Int) < (ys.length : Int) then 8192 - (bs.length : Int) else (ys.length : Int)) = (ys.length : Int) := by rw [if_neg (by omega)]
  clear h hR hc hi5 hz5
  go_enter Try.func26, Try.ntmps26
  go_upto_region 1 with fail
  try simp only [hw1, hmin]
  have e0 := (blk_cell (blk_drew H.out.p) 0).trans rfl
  clear p0 hw1 hmin
  refine start_ (n := 12) (S := fun W' => W'.cell? ⟨g, 0, none⟩ = some (.slice A1 bs.length k1)) (ds := [11]) #[false, false, false, false, false, false, false, false, false, false, false, false] (by kernel_rfl) rfl rfl e0 (fun hHeld => ?_)
  refine pure_ (i := 0) (N := some 14) (v := ?_) (a' := ?_) #[true, false, false, false, false, false, false, false, false, false, false, false] rfl rfl (by kernel_rfl) (fun _ _ _ h => h) (Or.inl ⟨by rfl, ?_⟩) ?_ ?_
  rotate_left
  · intro w'
    go_simp
    with_reducible rfl
  rotate_left
  · simp only [Act.put, List.setIfInBounds_toArray, List.set_cons_zero, List.set_cons_succ, i64_w, i32_w]
    try rfl
  refine pure_ (i := 1) (N := some 15) (v := ?_) (a' := ?_) #[true, true, false, false, false, false, false, false, false, false, false, false] rfl rfl (by kernel_rfl) (fun _ _ _ h => h) (Or.inl ⟨by rfl, ?_⟩) ?_ ?_
  rotate_left
  · intro w'
    go_simp
    with_reducible rfl
  rotate_left
  · simp only [Act.put, List.setIfInBounds_toArray, List.set_cons_zero, List.set_cons_succ, i64_w, i32_w]
    try rfl
  refine pure_ (i := 2) (N := some 16) (v := ?_) (a' := ?_) #[true, true, true, false, false, false, false, false, false, false, false, false] rfl rfl (by kernel_rfl) (fun _ _ _ h => h) (Or.inl ⟨by rfl, ?_⟩) ?_ ?_
  rotate_left
  · intro w'
    go_simp
    with_reducible rfl
  rotate_left
  · simp only [Act.put, List.setIfInBounds_toArray, List.set_cons_zero, List.set_cons_succ, i64_w, i32_w]
    try rfl
  refine pure_ (i := 3) (N := some 17) (v := ?_) (a' := ?_) #[true, true, true, true, false, false, false, false, false, false, false, false] rfl rfl (by kernel_rfl) (fun _ _ _ h => h) (Or.inl ⟨by rfl, ?_⟩) ?_ ?_
  rotate_left
  · intro w'
    go_simp
    with_reducible rfl
  rotate_left
  · simp only [Act.put, List.setIfInBounds_toArray, List.set_cons_zero, List.set_cons_succ, i64_w, i32_w]
    try rfl
  refine take_ (i := 4) (N := some 18) (v := ?_) (a' := ?_) #[true, true, true, true, true, false, false, false, false, false, false, false] rfl rfl (by kernel_rfl) (fun _ _ _ h => h) (Or.inl ⟨by rfl, ?_⟩) hHeld ?_ ?_
  rotate_left
  · rintro w' s0
    go_simp
    with_reducible rfl
  rotate_left
  · simp only [Act.put, List.setIfInBounds_toArray, List.set_cons_zero, List.set_cons_succ, i64_w, i32_w]
    try rfl
  refine pure_ (i := 5) (N := some 19) (v := ?_) (a' := ?_) #[true, true, true, true, true, true, false, false, false, false, false, false] rfl rfl (by kernel_rfl) (fun _ _ _ h => h) (Or.inl ⟨by rfl, ?_⟩) ?_ ?_
  rotate_left
  · intro w'
    go_simp
    with_reducible rfl
  rotate_left
  · simp only [Act.put, List.setIfInBounds_toArray, List.set_cons_zero, List.set_cons_succ, i64_w, i32_w]
    try rfl
  refine pure_ (i := 6) (N := some 20) (v := ?_) (a' := ?_) #[true, true, true, true, true, true, true, false, false, false, false, false] rfl rfl (by kernel_rfl) (fun _ _ _ h => h) (Or.inl ⟨by rfl, ?_⟩) ?_ ?_
  rotate_left
  · intro w'
    go_simp
    with_reducible rfl
  rotate_left
  · simp only [Act.put, List.setIfInBounds_toArray, List.set_cons_zero, List.set_cons_succ, i64_w, i32_w]
    try rfl
  refine pure_ (i := 7) (N := some 21) (v := ?_) (a' := ?_) #[true, true, true, true, true, true, true, true, false, false, false, false] rfl rfl (by kernel_rfl) (fun _ _ _ h => h) (Or.inl ⟨by rfl, ?_⟩) ?_ ?_
  rotate_left
  · intro w'
    go_simp
    with_reducible rfl
  rotate_left
  · simp only [Act.put, List.setIfInBounds_toArray, List.set_cons_zero, List.set_cons_succ, i64_w, i32_w]
    try rfl
  refine one_ (i := 8) (N := some 22) #[true, true, true, true, true, true, true, true, true, false, false, false] rfl rfl (by kernel_rfl) (by decide) (fun K hK => ?_)
  refine step_append_row (w0 := w.drew) ?_ B (.tmp 18) (.tmp 21) 25 5 .u8 1 rfl Try.underlying25 info5 (by decide) (.slice A1 bs.length k1) bs ys A0 ys.length c0 rfl rfl H.out.o (HR.out.below (below_drew (Below.refl _ _))) (Below.refl _ _) H.out.b (by have := HL.out; omega) ?_
  · rfl
  intro v5 w5 hown5 hb5 hg5 hat5
  obtain ⟨A5, k5, e5⟩ := own_slice hown5
  rw [List.length_append] at e5
  subst e5
  have hgn : some g ≠ (Value.slice A1 bs.length k1).ownBlock := fun e => by
    obtain ⟨cells, hc⟩ := own_typed H.out.o g e.symm
    have := H.out.p.symm.trans hc
    injection this with this
    injection this with _ e
    cases e
  have HP5 := Lib.hid (blk_grown (blk_drew H.out.p) hg5 hgn)
  have HO5 := Lib.hid hown5
  have HK5 : Hid (Kp w w5 g _) := Lib.hid ⟨hg5.size, fun k hk _ hr => hg5.block k hk hr⟩
  have HF5 := Lib.hid ((Fd.of_below (g := g) (below_drew (Below.refl B w))).trans (Fd.of_below (g := g) hb5))
  have HB5 := Lib.hid (Nat.le_trans H.out.b hg5.size)
  clear hown5 hb5 hg5 hat5 hgn
  refine hK.out _ _ ((blk_cell HP5.out 0).trans rfl) (fun hHeld => ?_)
  clear hK K
  refine norm_ (a' := ?_) ?_ ?_
  rotate_left
  · show Act.put _ (some 22) _ = _
    simp only [Act.put, List.setIfInBounds_toArray, List.set_cons_zero, List.set_cons_succ, i64_w, i32_w]
    try rfl
  refine pure_ (i := 9) (N := some 23) (v := ?_) (a' := ?_) #[true, true, true, true, true, true, true, true, true, true, false, false] rfl rfl (by kernel_rfl) (fun _ _ _ h => h) (Or.inl ⟨by rfl, ?_⟩) ?_ ?_
  rotate_left
  · intro w'
    go_simp
    with_reducible rfl
  rotate_left
  · simp only [Act.put, List.setIfInBounds_toArray, List.set_cons_zero, List.set_cons_succ, i64_w, i32_w]
    try rfl
  refine pure_ (i := 10) (N := some 24) (v := ?_) (a' := ?_) #[true, true, true, true, true, true, true, true, true, true, true, false] rfl rfl (by kernel_rfl) (fun _ _ _ h => h) (Or.inl ⟨by rfl, ?_⟩) ?_ ?_
  rotate_left
  · intro w'
    go_simp
    with_reducible rfl
  rotate_left
  · simp only [Act.put, List.setIfInBounds_toArray, List.set_cons_zero, List.set_cons_succ, i64_w, i32_w]
    try rfl
  have gs := (blk_cell HP5.out 0).trans rfl
  have gf := blk_frozen HP5.out 0
  refine last_ (i := 11) (N := none) #[true, true, true, true, true, true, true, true, true, true, true, true] rfl rfl (by kernel_rfl) (by decide) (fun K hK => ?_)
  refine skip_ (w1 := ?_) (by rfl) rfl ?_ ?_
  rotate_left
  · go_simp
    rfl
  refine hK.out _ _ ?_
  clear hK K gs gf
  refine done_ (by kernel_rfl) ?_
  clear hHeld e0
  have hp6 := blk_put HP5.out 0 (.slice A5 (bs.length + ys.length) k5) rfl
  have ho6 := own_setCell HO5.out (p := ⟨g, 0, none⟩) (fun e => by
    obtain ⟨cells, hc⟩ := own_typed HO5.out g e.symm
    have := HP5.out.symm.trans hc
    injection this with this
    injection this with _ e
    cases e) (.slice A5 (bs.length + ys.length) k5)
  have hf6 := HF5.out.set 0 (.slice A5 (bs.length + ys.length) k5)
  have hk6 := HK5.out.set 0 (.slice A5 (bs.length + ys.length) k5)
  have hb6 : B ≤ (w5.setCell ⟨g, 0, none⟩ (.slice A5 (bs.length + ys.length) k5)).heap.size := by simpa [World.setCell] using HB5.out
  generalize w5.setCell ⟨g, 0, none⟩ (.slice A5 (bs.length + ys.length) k5) = W6 at hp6 ho6 hf6 hb6 hk6 ⊢
  have HP6 := Lib.hid hp6
  have HO6 := Lib.hid ho6
  have HF6 := Lib.hid hf6
  have HK6 := Lib.hid hk6
  have HB6 := Lib.hid hb6
  have c1 := (blk_cell hp6 1).trans rfl
  have f1 := blk_frozen hp6 1
  clear hp6 ho6 hf6 hb6 hk6 HK5 HP5 HO5 HF5 HB5
  go_wp2
  go_end0
  exact ⟨_, rfl, ⟨blk_set HP6.out 1 _, own_setCell HO6.out (p := ⟨g, 1, none⟩) (fun e => by
    obtain ⟨cells, hc⟩ := own_typed HO6.out g e.symm
    have := HP6.out.symm.trans hc
    injection this with this
    injection this with _ e
    cases e) _, by simpa [World.setCell] using HB6.out⟩, HF6.out.set 1 _, HK6.out.set 1 _⟩
set_option maxHeartbeats 2000000 in
set_option maxRecDepth 100000 in
theorem mend_p (h : Mk w g B v bs) : Calls Try.prog 27 #[.pointer (some ⟨g, 0, none⟩)] w fun e' w' => e' = .returned (.tuple #[v, .bool true, .int .i64 0]) ∧ Mk w' g B (.slice none 0 0) [] ∧ w'.ownsRow B 5 1 v bs.length (nums .u8 bs) ∧ Fd w w' g B ∧ Kp w w' g none := by
  obtain ⟨A1, k1, rfl⟩ := own_slice h.o
  have H := Lib.hid h
  have hu39 := Try.underlying39
  have p0 := (blk_cell h.p 0).trans rfl
  have p1 := (blk_cell h.p 1).trans rfl
  clear h
  go_enter Try.func27, Try.ntmps27
  go_wp2_with fail
  go_quiet (fail)
  have hp1 := blk_drewN H.out.p nq
  have c0 := (blk_cell hp1 0).trans rfl
  have c1 := (blk_cell hp1 1).trans rfl
  have f0 := blk_frozen hp1 0
  have f1 := blk_frozen hp1 1
  have HP1 := Lib.hid hp1
  have HO1 := Lib.hid (pw_own_drewN H.out.o nq)
  have HF1 := Lib.hid (Fd.of_below (g := g) (pw_below_drewN (Below.refl B w) nq))
  have HK1 := Lib.hid (Kp.of_below (pw_below_drewN (Below.refl w.heap.size w) nq) g none)
  have HB1 : Hid (B ≤ (w.drewN nq).heap.size) := Lib.hid H.out.b
  generalize w.drewN nq = W1 at HP1 HO1 HF1 HK1 HB1 c0 c1 f0 f1 ⊢
  clear p0 p1 hp1
  go_wp2_with fail
  go_ret3
  refine ⟨rfl, ⟨blk_set (blk_set HP1.out 0 _) 1 _, own_nil _ _ _ _, by simpa [World.setCell] using HB1.out⟩, own_setCell (own_setCell HO1.out (p := ⟨g, 0, none⟩) ?_ _) (p := ⟨g, 1, none⟩) ?_ _, (HF1.out.set 0 _).set 1 _, (HK1.out.set 0 _).set 1 _⟩
  all_goals
    intro e
    obtain ⟨cells, hc⟩ := own_typed HO1.out g e.symm
    have := HP1.out.symm.trans hc
    injection this with this
    injection this with _ e
    cases e
set_option maxHeartbeats 2000000 in
set_option maxRecDepth 100000 in
theorem take_data {A0 : Option Addr} {c0 : Nat} {ys : List Int} (h : Mk w g B v bs) (hR : ReadsInt w .u8 A0 ys.length ys) (hc : ys.length ≤ c0) (hl : bs.length + ys.length ≤ 8192) (c o : Int) : Calls Try.prog 10 #[.pointer (some ⟨g, 0, none⟩), .agg #[.int .i64 1, .int .u8 c, .int .u8 o, .slice A0 ys.length c0]] w fun e' w' => ∃ v', e' = .returned (.tuple #[.slice none 0 0, .bool false, .int .i64 0]) ∧ Mk w' g B v' (bs ++ ys) ∧ Fd w w' g B ∧ Kp w w' g v.ownBlock := by
  have hu43 := Try.underlying43
  have hb := below_alloc (Below.refl w.heap.size w) (.cells #[.int .i64 1, .int .u8 c, .int .u8 o, .slice A0 ys.length c0] 43)
  have HA := Lib.hid (add_p (h.below hb) (hR.below hb) hc hl)
  have HBL := Lib.hid hb
  have HF := Lib.hid (Fd.of_below (g := g) (⟨hb.os, hb.tape, hb.output, hb.size, fun i hi => hb.block i (Nat.lt_of_lt_of_le hi h.b)⟩ : Below B _ _))
  clear h hR hb
  go_enter Try.func10, Try.ntmps10
  go_wp2_with (go_at_call 26; (with_reducible refine HA.out.mono ?_); rintro e w1 ⟨v', rfl, hm, hf, hkp⟩; have HM := Lib.hid hm; have HF1 := Lib.hid (HF.out.trans hf); have HK1 := Lib.hid (Kp.pre HBL.out hkp); clear hm hf hkp)
  go_ret3
  exact ⟨_, rfl, HM.out, HF1.out, HK1.out⟩
set_option maxHeartbeats 2000000 in
set_option maxRecDepth 100000 in
theorem take_end (h : Mk w g B v bs) (c o : Int) (u : Value) (hu : ∃ A n k, u = .slice A n k) : Calls Try.prog 10 #[.pointer (some ⟨g, 0, none⟩), .agg #[.int .i64 2, .int .u8 c, .int .u8 o, u]] w fun e' w' => e' = .returned (.tuple #[v, .bool true, .int .i64 0]) ∧ Mk w' g B (.slice none 0 0) [] ∧ w'.ownsRow B 5 1 v bs.length (nums .u8 bs) ∧ Fd w w' g B ∧ Kp w w' g none := by
  have hu43 := Try.underlying43
  obtain ⟨A0, n0, k0, rfl⟩ := hu
  have hb := below_alloc (Below.refl w.heap.size w) (.cells #[.int .i64 2, .int .u8 c, .int .u8 o, .slice A0 n0 k0] 43)
  have HA := Lib.hid (mend_p (h.below hb))
  have HBL := Lib.hid hb
  have HF := Lib.hid (Fd.of_below (g := g) (⟨hb.os, hb.tape, hb.output, hb.size, fun i hi => hb.block i (Nat.lt_of_lt_of_le hi h.b)⟩ : Below B _ _))
  obtain ⟨A1, k1, rfl⟩ := own_slice h.o
  clear h hb
  go_enter Try.func10, Try.ntmps10
  go_wp2_with (go_at_call 27; (with_reducible refine HA.out.mono ?_); rintro e w1 ⟨rfl, hm, ho, hf, hkp⟩; have HM := Lib.hid hm; have HO := Lib.hid ho; have HF1 := Lib.hid (HF.out.trans hf); have HK1 := Lib.hid (Kp.pre HBL.out hkp); clear hm ho hf hkp)
  go_ret3
  exact ⟨rfl, HM.out, HO.out, HF1.out, HK1.out⟩
set_option maxHeartbeats 2000000 in
set_option maxRecDepth 100000 in
theorem take_verb (w : World) (g : Nat) (c o : Int) (u : Value) (hu : ∃ A n k, u = .slice A n k) : Calls Try.prog 10 #[.pointer (some ⟨g, 0, none⟩), .agg #[.int .i64 4, .int .u8 c, .int .u8 o, u]] w fun e' w' => e' = .returned (.tuple #[.slice none 0 0, .bool false, .int .i64 0]) ∧ Below w.heap.size w w' := by
  have hu43 := Try.underlying43
  obtain ⟨A0, n0, k0, rfl⟩ := hu
  go_enter Try.func10, Try.ntmps10
  go_wp2
  go_ret3
  exact ⟨rfl, below_alloc (Below.refl _ _) _⟩
end
end Go.Proofs.Ytgjicigagfhgmaa.H
