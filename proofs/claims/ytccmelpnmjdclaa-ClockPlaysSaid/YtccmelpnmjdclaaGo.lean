/- Clock.Go. -/
import Derived.Test.YtccmelpnmjdclaaSet
import Derived.BigQuiet
namespace Go.Proofs.Ytccmelpnmjdclaa.H
open Go.RowKit Go.Proofs.YtccmelpnmjdclaaW.PrintWords Go.Proofs.YtccmelpnmjdclaaW.PrintLast
set_option linter.unusedVariables false
set_option linter.unusedSimpArgs false
/-- The time behind a step. -/
def goN (now ticks : Int) : Int := now + min (max ticks 0) (1099511627776 - now)
def rungA (xs : List A.S62) (n : Int) : List A.S62 := xs.takeWhile (fun x => decide (x.f1 ≤ n))
/-- What rings; what is left. -/
def rung (xs : List A.S62) (n : Int) : List Int := (rungA xs n).map (·.f0)
def leftA (xs : List A.S62) (n : Int) : List A.S62 := xs.dropWhile (fun x => decide (x.f1 ≤ n))
theorem rung_at : ∀ (xs : List A.S62) (n : Int) (k : Nat), k ≤ xs.length → (∀ j : Nat, j < k → (A.rd_T62 xs (j : Int)).f1 ≤ n) → (k < xs.length → ¬ (A.rd_T62 xs (k : Int)).f1 ≤ n) → rungA xs n = xs.take k ∧ leftA xs n = xs.drop k
  | [], n, k, hk, _, _ => by
    obtain rfl : k = 0 := by simpa using hk
    exact ⟨rfl, rfl⟩
  | x :: xs, n, 0, hk, h1, h2 => by
    have h : ¬ x.f1 ≤ n := h2 (by simp)
    simp [rungA, leftA, h]
  | x :: xs, n, k + 1, hk, h1, h2 => by
    have h : x.f1 ≤ n := h1 0 (by omega)
    obtain ⟨i1, i2⟩ := rung_at xs n k (by simpa using hk) (fun j hj => by have := h1 (j + 1) (by omega); simpa [A.rd_T62] using this) (fun hk2 => by have := h2 (by simpa using hk2); simpa [A.rd_T62] using this)
    unfold rungA at i1 ⊢
    unfold leftA at i2 ⊢
    rw [List.takeWhile_cons, List.dropWhile_cons]
    simp [h, i1, i2]
theorem Rw.cut {W : World} {R off cap : Nat} {x : A.S62} {xs : List A.S62} (h : Rw W (.slice (some ⟨R, off, none⟩) (xs.length + 1) cap) (x :: xs)) : (cap ≠ 1 → Rw W (.slice (some ⟨R, off + 2, none⟩) xs.length (cap - 1)) xs) ∧ (cap = 1 → Rw W (.slice (some ⟨R, off, none⟩) xs.length (cap - 1)) xs) ∧ W.cell? ⟨R, off, none⟩ = some (.int .i64 x.f0) ∧ W.cell? ⟨R, off + 1, none⟩ = some (.int .i64 x.f1) ∧ 1 ≤ cap := by
  rcases h with ⟨h, _⟩ | ⟨R', off', cap', pre, post, hv, hb, ho, hp, hc⟩
  · cases h
  · obtain ⟨⟨rfl, rfl⟩, rfl⟩ : (R = R' ∧ off = off') ∧ cap = cap' := by simpa using hv
    simp only [List.length_cons] at hp hc
    refine ⟨fun h1 => .inr ⟨R, off + 2, cap - 1, pre ++ al x, post, rfl, ?_, by rw [List.length_append, ho]; rfl, by omega, by omega⟩, fun h1 => .inr ⟨R, off, cap - 1, pre, flatA (x :: xs) ++ post, rfl, ?_, ho, ?_, by omega⟩, ?_, ?_, by omega⟩
    · rw [hb, flatA_cons]
      congr 2
      simp [al]
    · have hn : xs = [] := List.eq_nil_of_length_eq_zero (by omega)
      subst hn
      exact hb
    · omega
    · rw [blk_cell hb]
      simp [flatA_cons, ← ho]
    · rw [blk_cell hb]
      simp only [List.getElem?_toArray]
      rw [List.getElem?_append_right (by omega), show off + 1 - pre.length = 1 by omega]
      rfl
theorem info3 : (Try.prog.info? 3).map (fun i => (i.zero, i.size, i.bytes)) = some (some (.int .i64 0), 1, 8) := by kernel_rfl
def slLen : Value → Nat
  | .slice _ n _ => n
  | _ => 0
theorem IsC.now {W : World} {g : Nat} {m : Int} {v : Value} {xs : List A.S62} (h : IsC W g m v xs) (n : Int) : IsC (W.setCell ⟨g, 0, none⟩ (.int .i64 n)) g n v xs :=
  ⟨blk_set h.p 0 _, h.r.keep (fun R hR => Below.heap_setCell _ _ _ R (fun e => h.r.ne h.p (by rw [hR]; exact congrArg some e))), h.l⟩
theorem IsC.drew {W : World} {g : Nat} {m : Int} {v : Value} {xs : List A.S62} (h : IsC W g m v xs) : IsC W.drew g m v xs := ⟨h.p, h.r.keep (fun _ _ => rfl), h.l⟩
section
variable {w : World} {g : Nat} {now : Int} {v : Value} {xs : List A.S62}
/-- Where Go stands: k have rung. -/
structure GoI (w wr : World) (g : Nat) (n : Int) (v : Value) (xs : List A.S62) (k : Nat) (vo : Value) : Prop where
  c : ∃ vk, IsC wr g n vk (xs.drop k) ∧ vk.ownBlock = v.ownBlock
  o : wr.ownsRow w.heap.size 3 1 vo ((xs.take k).map (·.f0)).length (nums .i64 ((xs.take k).map (·.f0)))
  f : Frm w wr g none
theorem GoI.drewN {wr : World} {n : Int} {k : Nat} {vo : Value} (h : GoI w wr g n v xs k vo) (m : Nat) : GoI w (wr.drewN m) g n v xs k vo := by
  obtain ⟨⟨vk, h1, h2⟩, h3, h4⟩ := h
  exact ⟨⟨vk, ⟨h1.p, h1.r.keep (fun _ _ => rfl), h1.l⟩, h2⟩, h3, ⟨h4.os, h4.tape, h4.output, h4.size, h4.block⟩⟩
theorem GoI.later {wr : World} {n : Int} {k : Nat} {vo : Value} {o : Obj} (h : GoI w wr g n v xs k vo) : GoI w (wr.alloc o) g n v xs k vo := by
  obtain ⟨⟨vk, h1, h2⟩, h3, h4⟩ := h
  have hb := below_alloc (Below.refl wr.heap.size wr) o
  exact ⟨⟨vk, h1.later hb, h2⟩, own_alloc h3 o, h4.trans (Frm.of_below hb g none) (.inl rfl)⟩
theorem GoI.step {W w8 : World} {n : Int} {k : Nat} {vo v8 vk' : Value} (hG : GoI w W g n v xs k vo) (hgl : g < w.heap.size) (hvl : ∀ R, v.ownBlock = some R → R < w.heap.size) (hlt : k < xs.length)
    (hnew : w8.ownsRow w.heap.size 3 1 v8 (((xs.take k).map (·.f0)) ++ [(xs[k]).f0]).length (nums .i64 (((xs.take k).map (·.f0)) ++ [(xs[k]).f0]))) (hg8 : W.grownBy w8 vo.ownBlock) (hat : v8.ownBlock = vo.ownBlock ∨ ∃ b, v8.ownBlock = some b ∧ W.heap.size ≤ b)
    (hr : Rw W vk' (xs.drop (k + 1))) (hown : vk'.ownBlock = v.ownBlock) : GoI w (w8.setCell ⟨g, 1, none⟩ vk') g n v xs (k + 1) v8 := by
  obtain ⟨⟨vk, hI, hvk⟩, ho, hf⟩ := hG
  have hb5 := own_base ho
  have hgo : some g ≠ vo.ownBlock := fun e => by have := hb5 g e.symm; omega
  have hp8 := blk_grown hI.p hg8 hgo
  have hg8' : some g ≠ v8.ownBlock := by
    rcases hat with h | ⟨b, h, hb⟩
    · rw [h]; exact hgo
    · rw [h]
      intro e
      have := hf.size
      injection e with e
      omega
  refine ⟨⟨vk', ⟨blk_set hp8 1 _, (hr.keep (fun R hR => ?_)).keep (fun R hR => Below.heap_setCell _ _ _ R ?_), ?_⟩, hown⟩, ?_, ?_⟩
  · have h1 := hvl R (hown.symm.trans hR)
    refine hg8.block R (hr.lt R hR) (fun e => ?_)
    have := hb5 R e.symm
    omega
  · rintro rfl
    exact hI.r.ne hI.p (by rw [hvk, ← hown]; exact hR)
  · have := hI.l
    rw [List.length_drop] at this ⊢
    omega
  · have e : (xs.take (k + 1)).map (·.f0) = ((xs.take k).map (·.f0)) ++ [(xs[k]).f0] := by
      rw [List.take_succ_eq_append_getElem hlt, List.map_append]
      rfl
    rw [e]
    exact own_setCell hnew hg8' _
  · exact (hf.trans (Frm.of_grown hg8) (.inr (fun R e => hb5 R e))).set 1 _
theorem GoI.fin {W : World} {n : Int} {k : Nat} {vo : Value} (hG : GoI w W g n v xs k vo) (hk : k ≤ xs.length) (hJ : ∀ j : Nat, j < k → (A.rd_T62 xs (j : Int)).f1 ≤ n) (hN : k < xs.length → ¬ (A.rd_T62 xs (k : Int)).f1 ≤ n) : ∃ vo' v', Ending.returned vo = .returned vo' ∧ W.ownsRow w.heap.size 3 1 vo' (rung xs n).length (nums .i64 (rung xs n)) ∧ IsC W g n v' (leftA xs n) ∧ Frm w W g none ∧ v'.ownBlock = v.ownBlock := by
  obtain ⟨e1, e2⟩ := rung_at xs n k hk hJ hN
  obtain ⟨⟨vk, h1, h2⟩, h3, h4⟩ := hG
  refine ⟨vo, vk, rfl, ?_, ?_, h4, h2⟩
  · rw [rung, e1]; exact h3
  · rw [e2]; exact h1
set_option maxHeartbeats 2000000 in
set_option maxRecDepth 100000 in
theorem go_p (hI : IsC w g now v xs) (h0 : 0 ≤ now) (h1 : now ≤ 1099511627776) (ticks : Int) : Calls Try.prog 13 #[.pointer (some ⟨g, 0, none⟩), .int .i64 ticks] w fun e w' => ∃ vo v', e = .returned vo ∧ w'.ownsRow w.heap.size 3 1 vo (rung xs (goN now ticks)).length (nums .i64 (rung xs (goN now ticks))) ∧ IsC w' g (goN now ticks) v' (leftA xs (goN now ticks)) ∧ Frm w w' g none ∧ v'.ownBlock = v.ownBlock := by
  have HI := Lib.hid hI
  have hl := hI.l
  have c0 := (blk_cell hI.p 0).trans rfl
  have hm1 : wrap64 (1099511627776 - now) = 1099511627776 - now := by unfold wrap64; omega
  obtain ⟨tk, htk⟩ : ∃ tk, (if ticks < 0 then 0 else ticks) = tk := ⟨_, rfl⟩
  obtain ⟨tm, hmn⟩ : ∃ tm, (if 1099511627776 - now < tk then 1099511627776 - now else tk) = tm := ⟨_, rfl⟩
  have hm2 : wrap64 (now + tm) = goN now ticks := by
    unfold wrap64 goN
    rw [← hmn, ← htk]
    (repeat' split) <;> omega
  clear hI
  go_enter Try.func13, Try.ntmps13
  go_wp2_with fail
  refine start_ (n := 16) (S := fun W' => W'.cell? ⟨g, 0, none⟩ = some (.int .i64 now)) (ds := [15]) #[false, false, false, false, false, false, false, false, false, false, false, false, false, false, false, false] (by kernel_rfl) rfl rfl c0 (fun hHeld => ?_)
  refine pure_ (i := 0) (N := some 6) (v := ?_) (a' := ?_) #[true, false, false, false, false, false, false, false, false, false, false, false, false, false, false, false] rfl rfl (by kernel_rfl) (fun _ _ _ h => h) (Or.inl ⟨by rfl, ?_⟩) ?_ ?_
  rotate_left
  · intro w'
    go_simp
    with_reducible rfl
  rotate_left
  · simp only [Act.put, List.setIfInBounds_toArray, List.set_cons_zero, List.set_cons_succ, i64_w, i32_w]
    try rfl
  refine pure_ (i := 1) (N := some 7) (v := ?_) (a' := ?_) #[true, true, false, false, false, false, false, false, false, false, false, false, false, false, false, false] rfl rfl (by kernel_rfl) (fun _ _ _ h => h) (Or.inl ⟨by rfl, ?_⟩) ?_ ?_
  rotate_left
  · intro w'
    go_simp
    with_reducible rfl
  rotate_left
  · simp only [Act.put, List.setIfInBounds_toArray, List.set_cons_zero, List.set_cons_succ, i64_w, i32_w]
    try rfl
  refine pure_ (i := 2) (N := some 8) (v := ?_) (a' := ?_) #[true, true, true, false, false, false, false, false, false, false, false, false, false, false, false, false] rfl rfl (by kernel_rfl) (fun _ _ _ h => h) (Or.inl ⟨by rfl, ?_⟩) ?_ ?_
  rotate_left
  · intro w'
    go_simp
    with_reducible rfl
  rotate_left
  · simp only [Act.put, List.setIfInBounds_toArray, List.set_cons_zero, List.set_cons_succ, i64_w, i32_w]
    try rfl
  refine take_ (i := 3) (N := some 9) (v := ?_) (a' := ?_) #[true, true, true, true, false, false, false, false, false, false, false, false, false, false, false, false] rfl rfl (by kernel_rfl) (fun _ _ _ h => h) (Or.inl ⟨by rfl, ?_⟩) hHeld ?_ ?_
  rotate_left
  · rintro w' s0
    go_simp
    with_reducible rfl
  rotate_left
  · simp only [Act.put, List.setIfInBounds_toArray, List.set_cons_zero, List.set_cons_succ, i64_w, i32_w]
    try rfl
  refine pure_ (i := 4) (N := some 10) (v := ?_) (a' := ?_) #[true, true, true, true, true, false, false, false, false, false, false, false, false, false, false, false] rfl rfl (by kernel_rfl) (fun _ _ _ h => h) (Or.inl ⟨by rfl, ?_⟩) ?_ ?_
  rotate_left
  · intro w'
    go_simp
    with_reducible rfl
  rotate_left
  · simp only [Act.put, List.setIfInBounds_toArray, List.set_cons_zero, List.set_cons_succ, i64_w, i32_w]
    try rfl
  refine pure_ (i := 5) (N := some 11) (v := ?_) (a' := ?_) #[true, true, true, true, true, true, false, false, false, false, false, false, false, false, false, false] rfl rfl (by kernel_rfl) (fun _ _ _ h => h) (Or.inl ⟨by rfl, ?_⟩) ?_ ?_
  rotate_left
  · intro w'
    go_simp
    with_reducible rfl
  rotate_left
  · simp only [Act.put, List.setIfInBounds_toArray, List.set_cons_zero, List.set_cons_succ, i64_w, i32_w]
    try rfl
  refine pure_ (i := 6) (N := some 12) (v := ?_) (a' := ?_) #[true, true, true, true, true, true, true, false, false, false, false, false, false, false, false, false] rfl rfl (by kernel_rfl) (fun _ _ _ h => h) (Or.inl ⟨by rfl, ?_⟩) ?_ ?_
  rotate_left
  · intro w'
    go_simp
    with_reducible rfl
  rotate_left
  · simp only [Act.put, List.setIfInBounds_toArray, List.set_cons_zero, List.set_cons_succ, i64_w, i32_w]
    try rfl
  refine pure_ (i := 7) (N := some 13) (v := ?_) (a' := ?_) #[true, true, true, true, true, true, true, true, false, false, false, false, false, false, false, false] rfl rfl (by kernel_rfl) (fun _ _ _ h => h) (Or.inl ⟨by rfl, ?_⟩) ?_ ?_
  rotate_left
  · intro w'
    go_simp
    with_reducible rfl
  rotate_left
  · simp only [Act.put, List.setIfInBounds_toArray, List.set_cons_zero, List.set_cons_succ, i64_w, i32_w]
    try rfl
  refine pure_ (i := 8) (N := some 14) (v := ?_) (a' := ?_) #[true, true, true, true, true, true, true, true, true, false, false, false, false, false, false, false] rfl rfl (by kernel_rfl) (fun _ _ _ h => h) (Or.inl ⟨by rfl, ?_⟩) ?_ ?_
  rotate_left
  · intro w'
    go_simp
    with_reducible rfl
  rotate_left
  · simp only [Act.put, List.setIfInBounds_toArray, List.set_cons_zero, List.set_cons_succ, i64_w, i32_w]
    try rfl
  refine take_ (i := 9) (N := some 15) (v := ?_) (a' := ?_) #[true, true, true, true, true, true, true, true, true, true, false, false, false, false, false, false] rfl rfl (by kernel_rfl) (fun _ _ _ h => h) (Or.inl ⟨by rfl, ?_⟩) hHeld ?_ ?_
  rotate_left
  · rintro w' s0
    go_simp
    with_reducible rfl
  rotate_left
  · simp only [Act.put, List.setIfInBounds_toArray, List.set_cons_zero, List.set_cons_succ, i64_w, i32_w]
    try rfl
  refine pure_ (i := 10) (N := some 16) (v := ?_) (a' := ?_) #[true, true, true, true, true, true, true, true, true, true, true, false, false, false, false, false] rfl rfl (by kernel_rfl) (fun _ _ _ h => h) (Or.inl ⟨by rfl, ?_⟩) ?_ ?_
  rotate_left
  · intro w'
    go_simp
    with_reducible rfl
  rotate_left
  · simp only [Act.put, List.setIfInBounds_toArray, List.set_cons_zero, List.set_cons_succ, i64_w, i32_w]
    try rfl
  refine pure_ (i := 11) (N := some 17) (v := ?_) (a' := ?_) #[true, true, true, true, true, true, true, true, true, true, true, true, false, false, false, false] rfl rfl (by kernel_rfl) (fun _ _ _ h => h) (Or.inl ⟨by rfl, ?_⟩) ?_ ?_
  rotate_left
  · intro w'
    go_simp
    with_reducible rfl
  rotate_left
  · simp only [Act.put, List.setIfInBounds_toArray, List.set_cons_zero, List.set_cons_succ, i64_w, i32_w]
    try rfl
  refine pure_ (i := 12) (N := some 18) (v := ?_) (a' := ?_) #[true, true, true, true, true, true, true, true, true, true, true, true, true, false, false, false] rfl rfl (by kernel_rfl) (fun _ _ _ h => h) (Or.inl ⟨by rfl, ?_⟩) ?_ ?_
  rotate_left
  · intro w'
    go_simp
    with_reducible rfl
  rotate_left
  · simp only [Act.put, List.setIfInBounds_toArray, List.set_cons_zero, List.set_cons_succ, i64_w, i32_w]
    try rfl
  refine pure_ (i := 13) (N := some 19) (v := ?_) (a' := ?_) #[true, true, true, true, true, true, true, true, true, true, true, true, true, true, false, false] rfl rfl (by kernel_rfl) (fun _ _ _ h => h) (Or.inl ⟨by rfl, ?_⟩) ?_ ?_
  rotate_left
  · intro w'
    go_simp
    with_reducible rfl
  rotate_left
  · simp only [Act.put, List.setIfInBounds_toArray, List.set_cons_zero, List.set_cons_succ, i64_w, i32_w]
    try rfl
  refine pure_ (i := 14) (N := some 20) (v := ?_) (a' := ?_) #[true, true, true, true, true, true, true, true, true, true, true, true, true, true, true, false] rfl rfl (by kernel_rfl) (fun _ _ _ h => h) (Or.inl ⟨by rfl, ?_⟩) ?_ ?_
  rotate_left
  · intro w'
    go_simp
    with_reducible rfl
  rotate_left
  · simp only [Act.put, List.setIfInBounds_toArray, List.set_cons_zero, List.set_cons_succ, i64_w, i32_w]
    try rfl
  have gs := c0
  have gf := blk_frozen HI.out.p 0
  refine last_ (i := 15) (N := none) #[true, true, true, true, true, true, true, true, true, true, true, true, true, true, true, true] rfl rfl (by kernel_rfl) (by decide) (fun K hK => ?_)
  refine skip_ (w1 := ?_) (by rfl) rfl ?_ ?_
  rotate_left
  · go_simp
    rfl
  refine hK.out _ _ ?_
  clear hK K gs gf
  refine done_ (by kernel_rfl) ?_
  clear hHeld c0
  simp only [htk, hmn, hm1, hm2]
  have hf1 : Frm w (w.setCell ⟨g, 0, none⟩ (.int .i64 (goN now ticks))).drew g none := ((Frm.refl w g none).set 0 _).drew
  have hI2 : IsC (w.setCell ⟨g, 0, none⟩ (.int .i64 (goN now ticks))).drew g (goN now ticks) v xs := (HI.out.now _).drew
  obtain ⟨n, hn⟩ : ∃ n, goN now ticks = n := ⟨_, rfl⟩
  rw [hn] at hf1 hI2 ⊢
  have HN := Lib.hid hn
  have hgl := blk_lt HI.out.p
  have HVL := Lib.hid (fun R (h : v.ownBlock = some R) => HI.out.r.lt R h)
  generalize (w.setCell ⟨g, 0, none⟩ (.int .i64 n)).drew = w1 at hf1 hI2 ⊢
  have HG1 := Lib.hid (show GoI w w1 g n v xs 0 (.slice none 0 0) from ⟨⟨v, hI2, rfl⟩, own_nil _ _ _ _, hf1⟩)
  clear hf1 hI2 hn hm1 hm2 hmn htk HI h0 h1
  go_wp2_with fail
  go_loopw [5] (fun v5 wr => ∃ k : Nat, k ≤ xs.length ∧ Hid (∀ j : Nat, j < k → (A.rd_T62 xs (j : Int)).f1 ≤ n) ∧ Hid (GoI w wr g n v xs k v5)) (fun v5 _ => xs.length - slLen v5)
  case atStart => exact ⟨0, Nat.zero_le _, Lib.hid (fun j h => absurd h (Nat.not_lt_zero j)), HG1⟩
  case round =>
    obtain ⟨k, hk, HJ, HG⟩ := hrel
    obtain ⟨⟨vk, hIk, hvk⟩, ho, hf⟩ := HG.out
    have hll : ((xs.take k).map (·.f0)).length = k := by rw [List.length_map, List.length_take]; omega
    obtain ⟨ids, hids⟩ : ∃ ids, (xs.take k).map (·.f0) = ids := ⟨_, rfl⟩
    rw [hids] at ho hll
    obtain ⟨A5, c5, rfl⟩ := own_slice ho
    have c0 := (blk_cell hIk.p 0).trans rfl
    have c1 := (blk_cell hIk.p 1).trans rfl
    by_cases hlt : k < xs.length
    · have hdr := List.drop_eq_getElem_cons hlt
      have hrd := rd_at xs k hlt
      have HGA := Lib.hid (fun nq => HG.out.drewN nq)
      obtain ⟨x, hx⟩ : ∃ x, xs[k] = x := ⟨_, rfl⟩
      have HST := Lib.hid (fun (W w8 : World) (v8 vk' : Value) (h1 : GoI w W g n v xs k (.slice A5 ids.length c5)) (h2 : w8.ownsRow w.heap.size 3 1 v8 (ids.length + 1) (nums .i64 (ids ++ [x.f0]))) (h3 : W.grownBy w8 (Value.slice A5 ids.length c5).ownBlock) (h4 : v8.ownBlock = (Value.slice A5 ids.length c5).ownBlock ∨ ∃ b, v8.ownBlock = some b ∧ W.heap.size ≤ b) (h5 : Rw W vk' (xs.drop (k + 1))) (h6 : vk'.ownBlock = v.ownBlock) => GoI.step h1 hgl HVL.out hlt (by rw [hids, hx, List.length_append]; exact h2) h3 h4 h5 h6)
      obtain ⟨ys, hys⟩ : ∃ ys, xs.drop (k + 1) = ys := ⟨_, rfl⟩
      rw [hys] at HST
      rw [hx, hys] at hdr
      rw [hdr] at hIk
      have hrk := hIk.r
      rcases hrk with ⟨_, hnil⟩ | ⟨R, off, cap, pre, post, rfl, hb, ho2, hp2, hc2⟩
      · cases hnil
      · obtain ⟨q1, q2, d0, d1, hcap⟩ := Rw.cut hIk.r
        clear hb ho2 hp2 hc2
        obtain ⟨x0, x1⟩ := x
        clear HG
        have HID := Lib.hid hll
        clear hll
        have HK := Lib.hid (show k + 1 ≤ xs.length from hlt)
        by_cases hle : x1 ≤ n
        · have HO := Lib.hid ho
          have HJ2 : Hid (Hid (∀ j : Nat, j < k + 1 → (A.rd_T62 xs (j : Int)).f1 ≤ n)) := Lib.hid (Lib.hid (fun j hj => by
              rcases Nat.lt_or_ge j k with h | h
              · exact HJ.out j h
              · obtain rfl : j = k := by omega
                rw [hrd, hx]; exact hle))
          have dle : decide (x1 ≤ n) = true := decide_eq_true hle
          by_cases hcap1 : cap = 1
          · subst hcap1
            have HQ0 := Lib.hid (q2 rfl)
            have HVK : Hid ((Value.slice (some ⟨R, off + 0, none⟩) ys.length (0)).ownBlock = v.ownBlock) := Lib.hid hvk
            clear q1 q2 hvk
            go_wp2_with fail
            go_quiet (fail)
            have hga := HGA.out nq
            have ho9 := pw_own_drewN HO.out nq
            have e1 : (wr.drewN nq).cell? ⟨g, 1, none⟩ = _ := c1
            have b0 : (wr.drewN nq).cell? ⟨R, off, none⟩ = _ := d0
            have hp9 : (wr.drewN nq).heap[g]? = _ := hIk.p
            have hq9 := HQ0.out.keep (W1 := wr.drewN nq) (fun _ _ => rfl)
            have hsz : w.heap.size ≤ (wr.drewN nq).heap.size := hf.size
            clear hrd hdr hx hys hids ho hf hIk c0 c1 d0 d1 HO HQ0
            generalize wr.drewN nq = W9 at hga ho9 e1 b0 hp9 hq9 hsz ⊢
            have HGA9 := Lib.hid hga
            have HP9 := Lib.hid hp9
            have HO9 := Lib.hid ho9
            have HQ9 := Lib.hid hq9
            have HSZ := Lib.hid hsz
            have HGO := Lib.hid (show some g ≠ (Value.slice A5 ids.length c5).ownBlock from fun e => by have := own_base ho9 g e.symm; omega)
            clear hga ho9 hp9 hq9 hsz
            go_wp2_with (at_builtin; refine print_append_num (w0 := W9) w.heap.size rfl (.tmp 41) (.tmp 49) 41 3 .i64 8 rfl Try.underlying41 info3 (by decide) (.slice A5 ids.length c5) ids x0 rfl rfl HO9.out (Below.refl _ _) HSZ.out (by have := HID.out; have := HK.out; omega) ?_; intro v8 w8 hown8 hb8 hg8 hat8; rw [List.length_append, List.length_singleton] at hown8; obtain ⟨A8, m8, rfl⟩ := own_slice hown8; have hp8 := blk_grown HP9.out hg8 HGO.out; have g1 := (blk_cell hp8 1).trans rfl; have f1 := blk_frozen hp8 1; have HW8 := Lib.hid hown8; have HG8 := Lib.hid hg8; have HAT8 := Lib.hid hat8; clear hown8 hb8 hg8 hat8 hp8 e1 b0)
            go_roundw
            case rel => exact ⟨k + 1, HK.out, HJ2.out, Lib.hid (HST.out _ _ _ _ HGA9.out HW8.out HG8.out HAT8.out HQ9.out HVK.out)⟩
            case measure => simp [slLen]; have := HK.out; have := HID.out; omega
          · have hcap2 : ¬ cap - 1 = 0 := by omega
            have HQ0 := Lib.hid (q1 hcap1)
            have HVK : Hid ((Value.slice (some ⟨R, off + 2, none⟩) ys.length (cap - 1)).ownBlock = v.ownBlock) := Lib.hid hvk
            clear q1 q2 hvk
            go_wp2_with fail
            go_quiet (fail)
            have hga := HGA.out nq
            have ho9 := pw_own_drewN HO.out nq
            have e1 : (wr.drewN nq).cell? ⟨g, 1, none⟩ = _ := c1
            have b0 : (wr.drewN nq).cell? ⟨R, off, none⟩ = _ := d0
            have hp9 : (wr.drewN nq).heap[g]? = _ := hIk.p
            have hq9 := HQ0.out.keep (W1 := wr.drewN nq) (fun _ _ => rfl)
            have hsz : w.heap.size ≤ (wr.drewN nq).heap.size := hf.size
            clear hrd hdr hx hys hids ho hf hIk c0 c1 d0 d1 HO HQ0
            generalize wr.drewN nq = W9 at hga ho9 e1 b0 hp9 hq9 hsz ⊢
            have HGA9 := Lib.hid hga
            have HP9 := Lib.hid hp9
            have HO9 := Lib.hid ho9
            have HQ9 := Lib.hid hq9
            have HSZ := Lib.hid hsz
            have HGO := Lib.hid (show some g ≠ (Value.slice A5 ids.length c5).ownBlock from fun e => by have := own_base ho9 g e.symm; omega)
            clear hga ho9 hp9 hq9 hsz
            go_wp2_with (at_builtin; refine print_append_num (w0 := W9) w.heap.size rfl (.tmp 41) (.tmp 49) 41 3 .i64 8 rfl Try.underlying41 info3 (by decide) (.slice A5 ids.length c5) ids x0 rfl rfl HO9.out (Below.refl _ _) HSZ.out (by have := HID.out; have := HK.out; omega) ?_; intro v8 w8 hown8 hb8 hg8 hat8; rw [List.length_append, List.length_singleton] at hown8; obtain ⟨A8, m8, rfl⟩ := own_slice hown8; have hp8 := blk_grown HP9.out hg8 HGO.out; have g1 := (blk_cell hp8 1).trans rfl; have f1 := blk_frozen hp8 1; have HW8 := Lib.hid hown8; have HG8 := Lib.hid hg8; have HAT8 := Lib.hid hat8; clear hown8 hb8 hg8 hat8 hp8 e1 b0)
            go_roundw
            case rel => exact ⟨k + 1, HK.out, HJ2.out, Lib.hid (HST.out _ _ _ _ HGA9.out HW8.out HG8.out HAT8.out HQ9.out HVK.out)⟩
            case measure => simp [slLen]; have := HK.out; have := HID.out; omega
        · have hle' : decide (x1 ≤ n) = false := decide_eq_false hle
          have HEND := Lib.hid (fun nq => HGA.out nq)
          go_wp2_with fail
          go_quiet (fail)
          go_wp2_with fail
          go_ret
          have hga := HGA.out nq
          rw [HN.out]
          exact hga.fin hk HJ.out (fun _ => by rw [hrd, hx]; exact Int.not_le.2 hle)
    · clear hll
      obtain rfl : k = xs.length := by omega
      obtain ⟨A0, c9, rfl, _, _⟩ := hIk.r.C (by simp)
      have hl0 : (xs.drop xs.length).length = 0 := by simp
      rw [hl0] at c1
      go_wp2_with fail
      go_quiet (fail)
      go_wp2_with fail
      go_ret
      rw [HN.out]
      exact (HG.out.drewN nq).fin (Nat.le_refl _) HJ.out (fun h => absurd h (Nat.lt_irrefl _))
end
end Go.Proofs.Ytccmelpnmjdclaa.H
