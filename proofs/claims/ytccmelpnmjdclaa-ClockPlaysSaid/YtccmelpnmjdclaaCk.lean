/- A clock, its alarms in order; the methods' contracts. -/
import Derived.Test.YtccmelpnmjdclaaSmall
namespace Go.Proofs.Ytccmelpnmjdclaa.H
open Go.RowKit Go.Proofs.YtccmelpnmjdclaaW.PrintWords Go.Proofs.YtccmelpnmjdclaaW.PrintLast
set_option linter.unusedVariables false
set_option linter.unusedSimpArgs false
/-- A clock's alarms, as they stand. -/
structure Okk (now : Int) (xs : List A.S62) : Prop where
  s : xs.Pairwise ltA
  d : xs.Pairwise (fun a b => a.f0 ≠ b.f0)
  n0 : 0 ≤ now
  n1 : now ≤ 1099511627776
  b : ∀ x ∈ xs, now ≤ x.f1 ∧ x.f1 ≤ 1099511627776
  l : xs.length ≤ 64
structure Ck (W : World) (g : Nat) (R : Option Nat) (now : Int) (xs : List A.S62) : Prop where
  c : ∃ v, IsC W g now v xs ∧ v.ownBlock = R
  k : Okk now xs
theorem mem_drop {xs : List A.S62} {id : Int} {x : A.S62} (h : x ∈ dropL xs id) : x ∈ xs := List.mem_of_mem_eraseP h
theorem drop_no {id : Int} : ∀ {xs : List A.S62}, xs.Pairwise (fun a b => a.f0 ≠ b.f0) → ∀ x ∈ dropL xs id, x.f0 ≠ id
  | [], _, x, hx => by simp [dropL] at hx
  | y :: ys, h, x, hx => by
    obtain ⟨h1, h2⟩ := List.pairwise_cons.1 h
    unfold dropL at hx
    rw [List.eraseP_cons] at hx
    by_cases hy : y.f0 = id
    · rw [show (y.f0 == id) = true by simpa using hy] at hx
      intro e
      exact h1 x hx (by rw [hy, e])
    · rw [show (y.f0 == id) = false by simpa using hy] at hx
      rcases List.mem_cons.1 hx with rfl | hx
      · exact hy
      · exact drop_no h2 x hx
theorem mem_ins {t x : A.S62} : ∀ {xs : List A.S62}, x ∈ insL xs t → x = t ∨ x ∈ xs
  | [], h => by simp [insL] at h; exact .inl h
  | y :: ys, h => by
    unfold insL at h
    split at h
    · rcases List.mem_cons.1 h with rfl | h
      · exact .inr (List.mem_cons_self)
      · rcases mem_ins h with h | h
        · exact .inl h
        · exact .inr (List.mem_cons_of_mem _ h)
    · rcases List.mem_cons.1 h with rfl | h
      · exact .inl rfl
      · exact .inr h
theorem ins_perm (t : A.S62) : ∀ xs : List A.S62, (insL xs t).Perm (t :: xs)
  | [] => List.Perm.refl _
  | y :: ys => by
    unfold insL
    split
    · exact ((ins_perm t ys).cons y).trans (List.Perm.swap _ _ _)
    · exact List.Perm.refl _
theorem lt_tot {x y : A.S62} (h : ¬ ltA y x) (hd : y.f0 ≠ x.f0) : ltA x y := by
  unfold ltA at *
  omega
theorem lt_tr {x y z : A.S62} (h : ltA x y) (h2 : ltA y z) : ltA x z := by
  unfold ltA at *
  omega
theorem ins_sorted {t : A.S62} : ∀ {xs : List A.S62}, xs.Pairwise ltA → (∀ x ∈ xs, x.f0 ≠ t.f0) → (insL xs t).Pairwise ltA
  | [], _, _ => List.pairwise_singleton _ _
  | y :: ys, h, hn => by
    obtain ⟨h1, h2⟩ := List.pairwise_cons.1 h
    unfold insL
    split
    · rename_i hy
      refine List.pairwise_cons.2 ⟨fun x hx => ?_, ins_sorted h2 (fun x hx => hn x (List.mem_cons_of_mem _ hx))⟩
      rcases mem_ins hx with rfl | hx
      · exact hy
      · exact h1 x hx
    · rename_i hy
      have h3 := lt_tot hy (hn y List.mem_cons_self)
      refine List.pairwise_cons.2 ⟨fun x hx => ?_, h⟩
      rcases List.mem_cons.1 hx with rfl | hx
      · exact h3
      · exact lt_tr h3 (h1 x hx)
theorem Okk.drop {now : Int} {xs : List A.S62} (h : Okk now xs) (id : Int) : Okk now (dropL xs id) :=
  ⟨dropL_sorted id h.s, h.d.sublist List.eraseP_sublist, h.n0, h.n1, fun x hx => h.b x (mem_drop hx), Nat.le_trans (dropL_length xs id) h.l⟩
theorem atV_le {now wait : Int} (h0 : 0 ≤ wait) (h1 : now ≤ 1099511627776) : now ≤ atV now wait ∧ atV now wait ≤ 1099511627776 := by
  unfold atV
  split <;> omega
theorem Okk.set {now : Int} {xs : List A.S62} (h : Okk now xs) (id wait : Int) : Okk now (setL xs now id wait) := by
  by_cases hw : wait < 0
  · unfold setL setE
    rw [if_pos hw]
    exact h
  by_cases hc : hasL xs id = false ∧ 64 ≤ xs.length
  · unfold setL setE
    rw [if_neg hw, if_pos hc]
    exact h
  unfold setL setE
  rw [if_neg hw, if_neg hc, if_pos rfl]
  have hdr := h.drop id
  refine ⟨ins_sorted hdr.s (drop_no h.d), ?_, h.n0, h.n1, fun x hx => ?_, ?_⟩
  · refine (List.Perm.pairwise_iff (fun h e => h e.symm) (ins_perm _ _)).2 (List.pairwise_cons.2 ⟨fun x hx => (drop_no h.d x hx).symm, hdr.d⟩)
  · rcases mem_ins hx with rfl | hx
    · exact atV_le (by omega) h.n1
    · exact hdr.b x hx
  · rw [insL_length]
    cases hh : hasL xs id
    · have := dropL_length xs id
      have : ¬ 64 ≤ xs.length := fun e => hc ⟨hh, e⟩
      omega
    · have := dropL_has hh
      have := h.l
      omega
theorem goN_le {now ticks : Int} (h0 : 0 ≤ now) (h1 : now ≤ 1099511627776) : now ≤ goN now ticks ∧ goN now ticks ≤ 1099511627776 := by
  unfold goN
  omega
theorem left_gt {n : Int} : ∀ {xs : List A.S62}, xs.Pairwise ltA → ∀ x ∈ leftA xs n, n < x.f1
  | [], _, x, hx => by simp [leftA] at hx
  | y :: ys, h, x, hx => by
    obtain ⟨h1, h2⟩ := List.pairwise_cons.1 h
    unfold leftA at hx
    rw [List.dropWhile_cons] at hx
    by_cases hy : y.f1 ≤ n
    · rw [if_pos (by simpa using hy)] at hx
      exact left_gt h2 x hx
    · rw [if_neg (by simpa using hy)] at hx
      rcases List.mem_cons.1 hx with rfl | hx
      · omega
      · have := h1 x hx
        unfold ltA at this
        omega
theorem left_sub (xs : List A.S62) (n : Int) : (leftA xs n).Sublist xs := List.dropWhile_sublist _
theorem Okk.go {now : Int} {xs : List A.S62} (h : Okk now xs) (ticks : Int) : Okk (goN now ticks) (leftA xs (goN now ticks)) := by
  obtain ⟨h1, h2⟩ := goN_le (ticks := ticks) h.n0 h.n1
  exact ⟨h.s.sublist (left_sub _ _), h.d.sublist (left_sub _ _), by have := h.n0; omega, h2, fun x hx => ⟨Int.le_of_lt (left_gt h.s x hx), (h.b x ((left_sub _ _).subset hx)).2⟩, Nat.le_trans (left_sub _ _).length_le h.l⟩
theorem Ck.later {W W1 : World} {g : Nat} {R : Option Nat} {now : Int} {xs : List A.S62} (h : Ck W g R now xs) (hb : Below W.heap.size W W1) : Ck W1 g R now xs := by
  obtain ⟨⟨v, h1, h2⟩, h3⟩ := h
  exact ⟨⟨v, h1.later hb, h2⟩, h3⟩
/-- Blocks of other types stay. -/
theorem Ck.keep {W W1 : World} {g : Nat} {R : Option Nat} {now : Int} {xs : List A.S62} (h : Ck W g R now xs) (hf : Frm W W1 g R) {k : Nat} {cs : Array Value} {t : TypeId} {fr : Nat × Nat} (hk : W.heap[k]? = some (.cells cs t fr)) (h27 : t ≠ 27) (h62 : t ≠ 62) : W1.heap[k]? = some (.cells cs t fr) := by
  obtain ⟨⟨v, h1, rfl⟩, h3⟩ := h
  refine (hf.block k (blk_lt hk) (fun e => ?_) (fun e => ?_)).trans hk
  · subst e
    have := h1.p.symm.trans hk
    injection this with this
    injection this with _ e
    exact h27 e.symm
  · have hr := h1.r
    rcases hr with ⟨rfl, _⟩ | ⟨R', off, cap, pre, post, rfl, hb, _⟩
    · cases e
    · obtain rfl : k = R' := by simpa [Value.ownBlock] using e
      have := hb.symm.trans hk
      injection this with this
      injection this with _ e
      exact h62 e.symm
theorem Ck.lt {W : World} {g : Nat} {R : Option Nat} {now : Int} {xs : List A.S62} (h : Ck W g R now xs) : g < W.heap.size := by
  obtain ⟨⟨v, h1, _⟩, _⟩ := h
  exact blk_lt h1.p
theorem Ck.rlt {W : World} {g : Nat} {R : Option Nat} {now : Int} {xs : List A.S62} (h : Ck W g R now xs) (r : Nat) (hr : R = some r) : r < W.heap.size := by
  obtain ⟨⟨v, h1, rfl⟩, _⟩ := h
  exact h1.r.lt r hr
theorem okk_nil : Okk 0 [] := ⟨List.Pairwise.nil, List.Pairwise.nil, by decide, by decide, fun _ h => by simp at h, by decide⟩
theorem ck_new (w : World) : Ck (w.alloc (.cells #[.int .i64 0, .slice none 0 0] 27)) w.heap.size none 0 [] :=
  ⟨⟨.slice none 0 0, ⟨blk_new w _, .inl ⟨rfl, rfl⟩, by decide⟩, rfl⟩, okk_nil⟩
/-- The row that a method leaves. -/
def Nx (w : World) (R R' : Option Nat) : Prop := R' = R ∨ ∃ r, R' = some r ∧ w.heap.size ≤ r
section
variable {w : World} {g : Nat} {R : Option Nat} {now : Int} {xs : List A.S62}
theorem ck_set (h : Ck w g R now xs) (id wait : Int) (hw : wait ≤ 9223372036854775807) : Calls Try.prog 8 #[.pointer (some ⟨g, 0, none⟩), .int .i64 id, .int .i64 wait] w fun e w' => e = .returned (.int .i64 (setE xs id wait)) ∧ ∃ R', Ck w' g R' now (setL xs now id wait) ∧ Frm w w' g R ∧ Nx w R R' := by
  obtain ⟨⟨v, hI, rfl⟩, hk⟩ := h
  have hk2 := hk.set id wait
  by_cases h1 : wait < 0
  · refine (set_a hI id wait h1).mono ?_
    rintro e w' ⟨rfl, hb⟩
    have e1 : setE xs id wait = 1 := if_pos h1
    have e2 : setL xs now id wait = xs := by unfold setL; rw [e1]; rfl
    rw [e1, e2]
    exact ⟨rfl, _, ⟨⟨v, hI.later hb, rfl⟩, hk⟩, Frm.of_below hb _ _, .inl rfl⟩
  by_cases h2 : hasL xs id = false ∧ 64 ≤ xs.length
  · refine (set_b hI id wait h1 h2.1 h2.2).mono ?_
    rintro e w' ⟨rfl, hb⟩
    have e1 : setE xs id wait = 3 := by unfold setE; rw [if_neg h1, if_pos h2]
    have e2 : setL xs now id wait = xs := by unfold setL; rw [e1]; rfl
    rw [e1, e2]
    exact ⟨rfl, _, ⟨⟨v, hI.later hb, rfl⟩, hk⟩, Frm.of_below hb _ _, .inl rfl⟩
  · have h3 : hasL xs id = true ∨ ¬ 64 ≤ xs.length := by
      cases hh : hasL xs id
      · exact .inr (fun e => h2 ⟨hh, e⟩)
      · exact .inl rfl
    refine (set_c hI hk.s hk.n0 hk.n1 id wait hw h1 h3).mono ?_
    rintro e w' ⟨v', rfl, hi, hf, hn⟩
    have e1 : setE xs id wait = 0 := by unfold setE; rw [if_neg h1, if_neg h2]
    have e2 : setL xs now id wait = insL (dropL xs id) ⟨id, atV now wait⟩ := by unfold setL; rw [e1]; rfl
    rw [e2] at hk2
    rw [e1, e2]
    exact ⟨rfl, _, ⟨⟨v', hi, rfl⟩, hk2⟩, hf, hn⟩
theorem ck_drop (h : Ck w g R now xs) (id : Int) : Calls Try.prog 12 #[.pointer (some ⟨g, 0, none⟩), .int .i64 id] w fun e w' => e = .returned (.bool (hasL xs id)) ∧ Ck w' g R now (dropL xs id) ∧ Frm w w' g R := by
  obtain ⟨⟨v, hI, rfl⟩, hk⟩ := h
  refine (drop_p hI id).mono ?_
  rintro e w' ⟨v', rfl, hi, hf, hn⟩
  exact ⟨rfl, ⟨⟨v', hi, hn⟩, hk.drop id⟩, hf⟩
theorem ck_go (h : Ck w g R now xs) (ticks : Int) : Calls Try.prog 13 #[.pointer (some ⟨g, 0, none⟩), .int .i64 ticks] w fun e w' => ∃ vo, e = .returned vo ∧ w'.ownsRow w.heap.size 3 1 vo (rung xs (goN now ticks)).length (nums .i64 (rung xs (goN now ticks))) ∧ Ck w' g R (goN now ticks) (leftA xs (goN now ticks)) ∧ Frm w w' g none := by
  obtain ⟨⟨v, hI, rfl⟩, hk⟩ := h
  refine (go_p hI hk.n0 hk.n1 ticks).mono ?_
  rintro e w' ⟨vo, v', rfl, ho, hi, hf, hn⟩
  exact ⟨vo, rfl, ho, ⟨⟨v', hi, hn⟩, hk.go ticks⟩, hf⟩
theorem ck_left (h : Ck w g R now xs) (id : Int) : Calls Try.prog 16 #[.pointer (some ⟨g, 0, none⟩), .int .i64 id] w fun e w' => e = .returned (.tuple #[.int .i64 (leftV xs now id), .bool (hasL xs id)]) ∧ Below w.heap.size w w' := by
  obtain ⟨⟨v, hI, rfl⟩, hk⟩ := h
  exact left_p hI hk.n0 hk.n1 (fun x hx => by have := hk.b x hx; have := hk.n0; omega) id
theorem ck_next (h : Ck w g R now xs) : Calls Try.prog 18 #[.pointer (some ⟨g, 0, none⟩)] w fun e w' => e = .returned (.tuple #[.int .i64 (nextV xs), .bool (someL xs)]) ∧ Below w.heap.size w w' := by
  obtain ⟨⟨v, hI, rfl⟩, hk⟩ := h
  exact next_p hI
theorem ck_now (h : Ck w g R now xs) : Calls Try.prog 19 #[.pointer (some ⟨g, 0, none⟩)] w fun e w' => e = .returned (.int .i64 now) ∧ Below w.heap.size w w' := by
  obtain ⟨⟨v, hI, rfl⟩, hk⟩ := h
  exact now_p hI
theorem ck_len (h : Ck w g R now xs) : Calls Try.prog 20 #[.pointer (some ⟨g, 0, none⟩)] w fun e w' => e = .returned (.int .i64 xs.length) ∧ Below w.heap.size w w' := by
  obtain ⟨⟨v, hI, rfl⟩, hk⟩ := h
  exact len_p hI
end
end Go.Proofs.Ytccmelpnmjdclaa.H
