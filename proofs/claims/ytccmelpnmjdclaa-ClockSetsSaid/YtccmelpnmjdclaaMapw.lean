/- A map beside a clock: what it holds mirrors the alarms. -/
import Derived.Test.YtccmelpnmjdclaaDue
import Derived.Maps.OwnSet
import Derived.Maps.OwnOps
import Derived.Maps.OwnRows
import Derived.Maps.Views
namespace Go.Proofs.Ytccmelpnmjdclaa.H
open Go.RowKit Go.Maps Go.Proofs.YtccmelpnmjdclaaW.PrintWords Go.Proofs.YtccmelpnmjdclaaW.PrintLast
set_option linter.unusedVariables false
set_option linter.unusedSimpArgs false
/-- Maps stay. -/
def Mst (w w' : World) : Prop := ∀ (k : Nat) (es : Array MapEntry) (c : Nat), w.heap[k]? = some (.map es c) → w'.heap[k]? = some (.map es c)
theorem Mst.of_below {a b : World} (h : Below a.heap.size a b) : Mst a b := fun k es c hk => (h.block k (Array.getElem?_eq_some_iff.1 hk).1).trans hk
theorem map_mst {H : Type} {P : Program} {k : TypeId} {R : Value → Option (DataW H × List MemPlace)} {w w1 : World} {b n : Nat} {D : DataW H} (h : w.ownsMap P k R b n D) (hs : Mst w w1) : w1.ownsMap P k R b n D := by
  obtain ⟨es, clock, hb, r⟩ := h
  exact ⟨es, clock, hs _ _ _ hb, r⟩
theorem Ck.maps {W W1 : World} {g : Nat} {R : Option Nat} {now : Int} {xs : List A.S62} (h : Ck W g R now xs) (hf : Frm W W1 g R) : Mst W W1 := by
  intro k es c hk
  obtain ⟨⟨v, h1, rfl⟩, h3⟩ := h
  refine (hf.block k (Array.getElem?_eq_some_iff.1 hk).1 (fun e => ?_) (fun e => ?_)).trans hk
  · subst e
    have := h1.p.symm.trans hk
    cases this
  · rcases h1.r with ⟨rfl, _⟩ | ⟨R', off, cap, pre, post, rfl, hb, _⟩
    · cases e
    · obtain rfl : k = R' := by simpa [Value.ownBlock] using e
      have := hb.symm.trans hk
      cases this
/-- A map turns: the clock stays. -/
theorem Cb.map {H : Type} {P : Program} {kt : TypeId} {Rd : Value → Option (DataW H × List MemPlace)} {b n : Nat} {D : DataW H} {w0 W W1 : World} {g : Nat} {R : Option Nat} {now : Int} {xs : List A.S62} (h : Cb w0 W g R now xs) (hm : W.ownsMap P kt Rd b n D) (hb : w0.heap.size ≤ b) (hg : W.grownBy W1 (some b)) : Cb w0 W1 g R now xs := by
  obtain ⟨⟨⟨vk, h1, rfl⟩, hk⟩, hbl, hgg, hr⟩ := h
  obtain ⟨es, clock, hmb, _⟩ := hm
  have hne : ∀ k cs t, W.heap[k]? = some (.cells cs t (0, 0)) → some k ≠ some b := by
    intro k cs t hk e
    obtain rfl : k = b := by simpa using e
    have := hk.symm.trans hmb
    cases this
  refine ⟨⟨⟨vk, ⟨blk_grown h1.p hg (hne g _ _ h1.p), ?_, h1.l⟩, rfl⟩, hk⟩, pw_below_grown hbl _ hbl.size hg (fun k hk => by cases hk; exact hb), hgg, hr⟩
  rcases h1.r with ⟨h2, h3⟩ | ⟨R', off, cap, pre, post, rfl, hb2, ho2, hp2, hc2⟩
  · exact .inl ⟨h2, h3⟩
  · exact .inr ⟨R', off, cap, pre, post, rfl, blk_grown hb2 hg (hne R' _ _ hb2), ho2, hp2, hc2⟩
theorem own_map {H : Type} {P : Program} {k : TypeId} {R : Value → Option (DataW H × List MemPlace)} {b m : Nat} {D : DataW H} {w w1 : World} {base size n : Nat} {e : TypeId} {v : Value} {xs : List Value} (h : w.ownsRow base e size v n xs) (hm : w.ownsMap P k R b m D) (hg : w.grownBy w1 (some b)) : w1.ownsRow base e size v n xs := by
  refine own_other h hg ?_
  obtain ⟨es, clock, hb, _⟩ := hm
  rcases h.2 with ⟨rfl, _⟩ | ⟨g, cap, cur, rfl, _, hg2, _⟩
  · exact .inl rfl
  · refine .inr fun he => ?_
    obtain rfl : g = b := by simpa [Value.ownBlock] using he
    rw [hb] at hg2
    cases hg2
section
variable {w0 w : World} {g : Nat} {R : Option Nat} {now : Int} {xs : List A.S62}
theorem cm_set (h : Cb w0 w g R now xs) (id wait E : Int) (ys : List A.S62) (hE : setE xs id wait = E) (hL : setL xs now id wait = ys) (hw : wait ≤ 9223372036854775807) : Calls Try.prog 8 #[.pointer (some ⟨g, 0, none⟩), .int .i64 id, .int .i64 wait] w fun e w' => e = .returned (.int .i64 E) ∧ ∃ R', Cb w0 w' g R' now ys ∧ Mst w w' := by
  subst hE
  subst hL
  refine (ck_set h.k id wait hw).mono ?_
  rintro e w' ⟨rfl, R', hk, hf, hn⟩
  exact ⟨rfl, R', (h.step hk hf hn).1, h.k.maps hf⟩
theorem cm_drop (h : Cb w0 w g R now xs) (id : Int) (b : Bool) (ys : List A.S62) (hE : hasL xs id = b) (hL : dropL xs id = ys) : Calls Try.prog 12 #[.pointer (some ⟨g, 0, none⟩), .int .i64 id] w fun e w' => e = .returned (.bool b) ∧ Cb w0 w' g R now ys ∧ Mst w w' := by
  subst hE
  subst hL
  refine (ck_drop h.k id).mono ?_
  rintro e w' ⟨rfl, hk, hf⟩
  exact ⟨rfl, (h.step hk hf (.inl rfl)).1, h.k.maps hf⟩
theorem cm_go (h : Cb w0 w g R now xs) (ticks n : Int) (ids : List Int) (ys : List A.S62) (hn : goN now ticks = n) (hi : rung xs n = ids) (hl : leftA xs n = ys) : Calls Try.prog 13 #[.pointer (some ⟨g, 0, none⟩), .int .i64 ticks] w fun e w' => ∃ A c, e = .returned (.slice A ids.length c) ∧ w'.ownsRow w0.heap.size 3 1 (.slice A ids.length c) ids.length (nums .i64 ids) ∧ Cb w0 w' g R n ys ∧ Mst w w' := by
  subst hn
  subst hi
  subst hl
  refine (ck_go h.k ticks).mono ?_
  rintro e w' ⟨vo, rfl, ho, hk, hf⟩
  obtain ⟨A, c, rfl⟩ := own_slice ho
  exact ⟨A, c, rfl, own_less ho h.b.size, (h.step hk hf.widen (.inl rfl)).1, h.k.maps hf.widen⟩
end
/-- The map mirrors the alarms. -/
structure MapOf (D : DataW Nat) (xs : List A.S62) : Prop where
  h : ∀ i : Int, has D (.int .i64 i) = hasL xs i
  a : ∀ x ∈ xs, ∀ z, D.atKey (.int .i64 x.f0) z = .lit (.int .i64 x.f1)
  n : size D = xs.length
theorem lit_ne {i j : Int} (h : i ≠ j) : Lit.int .i64 i ≠ Lit.int .i64 j := fun e => h (by injection e)
theorem mapOf_nil : MapOf (.map []) [] := ⟨fun i => rfl, fun x h => by simp at h, rfl⟩
theorem drop_mem {xs : List A.S62} {id : Int} {x : A.S62} (hd : xs.Pairwise (fun a b => a.f0 ≠ b.f0)) : x ∈ dropL xs id ↔ x ∈ xs ∧ x.f0 ≠ id := by
  constructor
  · intro h
    exact ⟨mem_drop h, drop_no hd x h⟩
  · rintro ⟨h1, h2⟩
    exact (List.mem_eraseP_of_neg (by simpa using h2)).2 h1
theorem MapOf.put {D : DataW Nat} {xs : List A.S62} (h : MapOf D xs) (ht : Tidy D) (hd : xs.Pairwise (fun a b => a.f0 ≠ b.f0)) (i v : Int) : MapOf (D.put (.int .i64 i) (.lit (.int .i64 v))) (insL (dropL xs i) ⟨i, v⟩) := by
  have hmem : ∀ x, x ∈ insL (dropL xs i) ⟨i, v⟩ ↔ x = ⟨i, v⟩ ∨ (x ∈ xs ∧ x.f0 ≠ i) := fun x => by rw [mem_ins', drop_mem hd]
  refine ⟨fun j => ?_, fun x hx z => ?_, ?_⟩
  · by_cases hij : j = i
    · subst hij
      rw [has_put_same ht.isMap (show WideAt.IsKeyLit (.int .i64 j) from trivial)]
      symm
      exact has_iff.2 ⟨⟨j, v⟩, (hmem _).2 (.inl rfl), rfl⟩
    · rw [has_put_other (lit_ne hij), h.h, Bool.eq_iff_iff, has_iff, has_iff]
      constructor
      · rintro ⟨x, h1, h2⟩
        exact ⟨x, (hmem _).2 (.inr ⟨h1, by rw [h2]; exact hij⟩), h2⟩
      · rintro ⟨x, h1, h2⟩
        rcases (hmem _).1 h1 with rfl | ⟨h3, _⟩
        · exact absurd h2.symm hij
        · exact ⟨x, h3, h2⟩
  · rcases (hmem _).1 hx with rfl | ⟨h1, h2⟩
    · exact atKey_put_same ht.isMap (show WideAt.IsKeyLit (.int .i64 i) from trivial) _ _
    · rw [atKey_put_other (lit_ne h2)]
      exact h.a x h1 z
  · rw [size_put ht, h.h, insL_length, h.n]
    cases hh : hasL xs i
    · have : ∀ x ∈ xs, x.f0 ≠ i := fun x hx e => by
        have := has_iff.2 ⟨x, hx, e⟩
        rw [hh] at this
        cases this
      rw [(drop_none this).1]
      rfl
    · have := dropL_has hh
      simp
      omega
theorem MapOf.del {D : DataW Nat} {xs : List A.S62} (h : MapOf D xs) (ht : Tidy D) (hd : xs.Pairwise (fun a b => a.f0 ≠ b.f0)) (i : Int) (hh : hasL xs i = true) : MapOf (D.del (.int .i64 i)) (dropL xs i) := by
  refine ⟨fun j => ?_, fun x hx z => ?_, ?_⟩
  · by_cases hij : j = i
    · subst hij
      rw [has_del_same]
      symm
      rw [Bool.eq_false_iff]
      intro e
      obtain ⟨x, h1, h2⟩ := has_iff.1 e
      exact ((drop_mem hd).1 h1).2 h2
    · rw [has_del_other (lit_ne hij), h.h, Bool.eq_iff_iff, has_iff, has_iff]
      constructor
      · rintro ⟨x, h1, h2⟩
        exact ⟨x, (drop_mem hd).2 ⟨h1, by rw [h2]; exact hij⟩, h2⟩
      · rintro ⟨x, h1, h2⟩
        exact ⟨x, ((drop_mem hd).1 h1).1, h2⟩
  · obtain ⟨h1, h2⟩ := (drop_mem hd).1 hx
    rw [atKey_del_other (lit_ne h2)]
    exact h.a x h1 z
  · have h1 := size_del (k := .int .i64 i) ht
    rw [h.h, hh, if_pos rfl, h.n] at h1
    have := dropL_has hh
    omega
theorem drop_head {x : A.S62} {xs : List A.S62} : dropL (x :: xs) x.f0 = xs := by
  unfold dropL
  rw [List.eraseP_cons, show (x.f0 == x.f0) = true by simp]
  rfl
theorem MapOf.pop {D : DataW Nat} {x : A.S62} {xs : List A.S62} (h : MapOf D (x :: xs)) (ht : Tidy D) (hd : (x :: xs).Pairwise (fun a b => a.f0 ≠ b.f0)) : MapOf (D.del (.int .i64 x.f0)) xs := by
  have := h.del ht hd x.f0 (has_iff.2 ⟨x, List.mem_cons_self, rfl⟩)
  rw [drop_head] at this
  exact this
theorem law3 : Keyed Try.prog 3 := int_keyed Try.underlying3
theorem zero2 (w : World) : (zeroValue 2).run Try.prog w = .ok (.int .i64 0) w := by kernel_rfl
end Go.Proofs.Ytccmelpnmjdclaa.H
