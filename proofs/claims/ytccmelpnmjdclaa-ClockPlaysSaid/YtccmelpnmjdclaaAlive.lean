/- The document's example holds. -/
import Derived.Test.YtccmelpnmjdclaaCk
namespace Go.Proofs.Ytccmelpnmjdclaa.H
open Go.RowKit Go.Proofs.YtccmelpnmjdclaaW.PrintWords Go.Proofs.YtccmelpnmjdclaaW.PrintLast
set_option linter.unusedVariables false
set_option linter.unusedSimpArgs false
/-- Blocks of other types than a clock's stay. -/
def Sty (w w' : World) : Prop := ∀ (k : Nat) (cs : Array Value) (t : TypeId) (fr : Nat × Nat), w.heap[k]? = some (.cells cs t fr) → t ≠ 27 → t ≠ 62 → w'.heap[k]? = some (.cells cs t fr)
theorem Sty.trans {a b c : World} (h : Sty a b) (h2 : Sty b c) : Sty a c := fun k cs t fr hk h27 h62 => h2 k cs t fr (h k cs t fr hk h27 h62) h27 h62
theorem Sty.refl (a : World) : Sty a a := fun _ _ _ _ h _ _ => h
theorem Sty.of_below {a b : World} (h : Below a.heap.size a b) : Sty a b := fun k cs t fr hk _ _ => (h.block k (blk_lt hk)).trans hk
theorem own_sty {w w1 : World} {base : Nat} {e : TypeId} {size n : Nat} {v : Value} {xs : List Value} (h : w.ownsRow base e size v n xs) (hs : Sty w w1) (h27 : e ≠ 27) (h62 : e ≠ 62) : w1.ownsRow base e size v n xs :=
  own_move h (fun k hk => by
    obtain ⟨cells, hc⟩ := own_typed h k hk
    exact (hs k cells e _ hc h27 h62).trans hc.symm)
/-- A clock of this call's own. -/
structure Cb (w0 W : World) (g : Nat) (R : Option Nat) (now : Int) (xs : List A.S62) : Prop where
  k : Ck W g R now xs
  b : Below w0.heap.size w0 W
  g : w0.heap.size ≤ g
  r : ∀ r, R = some r → w0.heap.size ≤ r
theorem Cb.later {w0 W W1 : World} {g : Nat} {R : Option Nat} {now : Int} {xs : List A.S62} (h : Cb w0 W g R now xs) (hb : Below W.heap.size W W1) : Cb w0 W1 g R now xs := ⟨h.k.later hb, below_step h.b hb, h.g, h.r⟩
theorem Cb.step {w0 W W1 : World} {g : Nat} {R R' : Option Nat} {now now' : Int} {xs xs' : List A.S62} (h : Cb w0 W g R now xs) (hk : Ck W1 g R' now' xs') (hf : Frm W W1 g R) (hn : Nx W R R') : Cb w0 W1 g R' now' xs' ∧ Sty W W1 := by
  refine ⟨⟨hk, h.b.trans (hf.below h.b.size h.g h.r), h.g, fun r hr => ?_⟩, fun k cs t fr hk2 h27 h62 => h.k.keep hf hk2 h27 h62⟩
  rcases hn with rfl | ⟨r', rfl, h2⟩
  · exact h.r r hr
  · obtain rfl : r' = r := by simpa using hr
    exact Nat.le_trans h.b.size h2
theorem Frm.widen {w w' : World} {g : Nat} {R : Option Nat} (h : Frm w w' g none) : Frm w w' g R := ⟨h.os, h.tape, h.output, h.size, fun k hk hg _ => h.block k hk hg (by simp)⟩
theorem cb_new (w0 w : World) (hb : Below w0.heap.size w0 w) : Cb w0 (w.alloc (.cells #[.int .i64 0, .slice none 0 0] 27)) w.heap.size none 0 [] := ⟨ck_new w, below_alloc hb _, hb.size, fun r h => by cases h⟩
section
variable {w0 w : World} {g : Nat} {R : Option Nat} {now : Int} {xs : List A.S62}
theorem cb_set (h : Cb w0 w g R now xs) (id wait E : Int) (ys : List A.S62) (hE : setE xs id wait = E) (hL : setL xs now id wait = ys) (hw : wait ≤ 9223372036854775807) : Calls Try.prog 8 #[.pointer (some ⟨g, 0, none⟩), .int .i64 id, .int .i64 wait] w fun e w' => e = .returned (.int .i64 E) ∧ ∃ R', Cb w0 w' g R' now ys ∧ Sty w w' := by
  subst hE
  subst hL
  refine (ck_set h.k id wait hw).mono ?_
  rintro e w' ⟨rfl, R', hk, hf, hn⟩
  exact ⟨rfl, R', h.step hk hf hn⟩
theorem cb_drop (h : Cb w0 w g R now xs) (id : Int) (b : Bool) (ys : List A.S62) (hE : hasL xs id = b) (hL : dropL xs id = ys) : Calls Try.prog 12 #[.pointer (some ⟨g, 0, none⟩), .int .i64 id] w fun e w' => e = .returned (.bool b) ∧ Cb w0 w' g R now ys ∧ Sty w w' := by
  subst hE
  subst hL
  refine (ck_drop h.k id).mono ?_
  rintro e w' ⟨rfl, hk, hf⟩
  exact ⟨rfl, h.step hk hf (.inl rfl)⟩
theorem cb_go (h : Cb w0 w g R now xs) (ticks n : Int) (ids : List Int) (ys : List A.S62) (hn : goN now ticks = n) (hi : rung xs n = ids) (hl : leftA xs n = ys) : Calls Try.prog 13 #[.pointer (some ⟨g, 0, none⟩), .int .i64 ticks] w fun e w' => ∃ A c, e = .returned (.slice A ids.length c) ∧ w'.ownsRow w0.heap.size 3 1 (.slice A ids.length c) ids.length (nums .i64 ids) ∧ Cb w0 w' g R n ys ∧ Sty w w' := by
  subst hn
  subst hi
  subst hl
  refine (ck_go h.k ticks).mono ?_
  rintro e w' ⟨vo, rfl, ho, hk, hf⟩
  obtain ⟨A, c, rfl⟩ := own_slice ho
  exact ⟨A, c, rfl, own_less ho h.b.size, h.step hk hf.widen (.inl rfl)⟩
end
theorem own_row {w : World} {base : Nat} {A : Option Addr} {c : Nat} {ids : List Int} (h : w.ownsRow base 3 1 (.slice A ids.length c) ids.length (nums .i64 ids)) : Kd.C (Kd.int .i64) w A ids.length ids ∧ ids.length ≤ c := by
  obtain ⟨A', c', e, hc, hr⟩ := own_reads_of_le (enc := Value.int .i64) (d := (0 : Int)) (xs := ids) h
  obtain ⟨⟨rfl, _⟩, rfl⟩ : (A = A' ∧ True) ∧ c = c' := by simpa using e
  exact ⟨Kd.C_of_reads (enc := Value.int .i64) (d := 0) (h1 := fun _ => rfl) hr, hc⟩
theorem lit_one (w : World) (x : Int) : Kd.C (Kd.int .i64) (w.alloc (.cells #[.int .i64 x] 3)) (some ⟨w.heap.size, 0, none⟩) [x].length [x] := by
  refine ⟨rfl, by simp, fun _ => ⟨_, rfl, fun j p hj => ?_⟩⟩
  have hj0 : j = 0 := by have := (List.getElem?_eq_some_iff.1 hj).1; simpa using this
  subst hj0
  obtain rfl : x = p := by simpa using hj
  refine ⟨[.int .i64 x], rfl, rfl, fun i u hu => ?_⟩
  have hi0 : i = 0 := by have := (List.getElem?_eq_some_iff.1 hu).1; simpa using this
  subst hi0
  obtain rfl : (.int .i64 x : Value) = u := by simpa using hu
  exact (blk_cell (blk_new w _) 0).trans rfl
theorem wr1 (i n : Nat) (h : i < n) (hn : n ≤ 1000) : wrap64 ((i : Int) + 1) = ((i + 1 : Nat) : Int) := by unfold wrap64; omega
theorem same_loop (a b : List Int) (hl : a.length ≤ 1000) (he : a.length = b.length) : ∀ (m k i : Nat), i + m = a.length → m < k → A.greenscreenref01_SameInts.l0 k a b (i : Int) = some (decide (a.drop i = b.drop i))
  | 0, k + 1, i, hi, hk => by
    rw [A.greenscreenref01_SameInts.l0, if_neg (by omega), List.drop_eq_nil_of_le (by omega), List.drop_eq_nil_of_le (by omega)]
    simp
  | m + 1, k + 1, i, hi, hk => by
    have h1 : i < a.length := by omega
    have h2 : i < b.length := by omega
    rw [A.greenscreenref01_SameInts.l0, if_pos (by omega), if_pos (by omega), if_pos (by omega), wr1 i a.length h1 hl, same_loop a b hl he m k (i + 1) (by omega) (by omega), List.drop_eq_getElem_cons h1, List.drop_eq_getElem_cons h2]
    have e1 : rd a (i : Int) = a[i] := by simp [rd, List.getD, List.getElem?_eq_getElem h1]
    have e2 : rd b (i : Int) = b[i] := by simp [rd, List.getD, List.getElem?_eq_getElem h2]
    rw [e1, e2]
    by_cases hx : a[i] = b[i]
    · rw [if_pos hx, hx]
      exact congrArg some (decide_eq_decide.2 ⟨fun h => by rw [h], fun h => (List.cons.inj h).2⟩)
    · rw [if_neg hx]
      exact congrArg some (Eq.symm (decide_eq_false (fun h => hx (List.cons.inj h).1)))
theorem same_f (a b : List Int) (hl : a.length ≤ 1000) : A.greenscreenref01_SameInts.f 1001 a b = some (decide (a = b)) := by
  unfold A.greenscreenref01_SameInts.f
  by_cases he : a.length = b.length
  · rw [if_pos (by omega)]
    exact same_loop a b hl he a.length 1001 0 (by omega) (by omega)
  · rw [if_neg (by omega)]
    have : a ≠ b := fun e => he (by rw [e])
    simp [this]
/-- SameInts. -/
theorem same_p {w : World} {A0 A1 : Option Addr} {c0 c1 : Nat} {a b : List Int} (h0 : Kd.C (Kd.int .i64) w A0 a.length a) (hc0 : a.length ≤ c0) (h1 : Kd.C (Kd.int .i64) w A1 b.length b) (hc1 : b.length ≤ c1) (hl : a.length ≤ 1000) : Calls Try.prog 15 #[.slice A0 a.length c0, .slice A1 b.length c1] w fun e w' => e = .returned (.bool (decide (a = b))) ∧ Below w.heap.size w w' := by
  refine (A.greenscreenref01_SameInts.calls 1001 A0 c0 a A1 c1 b _ w h0 hc0 h1 hc1 (same_f a b hl)).mono ?_
  rintro e w1 ⟨rfl, hd⟩
  exact ⟨rfl, hd.below⟩
section
variable {w0 w : World} {g : Nat} {R : Option Nat}
theorem same_lit {A : Option Addr} {c : Nat} (x : Int) (h : w.ownsRow w0.heap.size 3 1 (.slice A 1 c) 1 (nums .i64 [x])) : Calls Try.prog 15 #[.slice A 1 c, .slice (some ⟨w.heap.size, 0, none⟩) 1 1] (w.alloc (.cells #[.int .i64 x] 3)) fun e w' => e = .returned (.bool true) ∧ Below w.heap.size w w' := by
  have ho := own_row (ids := [x]) (own_alloc h (.cells #[.int .i64 x] 3))
  refine (same_p (a := [x]) (b := [x]) ho.1 ho.2 (lit_one w x) (Nat.le_refl 1) (by simp)).mono ?_
  rintro e w1 ⟨rfl, hb⟩
  exact ⟨by simp, below_step (below_alloc (Below.refl _ _) _) hb⟩
theorem a1 (h : Cb w0 w g R 0 []) : Calls Try.prog 8 #[.pointer (some ⟨g, 0, none⟩), .int .i64 7, .int .i64 3] w fun e w' => e = .returned (.int .i64 0) ∧ ∃ R', Cb w0 w' g R' 0 [⟨7, 3⟩] ∧ Sty w w' := cb_set h 7 3 0 [⟨7, 3⟩] (by decide) rfl (by decide)
theorem a2 (h : Cb w0 w g R 0 [⟨7, 3⟩]) : Calls Try.prog 8 #[.pointer (some ⟨g, 0, none⟩), .int .i64 9, .int .i64 2] w fun e w' => e = .returned (.int .i64 0) ∧ ∃ R', Cb w0 w' g R' 0 [⟨9, 2⟩, ⟨7, 3⟩] ∧ Sty w w' := cb_set h 9 2 0 [⟨9, 2⟩, ⟨7, 3⟩] (by decide) rfl (by decide)
theorem a3 (h : Cb w0 w g R 0 [⟨9, 2⟩, ⟨7, 3⟩]) : Calls Try.prog 8 #[.pointer (some ⟨g, 0, none⟩), .int .i64 9, .int .i64 (-1)] w fun e w' => e = .returned (.int .i64 1) ∧ ∃ R', Cb w0 w' g R' 0 [⟨9, 2⟩, ⟨7, 3⟩] ∧ Sty w w' := cb_set h 9 (-1) 1 [⟨9, 2⟩, ⟨7, 3⟩] (by decide) rfl (by decide)
theorem a4 (h : Cb w0 w g R 3 []) : Calls Try.prog 8 #[.pointer (some ⟨g, 0, none⟩), .int .i64 4, .int .i64 5] w fun e w' => e = .returned (.int .i64 0) ∧ ∃ R', Cb w0 w' g R' 3 [⟨4, 8⟩] ∧ Sty w w' := cb_set h 4 5 0 [⟨4, 8⟩] (by decide) rfl (by decide)
theorem g1 (h : Cb w0 w g R 0 [⟨9, 2⟩, ⟨7, 3⟩]) : Calls Try.prog 13 #[.pointer (some ⟨g, 0, none⟩), .int .i64 2] w fun e w' => ∃ A c, e = .returned (.slice A 1 c) ∧ w'.ownsRow w0.heap.size 3 1 (.slice A 1 c) 1 (nums .i64 [9]) ∧ Cb w0 w' g R 2 [⟨7, 3⟩] ∧ Sty w w' := cb_go h 2 2 [9] [⟨7, 3⟩] (by decide) rfl rfl
theorem g2 (h : Cb w0 w g R 2 [⟨7, 3⟩]) : Calls Try.prog 13 #[.pointer (some ⟨g, 0, none⟩), .int .i64 1] w fun e w' => ∃ A c, e = .returned (.slice A 1 c) ∧ w'.ownsRow w0.heap.size 3 1 (.slice A 1 c) 1 (nums .i64 [7]) ∧ Cb w0 w' g R 3 [] ∧ Sty w w' := cb_go h 1 3 [7] [] (by decide) rfl rfl
theorem d1 (h : Cb w0 w g R 3 [⟨4, 8⟩]) : Calls Try.prog 12 #[.pointer (some ⟨g, 0, none⟩), .int .i64 4] w fun e w' => e = .returned (.bool true) ∧ Cb w0 w' g R 3 [] ∧ Sty w w' := cb_drop h 4 true [] (by decide) rfl
theorem d2 (h : Cb w0 w g R 3 []) : Calls Try.prog 12 #[.pointer (some ⟨g, 0, none⟩), .int .i64 4] w fun e w' => e = .returned (.bool false) ∧ Cb w0 w' g R 3 [] ∧ Sty w w' := cb_drop h 4 false [] (by decide) rfl
end
set_option maxHeartbeats 2000000 in
set_option maxRecDepth 100000 in
theorem alive_p (w : World) : Calls Try.prog 7 #[] w fun e w' => e = .returned (.bool true) ∧ Below w.heap.size w w' := by
  have HC0 := Lib.hid (cb_new w w (Below.refl _ _))
  have hu33 := Try.underlying33
  go_enter Try.func7, Try.ntmps7
  go_wp2_with (first
    | (go_at_call 8; first
      | ((with_reducible refine (a1 HC0.out).mono ?_); rintro e w1 ⟨rfl, R1, hc, hs⟩; have HC1 := Lib.hid hc; clear hc hs)
      | ((with_reducible refine (a2 HC1.out).mono ?_); rintro e w2 ⟨rfl, R2, hc, hs⟩; have HC2 := Lib.hid hc; clear hc hs)
      | ((with_reducible refine (a3 HC2.out).mono ?_); rintro e w3 ⟨rfl, R3, hc, hs⟩; have HC3 := Lib.hid hc; clear hc hs)
      | ((with_reducible refine (a4 HC8.out).mono ?_); rintro e w9 ⟨rfl, R9, hc, hs⟩; have HC9 := Lib.hid hc; have HX9 := Lib.hid (own_sty HX8.out hs (by decide) (by decide)); have HY9 := Lib.hid (own_sty HY8.out hs (by decide) (by decide)); clear hc hs))
    | (go_at_call 20; (with_reducible refine (ck_len HC3.out.k).mono ?_); rintro e w4 ⟨rfl, hb⟩; have HC4 := Lib.hid (HC3.out.later hb); clear hb)
    | (go_at_call 18; first
      | ((with_reducible refine (ck_next HC4.out.k).mono ?_); rintro e w5 ⟨rfl, hb⟩; have HC5 := Lib.hid (HC4.out.later hb); clear hb)
      | ((with_reducible refine (ck_next HC7.out.k).mono ?_); rintro e w8 ⟨rfl, hb⟩; have HC8 := Lib.hid (HC7.out.later hb); have HX8 := Lib.hid (pw_own_below HX7.out hb); have HY8 := Lib.hid (pw_own_below HY7.out hb); clear hb))
    | (go_at_call 13; first
      | ((with_reducible refine (g1 HC5.out).mono ?_); rintro e w6 ⟨A6, c6, rfl, ho, hc, hs⟩; have HC6 := Lib.hid hc; have HX6 := Lib.hid ho; clear hc hs ho)
      | ((with_reducible refine (g2 HC6.out).mono ?_); rintro e w7 ⟨A7, c7, rfl, ho, hc, hs⟩; have HC7 := Lib.hid hc; have HY7 := Lib.hid ho; have HX7 := Lib.hid (own_sty HX6.out hs (by decide) (by decide)); clear hc hs ho))
    | (go_at_call 16; (with_reducible refine (ck_left HC9.out.k 4).mono ?_); rintro e wa ⟨rfl, hb⟩; have HCa := Lib.hid (HC9.out.later hb); have HXa := Lib.hid (pw_own_below HX9.out hb); have HYa := Lib.hid (pw_own_below HY9.out hb); clear hb)
    | (go_at_call 15; first
      | ((with_reducible refine (same_lit (w0 := w) 9 HXa.out).mono ?_); rintro e wb ⟨rfl, hb⟩; have HCb := Lib.hid (HCa.out.later hb); have HYb := Lib.hid (pw_own_below HYa.out hb); clear hb)
      | ((with_reducible refine (same_lit (w0 := w) 7 HYb.out).mono ?_); rintro e wc ⟨rfl, hb⟩; have HCc := Lib.hid (HCb.out.later hb); clear hb))
    | (go_at_call 19; (with_reducible refine (ck_now HCc.out.k).mono ?_); rintro e wd ⟨rfl, hb⟩; have HCd := Lib.hid (HCc.out.later hb); clear hb)
    | (go_at_call 12; first
      | ((with_reducible refine (d1 HCd.out).mono ?_); rintro e we ⟨rfl, hc, hs⟩; have HCe := Lib.hid hc; clear hc hs)
      | ((with_reducible refine (d2 HCe.out).mono ?_); rintro e wf ⟨rfl, hc, hs⟩; have HCf := Lib.hid hc; clear hc hs)))
  go_ret
  exact ⟨rfl, HCf.out.b⟩
end Go.Proofs.Ytccmelpnmjdclaa.H
