/- option: what is wanted. -/
import Derived.Test.YtgjicigagfhgmaaTalk
namespace Go.Proofs.Ytgjicigagfhgmaa.H
open Go.RowKit Go.Proofs.YtgjicigagfhgmaaW.PrintWords Go.Proofs.YtgjicigagfhgmaaW.PrintLast
set_option linter.unusedVariables false
set_option linter.unusedSimpArgs false
def wOnS (s : Int) : Int := if s = 0 then 3 else if s = 2 then 4 else if s = 5 then 3 else s
def wOnB (s : Int) (on x : Int) : List Int := if s = 0 then [255, on, x] else []
def wOffS (s : Int) : Int := if s = 1 then 2 else if s = 3 then 5 else if s = 4 then 2 else s
def wOffB (s : Int) (off x : Int) : List Int := if s = 1 then [255, off, x] else []
theorem set_same {cs : Array Value} {i : Nat} {v : Value} (h : cs[i]? = some v) : cs.setIfInBounds i v = cs := by
  refine Array.ext_getElem? (fun j => ?_)
  by_cases e : i = j
  · subst e
    rw [Array.getElem?_setIfInBounds_self_of_lt (Array.getElem?_eq_some_iff.1 h).1, h]
  · rw [Array.getElem?_setIfInBounds_ne e]
section
variable {w : World} {g o : Nat} {t : TypeId} {cs : Array Value} {S : Int → Int} {Y : Int → Bool} {on off : Int}
set_option maxHeartbeats 4000000 in
set_option maxRecDepth 100000 in
theorem wantOn_p (h : w.heap[g]? = some (.cells cs t (0, 0))) (hs : Sd cs o S Y on off) (x : Int) (h0 : 0 ≤ x) (h1 : x < 256) : Calls Try.prog 31 #[.pointer (some ⟨g, o, none⟩), .int .u8 x] w fun e' w' => ∃ v q, e' = .returned (.tuple #[v, .int .i64 q]) ∧ Said w' w.heap.size v (wOnB (S x) on x) ∧ w'.heap[g]? = some (.cells (cs.setIfInBounds (o + x.toNat) (.int .i64 (wOnS (S x)))) t (0, 0)) ∧ Fd w w' g w.heap.size := by
  have H1 := Lib.hid (fun st code => say_p h hs x st code h0 h1)
  have H2 := Lib.hid (fun st => told_p h hs x st h0 h1)
  have c0 := (blk_cell h (o + x.toNat)).trans (hs.s x h0 h1)
  have f0 := blk_frozen h (o + x.toNat)
  have c2 := (blk_cell h (o + 512)).trans hs.on
  have f2 := blk_frozen h (o + 512)
  have H3 := Lib.hid (show w.heap[g]? = some (.cells (cs.setIfInBounds (o + x.toNat) (.int .i64 (S x))) t (0, 0)) by rw [set_same (hs.s x h0 h1)]; exact h)
  clear h hs
  generalize S x = s at *
  by_cases e0 : s = 0
  · subst e0
    go_enter Try.func31, Try.ntmps31
    go_wp2_with (go_at_call 42; (with_reducible refine (H1.out _ _).mono ?_); rintro e w1 ⟨v, rfl, hr, hb, hf⟩; have HR := Lib.hid (And.intro hr (And.intro hb hf)); clear hr hb hf)
    go_ret2
    exact ⟨_, _, rfl, HR.out⟩
  by_cases e2 : s = 2
  · subst e2
    go_enter Try.func31, Try.ntmps31
    go_wp2_with (go_at_call 43; (with_reducible refine (H2.out _).mono ?_); rintro e w1 ⟨v, rfl, hr, hb, hf⟩; have HR := Lib.hid (And.intro hr (And.intro hb hf)); clear hr hb hf)
    go_ret2
    exact ⟨_, _, rfl, HR.out⟩
  by_cases e5 : s = 5
  · subst e5
    go_enter Try.func31, Try.ntmps31
    go_wp2_with (go_at_call 43; (with_reducible refine (H2.out _).mono ?_); rintro e w1 ⟨v, rfl, hr, hb, hf⟩; have HR := Lib.hid (And.intro hr (And.intro hb hf)); clear hr hb hf)
    go_ret2
    exact ⟨_, _, rfl, HR.out⟩
  have b0 : (s == 0) = false := beq_eq_false_iff_ne.2 e0
  have b2 : (s == 2) = false := beq_eq_false_iff_ne.2 e2
  have b5 : (s == 5) = false := beq_eq_false_iff_ne.2 e5
  have HE := Lib.hid (show wOnS s = s ∧ wOnB s on x = [] by simp [wOnS, wOnB, e0, e2, e5])
  clear e0 e2 e5
  go_enter Try.func31, Try.ntmps31
  go_wp2
  go_ret2
  rw [HE.out.1, HE.out.2]
  exact ⟨_, _, rfl, Kd.R_nil _ _ _ _ _, H3.out, Fd.refl _ _ _⟩
set_option maxHeartbeats 4000000 in
set_option maxRecDepth 100000 in
theorem wantOff_p (h : w.heap[g]? = some (.cells cs t (0, 0))) (hs : Sd cs o S Y on off) (x : Int) (h0 : 0 ≤ x) (h1 : x < 256) : Calls Try.prog 32 #[.pointer (some ⟨g, o, none⟩), .int .u8 x] w fun e' w' => ∃ v q, e' = .returned (.tuple #[v, .int .i64 q]) ∧ Said w' w.heap.size v (wOffB (S x) off x) ∧ w'.heap[g]? = some (.cells (cs.setIfInBounds (o + x.toNat) (.int .i64 (wOffS (S x)))) t (0, 0)) ∧ Fd w w' g w.heap.size := by
  have H1 := Lib.hid (fun st code => say_p h hs x st code h0 h1)
  have H2 := Lib.hid (fun st => told_p h hs x st h0 h1)
  have c0 := (blk_cell h (o + x.toNat)).trans (hs.s x h0 h1)
  have f0 := blk_frozen h (o + x.toNat)
  have c2 := (blk_cell h (o + 513)).trans hs.off
  have f2 := blk_frozen h (o + 513)
  have H3 := Lib.hid (show w.heap[g]? = some (.cells (cs.setIfInBounds (o + x.toNat) (.int .i64 (S x))) t (0, 0)) by rw [set_same (hs.s x h0 h1)]; exact h)
  clear h hs
  generalize S x = s at *
  by_cases e0 : s = 1
  · subst e0
    go_enter Try.func32, Try.ntmps32
    go_wp2_with (go_at_call 42; (with_reducible refine (H1.out _ _).mono ?_); rintro e w1 ⟨v, rfl, hr, hb, hf⟩; have HR := Lib.hid (And.intro hr (And.intro hb hf)); clear hr hb hf)
    go_ret2
    exact ⟨_, _, rfl, HR.out⟩
  by_cases e2 : s = 3
  · subst e2
    go_enter Try.func32, Try.ntmps32
    go_wp2_with (go_at_call 43; (with_reducible refine (H2.out _).mono ?_); rintro e w1 ⟨v, rfl, hr, hb, hf⟩; have HR := Lib.hid (And.intro hr (And.intro hb hf)); clear hr hb hf)
    go_ret2
    exact ⟨_, _, rfl, HR.out⟩
  by_cases e5 : s = 4
  · subst e5
    go_enter Try.func32, Try.ntmps32
    go_wp2_with (go_at_call 43; (with_reducible refine (H2.out _).mono ?_); rintro e w1 ⟨v, rfl, hr, hb, hf⟩; have HR := Lib.hid (And.intro hr (And.intro hb hf)); clear hr hb hf)
    go_ret2
    exact ⟨_, _, rfl, HR.out⟩
  have b0 : (s == 1) = false := beq_eq_false_iff_ne.2 e0
  have b2 : (s == 3) = false := beq_eq_false_iff_ne.2 e2
  have b5 : (s == 4) = false := beq_eq_false_iff_ne.2 e5
  have HE := Lib.hid (show wOffS s = s ∧ wOffB s off x = [] by simp [wOffS, wOffB, e0, e2, e5])
  clear e0 e2 e5
  go_enter Try.func32, Try.ntmps32
  go_wp2
  go_ret2
  rw [HE.out.1, HE.out.2]
  exact ⟨_, _, rfl, Kd.R_nil _ _ _ _ _, H3.out, Fd.refl _ _ _⟩
end
section
variable {w : World} {g : Nat} {P : Ops}
/-- What a wish does. -/
def want (P : Ops) (c x : Int) : Ops := if c = 251 then { P with s0 := upd P.s0 x (wOnS (P.s0 x)) } else if c = 252 then { P with s0 := upd P.s0 x (wOffS (P.s0 x)) } else if c = 253 then { P with s1 := upd P.s1 x (wOnS (P.s1 x)) } else { P with s1 := upd P.s1 x (wOffS (P.s1 x)) }
def wantB (P : Ops) (c x : Int) : List Int := if c = 251 then wOnB (P.s0 x) 251 x else if c = 252 then wOffB (P.s0 x) 252 x else if c = 253 then wOnB (P.s1 x) 253 x else wOffB (P.s1 x) 254 x
set_option maxHeartbeats 4000000 in
set_option maxRecDepth 100000 in
theorem want_p (h : Os w g P) (c x : Int) (hc : c = 251 ∨ c = 252 ∨ c = 253 ∨ c = 254) (h0 : 0 ≤ x) (h1 : x < 256) : Calls Try.prog 17 #[.pointer (some ⟨g, 0, none⟩), .int .u8 c, .int .u8 x] w fun e' w' => ∃ v q, e' = .returned (.tuple #[v, .int .i64 q]) ∧ Said w' w.heap.size v (wantB P c x) ∧ Os w' g (want P c x) ∧ Fd w w' g w.heap.size := by
  obtain ⟨cs, hc', a0, a1⟩ := h.b
  have HA0 := Lib.hid a0
  have HA1 := Lib.hid a1
  have H1 := Lib.hid (wantOn_p hc' a1 x h0 h1)
  have H2 := Lib.hid (wantOff_p hc' a1 x h0 h1)
  have H3 := Lib.hid (wantOn_p hc' a0 x h0 h1)
  have H4 := Lib.hid (wantOff_p hc' a0 x h0 h1)
  have H := Lib.hid h
  clear h hc' a0 a1
  rcases hc with rfl | rfl | rfl | rfl
  · go_enter Try.func17, Try.ntmps17
    go_wp2_with (go_at_call 31; (with_reducible refine H3.out.mono ?_); rintro e w1 ⟨v, q, rfl, hr, hb, hf⟩; have HR := Lib.hid hr; have HB := Lib.hid hb; have HF := Lib.hid hf; clear hr hb hf)
    go_ret2
    exact ⟨_, _, rfl, HR.out, ⟨_, HB.out, HA0.out.set x _ h0 h1, HA1.out.other 0 (.inl (by omega)) x _ h0 h1⟩, HF.out⟩
  · go_enter Try.func17, Try.ntmps17
    go_wp2_with (go_at_call 32; (with_reducible refine H4.out.mono ?_); rintro e w1 ⟨v, q, rfl, hr, hb, hf⟩; have HR := Lib.hid hr; have HB := Lib.hid hb; have HF := Lib.hid hf; clear hr hb hf)
    go_ret2
    exact ⟨_, _, rfl, HR.out, ⟨_, HB.out, HA0.out.set x _ h0 h1, HA1.out.other 0 (.inl (by omega)) x _ h0 h1⟩, HF.out⟩
  · go_enter Try.func17, Try.ntmps17
    go_wp2_with (go_at_call 31; (with_reducible refine H1.out.mono ?_); rintro e w1 ⟨v, q, rfl, hr, hb, hf⟩; have HR := Lib.hid hr; have HB := Lib.hid hb; have HF := Lib.hid hf; clear hr hb hf)
    go_ret2
    exact ⟨_, _, rfl, HR.out, ⟨_, HB.out, HA0.out.other 514 (.inr (by omega)) x _ h0 h1, HA1.out.set x _ h0 h1⟩, HF.out⟩
  · go_enter Try.func17, Try.ntmps17
    go_wp2_with (go_at_call 32; (with_reducible refine H2.out.mono ?_); rintro e w1 ⟨v, q, rfl, hr, hb, hf⟩; have HR := Lib.hid hr; have HB := Lib.hid hb; have HF := Lib.hid hf; clear hr hb hf)
    go_ret2
    exact ⟨_, _, rfl, HR.out, ⟨_, HB.out, HA0.out.other 514 (.inr (by omega)) x _ h0 h1, HA1.out.set x _ h0 h1⟩, HF.out⟩
end
end Go.Proofs.Ytgjicigagfhgmaa.H
