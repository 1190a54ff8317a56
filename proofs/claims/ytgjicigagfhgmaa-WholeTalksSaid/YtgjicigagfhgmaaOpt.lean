/- option: a side. -/
import Derived.Test.YtgjicigagfhgmaaMaker
namespace Go.Proofs.Ytgjicigagfhgmaa.H
open Go.RowKit Go.Proofs.YtgjicigagfhgmaaW.PrintWords Go.Proofs.YtgjicigagfhgmaaW.PrintLast
set_option linter.unusedVariables false
set_option linter.unusedSimpArgs false
/-- A side within a block of options, from place o on. -/
structure Sd (cs : Array Value) (o : Nat) (S : Int → Int) (Y : Int → Bool) (on off : Int) : Prop where
  s : ∀ x : Int, 0 ≤ x → x < 256 → cs[o + x.toNat]? = some (.int .i64 (S x))
  y : ∀ x : Int, 0 ≤ x → x < 256 → cs[o + 256 + x.toNat]? = some (.bool (Y x))
  on : cs[o + 512]? = some (.int .u8 on)
  off : cs[o + 513]? = some (.int .u8 off)
def upd (S : Int → Int) (x v : Int) : Int → Int := fun y => if y = x then v else S y
theorem Sd.set {cs : Array Value} {o : Nat} {S : Int → Int} {Y : Int → Bool} {on off : Int} (h : Sd cs o S Y on off) (x v : Int) (h0 : 0 ≤ x) (h1 : x < 256) : Sd (cs.setIfInBounds (o + x.toNat) (.int .i64 v)) o (upd S x v) Y on off := by
  have hlt : o + x.toNat < cs.size := (Array.getElem?_eq_some_iff.1 (h.s x h0 h1)).1
  refine ⟨fun y hy0 hy1 => ?_, fun y hy0 hy1 => ?_, ?_, ?_⟩
  · by_cases e : y = x
    · subst e
      rw [Array.getElem?_setIfInBounds_self_of_lt hlt]
      simp [upd]
    · rw [Array.getElem?_setIfInBounds_ne (by omega), h.s y hy0 hy1]
      simp [upd, e]
  · rw [Array.getElem?_setIfInBounds_ne (by omega), h.y y hy0 hy1]
  · rw [Array.getElem?_setIfInBounds_ne (by omega), h.on]
  · rw [Array.getElem?_setIfInBounds_ne (by omega), h.off]
theorem Sd.other {cs : Array Value} {o : Nat} {S : Int → Int} {Y : Int → Bool} {on off : Int} (h : Sd cs o S Y on off) (o' : Nat) (ho : o' + 514 ≤ o ∨ o + 514 ≤ o') (x : Int) (v : Value) (h0 : 0 ≤ x) (h1 : x < 256) : Sd (cs.setIfInBounds (o' + x.toNat) v) o S Y on off := by
  refine ⟨fun y hy0 hy1 => ?_, fun y hy0 hy1 => ?_, ?_, ?_⟩
  · rw [Array.getElem?_setIfInBounds_ne (by omega), h.s y hy0 hy1]
  · rw [Array.getElem?_setIfInBounds_ne (by omega), h.y y hy0 hy1]
  · rw [Array.getElem?_setIfInBounds_ne (by omega), h.on]
  · rw [Array.getElem?_setIfInBounds_ne (by omega), h.off]
/-- What is said, in bytes of the call's own. -/
def Said (w' : World) (B : Nat) (v : Value) (bs : List Int) : Prop := Kd.R (Kd.int .u8) 5 w' B (fun _ => True) v bs
section
variable {w : World} {g o : Nat} {t : TypeId} {cs : Array Value} {S : Int → Int} {Y : Int → Bool} {on off : Int}
set_option maxHeartbeats 2000000 in
set_option maxRecDepth 100000 in
theorem say_p (h : w.heap[g]? = some (.cells cs t (0, 0))) (hs : Sd cs o S Y on off) (x st code : Int) (h0 : 0 ≤ x) (h1 : x < 256) : Calls Try.prog 42 #[.pointer (some ⟨g, o, none⟩), .int .u8 x, .int .i64 st, .int .u8 code] w fun e' w' => ∃ v, e' = .returned v ∧ Said w' w.heap.size v [255, code, x] ∧ w'.heap[g]? = some (.cells (cs.setIfInBounds (o + x.toNat) (.int .i64 st)) t (0, 0)) ∧ Fd w w' g w.heap.size := by
  have H := Lib.hid h
  have c0 := (blk_cell h (o + x.toNat)).trans (hs.s x h0 h1)
  have f0 := blk_frozen h (o + x.toNat)
  have hz : (w.setCell ⟨g, o + x.toNat, none⟩ (.int .i64 st)).heap.size = w.heap.size := by simp [World.setCell]
  have HC := Lib.hid (A.iac_Say.calls code x _ (w.setCell ⟨g, o + x.toNat, none⟩ (.int .i64 st)) rfl)
  have HF := Lib.hid ((Fd.refl w g w.heap.size).set (o + x.toNat) (.int .i64 st))
  have HG := Lib.hid (blk_set h (o + x.toNat) (.int .i64 st))
  rw [hz] at HC
  have HZ := Lib.hid hz
  clear h hs hz
  go_enter Try.func42, Try.ntmps42
  go_wp2_with (go_at_call 6; (with_reducible refine HC.out.mono ?_); rintro e w1 ⟨v, rfl, hv, hb⟩; have HR := Lib.hid (show Said w1 w.heap.size v [255, code, x] from hv); have HB := Lib.hid hb; clear hv hb)
  go_ret
  exact ⟨_, rfl, HR.out, blk_below HG.out (HZ.out.symm ▸ HB.out), HF.out.trans (Fd.of_below HB.out)⟩
set_option maxHeartbeats 2000000 in
set_option maxRecDepth 100000 in
theorem told_p (h : w.heap[g]? = some (.cells cs t (0, 0))) (hs : Sd cs o S Y on off) (x st : Int) (h0 : 0 ≤ x) (h1 : x < 256) : Calls Try.prog 43 #[.pointer (some ⟨g, o, none⟩), .int .u8 x, .int .i64 st] w fun e' w' => ∃ v, e' = .returned v ∧ Said w' w.heap.size v [] ∧ w'.heap[g]? = some (.cells (cs.setIfInBounds (o + x.toNat) (.int .i64 st)) t (0, 0)) ∧ Fd w w' g w.heap.size := by
  have H := Lib.hid h
  have c0 := (blk_cell h (o + x.toNat)).trans (hs.s x h0 h1)
  have f0 := blk_frozen h (o + x.toNat)
  have HF := Lib.hid ((Fd.refl w g w.heap.size).set (o + x.toNat) (.int .i64 st))
  have HG := Lib.hid (blk_set h (o + x.toNat) (.int .i64 st))
  clear h hs
  go_enter Try.func43, Try.ntmps43
  go_wp2
  go_ret
  exact ⟨_, rfl, Kd.R_nil _ _ _ _ _, HG.out, HF.out⟩
/-- What the other side's word for on does to an option: its state then, what is said. -/
def onS (s : Int) (m : Bool) : Int := if s = 0 then (if m then 1 else 0) else if s = 2 then 0 else if s = 5 then 2 else 1
def onB (s : Int) (m : Bool) (on off x : Int) : List Int := if s = 0 then (if m then [255, on, x] else [255, off, x]) else if s = 5 then [255, off, x] else []
def offS (s : Int) : Int := if s = 1 then 0 else if s = 4 then 3 else 0
def offB (s : Int) (on off x : Int) : List Int := if s = 1 then [255, off, x] else if s = 4 then [255, on, x] else []
set_option maxHeartbeats 4000000 in
set_option maxRecDepth 100000 in
theorem gotOn_p (h : w.heap[g]? = some (.cells cs t (0, 0))) (hs : Sd cs o S Y on off) (x : Int) (h0 : 0 ≤ x) (h1 : x < 256) : Calls Try.prog 44 #[.pointer (some ⟨g, o, none⟩), .int .u8 x] w fun e' w' => ∃ v, e' = .returned v ∧ Said w' w.heap.size v (onB (S x) (Y x) on off x) ∧ w'.heap[g]? = some (.cells (cs.setIfInBounds (o + x.toNat) (.int .i64 (onS (S x) (Y x)))) t (0, 0)) ∧ Fd w w' g w.heap.size := by
  have H1 := Lib.hid (fun st code => say_p h hs x st code h0 h1)
  have H2 := Lib.hid (fun st => told_p h hs x st h0 h1)
  have c0 := (blk_cell h (o + x.toNat)).trans (hs.s x h0 h1)
  have f0 := blk_frozen h (o + x.toNat)
  have c1 := (blk_cell h (o + 256 + x.toNat)).trans (hs.y x h0 h1)
  have f1 := blk_frozen h (o + 256 + x.toNat)
  have c2 := (blk_cell h (o + 512)).trans hs.on
  have f2 := blk_frozen h (o + 512)
  have c3 := (blk_cell h (o + 513)).trans hs.off
  have f3 := blk_frozen h (o + 513)
  clear h hs
  generalize S x = s at *
  generalize Y x = m at *
  have go : ∀ (st : Int) (bs : List Int), onS s m = st → onB s m on off x = bs → True := fun _ _ _ _ => trivial
  by_cases e0 : s = 0
  · subst e0
    cases m with
    | true =>
      go_enter Try.func44, Try.ntmps44
      go_wp2_with (go_at_call 42; (with_reducible refine (H1.out _ _).mono ?_); rintro e w1 ⟨v, rfl, hr, hb, hf⟩; have HR := Lib.hid (And.intro hr (And.intro hb hf)); clear hr hb hf)
      go_ret
      exact ⟨_, rfl, HR.out⟩
    | false =>
      go_enter Try.func44, Try.ntmps44
      go_wp2_with (go_at_call 42; (with_reducible refine (H1.out _ _).mono ?_); rintro e w1 ⟨v, rfl, hr, hb, hf⟩; have HR := Lib.hid (And.intro hr (And.intro hb hf)); clear hr hb hf)
      go_ret
      exact ⟨_, rfl, HR.out⟩
  by_cases e2 : s = 2
  · subst e2
    go_enter Try.func44, Try.ntmps44
    go_wp2_with (go_at_call 43; (with_reducible refine (H2.out _).mono ?_); rintro e w1 ⟨v, rfl, hr, hb, hf⟩; have HR := Lib.hid (And.intro hr (And.intro hb hf)); clear hr hb hf)
    go_ret
    exact ⟨_, rfl, HR.out⟩
  by_cases e5 : s = 5
  · subst e5
    go_enter Try.func44, Try.ntmps44
    go_wp2_with (go_at_call 42; (with_reducible refine (H1.out _ _).mono ?_); rintro e w1 ⟨v, rfl, hr, hb, hf⟩; have HR := Lib.hid (And.intro hr (And.intro hb hf)); clear hr hb hf)
    go_ret
    exact ⟨_, rfl, HR.out⟩
  have b0 : (s == 0) = false := beq_eq_false_iff_ne.2 e0
  have b2 : (s == 2) = false := beq_eq_false_iff_ne.2 e2
  have b5 : (s == 5) = false := beq_eq_false_iff_ne.2 e5
  have HE := Lib.hid (show onS s m = 1 ∧ onB s m on off x = [] by simp [onS, onB, e0, e2, e5])
  clear e0 e2 e5
  go_enter Try.func44, Try.ntmps44
  go_wp2_with (go_at_call 43; (with_reducible refine (H2.out _).mono ?_); rintro e w1 ⟨v, rfl, hr, hb, hf⟩; have HR := Lib.hid (And.intro hr (And.intro hb hf)); clear hr hb hf)
  go_ret
  rw [HE.out.1, HE.out.2]
  exact ⟨_, rfl, HR.out⟩
set_option maxHeartbeats 4000000 in
set_option maxRecDepth 100000 in
theorem gotOff_p (h : w.heap[g]? = some (.cells cs t (0, 0))) (hs : Sd cs o S Y on off) (x : Int) (h0 : 0 ≤ x) (h1 : x < 256) : Calls Try.prog 45 #[.pointer (some ⟨g, o, none⟩), .int .u8 x] w fun e' w' => ∃ v, e' = .returned v ∧ Said w' w.heap.size v (offB (S x) on off x) ∧ w'.heap[g]? = some (.cells (cs.setIfInBounds (o + x.toNat) (.int .i64 (offS (S x)))) t (0, 0)) ∧ Fd w w' g w.heap.size := by
  have H1 := Lib.hid (fun st code => say_p h hs x st code h0 h1)
  have H2 := Lib.hid (fun st => told_p h hs x st h0 h1)
  have c0 := (blk_cell h (o + x.toNat)).trans (hs.s x h0 h1)
  have f0 := blk_frozen h (o + x.toNat)
  have c2 := (blk_cell h (o + 512)).trans hs.on
  have f2 := blk_frozen h (o + 512)
  have c3 := (blk_cell h (o + 513)).trans hs.off
  have f3 := blk_frozen h (o + 513)
  clear h hs
  generalize S x = s at *
  by_cases e0 : s = 1
  · subst e0
    go_enter Try.func45, Try.ntmps45
    go_wp2_with (go_at_call 42; (with_reducible refine (H1.out _ _).mono ?_); rintro e w1 ⟨v, rfl, hr, hb, hf⟩; have HR := Lib.hid (And.intro hr (And.intro hb hf)); clear hr hb hf)
    go_ret
    exact ⟨_, rfl, HR.out⟩
  by_cases e2 : s = 4
  · subst e2
    go_enter Try.func45, Try.ntmps45
    go_wp2_with (go_at_call 42; (with_reducible refine (H1.out _ _).mono ?_); rintro e w1 ⟨v, rfl, hr, hb, hf⟩; have HR := Lib.hid (And.intro hr (And.intro hb hf)); clear hr hb hf)
    go_ret
    exact ⟨_, rfl, HR.out⟩
  have b0 : (s == 1) = false := beq_eq_false_iff_ne.2 e0
  have b2 : (s == 4) = false := beq_eq_false_iff_ne.2 e2
  have HE := Lib.hid (show offS s = 0 ∧ offB s on off x = [] by simp [offS, offB, e0, e2])
  clear e0 e2
  go_enter Try.func45, Try.ntmps45
  go_wp2_with (go_at_call 43; (with_reducible refine (H2.out _).mono ?_); rintro e w1 ⟨v, rfl, hr, hb, hf⟩; have HR := Lib.hid (And.intro hr (And.intro hb hf)); clear hr hb hf)
  go_ret
  rw [HE.out.1, HE.out.2]
  exact ⟨_, rfl, HR.out⟩
end
end Go.Proofs.Ytgjicigagfhgmaa.H
