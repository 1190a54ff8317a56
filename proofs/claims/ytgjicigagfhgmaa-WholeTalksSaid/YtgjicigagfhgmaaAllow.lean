/- option.New. -/
import Derived.Test.YtgjicigagfhgmaaTalk
import Derived.Laws.Tables
namespace Go.Proofs.Ytgjicigagfhgmaa.H
open Go.RowKit Go.Proofs.YtgjicigagfhgmaaW.PrintWords Go.Proofs.YtgjicigagfhgmaaW.PrintLast
set_option linter.unusedVariables false
set_option linter.unusedSimpArgs false
def alw (Y : Int → Bool) (xs : List Int) : Int → Bool := fun y => decide (y ∈ xs) || Y y
theorem Sd.may {cs : Array Value} {o : Nat} {S : Int → Int} {Y : Int → Bool} {on off : Int} (h : Sd cs o S Y on off) (x : Int) (h0 : 0 ≤ x) (h1 : x < 256) : Sd (cs.setIfInBounds (o + 256 + x.toNat) (.bool true)) o S (alw Y [x]) on off := by
  have hlt : o + 256 + x.toNat < cs.size := (Array.getElem?_eq_some_iff.1 (h.y x h0 h1)).1
  refine ⟨fun y hy0 hy1 => ?_, fun y hy0 hy1 => ?_, ?_, ?_⟩
  · rw [Array.getElem?_setIfInBounds_ne (by omega), h.s y hy0 hy1]
  · by_cases e : y = x
    · subst e
      rw [Array.getElem?_setIfInBounds_self_of_lt hlt]
      simp [alw]
    · rw [Array.getElem?_setIfInBounds_ne (by omega), h.y y hy0 hy1]
      simp [alw, e]
  · rw [Array.getElem?_setIfInBounds_ne (by omega), h.on]
  · rw [Array.getElem?_setIfInBounds_ne (by omega), h.off]
theorem Sd.far {cs : Array Value} {o : Nat} {S : Int → Int} {Y : Int → Bool} {on off : Int} (h : Sd cs o S Y on off) (j : Nat) (hj : j < o ∨ o + 514 ≤ j) (v : Value) : Sd (cs.setIfInBounds j v) o S Y on off := by
  refine ⟨fun y hy0 hy1 => ?_, fun y hy0 hy1 => ?_, ?_, ?_⟩
  · rw [Array.getElem?_setIfInBounds_ne (by omega), h.s y hy0 hy1]
  · rw [Array.getElem?_setIfInBounds_ne (by omega), h.y y hy0 hy1]
  · rw [Array.getElem?_setIfInBounds_ne (by omega), h.on]
  · rw [Array.getElem?_setIfInBounds_ne (by omega), h.off]
theorem alw_snoc (Y : Int → Bool) (xs : List Int) (x : Int) : alw (alw Y xs) [x] = alw Y (xs ++ [x]) := by
  funext y
  simp only [alw, List.mem_append, List.mem_singleton]
  cases Y y <;> by_cases h1 : y = x <;> by_cases h2 : y ∈ xs <;> simp [h1, h2]
  all_goals (subst h1; simp [h2])
theorem alw_nil (Y : Int → Bool) : alw Y [] = Y := by funext y; simp [alw]
/-- Where allow stands. -/
structure AI (w wr : World) (g o : Nat) (cs : Array Value) (t : TypeId) (S : Int → Int) (Y : Int → Bool) (on off : Int) (xs : List Int) (k : Nat) : Prop where
  b : ∃ cs', wr.heap[g]? = some (.cells cs' t (0, 0)) ∧ Sd cs' o S (alw Y (xs.take k)) on off ∧ (∀ o' S' Y' a b, (o' + 514 ≤ o ∨ o + 514 ≤ o') → Sd cs o' S' Y' a b → Sd cs' o' S' Y' a b)
  f : Fd w wr g w.heap.size
section
variable {w : World} {g o : Nat} {t : TypeId} {cs : Array Value} {S : Int → Int} {Y : Int → Bool} {on off : Int}
set_option maxHeartbeats 4000000 in
set_option maxRecDepth 100000 in
theorem allow_p (h : w.heap[g]? = some (.cells cs t (0, 0))) (hs : Sd cs o S Y on off) (A0 : Option Addr) (c0 : Nat) (xs : List Int) (hC : ∀ W, Fd w W g w.heap.size → Kd.C (Kd.int .u8) W A0 xs.length xs) (hr : ∀ x ∈ xs, 0 ≤ x ∧ x < 256) (hl : xs.length ≤ 1000) : Calls Try.prog 30 #[.pointer (some ⟨g, o, none⟩), .slice A0 xs.length c0] w fun e' w' => e' = .returned (.tuple #[]) ∧ AI w w' g o cs t S Y on off xs xs.length := by
  have hu25 := Try.underlying25
  have HI0 : Hid (AI w w g o cs t S Y on off xs 0) := Lib.hid ⟨⟨cs, h, by rw [List.take_zero, alw_nil]; exact hs, fun _ _ _ _ _ _ h => h⟩, Fd.refl _ _ _⟩
  have HR := Lib.hid hr
  have HC := Lib.hid hC
  clear h hs hr hC
  go_enter Try.func30, Try.ntmps30
  go_wp2_with fail
  go_loopw [8] (fun v8 wr => ∃ k : Nat, k ≤ xs.length ∧ v8 = .int .i64 k ∧ Hid (AI w wr g o cs t S Y on off xs k)) (fun v8 _ => xs.length - (intOf v8).toNat)
  case atStart => exact ⟨0, Nat.zero_le _, rfl, HI0⟩
  case round =>
    obtain ⟨k, hk, rfl, HI⟩ := hrel
    clear HI0
    by_cases hlt : k < xs.length
    · obtain ⟨ad, rfl, d0⟩ := Kd.at_int (HC.out wr HI.out.f) (k : Int) (by omega) (by omega)
      rw [Int.toNat_natCast] at d0
      have hin := HR.out xs[k] (List.getElem_mem hlt)
      have hx := rd_get xs k hlt
      rw [hx] at d0
      obtain ⟨x, hxx⟩ : ∃ x, xs[k] = x := ⟨_, rfl⟩
      rw [hxx] at d0 hin
      obtain ⟨hx0, hx1⟩ := hin
      obtain ⟨cs', hc', hs', hf'⟩ := HI.out.b
      have c0' := (blk_cell hc' (o + 256 + x.toNat)).trans (hs'.y x hx0 hx1)
      have f0' := blk_frozen hc' (o + 256 + x.toNat)
      have HN : Hid (AI w (wr.setCell ⟨g, o + 256 + x.toNat, none⟩ (.bool true)) g o cs t S Y on off xs (k + 1)) := Lib.hid ⟨⟨_, blk_set hc' _ _, by
        have := hs'.may x hx0 hx1
        rw [alw_snoc, ← hxx, List.take_append_getElem] at this
        rw [← hxx]
        exact this, fun o' S' Y' a b ho hh => (hf' o' S' Y' a b ho hh).far _ (by omega) _⟩, HI.out.f.set _ _⟩
      clear hc' hs' hf' hx hxx
      go_wp2_with fail
      go_roundw
      case rel => exact ⟨k + 1, by omega, by go_num, HN⟩
      case measure => simp [intOf]; omega
    · obtain rfl : k = xs.length := by omega
      go_wp2_with fail
      first | go_end0 | refine bodyPost_ret (results_none rfl _ _ _) rfl ?_
      exact ⟨rfl, HI.out⟩
end
end Go.Proofs.Ytgjicigagfhgmaa.H
