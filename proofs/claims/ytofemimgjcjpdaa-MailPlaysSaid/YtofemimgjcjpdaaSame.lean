/- Two lists that are one: SameInts says so; all that waits is taken. -/
import Derived.Test.YtofemimgjcjpdaaDuo
namespace Go.Proofs.Ytofemimgjcjpdaa.H
open Go.Conc Go.RowKit Go.Shelf
open Go.Proofs.YtofemimgjcjpdaaW.PrintWords (ReadsInt rd readsInt_of own_reads_of_le)
abbrev ints (xs : List Int) : List Value := Go.Proofs.YtofemimgjcjpdaaW.PrintWords.nums .i64 xs
set_option linter.unusedVariables false
set_option linter.unusedSimpArgs false

theorem same_l0 (l : List Int) (hl : l.length ≤ 5000) : ∀ (d k : Nat) (i : Nat), i + d = l.length → d < k → A.greenscreenref01_SameInts.l0 k l l (i : Int) = some true := by
  intro d
  induction d with
  | zero =>
    intro k i hi hk
    obtain ⟨k, rfl⟩ : ∃ m, k = m + 1 := ⟨k - 1, by omega⟩
    simp only [A.greenscreenref01_SameInts.l0]
    rw [if_neg (by omega)]
  | succ d ih =>
    intro k i hi hk
    obtain ⟨k, rfl⟩ : ∃ m, k = m + 1 := ⟨k - 1, by omega⟩
    simp only [A.greenscreenref01_SameInts.l0]
    rw [if_pos (by omega), if_pos (by omega), if_pos (by omega), if_pos trivial, show wrap64 ((i : Int) + 1) = ((i + 1 : Nat) : Int) by unfold wrap64; omega]
    exact ih k (i + 1) (by omega) (by omega)
theorem same_true (W : World) (A0 A1 : Option Addr) (c0 c1 : Nat) (l : List Int) (h0 : ReadsInt W .i64 A0 l.length l) (hc0 : l.length ≤ c0) (h1 : ReadsInt W .i64 A1 l.length l) (hc1 : l.length ≤ c1) (hl : l.length ≤ 5000) :
    Calls Try.prog 15 #[.slice A0 l.length c0, .slice A1 l.length c1] W fun e w' => e = .returned (.bool true) ∧ ∃ n, w' = W.drewN n := by
  refine (A.greenscreenref01_SameInts.calls (l.length + 1) A0 c0 l A1 c1 l true W (Go.Proofs.YtofemimgjcjpdaaW.PrintWords.Kd.C_of_reads (readsInt_of.1 h0)) hc0 (Go.Proofs.YtofemimgjcjpdaaW.PrintWords.Kd.C_of_reads (readsInt_of.1 h1)) hc1 ?_).mono ?_
  · unfold A.greenscreenref01_SameInts.f
    rw [if_pos rfl]
    exact same_l0 l hl l.length (l.length + 1) 0 (by omega) (by omega)
  · rintro e w' ⟨rfl, n, rfl⟩
    exact ⟨rfl, n, rfl⟩

theorem same_of (W : World) (A0 A1 : Option Addr) (c0 c1 m : Nat) (l : List Int) (hm : l.length = m) (h0 : ReadsInt W .i64 A0 m l) (hc0 : m ≤ c0) (h1 : ReadsInt W .i64 A1 m l) (hc1 : m ≤ c1) (hl : m ≤ 5000) :
    Calls Try.prog 15 #[.slice A0 m c0, .slice A1 m c1] W fun e w' => e = .returned (.bool true) ∧ ∃ n, w' = W.drewN n := by
  subst hm
  exact same_true W A0 A1 c0 c1 l h0 hc0 h1 hc1 hl
theorem Turn.of_drew1 {S : Nat → Prop} {w w' : World} (h : Turn S w.drew w') : Turn S w w' := ⟨h.os, h.tape, h.output, h.size, h.block⟩
def TakenA (W : World) (g c cap : Nat) (xs : List Int) (shut : Bool) (e : Ending) (w' : World) : Prop :=
  ∃ Ad cp, e = .returned (.slice Ad xs.length cp) ∧ xs.length ≤ cp ∧ w'.ownsRow W.heap.size 3 1 (.slice Ad xs.length cp) xs.length (ints xs) ∧ ReadsInt w' .i64 Ad xs.length xs ∧ IsQ w' g c cap [] shut ∧ Turn (· = c) W w'
theorem taken_all (W : World) (g c cap : Nat) (xs : List Int) (shut : Bool) (hQ : IsQ W g c cap xs shut) (hl : xs.length ≤ 1500) :
    Calls Try.prog 16 #[.pointer (some ⟨g, 0, none⟩), .int .i64 2000] W (TakenA W g c cap xs shut) := by
  refine (taken_any W g c cap xs shut 2000 hQ (by omega)).mono ?_
  rintro e w' ⟨v, rfl, hr, hq, ht⟩
  have hk : takeN 2000 xs = xs.length := by
    unfold takeN
    rw [if_pos (by omega)]
    omega
  rw [hk, List.take_length] at hr
  rw [hk, List.drop_length] at hq
  obtain ⟨Ad, cp, rfl, hc, hrd⟩ := own_reads_of_le (enc := Value.int .i64) (d := (0 : Int)) (xs := xs) hr
  exact ⟨Ad, cp, rfl, hc, hr, readsInt_of.2 hrd, hq, ht⟩
end Go.Proofs.Ytofemimgjcjpdaa.H
