/- (*query.Terminal).lay: one contract for all kinds. -/
import Derived.Test.YtpdihhfeekoplaaLaySizes
namespace Go.Proofs.Ytpdihhfeekoplaa.P
open Go.RowKit Go.Proofs.YtpdihhfeekoplaaW.PrintWords Go.Proofs.YtpdihhfeekoplaaW.PrintLast Go.Proofs.YtpdihhfeekoplaaW.PrintMore
open Go.Proofs.Ytpdihhfeekoplaa.A
set_option linter.unusedVariables false
set_option linter.unusedSimpArgs false

abbrev Ter := Int × Int × Int × Int × List Int × List Int

/-- What lay answers, and what it makes of a terminal. -/
def layf (kind : Int) (l : List Int) (t : Ter) : Option (Bool × Ter) :=
  if 100000 ≤ l.length then none
  else if kind = 134 then (if l.length = 0 then some (false, t) else some (true, t.1, t.2.1, t.2.2.1, t.2.2.2.1, l.drop 1, t.2.2.2.2.2))
  else if kind = 135 then (if l.length = 0 then some (false, t) else some (true, t.1, t.2.1, t.2.2.1, t.2.2.2.1, t.2.2.2.2.1, l.drop 1))
  else if kind = 166 then (if l.length = 8 then (query_read.f l).bind fun r => (query_read.f (l.drop 4)).bind fun q => some (true, r.1, r.2, q.1, q.2, t.2.2.2.2.1, t.2.2.2.2.2) else some (false, t))
  else if kind = 128 then some (true, t)
  else if kind = 129 then some (true, t)
  else none

/-- Two rows of a terminal's own, apart from each other and from two blocks. -/
def Two (B g2 g : Nat) (w : World) (vc vl : Value) (cs ls : List Int) : Prop :=
  (Kd.int .u8).R 5 w B (fun k => (k ≠ g2 ∧ k ≠ g) ∧ some k ≠ vl.ownBlock) vc cs ∧ (Kd.int .u8).R 5 w B (fun k => (k ≠ g2 ∧ k ≠ g) ∧ some k ≠ vc.ownBlock) vl ls

variable {B g2 g : Nat} {w w' : World} {v vc vl : Value} {cs ls cs' ls' : List Int}
theorem Two.turn (h : Two B g2 g w vc vl cs ls) (ht : Turned w w' g) : Two B g2 g w' vc vl cs ls :=
  ⟨Kd.R_keep h.1 ht.keep (fun k hk => hk.1.2), Kd.R_keep h.2 ht.keep (fun k hk => hk.1.2)⟩
theorem Two.below (h : Two B g2 g w vc vl cs ls) (ht : Below w.heap.size w w') : Two B g2 g w' vc vl cs ls :=
  ⟨Kd.R_below h.1 ht, Kd.R_below h.2 ht⟩
theorem Two.swap (h : Two B g2 g w vc vl cs ls) : Two B g2 g w vl vc ls cs := ⟨h.2, h.1⟩
theorem Two.first (h : Two B g2 g w vc vl cs ls) (ht : Turned w w' g) (hg2 : g2 < w.heap.size) (hB : B ≤ w.heap.size) (hR : (Kd.int .u8).R 5 w' w.heap.size (fun k => k ≠ g) v cs') : Two B g2 g w' v vl cs' ls := by
  have hlt := Kd.R_lt h.2
  refine ⟨Kd.R_lower (Kd.R_mono (Kd.R_bound hR) (fun k hk => ⟨⟨by have := hk.2.1; omega, hk.1⟩, fun he => ?_⟩)) hB, ?_⟩
  · have h1 := hlt k he.symm
    have h2 := hk.2.1
    omega
  · refine Kd.R_mono (Kd.R_keep (Kd.R_bound h.2) ht.keep (fun k hk => hk.1.1.2)) (fun k hk => ⟨hk.1.1, fun he => ?_⟩)
    have h1 := Kd.R_base hR k he.symm
    have h2 := hk.2.2.1
    omega
theorem Two.nil (B g2 g : Nat) (w : World) : Two B g2 g w (.slice none 0 0) (.slice none 0 0) [] [] := ⟨Kd.R_nil _ _ _ _ _, Kd.R_nil _ _ _ _ _⟩
theorem Two.cells (h : Two B g2 g w vc vl cs ls) : vc.oneCell' = true ∧ vl.oneCell' = true := by
  obtain ⟨A, c, rfl⟩ := Kd.R_slice h.1
  obtain ⟨A', c', rfl⟩ := Kd.R_slice h.2
  exact ⟨rfl, rfl⟩

theorem lay_all (kind : Int) (b : Bool) (t t' : Ter) (A : Option Addr) (c : Nat) (l : List Int) (hb : w.heap[g]? = some (term t.1 t.2.1 t.2.2.1 t.2.2.2.1 vc vl)) (hC : Kd.C (Kd.int .u8) w A l.length l) (hc : l.length ≤ c) (hT : Two B g2 g w vc vl t.2.2.2.2.1 t.2.2.2.2.2) (hg2 : g2 < w.heap.size) (hB : B ≤ w.heap.size) (h : layf kind l t = some (b, t')) :
    Calls Try.prog 26 #[.pointer (some ⟨g, 0, none⟩), .int .u8 kind, .slice A l.length c] w fun e w' => e = .returned (.bool b) ∧ Turned w w' g ∧ ∃ vc' vl', w'.heap[g]? = some (term t'.1 t'.2.1 t'.2.2.1 t'.2.2.2.1 vc' vl') ∧ Two B g2 g w' vc' vl' t'.2.2.2.2.1 t'.2.2.2.2.2 := by
  obtain ⟨p0, p1, o0, o1, cs, ls⟩ := t
  obtain ⟨c1, c2⟩ := hT.cells
  have same : ∀ (b' : Bool), (b', (p0, p1, o0, o1, cs, ls)) = (b, t') → Calls Try.prog 26 #[.pointer (some ⟨g, 0, none⟩), .int .u8 kind, .slice A l.length c] w (fun e w' => e = .returned (.bool b') ∧ Below w.heap.size w w') → Calls Try.prog 26 #[.pointer (some ⟨g, 0, none⟩), .int .u8 kind, .slice A l.length c] w fun e w' => e = .returned (.bool b) ∧ Turned w w' g ∧ ∃ vc' vl', w'.heap[g]? = some (term t'.1 t'.2.1 t'.2.2.1 t'.2.2.2.1 vc' vl') ∧ Two B g2 g w' vc' vl' t'.2.2.2.2.1 t'.2.2.2.2.2 := by
    intro b' e hcall
    injection e with e1 e2
    subst e1 e2
    refine hcall.mono ?_
    rintro e w1 ⟨rfl, hb1⟩
    exact ⟨rfl, .of_below hb1, vc, vl, (hb1.block g (blk_lt hb)).trans hb, hT.below hb1⟩
  unfold layf at h
  dsimp only at h hT hb
  split at h
  · cases h
  rename_i hlim
  split at h
  · rename_i hk
    subst hk
    split at h
    · rename_i hl
      rw [hl] at same ⊢
      exact same _ (Option.some.inj h) (lay_no2 _ _ _ _)
    · rename_i hl
      injection Option.some.inj h with e1 e2
      subst e1 e2
      refine (lay_colors g p0 p1 o0 o1 vc vl A c l w hb hC hc (by omega) (by omega) c1).mono ?_
      rintro e w1 ⟨rfl, v, hb1, hR, ht⟩
      exact ⟨rfl, ht, v, vl, hb1, hT.first ht hg2 hB hR⟩
  split at h
  · rename_i hk
    subst hk
    split at h
    · rename_i hl
      rw [hl] at same ⊢
      exact same _ (Option.some.inj h) (lay_no3 _ _ _ _)
    · rename_i hl
      injection Option.some.inj h with e1 e2
      subst e1 e2
      refine (lay_lights g p0 p1 o0 o1 vc vl A c l w hb hC hc (by omega) (by omega) c2).mono ?_
      rintro e w1 ⟨rfl, v, hb1, hR, ht⟩
      exact ⟨rfl, ht, vc, v, hb1, (hT.swap.first ht hg2 hB hR).swap⟩
  split at h
  · rename_i hk
    subst hk
    split at h
    · rename_i hl
      obtain ⟨⟨r1, r2⟩, h1, h⟩ := Option.bind_eq_some_iff.mp h
      obtain ⟨⟨q1, q2⟩, h2, h⟩ := Option.bind_eq_some_iff.mp h
      injection Option.some.inj h with e1 e2
      subst e1 e2
      refine (lay_sizes g p0 p1 o0 o1 r1 r2 q1 q2 vc vl A c l w hb hC hc hl h1 h2).mono ?_
      rintro e w1 ⟨rfl, hb1, ht⟩
      exact ⟨rfl, ht, vc, vl, hb1, hT.turn ht⟩
    · rename_i hl
      exact same _ (Option.some.inj h) (lay_no4 _ _ _ _ _ hl)
  split at h
  · rename_i hk
    subst hk
    exact same _ (Option.some.inj h) (lay_yes0 _ _ _ _ _)
  split at h
  · rename_i hk
    subst hk
    exact same _ (Option.some.inj h) (lay_yes1 _ _ _ _ _)
  · cases h
end Go.Proofs.Ytpdihhfeekoplaa.P
