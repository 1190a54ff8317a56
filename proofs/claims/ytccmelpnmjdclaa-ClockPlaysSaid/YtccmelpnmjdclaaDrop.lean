/- Clock.Drop. -/
import Derived.Test.YtccmelpnmjdclaaDelete
namespace Go.Proofs.Ytccmelpnmjdclaa.H
open Go.RowKit Go.Proofs.YtccmelpnmjdclaaW.PrintWords Go.Proofs.YtccmelpnmjdclaaW.PrintLast
set_option linter.unusedVariables false
set_option linter.unusedSimpArgs false
/-- What a method that turns a clock lets be. -/
structure Frm (w w' : World) (g : Nat) (row : Option Nat) : Prop where
  os : w'.os = w.os
  tape : w'.tape = w.tape
  output : w'.output = w.output
  size : w.heap.size ≤ w'.heap.size
  block : ∀ k, k < w.heap.size → k ≠ g → some k ≠ row → w'.heap[k]? = w.heap[k]?
theorem Frm.refl (w : World) (g : Nat) (row : Option Nat) : Frm w w g row := ⟨rfl, rfl, rfl, Nat.le_refl _, fun _ _ _ _ => rfl⟩
theorem Frm.of_below {w w' : World} (h : Below w.heap.size w w') (g : Nat) (row : Option Nat) : Frm w w' g row := ⟨h.os, h.tape, h.output, h.size, fun k hk _ _ => h.block k hk⟩
theorem Frm.below {w w' : World} {g B : Nat} {row : Option Nat} (h : Frm w w' g row) (hB : B ≤ w.heap.size) (hg : B ≤ g) (hr : ∀ R, row = some R → B ≤ R) : Below B w w' := ⟨h.os, h.tape, h.output, h.size, fun k hk => h.block k (by omega) (by omega) (fun e => by have := hr k e.symm; omega)⟩
theorem Frm.trans {w w1 w2 : World} {g : Nat} {row row1 : Option Nat} (h : Frm w w1 g row) (h2 : Frm w1 w2 g row1) (hr : row1 = row ∨ ∀ R, row1 = some R → w.heap.size ≤ R) : Frm w w2 g row :=
  ⟨h2.os.trans h.os, h2.tape.trans h.tape, h2.output.trans h.output, Nat.le_trans h.size h2.size, fun k hk hg hn => (h2.block k (Nat.lt_of_lt_of_le hk h.size) hg (fun e => by
    rcases hr with h3 | h3
    · exact hn (e.trans h3)
    · have := h3 k e.symm; omega)).trans (h.block k hk hg hn)⟩
theorem Frm.of_grown {w w' : World} {g : Nat} {row : Option Nat} (h : w.grownBy w' row) : Frm w w' g row := ⟨h.os, h.tape, h.output, h.size, fun k hk _ hn => h.block k hk hn⟩
theorem Frm.set {w w' : World} {g : Nat} {row : Option Nat} (h : Frm w w' g row) (j : Nat) (u : Value) : Frm w (w'.setCell ⟨g, j, none⟩ u) g row :=
  ⟨h.os, h.tape, h.output, by simpa [World.setCell] using h.size, fun k hk hg hn => (Below.heap_setCell w' ⟨g, j, none⟩ u k hg).trans (h.block k hk hg hn)⟩
theorem Frm.drew {w w' : World} {g : Nat} {row : Option Nat} (h : Frm w w' g row) : Frm w w'.drew g row := ⟨h.os, h.tape, h.output, h.size, h.block⟩
/-- Without an alarm. -/
def dropL (xs : List A.S62) (id : Int) : List A.S62 := xs.eraseP (fun x => x.f0 == id)
def hasL (xs : List A.S62) (id : Int) : Bool := xs.any (fun x => x.f0 == id)
theorem rd_at (xs : List A.S62) (k : Nat) (h : k < xs.length) : A.rd_T62 xs (k : Int) = xs[k] := by
  unfold A.rd_T62
  simp [List.getD, List.getElem?_eq_getElem h]
theorem idx_none {xs : List A.S62} {id : Int} (h : ∀ j : Nat, j < xs.length → (A.rd_T62 xs (j : Int)).f0 ≠ id) : dropL xs id = xs ∧ hasL xs id = false := by
  have hm : ∀ x ∈ xs, ¬ ((x.f0 == id) = true) := by
    intro x hx
    obtain ⟨k, hk, rfl⟩ := List.mem_iff_getElem.1 hx
    have := h k hk
    rw [rd_at xs k hk] at this
    simpa using this
  exact ⟨List.eraseP_of_forall_not hm, by rw [hasL, List.any_eq_false]; exact hm⟩
theorem idx_some {xs : List A.S62} {id : Int} {k : Nat} (hk : k < xs.length) (he : (A.rd_T62 xs (k : Int)).f0 = id) (h : ∀ j : Nat, j < k → (A.rd_T62 xs (j : Int)).f0 ≠ id) : dropL xs id = xs.eraseIdx k ∧ hasL xs id = true := by
  constructor
  · clear hk
    induction xs generalizing k with
    | nil => simp [dropL]
    | cons x xs ih =>
      cases k with
      | zero =>
        have hx : x.f0 = id := he
        simp [dropL, List.eraseP_cons, hx]
      | succ k =>
        have h0 : x.f0 ≠ id := h 0 (by omega)
        have hb : (x.f0 == id) = false := by simpa using h0
        have := ih (k := k) (by simpa [A.rd_T62] using he) (fun j hj => by have := h (j + 1) (by omega); simpa [A.rd_T62] using this)
        unfold dropL at this ⊢
        rw [List.eraseP_cons, hb]
        simp [this]
  · rw [hasL, List.any_eq_true]
    exact ⟨xs[k], List.getElem_mem hk, by rw [rd_at xs k hk] at he; simp [he]⟩
section
variable {w : World} {g : Nat} {now : Int} {v : Value} {xs : List A.S62}
set_option maxHeartbeats 2000000 in
set_option maxRecDepth 100000 in
theorem drop_p (hI : IsC w g now v xs) (id : Int) : Calls Try.prog 12 #[.pointer (some ⟨g, 0, none⟩), .int .i64 id] w fun e w' => ∃ v', e = .returned (.bool (hasL xs id)) ∧ IsC w' g now v' (dropL xs id) ∧ Frm w w' g v.ownBlock ∧ v'.ownBlock = v.ownBlock := by
  have hl := hI.l
  have HI := Lib.hid hI
  clear hI
  go_enter Try.func12, Try.ntmps12
  go_upto_region 2 with (go_at_call 21; (with_reducible refine (find_p HI.out id).mono ?_); rintro e w1 ⟨r, rfl, hi, hb1⟩; have HIX := Lib.hid hi; have HB1 := Lib.hid hb1; have HI1 := Lib.hid (HI.out.later hb1); clear hi hb1)
  rcases HIX.out with ⟨k, hk, rfl, he, hn⟩ | ⟨rfl, hn⟩
  · obtain ⟨e1, e2⟩ := idx_some hk he hn
    have E12 := Lib.hid (And.intro e1 e2)
    have d1 : decide ((k : Int) < 0) = false := by simp
    have hr := HI1.out.r
    have hwk : wrap64 ((k : Int) + 1) = (k : Int) + 1 := by unfold wrap64; omega
    rcases hr with ⟨_, hnil⟩ | ⟨R, off, cap, pre, post, rfl, hb, ho, hp, hc⟩
    · rw [hnil] at hk
      exact absurd hk (by simp)
    · have c1 := (blk_cell HI1.out.p 1).trans rfl
      have f1 := blk_frozen HI1.out.p 1
      have hne : g ≠ R := blk_ne HI1.out.p hb (by decide)
      have HD := Lib.hid (delete_p hb ho hp hc hl k hk)
      have HP1 := Lib.hid HI1.out.p
      clear hb ho hp hc hn he e1 e2 HIX hl
      go_wp2_with (go_at_call 25; (with_reducible refine HD.out.mono ?_); rintro e w2 ⟨rfl, hr2, hg2⟩; have HR2 := Lib.hid hr2; have HG2 := Lib.hid hg2; have hp2 := blk_grown HP1.out hg2 (by simpa using hne); have HP2 := Lib.hid hp2; have c2 := (blk_cell hp2 1).trans rfl; have f2 := blk_frozen hp2 1; clear hr2 hg2 hp2)
      go_ret
      have hF := ((Frm.of_below HB1.out g (some R)).trans (Frm.of_grown (g := g) HG2.out) (.inl rfl)).set 1 (.slice (some ⟨R, off, none⟩) (xs.length - 1) cap)
      refine ⟨_, ?_, ⟨blk_set HP2.out 1 _, ?_, ?_⟩, hF, rfl⟩
      · rw [E12.out.2]
        rfl
      · rw [E12.out.1]
        exact HR2.out.keep (fun R' hR' => Below.heap_setCell _ _ _ R' (by
          obtain rfl : R = R' := by simpa [Value.ownBlock] using hR'
          exact Ne.symm hne))
      · rw [E12.out.1, List.length_eraseIdx_of_lt hk]
        have := HI.out.l
        omega
  · obtain ⟨e1, e2⟩ := idx_none hn
    go_wp2_with fail
    go_ret
    refine ⟨v, by rw [e2]; rfl, by rw [e1]; exact HI1.out, Frm.of_below HB1.out _ _, rfl⟩
end
end Go.Proofs.Ytccmelpnmjdclaa.H
