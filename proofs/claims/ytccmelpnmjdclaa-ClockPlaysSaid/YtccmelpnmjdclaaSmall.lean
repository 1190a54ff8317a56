/- Clock.Now, Len, Next, Left. -/
import Derived.Test.YtccmelpnmjdclaaGo
namespace Go.Proofs.Ytccmelpnmjdclaa.H
open Go.RowKit Go.Proofs.YtccmelpnmjdclaaW.PrintWords Go.Proofs.YtccmelpnmjdclaaW.PrintLast
set_option linter.unusedVariables false
set_option linter.unusedSimpArgs false
/-- When the first alarm is due; 0: there is none. -/
def nextV : List A.S62 → Int
  | [] => 0
  | x :: _ => x.f1
def someL : List A.S62 → Bool
  | [] => false
  | _ :: _ => true
/-- How many ticks are left. -/
def leftV (xs : List A.S62) (now id : Int) : Int := ((xs.find? (fun x => x.f0 == id)).map (fun x => x.f1 - now)).getD 0
theorem idx_find {xs : List A.S62} {id : Int} {k : Nat} (hk : k < xs.length) (he : (A.rd_T62 xs (k : Int)).f0 = id) (h : ∀ j : Nat, j < k → (A.rd_T62 xs (j : Int)).f0 ≠ id) (now : Int) : leftV xs now id = xs[k].f1 - now := by
  have : xs.find? (fun x => x.f0 == id) = some xs[k] := by
    rw [List.find?_eq_some_iff_getElem]
    refine ⟨by rw [rd_at xs k hk] at he; simpa using he, k, hk, rfl, fun j hj => ?_⟩
    have := h j hj
    rw [rd_at xs j (by omega)] at this
    simpa using this
  rw [leftV, this]
  rfl
theorem left_none {xs : List A.S62} {id : Int} (h : hasL xs id = false) (now : Int) : leftV xs now id = 0 := by
  have : xs.find? (fun x => x.f0 == id) = none := by
    rw [List.find?_eq_none]
    unfold hasL at h
    rw [List.any_eq_false] at h
    exact h
  rw [leftV, this]
  rfl
section
variable {w : World} {g : Nat} {now : Int} {v : Value} {xs : List A.S62}
set_option maxHeartbeats 1000000 in
theorem now_p (hI : IsC w g now v xs) : Calls Try.prog 19 #[.pointer (some ⟨g, 0, none⟩)] w fun e w' => e = .returned (.int .i64 now) ∧ Below w.heap.size w w' := by
  have c0 := (blk_cell hI.p 0).trans rfl
  clear hI
  go_enter Try.func19, Try.ntmps19
  go_wp2_with fail
  go_ret
  exact ⟨rfl, Below.refl _ _⟩
set_option maxHeartbeats 1000000 in
theorem len_p (hI : IsC w g now v xs) : Calls Try.prog 20 #[.pointer (some ⟨g, 0, none⟩)] w fun e w' => e = .returned (.int .i64 xs.length) ∧ Below w.heap.size w w' := by
  obtain ⟨A0, k0, rfl, _, _⟩ := hI.r.C (by have := hI.l; omega)
  have c1 := (blk_cell hI.p 1).trans rfl
  clear hI
  go_enter Try.func20, Try.ntmps20
  go_wp2_with fail
  go_ret
  exact ⟨rfl, Below.refl _ _⟩
set_option maxHeartbeats 1000000 in
theorem next_p (hI : IsC w g now v xs) : Calls Try.prog 18 #[.pointer (some ⟨g, 0, none⟩)] w fun e w' => e = .returned (.tuple #[.int .i64 (nextV xs), .bool (someL xs)]) ∧ Below w.heap.size w w' := by
  obtain ⟨A0, k0, rfl, _, hC⟩ := hI.r.C (by have := hI.l; omega)
  have c1 := (blk_cell hI.p 1).trans rfl
  clear hI
  cases xs with
  | nil =>
    clear hC
    go_enter Try.func18, Try.ntmps18
    go_wp2_with fail
    go_ret2
    exact ⟨rfl, Below.refl _ _⟩
  | cons x ys =>
    obtain ⟨ad, rfl, d0, d1⟩ := A.at_T62 hC 0 (by omega) (by simp)
    have hrd : A.rd_T62 (x :: ys) 0 = x := rfl
    have had : ad.add ((0 : Int).toNat * 2) = ad := by simp [Addr.add]
    rw [hrd, had] at d0 d1
    clear hC had hrd
    have e0 : ((ys.length : Int) + 1 == 0) = false := beq_eq_false_iff_ne.2 (by omega)
    go_enter Try.func18, Try.ntmps18
    go_wp2_with fail
    go_ret2
    exact ⟨rfl, Below.refl _ _⟩
set_option maxHeartbeats 2000000 in
theorem left_p (hI : IsC w g now v xs) (h0 : 0 ≤ now) (h1 : now ≤ 1099511627776) (hb : ∀ x ∈ xs, 0 ≤ x.f1 ∧ x.f1 ≤ 1099511627776) (id : Int) : Calls Try.prog 16 #[.pointer (some ⟨g, 0, none⟩), .int .i64 id] w fun e w' => e = .returned (.tuple #[.int .i64 (leftV xs now id), .bool (hasL xs id)]) ∧ Below w.heap.size w w' := by
  have hl := hI.l
  have HI := Lib.hid hI
  cases hh : hasL xs id
  · have HL := Lib.hid (left_none hh now)
    have HF := Lib.hid (find_f hI id hh)
    clear hI hb h0 h1 hh
    go_enter Try.func16, Try.ntmps16
    go_wp2_with (go_at_call 21; (with_reducible refine HF.out.mono ?_); rintro e w1 ⟨rfl, hb1⟩; have HB1 := Lib.hid hb1; clear hb1)
    go_ret2
    rw [HL.out]
    exact ⟨rfl, HB1.out⟩
  · have HF := Lib.hid (find_t hI id hh)
    have HB := Lib.hid hb
    have H01 := Lib.hid (And.intro h0 h1)
    clear hI hb h0 h1 hh
    go_enter Try.func16, Try.ntmps16
    go_upto_region 4 with (go_at_call 21; (with_reducible refine HF.out.mono ?_); rintro e w1 ⟨k, rfl, hk, he, hn, hb1⟩; have HB1 := Lib.hid hb1; have HI1 := Lib.hid (HI.out.later hb1); have HK := Lib.hid hk; have HE := Lib.hid he; have HN := Lib.hid hn; have d1 : decide ((k : Int) < 0) = false := decide_eq_false (by omega); clear hb1 hk he hn)
    obtain ⟨A0, k0, rfl, _, hC⟩ := HI1.out.r.C (by have := HI1.out.l; omega)
    have c0 := (blk_cell HI1.out.p 0).trans rfl
    have c1 := (blk_cell HI1.out.p 1).trans rfl
    have hk := HK.out
    obtain ⟨ad, rfl, d0, d2⟩ := A.at_T62 hC (k : Int) (by omega) (by omega)
    rw [rd_at xs k hk] at d0 d2
    rw [Int.toNat_natCast] at d0 d2
    have hx := HB.out _ (List.getElem_mem hk)
    have hsub : wrap64 (xs[k].f1 - now) = leftV xs now id := by
      rw [idx_find hk HE.out HN.out]
      have := H01.out
      unfold wrap64; omega
    clear hC hx
    obtain ⟨x, hx⟩ : ∃ x, xs[k] = x := ⟨_, rfl⟩
    rw [hx] at d0 d2 hsub
    have HS := Lib.hid hsub
    clear hx hsub
    go_quiet (fail)
    go_wp2_with fail
    go_ret2
    rw [HS.out]
    exact ⟨rfl, pw_below_drewN HB1.out _⟩
end
end Go.Proofs.Ytccmelpnmjdclaa.H
