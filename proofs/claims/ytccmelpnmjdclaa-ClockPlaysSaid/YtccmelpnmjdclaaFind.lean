/- A clock; where an alarm is. -/
import Derived.Test.YtccmelpnmjdclaaRw
namespace Go.Proofs.Ytccmelpnmjdclaa.H
open Go.RowKit Go.Proofs.YtccmelpnmjdclaaW.PrintWords Go.Proofs.YtccmelpnmjdclaaW.PrintLast
set_option linter.unusedVariables false
set_option linter.unusedSimpArgs false
/-- A row of alarms. -/
def Rw (W : World) (v : Value) (xs : List A.S62) : Prop := (v = .slice none 0 0 ∧ xs = []) ∨
  ∃ R off cap pre post, v = .slice (some ⟨R, off, none⟩) xs.length cap ∧ W.heap[R]? = some (.cells (pre ++ (flatA xs ++ post)).toArray 62 (0, 0)) ∧ pre.length = off ∧ (cap - xs.length) * 2 ≤ post.length ∧ xs.length ≤ cap
theorem flatA_get : ∀ (xs : List A.S62) (i : Nat) (x : A.S62) (j : Nat) (u : Value), xs[i]? = some x → (al x)[j]? = some u → (flatA xs)[i * 2 + j]? = some u
  | [], i, x, j, u, h, _ => by simp at h
  | y :: xs, 0, x, j, u, h, hu => by
    have hj : j < 2 := (List.getElem?_eq_some_iff.1 hu).1
    simp only [List.getElem?_cons_zero, Option.some.injEq] at h
    subst h
    rw [flatA_cons, Nat.zero_mul, Nat.zero_add]
    obtain rfl | rfl : j = 0 ∨ j = 1 := by omega
    · exact hu
    · exact hu
  | y :: xs, i + 1, x, j, u, h, hu => by
    rw [flatA_cons, show (i + 1) * 2 + j = i * 2 + j + 1 + 1 by omega, List.getElem?_cons_succ, List.getElem?_cons_succ]
    exact flatA_get xs i x j u (by simpa using h) hu
theorem addr_at (R off k : Nat) : (⟨R, off, none⟩ : Addr).add k = ⟨R, off + k, none⟩ := by
  cases k with
  | zero => simp [Addr.add]
  | succ k => simp [Addr.add]
theorem Rw.C {W : World} {v : Value} {xs : List A.S62} (h : Rw W v xs) (hl : xs.length ≤ 1000) : ∃ A0 c, v = .slice A0 xs.length c ∧ xs.length ≤ c ∧ Kd.C A.k62 W A0 xs.length xs := by
  rcases h with ⟨rfl, rfl⟩ | ⟨R, off, cap, pre, post, rfl, hb, ho, hp, hc⟩
  · exact ⟨none, 0, rfl, Nat.le_refl _, rfl, by simp, fun h => absurd h (by simp)⟩
  · refine ⟨_, cap, rfl, hc, rfl, by omega, fun _ => ⟨_, rfl, fun j p hj => ⟨al p, rfl, A.k62_mk W p, fun i u hu => ?_⟩⟩⟩
    have hg := flatA_get xs j p i u hj hu
    have hlt := (List.getElem?_eq_some_iff.1 hg).1
    show W.cell? ((⟨R, off, none⟩ : Addr).add (j * 2 + i)) = some u
    rw [addr_at, blk_cell hb]
    simp only [List.getElem?_toArray]
    rw [List.getElem?_append_right (by omega), show off + (j * 2 + i) - pre.length = j * 2 + i by omega, List.getElem?_append_left hlt]
    exact hg
theorem Rw.keep {W W1 : World} {v : Value} {xs : List A.S62} (h : Rw W v xs) (hk : ∀ R, v.ownBlock = some R → W1.heap[R]? = W.heap[R]?) : Rw W1 v xs := by
  rcases h with ⟨h1, h2⟩ | ⟨R, off, cap, pre, post, hv, hb, ho, hp, hc⟩
  · exact .inl ⟨h1, h2⟩
  · exact .inr ⟨R, off, cap, pre, post, hv, (hk R (by rw [hv]; rfl)).trans hb, ho, hp, hc⟩
theorem Rw.lt {W : World} {v : Value} {xs : List A.S62} (h : Rw W v xs) (R : Nat) (hR : v.ownBlock = some R) : R < W.heap.size := by
  rcases h with ⟨rfl, _⟩ | ⟨R', off, cap, pre, post, rfl, hb, _⟩
  · cases hR
  · obtain rfl : R' = R := by simpa [Value.ownBlock] using hR
    exact blk_lt hb
theorem Rw.later {W W1 : World} {v : Value} {xs : List A.S62} (h : Rw W v xs) (hb : Below W.heap.size W W1) : Rw W1 v xs := h.keep (fun R hR => hb.block R (h.lt R hR))
/-- A clock in memory. -/
structure IsC (W : World) (g : Nat) (now : Int) (v : Value) (xs : List A.S62) : Prop where
  p : W.heap[g]? = some (.cells #[.int .i64 now, v] 27 (0, 0))
  r : Rw W v xs
  l : xs.length ≤ 64
theorem IsC.later {W W1 : World} {g : Nat} {now : Int} {v : Value} {xs : List A.S62} (h : IsC W g now v xs) (hb : Below W.heap.size W W1) : IsC W1 g now v xs := ⟨blk_below h.p hb, h.r.later hb, h.l⟩
/-- Where an alarm is, or -1. -/
def Idx (xs : List A.S62) (id r : Int) : Prop := (∃ k : Nat, k < xs.length ∧ r = k ∧ (A.rd_T62 xs (k : Int)).f0 = id ∧ ∀ j : Nat, j < k → (A.rd_T62 xs (j : Int)).f0 ≠ id) ∨ (r = -1 ∧ ∀ j : Nat, j < xs.length → (A.rd_T62 xs (j : Int)).f0 ≠ id)
section
variable {w : World} {A0 : Option Addr} {c0 bi : Nat} {id : Int} {xs : List A.S62}
set_option maxHeartbeats 1000000 in
theorem is_p (x : A.S62) (hb : w.heap[bi]? = some (.cells #[.int .i64 id] 3 (0, 0))) : Calls Try.prog 27 #[.agg #[.int .i64 x.f0, .int .i64 x.f1], .pointer (some ⟨bi, 0, none⟩)] w fun e w' => e = .returned (.bool (x.f0 == id)) ∧ Below w.heap.size w w' := by
  have hc := (blk_cell (blk_alloc hb (.cells #[.int .i64 x.f0, .int .i64 x.f1] 62)) 0).trans rfl
  have hu62 := Try.underlying62
  clear hb
  go_enter Try.func27, Try.ntmps27
  go_wp2_with fail
  go_ret
  exact ⟨rfl, below_alloc (Below.refl _ _) _⟩
set_option maxHeartbeats 2000000 in
set_option maxRecDepth 100000 in
theorem index_p (hC : Kd.C A.k62 w A0 xs.length xs) (hl : xs.length ≤ 64) (hb : w.heap[bi]? = some (.cells #[.int .i64 id] 3 (0, 0))) : Calls Try.prog 26 #[.slice A0 xs.length c0, .func (.func 27) #[] #[.pointer (some ⟨bi, 0, none⟩)]] w fun e w' => ∃ r, e = .returned (.int .i64 r) ∧ Idx xs id r ∧ Below w.heap.size w w' := by
  have HC := Lib.hid hC
  have HB := Lib.hid hb
  have hu62 := Try.underlying62
  clear hC hb
  go_enter Try.func26, Try.ntmps26
  go_wp2_with fail
  go_loopw [8] (fun v8 wr => ∃ k : Nat, k ≤ xs.length ∧ v8 = .int .i64 k ∧ Hid (∀ j : Nat, j < k → (A.rd_T62 xs (j : Int)).f0 ≠ id) ∧ Below w.heap.size w wr) (fun v8 _ => xs.length - (intOf v8).toNat)
  case atStart => exact ⟨0, Nat.zero_le _, rfl, Lib.hid (fun j h => absurd h (Nat.not_lt_zero j)), Below.refl _ _⟩
  case round =>
    obtain ⟨k, hk, rfl, HN, hbw⟩ := hrel
    have HBW := Lib.hid hbw
    by_cases hlt : k < xs.length
    · obtain ⟨ad, rfl, d0, d1⟩ := A.at_T62 (Kd.C_below HC.out hbw) (k : Int) (by omega) (by omega)
      simp only [Int.toNat_natCast] at d0 d1
      have his := is_p (A.rd_T62 xs (k : Int)) (blk_below HB.out hbw)
      obtain ⟨x, hx⟩ : ∃ x, A.rd_T62 xs (k : Int) = x := ⟨_, rfl⟩
      rw [hx] at d0 d1 his
      have HX := Lib.hid hx
      have HIS := Lib.hid his
      obtain ⟨x0, x1⟩ := x
      have HIS2 : Hid (Calls Try.prog 27 #[.agg #[.int .i64 x0, .int .i64 x1], .pointer (some ⟨bi, 0, none⟩)] wr fun e w' => e = .returned (.bool (x0 == id)) ∧ Below wr.heap.size wr w') := HIS
      clear hx his hbw HIS
      cases he : (x0 == id)
      · go_wp2_with (go_at_call 27; (with_reducible refine HIS2.out.mono ?_); rintro e w3 ⟨rfl, hb3⟩; rw [he]; have HB3 := Lib.hid (below_step HBW.out hb3); clear hb3)
        go_roundw
        case rel =>
          refine ⟨k + 1, by omega, by go_num, Lib.hid (fun j hj => ?_), HB3.out⟩
          rcases Nat.lt_or_ge j k with h | h
          · exact HN.out j h
          · obtain rfl : j = k := by omega
            rw [HX.out]
            exact beq_eq_false_iff_ne.1 he
        case measure => simp [intOf]; omega
      · go_wp2_with (go_at_call 27; (with_reducible refine HIS2.out.mono ?_); rintro e w3 ⟨rfl, hb3⟩; rw [he]; have HB3 := Lib.hid (below_step HBW.out hb3); clear hb3)
        go_ret
        exact ⟨_, rfl, .inl ⟨k, hlt, rfl, by rw [HX.out]; exact beq_iff_eq.1 he, HN.out⟩, HB3.out⟩
    · obtain rfl : k = xs.length := by omega
      clear hbw
      go_wp2_with fail
      go_ret
      exact ⟨_, rfl, .inr ⟨rfl, HN.out⟩, HBW.out⟩
end
section
variable {w : World} {g : Nat} {now : Int} {v : Value} {xs : List A.S62}
set_option maxHeartbeats 1000000 in
theorem find_p (hI : IsC w g now v xs) (id : Int) : Calls Try.prog 21 #[.pointer (some ⟨g, 0, none⟩), .int .i64 id] w fun e w' => ∃ r, e = .returned (.int .i64 r) ∧ Idx xs id r ∧ Below w.heap.size w w' := by
  have hl := hI.l
  obtain ⟨A0, c0, rfl, hc, hC⟩ := hI.r.C (by omega)
  have hb := below_alloc (Below.refl w.heap.size w) (.cells #[.int .i64 id] 3)
  have HB := Lib.hid hb
  have c1 := (blk_cell (blk_below hI.p hb) 1).trans rfl
  have HIX := Lib.hid (fun (bi : Nat) (h : (w.alloc (.cells #[.int .i64 id] 3)).heap[bi]? = some (.cells #[.int .i64 id] 3 (0, 0))) => index_p (c0 := c0) (Kd.C_below hC hb) hl h)
  clear hI hC hb
  go_enter Try.func21, Try.ntmps21
  go_wp2_with (go_at_call 26; (with_reducible refine (HIX.out w.heap.size (heap_alloc_new _ _)).mono ?_); rintro e w3 ⟨r, rfl, hi, hb3⟩; have HI := Lib.hid hi; have HB3 := Lib.hid (below_step HB.out hb3); clear hb3 hi)
  go_ret
  exact ⟨_, rfl, HI.out, HB3.out⟩
end
end Go.Proofs.Ytccmelpnmjdclaa.H
