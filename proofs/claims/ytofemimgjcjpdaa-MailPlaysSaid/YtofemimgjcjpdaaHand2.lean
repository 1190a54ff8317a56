/- mail.Pour, mail.First: what they do. -/
import Derived.Test.YtofemimgjcjpdaaHand
import Derived.LaidEqlPtr
import Derived.Lib.Builder
namespace Go.Proofs.Ytofemimgjcjpdaa.H
open Go.Conc Go.RowKit
set_option linter.unusedVariables false
set_option linter.unusedSimpArgs false

def pourN (xs : List Int) (cap : Nat) (ys : List Int) (shut : Bool) : Nat := if shut then 0 else min xs.length (cap - ys.length)

theorem Turn.of_drewN {S : Nat → Prop} {w w' : World} {n : Nat} (h : Turn S (w.drewN n) w') : Turn S w w' := ⟨h.os, h.tape, h.output, h.size, h.block⟩
theorem info56 : ∃ j, Try.prog.info? 56 = some j ∧ j.size ≠ 0 := by
  have h : (Try.prog.info? 56).map (fun i => decide (i.size = 0)) = some false := by kernel_rfl
  obtain ⟨i, hi, hb⟩ := Option.map_eq_some_iff.1 h
  exact ⟨i, hi, of_decide_eq_false hb⟩
theorem neq_same (w : World) (g : Nat) : (binOp .neq 24 (.pointer (some ⟨g, 0, none⟩)) (.pointer (some ⟨g, 0, none⟩))).run Try.prog w = .ok (.bool false) w := by
  obtain ⟨j, hj, _⟩ := info56
  exact Lib.run_neq_ptr_same w _ Try.underlying24 hj
theorem neq_other (w : World) {g g2 c cap c2 cap2 : Nat} {xs ys : List Int} {s1 s2 : Bool} (h : IsQ w g c cap xs s1) (h2 : IsQ w g2 c2 cap2 ys s2) (hg : g ≠ g2) : (binOp .neq 24 (.pointer (some ⟨g, 0, none⟩)) (.pointer (some ⟨g2, 0, none⟩))).run Try.prog w = .ok (.bool true) w := by
  obtain ⟨j, hj, hz⟩ := info56
  have hne : (⟨g, 0, none⟩ : Addr) ≠ ⟨g2, 0, none⟩ := by intro e; exact hg (congrArg Addr.block e)
  have e1 : ∀ d : Nat, (Op.equalIn (d + 1) 24 (.pointer (some ⟨g, 0, none⟩)) (.pointer (some ⟨g2, 0, none⟩))).run Try.prog w = .ok false w := fun d => by
    simp [Op.equalIn, run_underlying Try.underlying24, sizeOf, typeInfo, hj, hz, run_sameAddr_other w hne h.1 h2.1]
  simp only [binOp]
  simp [Op.equal, Op.maxDepth, e1 9999]

set_option maxRecDepth 100000 in
theorem pour_same (w : World) (g : Nat) :
    Calls Try.prog 20 #[.pointer (some ⟨g, 0, none⟩), .pointer (some ⟨g, 0, none⟩)] w fun e w' => e = .returned (.int .i64 0) ∧ w' = w := by
  go_enter Try.func20, Try.ntmps20
  go_wp2
  go_loop [5] (fun n => n = .int .i64 0) (fun _ => 0)
  case atStart => rfl
  case round =>
    subst hrel
    have hneq := neq_same w g
    go_wp2
    go_ret
    exact ⟨rfl, rfl⟩

/-- What a call leaves: this value, two queues, and all else. -/
def PourP (w : World) (v : Int) (g c cap : Nat) (xs : List Int) (shut : Bool) (g2 c2 cap2 : Nat) (ys : List Int) (shut2 : Bool) (e : Ending) (w' : World) : Prop :=
  e = .returned (.int .i64 v) ∧ IsQ w' g c cap xs shut ∧ IsQ w' g2 c2 cap2 ys shut2 ∧ Turn (fun i => i = c ∨ i = c2) w w'
def PourR (w : World) (g c cap : Nat) (xs : List Int) (shut : Bool) (g2 c2 cap2 : Nat) (ys : List Int) (shut2 : Bool) (n : Value) (wr : World) : Prop :=
  ∃ k : Nat, k ≤ pourN xs cap2 ys shut2 ∧ n = .int .i64 k ∧ IsQ wr g c cap (xs.drop k) shut ∧ IsQ wr g2 c2 cap2 (ys ++ xs.take k) shut2 ∧ Turn (fun i => i = c ∨ i = c2) w wr

set_option maxHeartbeats 1000000 in
set_option maxRecDepth 100000 in
theorem pour_any (w : World) (g c cap : Nat) (xs : List Int) (shut : Bool) (g2 c2 cap2 : Nat) (ys : List Int) (shut2 : Bool) (h : IsQ w g c cap xs shut) (h2 : IsQ w g2 c2 cap2 ys shut2) (hg : g ≠ g2) (hc : c ≠ c2)
    (hx : xs.length ≤ 5000) (hy : ys.length ≤ cap2) (hcap : cap2 ≤ 5000) :
    Calls Try.prog 20 #[.pointer (some ⟨g, 0, none⟩), .pointer (some ⟨g2, 0, none⟩)] w (PourP w (pourN xs cap2 ys shut2) g c cap (xs.drop (pourN xs cap2 ys shut2)) shut g2 c2 cap2 (ys ++ xs.take (pourN xs cap2 ys shut2)) shut2) := by
  have hgc2 := h.ne2 h2
  have hg2c := h2.ne2 h
  have H := Lib.hid h
  have H2 := Lib.hid h2
  clear h h2
  obtain ⟨N, hN⟩ : ∃ N, N = pourN xs cap2 ys shut2 := ⟨_, rfl⟩
  have HN := Lib.hid hN
  rw [← hN]
  clear hN
  go_enter Try.func20, Try.ntmps20
  go_wp2
  go_loopw [5] (fun n wr => PourR w g c cap xs shut g2 c2 cap2 ys shut2 n wr) (fun n _ => xs.length - (intOf n).toNat)
  case atStart => exact ⟨0, Nat.zero_le _, rfl, by simpa using H.out, by simpa using H2.out, Turn.refl _ _⟩
  case round =>
    obtain ⟨k, hk, rfl, hq, hq2, ht⟩ := hrel
    rw [← HN.out] at hk
    have hN2 : N ≤ xs.length ∧ (N = 0 ∨ ys.length + N ≤ cap2) := by rw [HN.out]; unfold pourN; split <;> omega
    have hneq := neq_other wr hq hq2 hg
    have hroom := room_any wr g2 c2 cap2 (ys ++ xs.take k) shut2 hq2 (by omega) (by simp; omega)
    obtain ⟨R, hR⟩ : ∃ R, R = roomN cap2 (ys ++ xs.take k) shut2 := ⟨_, rfl⟩
    rw [← hR] at hroom
    have HR := Lib.hid hR
    have HQ := Lib.hid hq
    have HQ2 := Lib.hid hq2
    have HT := Lib.hid ht
    have HRM := Lib.hid hroom
    clear hR hq hq2 ht hroom
    by_cases hlt : k < N
    · have hRpos : decide (R > 0) = true := by
        have h1 := HR.out
        unfold roomN at h1
        have h3 : shut2 = false := by
          cases shut2 with
          | false => rfl
          | true => have := HN.out; simp [pourN] at this; omega
        simp [h3] at h1
        simp; omega
      have hx1 : xs.drop k = xs[k]'(by omega) :: xs.drop (k + 1) := List.drop_eq_getElem_cons (by omega)
      obtain ⟨x, hxk⟩ : ∃ x, x = xs[k]'(by omega) := ⟨_, rfl⟩
      rw [← hxk] at hx1
      have htk : xs.take (k + 1) = xs.take k ++ [x] := by rw [List.take_succ_eq_append_getElem (by omega), hxk]
      have HTK := Lib.hid htk
      have hget : ∀ n, Calls Try.prog 19 #[.pointer (some ⟨g, 0, none⟩)] (wr.drewN n) fun e w' => e = .returned (.tuple #[.int .i64 x, .bool true]) ∧ IsQ w' g c cap (xs.drop (k + 1)) shut ∧ Turn (· = c) (wr.drewN n) w' := fun n => get_some (wr.drewN n) g c cap x (xs.drop (k + 1)) shut (by have := HQ.out; rw [hx1] at this; exact this)
      have HGT := Lib.hid hget
      have hput : ∀ n w1, Turn (· = c) (wr.drewN n) w1 → Calls Try.prog 17 #[.pointer (some ⟨g2, 0, none⟩), .int .i64 x] w1 fun e w' => e = .returned (.int .i64 0) ∧ IsQ w' g2 c2 cap2 (ys ++ xs.take (k + 1)) shut2 ∧ Turn (· = c2) w1 w' := by
        intro n w1 ht1
        have h1 : IsQ w1 g2 c2 cap2 (ys ++ xs.take k) shut2 := IsQ.turn (w := wr.drewN n) HQ2.out ht1 (fun e => by
          have h3 := HQ2.out.1
          obtain ⟨_, s, r, h4⟩ := HQ.out
          rw [e, h4] at h3
          cases h3) (fun e => hc e.symm)
        have h3 : shut2 = false := by
          cases shut2 with
          | false => rfl
          | true => have := HN.out; simp [pourN] at this; omega
        subst h3
        rw [HTK.out, ← List.append_assoc]
        exact put_room w1 g2 c2 cap2 _ x h1 (by simp; omega)
      have HPT := Lib.hid hput
      have HL := Lib.hid hlt
      have hk5 : k < 5000 := by omega
      clear hget hput hx1 hxk htk hlt
      go_wp2_with (first | (go_at_call 12; refine HRM.out.mono ?_; rintro e w' ⟨rfl, n1, rfl⟩; clear HRM) | (go_at_call 19; refine (HGT.out _).mono ?_; rintro e w1 ⟨rfl, hq1, ht1⟩; have HQ1 := Lib.hid hq1; have HT1 := Lib.hid ht1; clear hq1 ht1) | (go_at_call 17; refine (HPT.out _ _ HT1.out).mono ?_; rintro e w2 ⟨rfl, hq2, ht2⟩; have HQ3 := Lib.hid hq2; have HT2 := Lib.hid ht2; clear hq2 ht2))
      go_roundw
      case rel =>
        refine ⟨k + 1, by have := HL.out; rw [← HN.out]; omega, by go_num, ?_, HQ3.out, ?_⟩
        · exact HQ1.out.turn HT2.out hgc2 hc
        · exact HT.out.trans ((HT1.out.of_drewN.mono (fun _ _ e => .inl e)).trans (HT2.out.mono (fun _ _ e => .inr e)))
      case measure => have := HL.out; simp [intOf]; omega
    · obtain rfl : k = N := by omega
      by_cases hpos : 0 < R
      · have hke : xs.length ≤ k := by
          have h1 := HR.out
          have h2 := HN.out
          unfold roomN at h1
          unfold pourN at h2
          cases shut2 with
          | true => simp at h1; omega
          | false =>
            simp at h1 h2
            omega
        have hRp : decide (R > 0) = true := by simpa using hpos
        have hdr : xs.drop k = [] := List.drop_of_length_le hke
        have hget : ∀ n, Calls Try.prog 19 #[.pointer (some ⟨g, 0, none⟩)] (wr.drewN n) fun e w' => e = .returned (.tuple #[.int .i64 0, .bool false]) ∧ w' = wr.drewN n := by
          intro n
          have h1 : IsQ (wr.drewN n) g c cap (xs.drop k) shut := HQ.out
          rw [hdr] at h1
          cases shut with
          | true => exact get_shut _ g c cap h1
          | false => exact get_none _ g c cap h1
        have HGT := Lib.hid hget
        clear hget hdr hke hN2
        go_wp2_with (first | (go_at_call 12; refine HRM.out.mono ?_; rintro e w' ⟨rfl, n1, rfl⟩; clear HRM) | (go_at_call 19; refine (HGT.out _).mono ?_; rintro e w1 ⟨rfl, rfl⟩))
        go_ret
        exact ⟨rfl, HQ.out, HQ2.out, HT.out.trans ⟨rfl, rfl, rfl, Nat.le_refl _, fun _ _ _ => rfl⟩⟩
      · have hRp : decide (R > 0) = false := by simpa using hpos
        clear hN2
        go_wp2_with (first | (go_at_call 12; refine HRM.out.mono ?_; rintro e w' ⟨rfl, n1, rfl⟩; clear HRM))
        go_ret
        exact ⟨rfl, HQ.out, HQ2.out, HT.out.trans ⟨rfl, rfl, rfl, Nat.le_refl _, fun _ _ _ => rfl⟩⟩
end Go.Proofs.Ytofemimgjcjpdaa.H
