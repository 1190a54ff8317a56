/- option: Busy. -/
import Derived.Test.YtgjicigagfhgmaaWant
namespace Go.Proofs.Ytgjicigagfhgmaa.H
open Go.RowKit Go.Proofs.YtgjicigagfhgmaaW.PrintWords Go.Proofs.YtgjicigagfhgmaaW.PrintLast
set_option linter.unusedVariables false
set_option linter.unusedSimpArgs false
theorem way_p (w : World) (s : Int) (h : s ≤ 1) : Calls Try.prog 35 #[.int .i64 s] w fun e w' => e = .returned (.bool false) ∧ Below w.heap.size w w' := by
  go_enter Try.func35, Try.ntmps35
  go_wp2
  go_ret
  exact ⟨by simp; omega, Below.refl _ _⟩
section
variable {w : World} {A0 : Option Addr} {c0 : Nat} {ss : List Int}
set_option maxHeartbeats 2000000 in
set_option maxRecDepth 100000 in
theorem ixf_p (hC : Kd.C (Kd.int .i64) w A0 ss.length ss) (hl : ss.length ≤ 1000) (hs : ∀ s ∈ ss, s ≤ 1) : Calls Try.prog 46 #[.slice A0 ss.length c0, .func (.func 35) #[] #[]] w fun e w' => e = .returned (.int .i64 (-1)) ∧ Below w.heap.size w w' := by
  have hu23 := Try.underlying23
  have HC := Lib.hid hC
  have HS := Lib.hid hs
  clear hC hs
  go_enter Try.func46, Try.ntmps46
  go_wp2_with fail
  go_loopw [8] (fun v8 wr => ∃ k : Nat, k ≤ ss.length ∧ v8 = .int .i64 k ∧ Hid (Below w.heap.size w wr)) (fun v8 _ => ss.length - (intOf v8).toNat)
  case atStart => exact ⟨0, Nat.zero_le _, rfl, Lib.hid (Below.refl _ _)⟩
  case round =>
    obtain ⟨k, hk, rfl, HB⟩ := hrel
    by_cases hlt : k < ss.length
    · obtain ⟨ad, rfl, d0⟩ := Kd.at_int (Kd.C_below HC.out HB.out) (k : Int) (by omega) (by omega)
      rw [Int.toNat_natCast, rd_get ss k hlt] at d0
      have hle := HS.out ss[k] (List.getElem_mem hlt)
      obtain ⟨s, hss⟩ : ∃ s, ss[k] = s := ⟨_, rfl⟩
      rw [hss] at d0 hle
      have HW := Lib.hid (way_p wr s hle)
      clear hle hss
      go_wp2_with (go_at_call 35; (with_reducible refine HW.out.mono ?_); rintro e w3 ⟨rfl, hb3⟩; have HB3 := Lib.hid (below_then HB.out HB.out.size hb3); clear hb3)
      go_roundw
      case rel => exact ⟨k + 1, by omega, by go_num, HB3⟩
      case measure => simp [intOf]; omega
    · obtain rfl : k = ss.length := by omega
      go_wp2_with fail
      go_ret
      exact ⟨rfl, HB.out⟩
set_option maxHeartbeats 2000000 in
set_option maxRecDepth 100000 in
theorem cont_p (hC : Kd.C (Kd.int .i64) w A0 ss.length ss) (hl : ss.length ≤ 1000) (hs : ∀ s ∈ ss, s ≤ 1) : Calls Try.prog 36 #[.slice A0 ss.length c0, .func (.func 35) #[] #[]] w fun e w' => e = .returned (.bool false) ∧ Below w.heap.size w w' := by
  have HI := Lib.hid (ixf_p (c0 := c0) hC hl hs)
  clear hC hs
  go_enter Try.func36, Try.ntmps36
  go_wp2_with (go_at_call 46; (with_reducible refine HI.out.mono ?_); rintro e w3 ⟨rfl, hb3⟩; have HB3 := Lib.hid hb3; clear hb3)
  go_ret
  exact ⟨rfl, HB3.out⟩
end
def stl (S : Int → Int) : List Int := (List.range 256).map (fun k : Nat => S (k : Int))
theorem stl_length (S : Int → Int) : (stl S).length = 256 := by simp [stl]
theorem Sd.C {w : World} {g o : Nat} {t : TypeId} {cs : Array Value} {S : Int → Int} {Y : Int → Bool} {on off : Int} (h : w.heap[g]? = some (.cells cs t (0, 0))) (hs : Sd cs o S Y on off) : Kd.C (Kd.int .i64) w (some ⟨g, o, none⟩) (stl S).length (stl S) := by
  refine Kd.C_of_reads (d := (0 : Int)) (h1 := fun _ => rfl) (readsInt_of.1 ⟨rfl, by rw [stl_length]; decide, fun _ => ⟨_, rfl, fun j hj => ?_⟩⟩)
  rw [stl_length] at hj
  have hj2 := hs.s (j : Int) (by omega) (by omega)
  rw [Int.toNat_natCast] at hj2
  have := (blk_cell h (o + j)).trans hj2
  rw [show (⟨g, o, none⟩ : Addr).add j = ⟨g, o + j, none⟩ by by_cases e : j = 0 <;> simp [Addr.add, e], this]
  simp [stl, List.getD_eq_getElem?_getD, hj]
section
variable {w : World} {g : Nat} {P : Ops}
set_option maxHeartbeats 2000000 in
set_option maxRecDepth 100000 in
theorem busy_p (h : Os w g P) (h0 : ∀ x : Int, 0 ≤ x → x < 256 → P.s0 x ≤ 1) (h1 : ∀ x : Int, 0 ≤ x → x < 256 → P.s1 x ≤ 1) : Calls Try.prog 21 #[.pointer (some ⟨g, 0, none⟩)] w fun e w' => e = .returned (.bool false) ∧ Below w.heap.size w w' := by
  have hu74 := Try.underlying74
  have hle : ∀ S : Int → Int, (∀ x : Int, 0 ≤ x → x < 256 → S x ≤ 1) → ∀ s ∈ stl S, s ≤ 1 := fun S hS s hs => by
    obtain ⟨k, hk, rfl⟩ := List.mem_map.1 hs
    have := List.mem_range.1 hk
    exact hS _ (by omega) (by omega)
  obtain ⟨cs, hc, a0, a1⟩ := h.b
  have HI0 := Lib.hid (cont_p (c0 := 256) (a0.C hc) (by rw [stl_length]; decide) (hle _ h0))
  have HI1 := Lib.hid (fun w1 (hb : Below w.heap.size w w1) => cont_p (w := w1) (c0 := 256) (a1.C (blk_below hc hb)) (by rw [stl_length]; decide) (hle _ h1))
  rw [stl_length] at HI0
  have HI1' : Hid (∀ w1, Below w.heap.size w w1 → Calls Try.prog 36 #[.slice (some ⟨g, 514, none⟩) 256 256, .func (.func 35) #[] #[]] w1 fun e w' => e = .returned (.bool false) ∧ Below w1.heap.size w1 w') := Lib.hid (fun w1 hb => by have := HI1.out w1 hb; rwa [stl_length] at this)
  clear h h0 h1 hc a0 a1 hle HI1
  go_enter Try.func21, Try.ntmps21
  go_wp2_with (go_at_call 36; first
    | ((with_reducible refine HI0.out.mono ?_); rintro e w1 ⟨rfl, hb⟩; have HB1 := Lib.hid hb; clear hb)
    | ((with_reducible refine (HI1'.out _ HB1.out).mono ?_); rintro e w2 ⟨rfl, hb⟩; have HB2 := Lib.hid (below_then HB1.out HB1.out.size hb); clear hb))
  go_ret
  exact ⟨rfl, HB2.out⟩
set_option maxHeartbeats 2000000 in
set_option maxRecDepth 100000 in
theorem options_p {gt : Nat} {nm : ByteArray} (h : Tk w gt g P nm) : Calls Try.prog 19 #[.pointer (some ⟨gt, 0, none⟩)] w fun e w' => e = .returned (.pointer (some ⟨g, 0, none⟩)) ∧ Below w.heap.size w w' := by
  have c1 := (blk_cell h.p 1).trans rfl
  clear h
  go_enter Try.func19, Try.ntmps19
  go_wp2
  go_ret
  exact ⟨rfl, Below.refl _ _⟩
end
end Go.Proofs.Ytgjicigagfhgmaa.H
