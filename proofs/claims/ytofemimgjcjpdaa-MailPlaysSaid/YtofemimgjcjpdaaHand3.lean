/- mail.First: what it does. -/
import Derived.Test.YtofemimgjcjpdaaHand2
namespace Go.Proofs.Ytofemimgjcjpdaa.H
open Go.Conc Go.RowKit
set_option linter.unusedVariables false
set_option linter.unusedSimpArgs false

structure QD where
  g : Nat
  c : Nat
  cap : Nat
  xs : List Int
  shut : Bool
def QD.is (w : World) (q : QD) : Prop := IsQ w q.g q.c q.cap q.xs q.shut
/-- A slice's cells: these queues. -/
def Holds (w : World) (b o : Nat) (qs : List QD) : Prop := ∀ i (h : i < qs.length), w.cell? ⟨b, o + i, none⟩ = some (.pointer (some ⟨(qs[i]'h).g, 0, none⟩))

def FirstP (w : World) (x : Int) (i : Nat) (ok : Bool) (R : World → Prop) (e : Ending) (w' : World) : Prop := e = .returned (.tuple #[.int .i64 x, .int .i64 i, .bool ok]) ∧ R w'
def FirstR (qs : List QD) (v : Value) : Prop := ∃ k : Nat, k ≤ qs.length ∧ v = .int .i64 k ∧ ∀ j (h : j < qs.length), j < k → (qs[j]'h).xs = []

theorem get_empty (w : World) (q : QD) (h : q.is w) (hx : q.xs = []) : Calls Try.prog 19 #[.pointer (some ⟨q.g, 0, none⟩)] w fun e w' => e = .returned (.tuple #[.int .i64 0, .bool false]) ∧ w' = w := by
  unfold QD.is at h
  rw [hx] at h
  cases hs : q.shut with
  | true => rw [hs] at h; exact get_shut _ _ _ _ h
  | false => rw [hs] at h; exact get_none _ _ _ _ h

set_option maxHeartbeats 1000000 in
set_option maxRecDepth 100000 in
theorem first_none (w : World) (b o cap : Nat) (qs : List QD) (hw : ∀ q ∈ qs, q.is w) (hs : Holds w b o qs) (he : ∀ q ∈ qs, q.xs = []) (hl : qs.length ≤ 1000) :
    Calls Try.prog 21 #[.slice (some ⟨b, o, none⟩) qs.length cap] w (FirstP w 0 0 false (fun w' => w' = w)) := by
  have HW := Lib.hid hw
  have HS := Lib.hid hs
  have HE := Lib.hid he
  clear hw hs he
  go_enter Try.func21, Try.ntmps21
  go_wp2
  go_loop [12] (fun v => FirstR qs v) (fun v => qs.length - (intOf v).toNat)
  case atStart => exact ⟨0, Nat.zero_le _, rfl, fun _ _ h => absurd h (by omega)⟩
  case round =>
    obtain ⟨k, hk, rfl, _⟩ := hrel
    by_cases hlt : k < qs.length
    · have hc := HS.out k hlt
      have hget := get_empty w (qs[k]'hlt) (HW.out _ (List.getElem_mem hlt)) (HE.out _ (List.getElem_mem hlt))
      obtain ⟨g, hg⟩ : ∃ g, g = (qs[k]'hlt).g := ⟨_, rfl⟩
      rw [← hg] at hc hget
      clear hg
      have HG := Lib.hid hget
      clear hget
      go_wp2_with (go_at_call 19; refine HG.out.mono ?_; rintro e w1 ⟨rfl, rfl⟩)
      go_round
      case rel => exact ⟨k + 1, by omega, by go_num, fun j h _ => HE.out _ (List.getElem_mem h)⟩
      case measure => simp [intOf]; omega
    · obtain rfl : k = qs.length := by omega
      go_wp2
      go_ret3
      exact ⟨rfl, rfl⟩

set_option maxHeartbeats 1000000 in
set_option maxRecDepth 100000 in
theorem first_some (w : World) (b o cap : Nat) (qs : List QD) (hw : ∀ q ∈ qs, q.is w) (hs : Holds w b o qs) (i : Nat) (hi : i < qs.length) (he : ∀ j (h : j < qs.length), j < i → (qs[j]'h).xs = []) (x : Int) (xs : List Int) (hx : (qs[i]'hi).xs = x :: xs) (hl : qs.length ≤ 1000) :
    Calls Try.prog 21 #[.slice (some ⟨b, o, none⟩) qs.length cap] w (FirstP w x i true (fun w' => IsQ w' (qs[i]'hi).g (qs[i]'hi).c (qs[i]'hi).cap xs (qs[i]'hi).shut ∧ Turn (· = (qs[i]'hi).c) w w')) := by
  have hgi : Calls Try.prog 19 #[.pointer (some ⟨(qs[i]'hi).g, 0, none⟩)] w fun e w' => e = .returned (.tuple #[.int .i64 x, .bool true]) ∧ IsQ w' (qs[i]'hi).g (qs[i]'hi).c (qs[i]'hi).cap xs (qs[i]'hi).shut ∧ Turn (· = (qs[i]'hi).c) w w' := by
    have h := hw _ (List.getElem_mem hi)
    unfold QD.is at h
    rw [hx] at h
    exact get_some _ _ _ _ _ _ _ h
  obtain ⟨q, hq⟩ : ∃ q, q = (qs[i]'hi) := ⟨_, rfl⟩
  rw [← hq] at hgi ⊢
  have hci : w.cell? ⟨b, o + i, none⟩ = some (.pointer (some ⟨q.g, 0, none⟩)) := by rw [hq]; exact hs i hi
  have HCI := Lib.hid hci
  have HW := Lib.hid hw
  have HS := Lib.hid hs
  have HE := Lib.hid he
  have HGI := Lib.hid hgi
  clear hw hs he hgi hx hq hci
  go_enter Try.func21, Try.ntmps21
  go_wp2
  go_loop [12] (fun v => ∃ k : Nat, k ≤ i ∧ v = .int .i64 k) (fun v => qs.length - (intOf v).toNat)
  case atStart => exact ⟨0, Nat.zero_le _, rfl⟩
  case round =>
    obtain ⟨k, hk, rfl⟩ := hrel
    have hlt : k < qs.length := by omega
    by_cases hki : k < i
    · have hc := HS.out k hlt
      have hget := get_empty w (qs[k]'hlt) (HW.out _ (List.getElem_mem hlt)) (HE.out _ hlt hki)
      obtain ⟨g, hg⟩ : ∃ g, g = (qs[k]'hlt).g := ⟨_, rfl⟩
      rw [← hg] at hc hget
      clear hg HGI
      have HG := Lib.hid hget
      clear hget
      go_wp2_with (go_at_call 19; refine HG.out.mono ?_; rintro e w1 ⟨rfl, rfl⟩)
      go_round
      case rel => exact ⟨k + 1, by omega, by go_num⟩
      case measure => simp [intOf]; omega
    · obtain rfl : k = i := by omega
      have hc := HCI.out
      go_wp2_with (go_at_call 19; refine HGI.out.mono ?_; rintro e w1 ⟨rfl, hq1, ht1⟩; have HQ1 := Lib.hid hq1; have HT1 := Lib.hid ht1; clear hq1 ht1)
      go_ret3
      exact ⟨rfl, HQ1.out, HT1.out⟩
end Go.Proofs.Ytofemimgjcjpdaa.H
