/- reply.Read, For. -/
import Derived.Test.YtnifkdcjphekpaaBuffer
namespace Go.Proofs.Ytnifkdcjphekpaa.H
open Go.RowKit Go.Proofs.YtnifkdcjphekpaaW.PrintWords Go.Proofs.YtnifkdcjphekpaaW.PrintLast
set_option linter.unusedVariables false
set_option linter.unusedSimpArgs false
section
variable {w : World} {g c0 : Nat} {A0 : Option Addr} {r c cur : Int} {cs : List A.S34}
/-- A call that hands back bytes of its own. -/
abbrev Gives (f : FuncId) (args : Array Value) (w : World) (xs : List Int) : Prop := Calls Try.prog f args w fun e W' => ∃ v, e = .returned v ∧ W'.ownsRow w.heap.size 5 1 v xs.length (nu xs) ∧ Below w.heap.size w W'
set_option maxHeartbeats 1000000 in
theorem read_p (hI : IsP w g A0 c0 r c cs cur) (hf : formB cs = true) (hc0 : 0 ≤ cur) (hc1 : cur < cs.length) (aid : Int) (hs : A.keyboard_Short.f aid = some false) : Gives 11 #[.pointer (some ⟨g, 0, none⟩), .int .u8 aid] w (headL cur aid ++ fieldsL cs) := by
  have HI := Lib.hid hI
  have HS := Lib.hid hs
  clear hI hs
  go_enter Try.func11, Try.ntmps11
  go_wp2_with (first | (go_at_call 32; (with_reducible refine (A.keyboard_Short.calls _ _ _ HS.out).mono ?_); rintro e w1 ⟨rfl, hd⟩; obtain ⟨m1, rfl⟩ := hd.out; have HB1 := Lib.hid (pw_below_drewN (Below.refl w.heap.size w) m1)) | (go_at_call 10; (with_reducible refine (all_p (HI.out.later HB1.out) hf hc0 hc1 aid).mono ?_); rintro e w2 ⟨v, rfl, ho, hb⟩; have HO := Lib.hid ho; have HB2 := Lib.hid (below_step HB1.out hb); clear ho hb))
  go_ret
  exact ⟨_, rfl, HO.out, HB2.out⟩
set_option maxHeartbeats 1000000 in
theorem read_s (aid : Int) (hs : A.keyboard_Short.f aid = some true) : Gives 11 #[.pointer (some ⟨g, 0, none⟩), .int .u8 aid] w [aid] := by
  have HS := Lib.hid hs
  clear hs
  go_enter Try.func11, Try.ntmps11
  go_wp2_with (first | (go_at_call 32; (with_reducible refine (A.keyboard_Short.calls _ _ _ HS.out).mono ?_); rintro e w1 ⟨rfl, hd⟩; obtain ⟨m1, rfl⟩ := hd.out; have HB1 := Lib.hid (pw_below_drewN (Below.refl w.heap.size w) m1)))
  go_ret
  exact ⟨_, rfl, ⟨rfl, .inr ⟨_, 1, _, rfl, HB1.out.size, heap_alloc_new _ _, Nat.le_refl _, by decide, rfl, rfl⟩⟩, below_alloc HB1.out _⟩
set_option maxHeartbeats 1000000 in
theorem for_rb (hI : IsP w g A0 c0 r c cs cur) (hc0 : 0 ≤ cur) (hc1 : cur < cs.length) (aid : Int) : Calls Try.prog 18 #[.pointer (some ⟨g, 0, none⟩), .int .u8 aid, .int .u8 242] w fun e W' => ∃ v, e = .returned (.tuple #[v, .int .i64 0]) ∧ W'.ownsRow w.heap.size 5 1 v (headL cur aid ++ bufTo cs cs.length).length (nu (headL cur aid ++ bufTo cs cs.length)) ∧ Below w.heap.size w W' := by
  have HI := Lib.hid hI
  clear hI
  go_enter Try.func18, Try.ntmps18
  go_wp2_with (go_at_call 12; (with_reducible refine (buffer_p HI.out hc0 hc1 aid).mono ?_); rintro e w2 ⟨v, rfl, ho, hb⟩; have HO := Lib.hid ho; have HB2 := Lib.hid hb; clear ho hb)
  go_ret2
  exact ⟨_, rfl, HO.out, HB2.out⟩
set_option maxHeartbeats 1000000 in
theorem for_no (aid : Int) : Calls Try.prog 18 #[.pointer (some ⟨g, 0, none⟩), .int .u8 aid, .int .u8 0] w fun e W' => e = .returned (.tuple #[.slice none 0 0, .int .i64 30]) ∧ W' = w := by
  go_enter Try.func18, Try.ntmps18
  go_wp2
  go_ret2
  exact ⟨rfl, rfl⟩
end
end Go.Proofs.Ytnifkdcjphekpaa.H
