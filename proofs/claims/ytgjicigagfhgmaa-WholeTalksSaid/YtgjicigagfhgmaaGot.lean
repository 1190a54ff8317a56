/- option: both sides. -/
import Derived.Test.YtgjicigagfhgmaaOpt
namespace Go.Proofs.Ytgjicigagfhgmaa.H
open Go.RowKit Go.Proofs.YtgjicigagfhgmaaW.PrintWords Go.Proofs.YtgjicigagfhgmaaW.PrintLast
set_option linter.unusedVariables false
set_option linter.unusedSimpArgs false
/-- The states of both sides. -/
structure Ops where
  s0 : Int → Int
  y0 : Int → Bool
  s1 : Int → Int
  y1 : Int → Bool
structure Os (W : World) (g : Nat) (P : Ops) : Prop where
  b : ∃ cs, W.heap[g]? = some (.cells cs 79 (0, 0)) ∧ Sd cs 0 P.s0 P.y0 251 252 ∧ Sd cs 514 P.s1 P.y1 253 254
def side (P : Ops) (b : Bool) : Int → Int := if b then P.s0 else P.s1
/-- What a word of the other side does. -/
def got (P : Ops) (c x : Int) : Ops := if c = 251 then { P with s1 := upd P.s1 x (onS (P.s1 x) (P.y1 x)) } else if c = 252 then { P with s1 := upd P.s1 x (offS (P.s1 x)) } else if c = 253 then { P with s0 := upd P.s0 x (onS (P.s0 x) (P.y0 x)) } else if c = 254 then { P with s0 := upd P.s0 x (offS (P.s0 x)) } else P
def gotB (P : Ops) (c x : Int) : List Int := if c = 251 then onB (P.s1 x) (P.y1 x) 253 254 x else if c = 252 then offB (P.s1 x) 253 254 x else if c = 253 then onB (P.s0 x) (P.y0 x) 251 252 x else if c = 254 then offB (P.s0 x) 251 252 x else []
section
variable {w : World} {g : Nat} {P : Ops}
theorem Os.below {W : World} (h : Os w g P) (hb : Below w.heap.size w W) : Os W g P := by
  obtain ⟨cs, hc, a, b⟩ := h.b
  exact ⟨cs, blk_below hc hb, a, b⟩
set_option maxHeartbeats 2000000 in
set_option maxRecDepth 100000 in
theorem side_p (w : World) (g : Nat) (b : Bool) : Calls Try.prog 34 #[.pointer (some ⟨g, 0, none⟩), .bool b] w fun e' w' => e' = .returned (.pointer (some ⟨g, if b then 0 else 514, none⟩)) ∧ Below w.heap.size w w' := by
  cases b with
  | true =>
    go_enter Try.func34, Try.ntmps34
    go_wp2
    go_ret
    exact ⟨rfl, Below.refl _ _⟩
  | false =>
    go_enter Try.func34, Try.ntmps34
    go_wp2
    go_ret
    exact ⟨rfl, Below.refl _ _⟩
set_option maxHeartbeats 2000000 in
set_option maxRecDepth 100000 in
theorem state_p (h : Os w g P) (b : Bool) (x : Int) (h0 : 0 ≤ x) (h1 : x < 256) : Calls Try.prog 20 #[.pointer (some ⟨g, 0, none⟩), .bool b, .int .u8 x] w fun e' w' => e' = .returned (.int .i64 (side P b x)) ∧ Below w.heap.size w w' := by
  have H := Lib.hid h
  clear h
  cases b with
  | true =>
    have HS : Hid (Calls Try.prog 34 #[.pointer (some ⟨g, 0, none⟩), .bool true] w fun e' w' => e' = .returned (.pointer (some ⟨g, 0, none⟩)) ∧ Below w.heap.size w w') := Lib.hid (side_p w g true)
    go_enter Try.func20, Try.ntmps20
    go_wp2_with (go_at_call 34; (with_reducible refine HS.out.mono ?_); rintro e w1 ⟨rfl, hb⟩; obtain ⟨cs, hc, a0, a1⟩ := (H.out.below hb).b; have HB := Lib.hid hb; have c0 := (blk_cell hc (x.toNat)).trans ((congrArg (fun k => cs[k]?) (Nat.zero_add x.toNat).symm).trans (a0.s x h0 h1)); clear hb hc a0 a1)
    go_ret
    exact ⟨rfl, HB.out⟩
  | false =>
    have HS : Hid (Calls Try.prog 34 #[.pointer (some ⟨g, 0, none⟩), .bool false] w fun e' w' => e' = .returned (.pointer (some ⟨g, 514, none⟩)) ∧ Below w.heap.size w w') := Lib.hid (side_p w g false)
    go_enter Try.func20, Try.ntmps20
    go_wp2_with (go_at_call 34; (with_reducible refine HS.out.mono ?_); rintro e w1 ⟨rfl, hb⟩; obtain ⟨cs, hc, a0, a1⟩ := (H.out.below hb).b; have HB := Lib.hid hb; have c0 := (blk_cell hc (514 + x.toNat)).trans (a1.s x h0 h1); clear hb hc a0 a1)
    go_ret
    exact ⟨rfl, HB.out⟩
set_option maxHeartbeats 2000000 in
set_option maxRecDepth 100000 in
theorem on_p (h : Os w g P) (b : Bool) (x : Int) (h0 : 0 ≤ x) (h1 : x < 256) : Calls Try.prog 47 #[.pointer (some ⟨g, 0, none⟩), .bool b, .int .u8 x] w fun e' w' => e' = .returned (.bool (side P b x == 1)) ∧ Below w.heap.size w w' := by
  have HS := Lib.hid (state_p h b x h0 h1)
  clear h
  go_enter Try.func47, Try.ntmps47
  go_wp2_with (go_at_call 20; (with_reducible refine HS.out.mono ?_); rintro e w1 ⟨rfl, hb⟩; have HB := Lib.hid hb; clear hb)
  go_ret
  exact ⟨rfl, HB.out⟩
set_option maxHeartbeats 4000000 in
set_option maxRecDepth 100000 in
theorem got_p (h : Os w g P) (c x : Int) (h0 : 0 ≤ x) (h1 : x < 256) : Calls Try.prog 33 #[.pointer (some ⟨g, 0, none⟩), .int .u8 c, .int .u8 x] w fun e' w' => ∃ v, e' = .returned v ∧ Said w' w.heap.size v (gotB P c x) ∧ Os w' g (got P c x) ∧ Fd w w' g w.heap.size := by
  obtain ⟨cs, hc, a0, a1⟩ := h.b
  have HA0 := Lib.hid a0
  have HA1 := Lib.hid a1
  have H1 := Lib.hid (gotOn_p hc a1 x h0 h1)
  have H2 := Lib.hid (gotOff_p hc a1 x h0 h1)
  have H3 := Lib.hid (gotOn_p hc a0 x h0 h1)
  have H4 := Lib.hid (gotOff_p hc a0 x h0 h1)
  have H := Lib.hid h
  clear h hc a0 a1
  by_cases e1 : c = 251
  · subst e1
    go_enter Try.func33, Try.ntmps33
    go_wp2_with (go_at_call 44; (with_reducible refine H1.out.mono ?_); rintro e w1 ⟨v, rfl, hr, hb, hf⟩; have HR := Lib.hid hr; have HB := Lib.hid hb; have HF := Lib.hid hf; clear hr hb hf)
    go_ret
    exact ⟨_, rfl, HR.out, ⟨_, HB.out, HA0.out.other 514 (.inr (by omega)) x _ h0 h1, HA1.out.set x _ h0 h1⟩, HF.out⟩
  by_cases e2 : c = 252
  · subst e2
    go_enter Try.func33, Try.ntmps33
    go_wp2_with (go_at_call 45; (with_reducible refine H2.out.mono ?_); rintro e w1 ⟨v, rfl, hr, hb, hf⟩; have HR := Lib.hid hr; have HB := Lib.hid hb; have HF := Lib.hid hf; clear hr hb hf)
    go_ret
    exact ⟨_, rfl, HR.out, ⟨_, HB.out, HA0.out.other 514 (.inr (by omega)) x _ h0 h1, HA1.out.set x _ h0 h1⟩, HF.out⟩
  by_cases e3 : c = 253
  · subst e3
    go_enter Try.func33, Try.ntmps33
    go_wp2_with (go_at_call 44; (with_reducible refine H3.out.mono ?_); rintro e w1 ⟨v, rfl, hr, hb, hf⟩; have HR := Lib.hid hr; have HB := Lib.hid hb; have HF := Lib.hid hf; clear hr hb hf)
    go_ret
    exact ⟨_, rfl, HR.out, ⟨_, HB.out, HA0.out.set x _ h0 h1, HA1.out.other 0 (.inl (by omega)) x _ h0 h1⟩, HF.out⟩
  by_cases e4 : c = 254
  · subst e4
    go_enter Try.func33, Try.ntmps33
    go_wp2_with (go_at_call 45; (with_reducible refine H4.out.mono ?_); rintro e w1 ⟨v, rfl, hr, hb, hf⟩; have HR := Lib.hid hr; have HB := Lib.hid hb; have HF := Lib.hid hf; clear hr hb hf)
    go_ret
    exact ⟨_, rfl, HR.out, ⟨_, HB.out, HA0.out.set x _ h0 h1, HA1.out.other 0 (.inl (by omega)) x _ h0 h1⟩, HF.out⟩
  have b1 : (c == 251) = false := beq_eq_false_iff_ne.2 e1
  have b2 : (c == 252) = false := beq_eq_false_iff_ne.2 e2
  have b3 : (c == 253) = false := beq_eq_false_iff_ne.2 e3
  have b4 : (c == 254) = false := beq_eq_false_iff_ne.2 e4
  have HE := Lib.hid (show got P c x = P ∧ gotB P c x = [] by simp [got, gotB, e1, e2, e3, e4])
  clear e1 e2 e3 e4
  go_enter Try.func33, Try.ntmps33
  go_wp2
  go_ret
  rw [HE.out.1, HE.out.2]
  exact ⟨_, rfl, Kd.R_nil _ _ _ _ _, H.out, Fd.refl _ _ _⟩
end
end Go.Proofs.Ytgjicigagfhgmaa.H
