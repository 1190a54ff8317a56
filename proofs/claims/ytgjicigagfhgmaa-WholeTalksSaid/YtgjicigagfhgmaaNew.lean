/- option.New, talk.New. -/
import Derived.Test.YtgjicigagfhgmaaAllow
import Derived.Test.YtgjicigagfhgmaaZ
import Derived.Test.YtgjicigagfhgmaaClean
namespace Go.Proofs.Ytgjicigagfhgmaa.H
open Go.RowKit Go.Proofs.YtgjicigagfhgmaaW.PrintWords Go.Proofs.YtgjicigagfhgmaaW.PrintLast
theorem build73 (nm : ByteArray) (p : Option Addr) (w : World) : (Instr.build 73 #[(0, .string nm), (1, .pointer p)]).run Try.prog w = .ok (.agg #[.string nm, .pointer p, .bool false]) w := run_build w 73 _ _ (by kernel_rfl)
attribute [local go_sem] build73 build77 build79
attribute [-go_sem] Instr.build
set_option linter.unusedVariables false
set_option linter.unusedSimpArgs false
def newOps (ours theirs : List Int) : Ops := ⟨fun _ => 0, alw (fun _ => false) ours, fun _ => 0, alw (fun _ => false) theirs⟩
theorem Fd.under {a b : World} {g n m : Nat} (h : Fd a b g n) (hm : m ≤ n) (hg : m ≤ g) : Below m a b := ⟨h.os, h.tape, h.output, h.size, fun k hk => h.block k (Nat.lt_of_lt_of_le hk hm) (Nat.ne_of_lt (Nat.lt_of_lt_of_le hk hg))⟩
theorem lit_R (w : World) (cs : Array Value) (xs : List Int) (h : cs = (nums .u8 xs).toArray) (hm : xs.length ≤ 9223372036854775807) : ReadsInt (w.alloc (.cells cs 5)) .u8 (some ⟨w.heap.size, 0, none⟩) xs.length xs := by
  subst h
  refine ⟨rfl, hm, fun _ => ⟨_, rfl, fun j hj => ?_⟩⟩
  have := blk_cell (blk_new w (.cells (nums .u8 xs).toArray 5)) (0 + j)
  rw [show (⟨w.heap.size, 0, none⟩ : Addr).add j = ⟨w.heap.size, 0 + j, none⟩ by by_cases e : j = 0 <;> simp [Addr.add, e], this, Nat.zero_add, List.getElem?_toArray]
  simp [nums, List.getD_eq_getElem?_getD, List.getElem?_eq_getElem hj]
theorem lit_C (w : World) (cs : Array Value) (xs : List Int) (h : cs = (nums .u8 xs).toArray) (hm : xs.length ≤ 9223372036854775807) : Kd.C (Kd.int .u8) (w.alloc (.cells cs 5)) (some ⟨w.heap.size, 0, none⟩) xs.length xs := by
  exact Kd.C_of_reads (d := (0 : Int)) (h1 := fun _ => rfl) (readsInt_of.1 (lit_R w cs xs h hm))
section
variable {w : World}
set_option maxHeartbeats 4000000 in
set_option maxRecDepth 100000 in
theorem onew_p (A0 A1 : Option Addr) (c0 c1 : Nat) (xs ys : List Int) (hC : ∀ W, Below w.heap.size w W → Kd.C (Kd.int .u8) W A0 xs.length xs) (hD : ∀ W, Below w.heap.size w W → Kd.C (Kd.int .u8) W A1 ys.length ys) (hx : ∀ x ∈ xs, 0 ≤ x ∧ x < 256) (hy : ∀ x ∈ ys, 0 ≤ x ∧ x < 256) (hl : xs.length ≤ 1000) (hm : ys.length ≤ 1000) : Calls Try.prog 16 #[.slice A0 xs.length c0, .slice A1 ys.length c1] w fun e' w' => ∃ g, e' = .returned (.pointer (some ⟨g, 0, none⟩)) ∧ Os w' g (newOps xs ys) ∧ w.heap.size ≤ g ∧ Below w.heap.size w w' := by
  have hb1 := below_alloc (Below.refl w.heap.size w) (.cells z79 79)
  have hn1 := blk_new w (.cells z79 79)
  have H1 := Lib.hid (allow_p (w := w.alloc (.cells z79 79)) (g := w.heap.size) (o := 0) hn1 z79_new.1 A0 c0 xs (fun W hW => hC W (hb1.trans (hW.under hb1.size (Nat.le_refl _)))) hx hl)
  have HD := Lib.hid hD
  have HY := Lib.hid (And.intro hy hm)
  have HB := Lib.hid hb1
  clear hC hD hx hy hl hm hn1 hb1
  go_enter Try.func16, Try.ntmps16
  go_wp2_with (go_at_call 30; (first
    | ((with_reducible refine H1.out.mono ?_); rintro e w1 ⟨rfl, hI⟩; obtain ⟨⟨cs1, hc1, hs1, ho1⟩, hf1⟩ := hI; have HB1 := Lib.hid (HB.out.trans (hf1.under HB.out.size (Nat.le_refl _))); have HC1 := Lib.hid hs1; have HA := Lib.hid (allow_p (o := 514) hc1 (ho1 514 _ _ _ _ (.inr (by omega)) z79_new.2) A1 c1 ys (fun W hW => HD.out W (HB1.out.trans (hW.under HB1.out.size (Nat.le_refl _)))) HY.out.1 HY.out.2); clear hc1 hs1 ho1 hf1)
    | ((with_reducible refine HA.out.mono ?_); rintro e w2 ⟨rfl, hI⟩; obtain ⟨⟨cs2, hc2, hs2, ho2⟩, hf2⟩ := hI; have HO : Hid (Os w2 w.heap.size (newOps xs ys)) := Lib.hid ⟨cs2, hc2, by have := ho2 0 _ _ _ _ (.inl (by omega)) HC1.out; rwa [List.take_length] at this, by rwa [List.take_length] at hs2⟩; have HB2 := Lib.hid (HB1.out.trans (hf2.under HB1.out.size (Nat.le_refl _))); clear hc2 hs2 ho2 hf2)))
  go_ret
  exact ⟨_, rfl, HO.out, Nat.le_refl _, HB2.out⟩
set_option maxHeartbeats 4000000 in
set_option maxRecDepth 100000 in
theorem tnew_p (ext : Bool) : Calls Try.prog 15 #[.string ⟨#[73, 66, 77]⟩, .bool ext] w fun e' w' => ∃ gt g nm, e' = .returned (.pointer (some ⟨gt, 0, none⟩)) ∧ Tk w' gt g (newOps (if ext then [0, 24, 25, 40] else [0, 24, 25]) [0, 25]) nm ∧ w.heap.size ≤ g ∧ w.heap.size ≤ gt ∧ Below w.heap.size w w' := by
  have hu25 := Try.underlying25
  cases ext with
  | false =>
    have hA := lit_C w #[.int .u8 0, .int .u8 24, .int .u8 25] [0, 24, 25] rfl (by decide)
    have hb0 := below_alloc (Below.refl w.heap.size w) (.cells #[.int .u8 0, .int .u8 24, .int .u8 25] 5)
    have HA := Lib.hid hA
    have HB0 := Lib.hid hb0
    clear hA hb0
    go_enter Try.func15, Try.ntmps15
    go_wp2_with (first
      | (go_at_call 29; (with_reducible refine (clean_p _).mono ?_); rintro e w1 ⟨nm, rfl, hb1⟩; have hb2 := below_alloc (Below.refl w1.heap.size w1) (.cells #[.int .u8 0, .int .u8 25] 5); have HA1 := Lib.hid (Kd.C_below (Kd.C_below HA.out hb1) hb2); have HA2 := Lib.hid (lit_C w1 #[.int .u8 0, .int .u8 25] [0, 25] rfl (by decide)); have HB1 := Lib.hid (below_then (below_then HB0.out HB0.out.size hb1) (Nat.le_trans HB0.out.size hb1.size) hb2); clear hb1 hb2)
      | (go_at_call 16; refine (onew_p _ _ _ _ [0, 24, 25] [0, 25] (fun W hW => Kd.C_below HA1.out hW) (fun W hW => Kd.C_below HA2.out hW) (by decide) (by decide) (by decide) (by decide)).mono ?_; rintro e w2 ⟨g, rfl, ho, hle, hb3⟩; have HO := Lib.hid ho; have HLE := Lib.hid (Nat.le_trans HB1.out.size hle); have HB2 := Lib.hid (below_then HB1.out HB1.out.size hb3); clear ho hle hb3))
    go_ret
    exact ⟨_, rfl, _, ⟨_, blk_new _ _, HO.out.below (below_alloc (Below.refl _ _) _)⟩, HLE.out, HB2.out.size, below_then HB2.out HB2.out.size (below_alloc (Below.refl _ _) _)⟩
  | true =>
    have ho0 := World.ownsRow_lit (base := w.heap.size) (e := 5) (size := 1) w #[.int .u8 0, .int .u8 24, .int .u8 25] 3 (Nat.le_refl _) (by decide) rfl
    have hb0 := below_alloc (Below.refl w.heap.size w) (.cells #[.int .u8 0, .int .u8 24, .int .u8 25] 5)
    have HO0 := Lib.hid ho0
    have HB0 := Lib.hid hb0
    clear ho0 hb0
    go_enter Try.func15, Try.ntmps15
    go_wp2_with (first
      | (at_builtin; refine print_append_row (w0 := w) w.heap.size rfl (.tmp 8) (.tmp 9) 25 5 .u8 1 rfl Try.underlying25 info5 (by decide) (.slice (some ⟨w.heap.size, 0, none⟩) 3 3) [0, 24, 25] [40] (some ⟨w.heap.size + 1, 0, none⟩) 1 1 rfl rfl (HO0.out.alloc _) (by have := lit_R (w.alloc (.cells #[.int .u8 0, .int .u8 24, .int .u8 25] 5)) #[.int .u8 40] [40] rfl (by decide); rw [World.size_alloc] at this; exact this) (below_alloc HB0.out _) (by rw [World.size_alloc, World.size_alloc]; omega) (by decide) ?_; intro v0 w0 ho hb hg hat; obtain ⟨A0, k0, rfl⟩ := own_slice ho; obtain ⟨_, _, e0, hr0⟩ := own_reads ho; injection e0 with e0 _ e1; subst e0; subst e1; have HA := Lib.hid (Kd.C_of_reads (d := (0 : Int)) (h1 := fun _ => rfl) (readsInt_of.1 hr0)); have HBB := Lib.hid hb; clear ho hb hg hat hr0 HB0; have HB0 := HBB)
      | (go_at_call 29; (with_reducible refine (clean_p _).mono ?_); rintro e w1 ⟨nm, rfl, hb1⟩; have hb2 := below_alloc (Below.refl w1.heap.size w1) (.cells #[.int .u8 0, .int .u8 25] 5); have HA1 := Lib.hid (Kd.C_below (Kd.C_below HA.out hb1) hb2); have HA2 := Lib.hid (lit_C w1 #[.int .u8 0, .int .u8 25] [0, 25] rfl (by decide)); have HB1 := Lib.hid (below_then (below_then HB0.out HB0.out.size hb1) (Nat.le_trans HB0.out.size hb1.size) hb2); clear hb1 hb2)
      | (go_at_call 16; refine (onew_p _ _ _ _ [0, 24, 25, 40] [0, 25] (fun W hW => Kd.C_below HA1.out hW) (fun W hW => Kd.C_below HA2.out hW) (by decide) (by decide) (by decide) (by decide)).mono ?_; rintro e w2 ⟨g, rfl, ho, hle, hb3⟩; have HO := Lib.hid ho; have HLE := Lib.hid (Nat.le_trans HB1.out.size hle); have HB2 := Lib.hid (below_then HB1.out HB1.out.size hb3); clear ho hle hb3))
    go_ret
    exact ⟨_, rfl, _, ⟨_, blk_new _ _, HO.out.below (below_alloc (Below.refl _ _) _)⟩, HLE.out, HB2.out.size, below_then HB2.out HB2.out.size (below_alloc (Below.refl _ _) _)⟩
end
end Go.Proofs.Ytgjicigagfhgmaa.H
