/- WholeTalks: the walk. -/
import Derived.Test.YtgjicigagfhgmaaOps
import Derived.Test.YtgjicigagfhgmaaTurnWalk
namespace Go.Proofs.Ytgjicigagfhgmaa.H
open Go.RowKit Go.Proofs.YtgjicigagfhgmaaW.PrintWords Go.Proofs.YtgjicigagfhgmaaW.PrintLast
set_option linter.unusedVariables false
set_option linter.unusedSimpArgs false
def okW (p : A.S30) : Prop := 0 ≤ p.f2 ∧ p.f2 < 256 ∧ 0 ≤ p.f3 ∧ p.f3 < 256
theorem and3w (v : Int) (h0 : 0 ≤ v) (h1 : v < 256) : bits .and .u8 v 3 = v % 4 := by
  obtain ⟨n, rfl⟩ := Int.eq_ofNat_of_zero_le h0
  have key : ∀ n : Fin 256, bits .and .u8 ((n : Nat) : Int) 3 = ((n : Nat) : Int) % 4 := by decide +kernel
  exact key ⟨n, by omega⟩
/-- Where the wishes stand. -/
structure WI (w wr : World) (gt gT gH gd ge : Nat) (nm : ByteArray) (T H : Ops) (cd ce : Int) (ms : List (Int × Int)) (k : Nat) (v : Value) : Prop where
  s : St wr gt gT gH gd ge nm T H cd ce
  o : wr.ownsRow w.heap.size 5 1 v (mb ms).length (nums .u8 (mb ms))
  i : Inv false false H T ms []
  n : ms.length ≤ k
  b : Below w.heap.size w wr
theorem WI.start {w w1 : World} {gt gT gH : Nat} {nm : ByteArray} {xs ys : List Int} {ext : List Int} (hT : Tk w1 gt gT (newOps ext [0, 25]) nm) (hH : Os w1 gH (newOps xs ys)) (hne : gT ≠ gH) (hb : Below w.heap.size w w1) : WI w (((w1.alloc (.cells #[.int .i64 0, .int .u8 0, .int .u8 0, .slice none 0 0, .bool false, .slice none 0 0] 37)).alloc (.cells #[.int .i64 0, .int .u8 0, .int .u8 0, .slice none 0 0, .bool false, .slice none 0 0] 37)).alloc (.cells #[] 5)) gt gT gH w1.heap.size (w1.heap.size + 1) nm (newOps ext [0, 25]) (newOps xs ys) 0 0 [] 0 (.slice (some ⟨w1.heap.size + 1 + 1, 0, none⟩) 0 0) := by
  have hb1 := below_alloc (Below.refl w1.heap.size w1) (.cells #[.int .i64 0, .int .u8 0, .int .u8 0, .slice none 0 0, .bool false, .slice none 0 0] 37)
  have hd1 := blk_new w1 (.cells #[.int .i64 0, .int .u8 0, .int .u8 0, .slice none 0 0, .bool false, .slice none 0 0] 37)
  have hs1 : (w1.alloc (.cells #[.int .i64 0, .int .u8 0, .int .u8 0, .slice none 0 0, .bool false, .slice none 0 0] 37)).heap.size = w1.heap.size + 1 := World.size_alloc _ _
  generalize w1.alloc (.cells #[.int .i64 0, .int .u8 0, .int .u8 0, .slice none 0 0, .bool false, .slice none 0 0] 37) = W1 at *
  have hb2 := below_alloc (Below.refl W1.heap.size W1) (.cells #[.int .i64 0, .int .u8 0, .int .u8 0, .slice none 0 0, .bool false, .slice none 0 0] 37)
  have he2 := blk_new W1 (.cells #[.int .i64 0, .int .u8 0, .int .u8 0, .slice none 0 0, .bool false, .slice none 0 0] 37)
  have hs2 : (W1.alloc (.cells #[.int .i64 0, .int .u8 0, .int .u8 0, .slice none 0 0, .bool false, .slice none 0 0] 37)).heap.size = W1.heap.size + 1 := World.size_alloc _ _
  generalize W1.alloc (.cells #[.int .i64 0, .int .u8 0, .int .u8 0, .slice none 0 0, .bool false, .slice none 0 0] 37) = W2 at *
  have hb3 := below_alloc (Below.refl W2.heap.size W2) (.cells #[] 5)
  have ho := World.ownsRow_lit (base := w.heap.size) (e := 5) (size := 1) W2 #[] 0 (by have := hb.size; omega) (by decide) (by decide)
  rw [show W2.heap.size = w1.heap.size + 1 + 1 by omega] at ho
  rw [hs1] at he2
  have h12 := below_then hb1 hb1.size hb2
  have h13 := below_then h12 h12.size hb3
  exact ⟨⟨hT.below h13, hH.below h13, blk_below (blk_below hd1 hb2) hb3, blk_below he2 hb3, hne, by omega⟩, by simpa [nums, mb] using ho, Inv.start _ _ _ _, Nat.le_refl _, below_then hb hb.size h13⟩
theorem WI.want {w wr W2 w3 w4 : World} {gt gT gH gd ge : Nat} {nm : ByteArray} {T H : Ops} {cd ce : Int} {ms : List (Int × Int)} {k : Nat} {v v4 : Value} (h : WI w wr gt gT gH gd ge nm T H cd ce ms k v) {c x : Int} (hc : okm (c, x)) (hgH : w.heap.size ≤ gH) (hb : Below wr.heap.size wr W2) (hf : Fd W2 w3 gH W2.heap.size) (ht : Os w3 gH (want H c x)) (ho : w4.ownsRow w.heap.size 5 1 v4 (mb ms ++ mb (wantM H c x)).length (nums .u8 (mb ms ++ mb (wantM H c x)))) (hg : w3.grownBy w4 v.ownBlock) (h3 : w3.ownsRow w.heap.size 5 1 v (mb ms).length (nums .u8 (mb ms))) : WI w w4 gt gT gH gd ge nm T (want H c x) cd ce (ms ++ wantM H c x) (k + 1) v4 := by
  have hle := h.b.size
  have h2 : w.heap.size ≤ w3.heap.size := Nat.le_trans hle (Nat.le_trans hb.size hf.size)
  refine ⟨((h.s.below hb).setH ht (Fr.of_fd hf)).grown h3 hg, by rw [mb_append]; exact ho, h.i.want c x hc, ?_, ?_⟩
  · have := wantM_len H c x
    have := h.n
    rw [List.length_append]
    omega
  · have b3 : Below w.heap.size w w3 := (below_then h.b hle hb).trans (hf.under (Nat.le_trans hle hb.size) hgH)
    exact pw_below_grown b3 _ h2 hg (fun k hk => own_base h3 k hk)
theorem WI.three {w wr W2 w3 : World} {gt gT gH gd ge : Nat} {nm : ByteArray} {T H : Ops} {cd ce : Int} {ms : List (Int × Int)} {k : Nat} {v : Value} (h : WI w wr gt gT gH gd ge nm T H cd ce ms k v) (hb : Below wr.heap.size wr W2) (hf : Fd W2 w3 gH W2.heap.size) : w3.ownsRow w.heap.size 5 1 v (mb ms).length (nums .u8 (mb ms)) := (Fr.of_fd hf).own (pw_own_below h.o hb) (fun k hk => (h.s.h.below hb).not5 (pw_own_below h.o hb) k hk)
theorem WI.turn {w w3 w4 : World} {gt gT gH gd ge : Nat} {nm : ByteArray} {T H : Ops} {cd ce cd' ce' : Int} {ms : List (Int × Int)} {k : Nat} {v v4 : Value} (h : WI w w3 gt gT gH gd ge nm T H cd ce ms k v) (hg : w.heap.size ≤ gT ∧ w.heap.size ≤ gH ∧ w.heap.size ≤ gd ∧ w.heap.size ≤ ge) (hs : St w4 gt gT gH gd ge nm (turnT T ms) (turnT H (turnS T ms)) cd' ce') (ho : w4.ownsRow w3.heap.size 5 1 v4 (mb (turnS H (turnS T ms))).length (nums .u8 (mb (turnS H (turnS T ms))))) (hf : Fr (S4 gT gH gd ge) w3 w4) : WI w w4 gt gT gH gd ge nm (turnT T ms) (turnT H (turnS T ms)) cd' ce' (turnS H (turnS T ms)) k v4 := ⟨hs, own_weaken ho h.b.size, h.i.turn.1.weak, Nat.le_trans (turn_len H T ms) h.n, h.b.trans (hf.below h.b.size (fun k hk e => by
  have : w.heap.size ≤ k := by rcases e with rfl | rfl | rfl | rfl; exact hg.1; exact hg.2.1; exact hg.2.2.1; exact hg.2.2.2
  omega))⟩
theorem turnS_ok {H T : Ops} {ms : List (Int × Int)} (h : Inv false false H T ms []) : ∀ m ∈ turnS T ms, okm m := by
  have := h.terms.r
  rwa [List.nil_append] at this
section
variable {w : World} {A1 A2 A3 : Option Addr} {c1 c2 c3 : Nat} {xs ys : List Int} {ws : List A.S30}
set_option maxHeartbeats 8000000 in
set_option maxRecDepth 100000 in
theorem talks_p (ext : Bool) (hX : Kd.C (Kd.int .u8) w A1 xs.length xs) (hY : Kd.C (Kd.int .u8) w A2 ys.length ys) (hC : Kd.C A.k30 w A3 ws.length ws) (hx : ∀ x ∈ xs, 0 ≤ x ∧ x < 256) (hy : ∀ x ∈ ys, 0 ≤ x ∧ x < 256) (hw : ∀ p ∈ ws, okW p) (hl : ws.length ≤ 30) (hl1 : xs.length ≤ 30) (hl2 : ys.length ≤ 30) : Calls Try.prog 4 #[.bool ext, .slice A1 xs.length c1, .slice A2 ys.length c2, .slice A3 ws.length c3] w fun e' w' => e' = .returned (.bool true) ∧ Below w.heap.size w w' := by
  have hu25 := Try.underlying25
  have hu22 := Try.underlying22
  have HX := Lib.hid (And.intro hX hx)
  have HY := Lib.hid (And.intro hY hy)
  have HC := Lib.hid hC
  have HW := Lib.hid hw
  have HL1 := Lib.hid (And.intro hl1 hl2)
  have hl' : (ws.length : Int) ≤ 30 := by omega
  clear hX hY hC hx hy hw
  go_enter Try.func4, Try.ntmps4
  go_wp2_with (first
    | (go_at_call 5; (refine (sound_p w).mono ?_); rintro e w1 ⟨rfl, hb⟩; have HB1 := Lib.hid hb; clear hb)
    | (go_at_call 15; (refine (tnew_p ext).mono ?_); rintro e w2 ⟨gt, gT, nm, rfl, hT, hgT, hgt, hb⟩; have HT2 := Lib.hid hT; have HB2 := Lib.hid (below_then HB1.out HB1.out.size hb); have HG2 := Lib.hid (And.intro (Nat.le_trans HB1.out.size hgT) (Nat.le_trans HB1.out.size hgt)); clear hb hT hgT hgt)
    | (go_at_call 16; (refine (onew_p A1 A2 c1 c2 xs ys (fun W hW => Kd.C_below HX.out.1 (below_then HB2.out HB2.out.size hW)) (fun W hW => Kd.C_below HY.out.1 (below_then HB2.out HB2.out.size hW)) HX.out.2 HY.out.2 (Nat.le_trans HL1.out.1 (by decide)) (Nat.le_trans HL1.out.2 (by decide))).mono ?_); rintro e w3 ⟨gH, rfl, hO, hgH, hb⟩; have HT3 := Lib.hid (HT2.out.below hb); have HO3 := Lib.hid hO; have HB3 := Lib.hid (below_then HB2.out HB2.out.size hb); have HG3 := Lib.hid (Nat.le_trans HB2.out.size hgH); have HNE := Lib.hid (show gT ≠ gH from Nat.ne_of_lt (Nat.lt_of_lt_of_le HT2.out.o.lt hgH)); clear hb hO hgH))
  obtain ⟨gd, hgd⟩ : ∃ gd, gd = w3.heap.size := ⟨_, rfl⟩
  have HGS := Lib.hid (show w.heap.size ≤ gT ∧ w.heap.size ≤ gH ∧ w.heap.size ≤ gd ∧ w.heap.size ≤ gd + 1 from ⟨HG2.out.1, HG3.out, by rw [hgd]; exact HB3.out.size, by rw [hgd]; exact Nat.le_succ_of_le HB3.out.size⟩)
  have HI0 := Lib.hid (WI.start HT3.out HO3.out HNE.out HB3.out)
  rw [← hgd] at HI0 ⊢
  generalize newOps (if ext = true then [0, 24, 25, 40] else [0, 24, 25]) [0, 25] = T0 at HI0
  generalize newOps xs ys = H0 at HI0
  generalize ((w3.alloc (.cells #[.int .i64 0, .int .u8 0, .int .u8 0, .slice none 0 0, .bool false, .slice none 0 0] 37)).alloc (.cells #[.int .i64 0, .int .u8 0, .int .u8 0, .slice none 0 0, .bool false, .slice none 0 0] 37)).alloc (.cells #[] 5) = W3 at HI0 ⊢
  clear hgd HT2 HB2 HG2 HT3 HO3 HB3 HG3 HNE HB1
  go_loopw [13, 44] (fun v13 v44 wr => ∃ k : Nat, ∃ T H cd ce ms, k ≤ ws.length ∧ v44 = .int .i64 k ∧ Hid (WI w wr gt gT gH gd (gd + 1) nm T H cd ce ms k v13)) (fun _ v44 _ => ws.length - (intOf v44).toNat)
  case atStart => exact ⟨0, T0, H0, 0, 0, [], Nat.zero_le _, rfl, HI0⟩
  case round =>
    obtain ⟨k, T, H, cd, ce, ms, hk, rfl, HI⟩ := hrel
    clear HI0
    obtain ⟨A13, k13, e13⟩ := own_slice HI.out.o
    subst e13
    by_cases hlt : k < ws.length
    · obtain ⟨ad, Ab, cb, rfl, hcl⟩ := A.ops_at (Kd.C_below HC.out HI.out.b) k hlt
      obtain ⟨⟨⟨h0, h1, h2, h3⟩, b, v, o⟩, hpk⟩ : ∃ p, ws[k] = p := ⟨_, rfl⟩
      have hok := HW.out _ (List.getElem_mem hlt)
      rw [hpk] at hcl hok
      obtain ⟨d0, d1, d2, d3, d4, d5, d6, hbl, hbr⟩ := hcl
      clear hpk hbl hbr
      simp only at d0 d1 d2 d3 d4 d5 d6
      obtain ⟨hv0, hv1, hx0, hx1⟩ := hok
      simp only at hv0 hv1 hx0 hx1
      obtain ⟨q, hq⟩ : ∃ q, (251 + bits .and .u8 v 3) % 256 = q := ⟨_, rfl⟩
      have hq' : 251 ≤ q ∧ q ≤ 254 := by rw [← hq, and3w v hv0 hv1]; omega
      have hb2 := below_alloc (Below.refl wr.heap.size wr) (.cells #[.int .u8 h0, .int .u8 h1, .int .u8 h2, .int .u16 h3, .slice Ab b.length cb, .int .u8 v, .int .u8 o] 30)
      have HY2 := Lib.hid (blk_new wr (.cells #[.int .u8 h0, .int .u8 h1, .int .u8 h2, .int .u16 h3, .slice Ab b.length cb, .int .u8 v, .int .u8 o] 30))
      have HB2 := Lib.hid hb2
      have HWA := Lib.hid (want_p (HI.out.s.below hb2).h q o (by omega) hx0 hx1)
      have HOK : Hid (okm (q, o)) := Lib.hid ⟨hq'.1, hq'.2, hx0, hx1⟩
      have HLT := Lib.hid hlt
      have HML := Lib.hid (show (mb ms).length ≤ 90 by have := HI.out.n; rw [mb_len]; omega)
      have HS2 : Hid ((wr.alloc (.cells #[.int .u8 h0, .int .u8 h1, .int .u8 h2, .int .u16 h3, .slice Ab b.length cb, .int .u8 v, .int .u8 o] 30)).heap.size = wr.heap.size + 1) := Lib.hid (World.size_alloc _ _)
      clear hb2 hq' hv0 hv1 hx0 hx1
      go_upto_region 14 with (first
        | (go_at_call 17; (with_reducible refine HWA.out.mono ?_); rintro e w5 ⟨v5, q5, rfl, hs5, ho5, hf5⟩; obtain ⟨A5, c5, rfl, hc5, hC5⟩ := Kd.R_reads hs5; have HO5 := Lib.hid ho5; have HF5 := Lib.hid hf5; have HC5 := Lib.hid (Kd.reads_of_C (enc := Value.int .u8) (d := (0 : Int)) (h1 := fun _ => rfl) hC5); rw [wantM_b] at HC5; have HY5 := Lib.hid (hf5.blk HY2.out (by rw [HS2.out]; exact Nat.lt_succ_self _) (Ne.symm (Nat.ne_of_lt HI.out.s.h.lt))); clear hs5 ho5 hf5 hc5 hC5)
        | (at_builtin; rw [wantM_b]; refine print_append_row (w0 := w5) w.heap.size rfl (.tmp 59) (.tmp 60) 25 5 .u8 1 rfl Try.underlying25 info5 (by decide) (.slice A13 (mb ms).length k13) (mb ms) (mb (wantM H q o)) A5 (mb (wantM H q o)).length c5 rfl rfl (HI.out.three HB2.out HF5.out) (readsInt_of.2 HC5.out) (Below.refl _ _) (Nat.le_trans HI.out.b.size (Nat.le_trans HB2.out.size HF5.out.size)) (by have := HML.out; have := wantM_len H q o; rw [mb_len (wantM H q o)]; omega) ?_; intro v6 w6 ho6 hb6 hg6 hat6; have HN := Lib.hid (HI.out.want HOK.out HGS.out.2.1 HB2.out HF5.out HO5.out ho6 hg6 (HI.out.three HB2.out HF5.out)); have HY6 := Lib.hid (blk_grown HY5.out hg6 (own_ne (HI.out.three HB2.out HF5.out) HY5.out (by decide))); clear ho6 hb6 hg6 hat6))
      obtain ⟨A6, k6, e6⟩ := own_slice HN.out.o
      subst e6
      have y3 := (blk_cell HY6.out 3).trans rfl
      obtain ⟨ns, hns⟩ : ∃ ns, ms ++ wantM H q o = ns := ⟨_, rfl⟩
      obtain ⟨H', hH'⟩ : ∃ H', want H q o = H' := ⟨_, rfl⟩
      rw [hns, hH'] at HN
      rw [hns]
      have HTU := Lib.hid (turn_p HN.out.s HN.out.o (Nat.le_trans HN.out.n (by omega)) HN.out.i.m (turnS_ok HN.out.i))
      clear hns hH' d0 d1 d2 d3 d4 d5 d6 HI HY6 HY5 HC5 HF5 HO5 HWA HB2 HY2 HS2 HML HOK
      cases hb : (bits .and .u16 h3 1 == 1)
      · go_wp2_with fail
        go_roundw
        case rel => exact ⟨k + 1, T, H', cd, ce, ns, by omega, by go_num, HN⟩
        case measure => (have := HLT.out; simp [intOf]; omega)
      · go_wp2_with (go_at_call 18; (with_reducible refine HTU.out.mono ?_); rintro e w7 ⟨v7, cd7, ce7, rfl, hs7, ho7, hf7⟩; have HN7 := Lib.hid (HN.out.turn HGS.out hs7 ho7 hf7); clear hs7 ho7 hf7)
        go_roundw
        case rel => exact ⟨k + 1, _, _, _, _, _, by omega, by go_num, HN7⟩
        case measure => (have := HLT.out; simp [intOf]; omega)
    · obtain rfl : k = ws.length := by omega
      have HJ0 : Hid (WI w wr gt gT gH gd (gd + 1) nm T H cd ce ms 30 (.slice A13 (mb ms).length k13)) := Lib.hid ⟨HI.out.s, HI.out.o, HI.out.i, Nat.le_trans HI.out.n hl, HI.out.b⟩
      clear HI
      go_wp2_with fail
      go_loopw [13, 14] (fun v13 v14 wr => ∃ n : Nat, ∃ T H cd ce ms, v14 = .int .i64 n ∧ n ≤ 2 ∧ Hid (WI w wr gt gT gH gd (gd + 1) nm T H cd ce ms 30 v13 ∧ (n = 0 ∨ n = 1 ∧ Inv true true H T ms [] ∨ n = 2 ∧ ms = []))) (fun _ v14 _ => 3 - (intOf v14).toNat)
      case atStart => exact ⟨0, _, _, _, _, _, rfl, by omega, Lib.hid ⟨HJ0.out, .inl rfl⟩⟩
      case round =>
        clear HJ0
        obtain ⟨n, T, H, cd, ce, ms, rfl, hn2, HJ⟩ := hrel
        have HI := Lib.hid HJ.out.1
        obtain ⟨A13, k13, e13⟩ := own_slice HI.out.o
        subst e13
        by_cases hms : ms = []
        · subst hms
          rw [show (mb ([] : List (Int × Int))).length = 0 from rfl]
          obtain ⟨wq, hwq⟩ : ∃ wq, wq = wr := ⟨_, rfl⟩
          subst hwq
          have HST : Hid (∀ W, Below wq.heap.size wq W → St W gt gT gH gd (gd + 1) nm T H cd ce) := Lib.hid (fun W hW => HI.out.s.below hW)
          have HRE := Lib.hid HI.out.i.rest
          have HBW := Lib.hid HI.out.b
          have HM0 : Hid (Below wq.heap.size wq wq) := Lib.hid (Below.refl _ _)
          clear HI HJ
          go_wp2_with fail
          go_loopw [19] (fun v19 wr => ∃ k : Nat, k ≤ 256 ∧ v19 = .int .i64 k ∧ Hid (Below wq.heap.size wq wr)) (fun v19 _ => 256 - (intOf v19).toNat)
          case atStart => exact ⟨0, by omega, rfl, HM0⟩
          case round =>
            obtain ⟨k, hk, rfl, HM⟩ := hrel
            clear HM0
            by_cases hlt : k < 256
            · have hk2 : (k : Int) % 256 = k := by omega
              have HT1 : Hid (∀ W, Below wq.heap.size wq W → Calls Try.prog 20 #[.pointer (some ⟨gT, 0, none⟩), .bool true, .int .u8 k] W fun e' w' => e' = .returned (.int .i64 (sd T true k)) ∧ Below W.heap.size W w') := Lib.hid (fun W hW => state_p (HST.out W hW).t.o true k (by omega) (by omega))
              have HH1 : Hid (∀ W, Below wq.heap.size wq W → Calls Try.prog 20 #[.pointer (some ⟨gH, 0, none⟩), .bool false, .int .u8 k] W fun e' w' => e' = .returned (.int .i64 (sd T true k)) ∧ Below W.heap.size W w') := Lib.hid (fun W hW => by rw [← show sd H false k = sd T true k from (HRE.out false k).1]; exact state_p (HST.out W hW).h false k (by omega) (by omega))
              have HT0 : Hid (∀ W, Below wq.heap.size wq W → Calls Try.prog 20 #[.pointer (some ⟨gT, 0, none⟩), .bool false, .int .u8 k] W fun e' w' => e' = .returned (.int .i64 (sd T false k)) ∧ Below W.heap.size W w') := Lib.hid (fun W hW => state_p (HST.out W hW).t.o false k (by omega) (by omega))
              have HH0 : Hid (∀ W, Below wq.heap.size wq W → Calls Try.prog 20 #[.pointer (some ⟨gH, 0, none⟩), .bool true, .int .u8 k] W fun e' w' => e' = .returned (.int .i64 (sd T false k)) ∧ Below W.heap.size W w') := Lib.hid (fun W hW => by rw [← show sd H true k = sd T false k from (HRE.out true k).1]; exact state_p (HST.out W hW).h true k (by omega) (by omega))
              generalize sd T true (k : Int) = a1 at HT1 HH1
              generalize sd T false (k : Int) = a0 at HT0 HH0
              go_wp2_with (first
                | (go_at_call 19; (with_reducible refine (options_p (HST.out _ HM.out).t).mono ?_); rintro e w1 ⟨rfl, hb⟩; replace HM := Lib.hid (below_then HM.out HM.out.size hb); clear hb)
                | (go_at_call 20; first
                  | ((with_reducible refine (HT1.out _ HM.out).mono ?_); rintro e w1 ⟨rfl, hb⟩; replace HM := Lib.hid (below_then HM.out HM.out.size hb); clear hb)
                  | ((with_reducible refine (HH1.out _ HM.out).mono ?_); rintro e w1 ⟨rfl, hb⟩; replace HM := Lib.hid (below_then HM.out HM.out.size hb); clear hb)
                  | ((with_reducible refine (HT0.out _ HM.out).mono ?_); rintro e w1 ⟨rfl, hb⟩; replace HM := Lib.hid (below_then HM.out HM.out.size hb); clear hb)
                  | ((with_reducible refine (HH0.out _ HM.out).mono ?_); rintro e w1 ⟨rfl, hb⟩; replace HM := Lib.hid (below_then HM.out HM.out.size hb); clear hb)))
              go_roundw
              case rel => exact ⟨k + 1, by omega, by go_num, HM⟩
              case measure => simp [intOf]; omega
            · obtain rfl : k = 256 := by omega
              have HBH := Lib.hid (fun W (hW : Below wq.heap.size wq W) => busy_p (HST.out W hW).h (fun x _ _ => (HRE.out true x).2) (fun x _ _ => (HRE.out false x).2))
              have HBT := Lib.hid (fun W (hW : Below wq.heap.size wq W) => busy_p (HST.out W hW).t.o (fun x _ _ => by have := (HRE.out false x).2; rw [(HRE.out false x).1] at this; exact this) (fun x _ _ => by have := (HRE.out true x).2; rw [(HRE.out true x).1] at this; exact this))
              go_wp2_with (first
                | (go_at_call 19; (with_reducible refine (options_p (HST.out _ HM.out).t).mono ?_); rintro e w1 ⟨rfl, hb⟩; replace HM := Lib.hid (below_then HM.out HM.out.size hb); clear hb)
                | (go_at_call 21; first
                  | ((with_reducible refine (HBH.out _ HM.out).mono ?_); rintro e w1 ⟨rfl, hb⟩; replace HM := Lib.hid (below_then HM.out HM.out.size hb); clear hb)
                  | ((with_reducible refine (HBT.out _ HM.out).mono ?_); rintro e w1 ⟨rfl, hb⟩; replace HM := Lib.hid (below_then HM.out HM.out.size hb); clear hb)))
              go_ret
              exact ⟨rfl, below_then HBW.out HBW.out.size HM.out⟩
        · have hpos : 0 < (mb ms).length := by rw [mb_len]; have := List.length_pos_iff.2 hms; omega
          have hn1 : n ≤ 1 := by
            rcases HJ.out.2 with e | ⟨e, _⟩ | ⟨_, e⟩
            · omega
            · omega
            · exact absurd e hms
          have HNX : Hid (n + 1 = 0 ∨ n + 1 = 1 ∧ Inv true true (turnT H (turnS T ms)) (turnT T ms) (turnS H (turnS T ms)) [] ∨ n + 1 = 2 ∧ turnS H (turnS T ms) = []) := Lib.hid (by
            rcases HJ.out.2 with e | ⟨e, h⟩ | ⟨_, e⟩
            · exact .inr (.inl ⟨by omega, HI.out.i.turn.1⟩)
            · exact .inr (.inr ⟨by omega, h.turn.2 rfl⟩)
            · exact absurd e hms)
          have HTU := Lib.hid (turn_p HI.out.s HI.out.o (Nat.le_trans HI.out.n (by omega)) HI.out.i.m (turnS_ok HI.out.i))
          clear hms HJ
          go_wp2_with (go_at_call 18; (with_reducible refine HTU.out.mono ?_); rintro e w7 ⟨v7, cd7, ce7, rfl, hs7, ho7, hf7⟩; have HN7 := Lib.hid (HI.out.turn HGS.out hs7 ho7 hf7); clear hs7 ho7 hf7)
          go_roundw
          case rel => exact ⟨n + 1, _, _, _, _, _, by go_num, by omega, Lib.hid ⟨HN7.out, HNX.out⟩⟩
          case measure => simp [intOf]; omega
end
end Go.Proofs.Ytgjicigagfhgmaa.H
