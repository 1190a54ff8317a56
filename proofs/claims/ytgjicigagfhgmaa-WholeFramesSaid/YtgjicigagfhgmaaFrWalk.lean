/- WholeFrames: the walk. -/
import Derived.Test.YtgjicigagfhgmaaFrP
namespace Go.Proofs.Ytgjicigagfhgmaa.H
open Go.RowKit Go.Proofs.YtgjicigagfhgmaaW.PrintWords Go.Proofs.YtgjicigagfhgmaaW.PrintLast
set_option linter.unusedVariables false
set_option linter.unusedSimpArgs false
def okP (p : A.S30) : Prop := 0 ≤ p.f0.f0 ∧ p.f0.f0 < 256 ∧ 0 ≤ p.f0.f3 ∧ p.f0.f3 < 65536 ∧ 0 ≤ p.f2 ∧ p.f2 < 256
/-- Where the bytes stand. -/
structure AL (w wr : World) (parts : List A.S30) (k : Nat) (v5 : Value) (bs : List Int) : Prop where
  o : wr.ownsRow w.heap.size 5 1 v5 bs.length (nums .u8 bs)
  b : Below w.heap.size w wr
  e : bs = (parts.take k).flatMap pbytes
  l : ∀ p ∈ parts.take k, p.f1.length ≤ 300
  n : bs.length ≤ 700 * k
theorem AL.start {w w1 : World} (hb : Below w.heap.size w w1) (parts : List A.S30) : AL w (w1.alloc (.cells #[] 5)) parts 0 (.slice (some ⟨w1.heap.size, 0, none⟩) 0 0) [] := ⟨by
  have := World.ownsRow_lit (base := w.heap.size) (e := 5) (size := 1) w1 #[] 0 hb.size (by decide) (by decide)
  simpa [nums] using this, below_alloc hb _, by simp, by simp, Nat.le_refl _⟩
theorem and3 (v : Int) (h0 : 0 ≤ v) (h1 : v < 256) : bits .and .u8 v 3 = v % 4 := by
  obtain ⟨n, rfl⟩ := Int.eq_ofNat_of_zero_le h0
  have key : ∀ n : Fin 256, bits .and .u8 ((n : Nat) : Int) 3 = ((n : Nat) : Int) % 4 := by decide +kernel
  exact key ⟨n, by omega⟩
theorem AL.step {w wr w3 : World} {parts : List A.S30} {k : Nat} {v5 v1 : Value} {bs pb : List Int} (h : AL w wr parts k v5 bs) (hk : k < parts.length) (hl : parts[k].f1.length ≤ 300) (hpb : pb = pbytes parts[k]) (ho : w3.ownsRow w.heap.size 5 1 v1 (bs ++ pb).length (nums .u8 (bs ++ pb))) (hb : Below w.heap.size w w3) : AL w w3 parts (k + 1) v1 (bs ++ pb) := by
  have e : parts.take (k + 1) = parts.take k ++ [parts[k]] := (List.take_append_getElem hk).symm
  refine ⟨ho, hb, ?_, fun p hp => ?_, ?_⟩
  · rw [e, List.flatMap_append, ← h.e, hpb]
    simp
  · rw [e] at hp
    rcases List.mem_append.1 hp with hp | hp
    · exact h.l p hp
    · obtain rfl : p = parts[k] := by simpa using hp
      exact hl
  · have := pbytes_len parts[k] hl
    have := h.n
    rw [List.length_append, hpb]
    omega
theorem AL.fed {w wr : World} {parts : List A.S30} {A5 A1 : Option Addr} {k5 c1 : Nat} {bs ms : List Int} (h : AL w wr parts parts.length (.slice A5 bs.length k5) bs) (hM : Kd.C (Kd.int .i64) w A1 ms.length ms) (hml : ms.length ≤ 100) (hn : parts.length ≤ 20) : Calls Try.prog 9 #[.pointer (some ⟨wr.heap.size, 0, none⟩), .slice A5 bs.length k5, .slice A1 ms.length c1] ((wr.alloc (.cells #[.int .i64 0, .int .u8 0, .int .u8 0, .slice none 0 0, .bool false, .slice none 0 0] 37)).alloc (.cells #[.slice none 0 0, .bool false] 39)) fun e' w' => ∃ v' es c' base, e' = .returned v' ∧ FO w w' (wr.heap.size + 1) wr.heap.size base parts v' es c' := by
  have hb1 := below_alloc (Below.refl wr.heap.size wr) (.cells #[.int .i64 0, .int .u8 0, .int .u8 0, .slice none 0 0, .bool false, .slice none 0 0] 37)
  have hd1 := blk_new wr (.cells #[.int .i64 0, .int .u8 0, .int .u8 0, .slice none 0 0, .bool false, .slice none 0 0] 37)
  have hs1 : (wr.alloc (.cells #[.int .i64 0, .int .u8 0, .int .u8 0, .slice none 0 0, .bool false, .slice none 0 0] 37)).heap.size = wr.heap.size + 1 := World.size_alloc _ _
  generalize wr.alloc (.cells #[.int .i64 0, .int .u8 0, .int .u8 0, .slice none 0 0, .bool false, .slice none 0 0] 37) = W1 at *
  have hb2 := below_alloc (Below.refl W1.heap.size W1) (.cells #[.slice none 0 0, .bool false] 39)
  have hm2 := blk_new W1 (.cells #[.slice none 0 0, .bool false] 39)
  have hd2 := blk_below hd1 hb2
  have hs2 : (W1.alloc (.cells #[.slice none 0 0, .bool false] 39)).heap.size = W1.heap.size + 1 := World.size_alloc _ _
  generalize W1.alloc (.cells #[.slice none 0 0, .bool false] 39) = W2 at *
  have hb12 := below_then hb1 hb1.size hb2
  rw [hs1] at hm2
  have hbs : bs = parts.flatMap pbytes := by rw [h.e, List.take_length]
  have hlen : bs.length ≤ 14000 := by have := h.n; omega
  obtain ⟨c', hrun⟩ := drun_parts parts 0
  rw [← hbs] at hrun
  have hown : ∀ W, Fd W2 W wr.heap.size W2.heap.size → Below wr.heap.size wr W := fun W hW => hb12.trans (hW.under (by omega) (Nat.le_refl _))
  have hpl : ∀ p ∈ parts, p.f1.length ≤ 300 := by have := h.l; rwa [List.take_length] at this
  refine (fed_p (w := W2) (g := wr.heap.size) (c0 := k5) (c1 := c1) (bs := bs) (ms := ms) hd2 (fun W hW => ?_) (own_cap h.o) (fun W hW => ?_) (by omega) (by omega) hrun).mono ?_
  · obtain ⟨A, c, e, hr⟩ := own_reads (pw_own_below h.o (hown W hW))
    injection e with e1 e2 e3
    subst e1
    exact hr
  · exact Kd.C_below hM (below_then h.b h.b.size (hown W hW))
  · rintro e' w' ⟨v', es, rfl, hd, hev, ht, hok, hf⟩
    have hlt : W2.heap.size ≤ w'.heap.size := hf.size
    refine ⟨v', es, c', W2.heap.size, rfl, ⟨fun W hW => hev.move (fun k hk hlt2 _ => hW.block k hlt2 (by omega)), fun W hW => (hW.block _ (by omega) (by omega)).trans hd, fun W hW => below_then h.b h.b.size ((hown w' hf).trans (hW.under (by omega) (by omega))), ⟨(hf.block _ (by omega) (by omega)).trans hm2, own_nil _ _ _ _, Nat.le_refl _⟩, ht, hok.mono hlen, hpl, hn⟩⟩
theorem eq28 (x0 x1 x2 x3 : Int) (w : World) (d : Nat) : (Op.equalIn (d + 2) 28 (.agg #[.int .u8 x0, .int .u8 x1, .int .u8 x2, .int .u16 x3]) (.agg #[.int .u8 x0, .int .u8 x1, .int .u8 x2, .int .u16 x3])).run Try.prog w = .ok true w := by
  have h : (Op.equalIn (d + 2) 28 (.agg #[.int .u8 x0, .int .u8 x1, .int .u8 x2, .int .u16 x3]) (.agg #[.int .u8 x0, .int .u8 x1, .int .u8 x2, .int .u16 x3])).run Try.prog w = .ok (x0 == x0 && (x1 == x1 && (x2 == x2 && (x3 == x3)))) w := by
    refine eqA_of Try.underlying28 (by kernel_rfl) ?_
    refine eqf_cons (by rfl) (by go_simp; rfl) (by go_simp; rfl) (by go_simp) ?_
    refine eqf_cons (by rfl) (by go_simp; rfl) (by go_simp; rfl) (by go_simp) ?_
    refine eqf_cons (by rfl) (by go_simp; rfl) (by go_simp; rfl) (by go_simp) ?_
    exact eqf_last (by rfl) (by go_simp; rfl) (by go_simp; rfl) (by go_simp)
  simpa using h
theorem same_l : ∀ (k : Nat) (l : List Int) (i : Nat), l.length - i + 1 ≤ k → i ≤ l.length → l.length ≤ 1000 → A.greenscreenref01_Same.l0 k l l (i : Int) = some true
  | 0, l, i, h, _, _ => by omega
  | k + 1, l, i, h, hi, hl => by
    unfold A.greenscreenref01_Same.l0
    by_cases hlt : i < l.length
    · have hw : wrap64 ((i : Int) + 1) = ((i + 1 : Nat) : Int) := by unfold wrap64; omega
      rw [if_pos (by omega), if_pos (by omega), if_pos (by omega), if_pos rfl, hw]
      exact same_l k l (i + 1) (by omega) (by omega) hl
    · rw [if_neg (by omega)]
theorem same_f (l : List Int) (hl : l.length ≤ 1000) : A.greenscreenref01_Same.f 1001 l l = some true := by
  unfold A.greenscreenref01_Same.f
  rw [if_pos rfl]
  have := same_l 1001 l 0 (by omega) (by omega) hl
  rwa [Int.natCast_zero] at this
section
variable {w : World} {A0 A1 : Option Addr} {c0 c1 : Nat} {parts : List A.S30} {ms : List Int}
set_option maxHeartbeats 8000000 in
set_option maxRecDepth 100000 in
theorem frames_p (hC : Kd.C A.k30 w A0 parts.length parts) (hc0 : parts.length ≤ c0) (hM : Kd.C (Kd.int .i64) w A1 ms.length ms) (hc1 : ms.length ≤ c1) (hp : ∀ p ∈ parts, okP p) (hl0 : parts.length ≤ 20) (hl1 : ms.length ≤ 100) : Calls Try.prog 3 #[.slice A0 parts.length c0, .slice A1 ms.length c1] w fun e' w' => e' = .returned (.bool true) ∧ Below w.heap.size w w' := by
  have hu25 := Try.underlying25
  have hu22 := Try.underlying22
  have hu23 := Try.underlying23
  have hu35 := Try.underlying35
  have HC := Lib.hid hC
  have HM := Lib.hid hM
  have HP := Lib.hid hp
  have HCL := Lib.hid (And.intro hc0 hc1)
  clear hC hM hp hc0 hc1
  go_enter Try.func3, Try.ntmps3
  go_wp2_with (go_at_call 5; (refine (sound_p w).mono ?_); rintro e w1 ⟨rfl, hb⟩; have HB1 := Lib.hid hb; have HI0 : Hid (AL w (w1.alloc (.cells #[] 5)) parts 0 (.slice (some ⟨w1.heap.size, 0, none⟩) 0 0) []) := Lib.hid (AL.start hb parts); clear hb)
  generalize w1.alloc (.cells #[] 5) = W1 at HI0 ⊢
  go_loopw [5, 33] (fun v5 v33 wr => ∃ k : Nat, ∃ bs, k ≤ parts.length ∧ v33 = .int .i64 k ∧ Hid (AL w wr parts k v5 bs)) (fun _ v33 _ => parts.length - (intOf v33).toNat)
  case atStart => exact ⟨0, [], Nat.zero_le _, rfl, HI0⟩
  case round =>
    obtain ⟨k, bs, hk, rfl, HI⟩ := hrel
    clear HI0
    by_cases hlt : k < parts.length
    · obtain ⟨ad, Ab, cb, rfl, hcl⟩ := A.ops_at (Kd.C_below HC.out HI.out.b) k hlt
      obtain ⟨⟨⟨h0, h1, h2, h3⟩, b, v, o⟩, hpk⟩ : ∃ p, parts[k] = p := ⟨_, rfl⟩
      have hok := HP.out _ (List.getElem_mem hlt)
      rw [hpk] at hcl hok
      have HPK := Lib.hid hpk
      obtain ⟨d0, d1, d2, d3, d4, d5, d6, hbl, hbr⟩ := hcl
      have HBR := Lib.hid (And.intro hbl hbr)
      obtain ⟨A5, k5, e5⟩ := own_slice HI.out.o
      subst e5
      clear hpk hbl hbr
      simp only at d0 d1 d2 d3 d4 d5 d6
      by_cases hlong : b.length ≤ 300
      · by_cases hv : v = 0
        · subst hv
          obtain ⟨q9, hq9⟩ : ∃ q9, h0.tmod 9 = q9 := ⟨_, rfl⟩
          have hq9' : q9 = h0 % 9 := by rw [← hq9]; exact Int.tmod_eq_emod_of_nonneg hok.1
          obtain ⟨pl, hpl⟩ : ∃ pl, hdr ⟨h0, h1, h2, h3⟩ ++ b = pl := ⟨_, rfl⟩
          have hpln : pl.length ≤ 1000 := by rw [← hpl, List.length_append]; simp [hdr]; omega
          obtain ⟨rl, hrl⟩ : ∃ rl, esc pl ++ [255, 239] = rl := ⟨_, rfl⟩
          have hpb : rl = pbytes parts[k] := by rw [HPK.out, ← hrl, ← hpl]; simp [pbytes]
          have hw8 := write_f ⟨h0, h1, h2, h3⟩ b (by omega)
          rw [hpl] at hw8
          simp only at hw8
          rw [← hq9'] at hw8
          have hr7 := record_f pl hpln
          rw [hrl] at hr7
          have HQ := Lib.hid (And.intro hw8 (And.intro hr7 hpb))
          have hb1 := below_alloc (Below.refl wr.heap.size wr) (.cells #[.int .u8 q9, .int .u8 h1, .int .u8 h2, .int .u16 h3, .slice Ab b.length cb, .int .u8 0, .int .u8 o] 30)
          have HA := Lib.hid (A.header_Write.calls q9 h1 h2 h3 Ab cb b pl _ (Kd.C_below HBR.out.2 hb1) HBR.out.1 hw8)
          have HB1 := Lib.hid hb1
          clear hpl hrl hpb hw8 hr7 hq9' hb1 hok
          go_wp2_with (first
            | (go_at_call 8; (refine HA.out.mono ?_); rintro e w2 ⟨v2, rfl, hr, hb⟩; obtain ⟨A2, c2, rfl, hc2, hC2⟩ := Kd.R_reads hr; have HB2 := Lib.hid (below_then HB1.out HB1.out.size hb); have HC2 := Lib.hid (And.intro hc2 hC2); clear hr hc2 hC2 hb)
            | (go_at_call 7; (refine (A.iac_Record.calls 1002 A2 c2 pl rl w2 HC2.out.2 HC2.out.1 HQ.out.2.1).mono ?_); rintro e w3 ⟨v3, rfl, hr, hb⟩; obtain ⟨A3, c3, rfl, hc3, hC3⟩ := Kd.R_reads hr; have HB3 := Lib.hid (below_then HB2.out HB2.out.size hb); have HC3 := Lib.hid (Kd.reads_of_C (enc := Value.int .u8) (d := (0 : Int)) (h1 := fun _ => rfl) hC3); clear hr hc3 hC3 hb)
            | (at_builtin; refine print_append_row (w0 := w) w.heap.size rfl (.tmp 59) (.tmp 65) 25 5 .u8 1 rfl Try.underlying25 info5 (by decide) (.slice A5 bs.length k5) bs rl A3 rl.length c3 rfl rfl (pw_own_below HI.out.o HB3.out) (readsInt_of.2 HC3.out) (below_then HI.out.b HI.out.b.size HB3.out) (Nat.le_trans HI.out.b.size HB3.out.size) (by have := HI.out.n; have := pbytes_len parts[k] (by rw [HPK.out]; exact hlong); rw [← HQ.out.2.2] at this; omega) ?_; intro v4 w4 ho4 hb4 hg4 hat4; have HN := Lib.hid (HI.out.step hlt (by rw [HPK.out]; exact hlong) HQ.out.2.2 ho4 hb4); clear ho4 hb4 hg4 hat4))
          go_roundw
          case rel => exact ⟨k + 1, _, by omega, by go_num, HN⟩
          case measure => simp [intOf]; omega
        · have hvb : (v != 0) = true := bne_iff_ne.2 hv
          obtain ⟨q, hq⟩ : ∃ q, (251 + bits .and .u8 v 3) % 256 = q := ⟨_, rfl⟩
          have hq' : q = vb v := by rw [← hq, and3 v hok.2.2.2.2.1 hok.2.2.2.2.2]; unfold vb; omega
          obtain ⟨rl, hrl⟩ : ∃ rl, [255, q, o] = rl := ⟨_, rfl⟩
          have hpb : rl = pbytes parts[k] := by rw [HPK.out, ← hrl, hq']; simp [pbytes, hv]
          have hw8 : A.iac_Say.f q o = some rl := by rw [← hrl]; rfl
          have hb1 := below_alloc (Below.refl wr.heap.size wr) (.cells #[.int .u8 h0, .int .u8 h1, .int .u8 h2, .int .u16 h3, .slice Ab b.length cb, .int .u8 v, .int .u8 o] 30)
          have HA := Lib.hid (A.iac_Say.calls q o rl (wr.alloc (.cells #[.int .u8 h0, .int .u8 h1, .int .u8 h2, .int .u16 h3, .slice Ab b.length cb, .int .u8 v, .int .u8 o] 30)) hw8)
          have HB1 := Lib.hid hb1
          have HQ := Lib.hid hpb
          clear hrl hpb hw8 hq' hb1 hok
          go_wp2_with (first
            | (go_at_call 6; (refine HA.out.mono ?_); rintro e w3 ⟨v3, rfl, hr, hb⟩; obtain ⟨A3, c3, rfl, hc3, hC3⟩ := Kd.R_reads hr; have HB3 := Lib.hid (below_then HB1.out HB1.out.size hb); have HC3 := Lib.hid (Kd.reads_of_C (enc := Value.int .u8) (d := (0 : Int)) (h1 := fun _ => rfl) hC3); clear hr hc3 hC3 hb)
            | (at_builtin; refine print_append_row (w0 := w) w.heap.size rfl (.tmp 44) (.tmp 51) 25 5 .u8 1 rfl Try.underlying25 info5 (by decide) (.slice A5 bs.length k5) bs rl A3 rl.length c3 rfl rfl (pw_own_below HI.out.o HB3.out) (readsInt_of.2 HC3.out) (below_then HI.out.b HI.out.b.size HB3.out) (Nat.le_trans HI.out.b.size HB3.out.size) (by have := HI.out.n; have := pbytes_len parts[k] (by rw [HPK.out]; exact hlong); rw [← HQ.out] at this; omega) ?_; intro v4 w4 ho4 hb4 hg4 hat4; have HN := Lib.hid (HI.out.step hlt (by rw [HPK.out]; exact hlong) HQ.out ho4 hb4); clear ho4 hb4 hg4 hat4))
          go_roundw
          case rel => exact ⟨k + 1, _, by omega, by go_num, HN⟩
          case measure => simp [intOf]; omega
      · go_wp2_with fail
        go_ret
        exact ⟨rfl, below_alloc HI.out.b _⟩
    · obtain rfl : k = parts.length := by omega
      obtain ⟨A5, k5, e5⟩ := own_slice HI.out.o
      subst e5
      have HFE := Lib.hid (HI.out.fed (c1 := c1) (Kd.C_below HM.out (Below.refl _ _)) hl1 hl0)
      go_wp2_with (first
        | (go_at_call 9; (refine HFE.out.mono ?_); rintro e wf ⟨vE, es, c', base, rfl, hfo⟩; obtain ⟨AE, kE, rfl⟩ := own_slice (hfo.ev wf (Fd.refl _ _ _)).o; have HFO := Lib.hid hfo; clear hfo)
        | fail)
      obtain ⟨g, hg⟩ : ∃ g, wr.heap.size = g := ⟨_, rfl⟩
      simp only [hg] at HFO ⊢
      clear HFE HI hg
      have HJ0 := Lib.hid HFO.out.start
      go_loopw [10, 72] (fun v10 v72 wr => ∃ i k : Nat, ∃ v bs, i ≤ parts.length ∧ k ≤ es.length ∧ v10 = .int .i64 i ∧ v72 = .int .i64 k ∧ Hid (EI wf wr (g + 1) parts es i k v bs)) (fun _ v72 _ => es.length - (intOf v72).toNat)
      case atStart => exact ⟨0, 0, _, _, Nat.zero_le _, Nat.zero_le _, rfl, rfl, HJ0⟩
      case round =>
        obtain ⟨i, k, v, bs2, hi, hk2, rfl, rfl, HJ⟩ := hrel
        clear HJ0
        by_cases hlt : k < es.length
        · obtain ⟨⟨e, u⟩, hp⟩ : ∃ p, es[k] = p := ⟨_, rfl⟩
          have hp? : es[k]? = some (e, u) := by rw [List.getElem?_eq_getElem hlt, hp]
          have hkind := HFO.out.k.k (e, u) (hp ▸ List.getElem_mem hlt)
          have htk := toks_drop hlt
          rw [hp] at htk
          have hE := HFO.out.ev _ HJ.out.f
          obtain ⟨R, cap, hv⟩ := own_form' hE.o (by omega)
          obtain ⟨rfl, rfl⟩ : AE = some ⟨R, 0, none⟩ ∧ kE = cap := by simpa using hv
          have c0 := (own_cell4 hE.o (k * 4 + 0) _ (eflat_get _ k (e, u) 0 _ hp? rfl)).1
          rw [Nat.add_zero] at c0
          have c1 := (own_cell4 hE.o (k * 4 + 1) _ (eflat_get _ k (e, u) 1 _ hp? rfl)).1
          have c2 := (own_cell4 hE.o (k * 4 + 2) _ (eflat_get _ k (e, u) 2 _ hp? rfl)).1
          have c3 := (own_cell4 hE.o (k * 4 + 3) _ (eflat_get _ k (e, u) 3 _ hp? rfl)).1
          obtain ⟨ek, ecc, eo, eb⟩ := e
          simp only at c0 c1 c2 c3 hkind
          have hi' : wr.ownsRow base 5 1 u eb.length (nums .u8 eb) := hE.i (⟨ek, ecc, eo, eb⟩, u) (hp ▸ List.getElem_mem hlt)
          obtain ⟨Au, ku, rfl, hur⟩ := own_reads hi'
          have hcap : eb.length ≤ ku := own_cap hi'
          have hb2 := below_alloc (Below.refl wr.heap.size wr) (.cells #[.int .i64 ek, .int .u8 ecc, .int .u8 eo, .slice Au eb.length ku] 43)
          have hx2 := blk_new wr (.cells #[.int .i64 ek, .int .u8 ecc, .int .u8 eo, .slice Au eb.length ku] 43)
          have hs2 : wr.heap.size < (wr.alloc (.cells #[.int .i64 ek, .int .u8 ecc, .int .u8 eo, .slice Au eb.length ku] 43)).heap.size := by rw [World.size_alloc]; exact Nat.lt_succ_self _
          have hgne : wr.heap.size ≠ g + 1 := Ne.symm (Nat.ne_of_lt (blk_lt HJ.out.m.p))
          have hrne : some wr.heap.size ≠ v.ownBlock := fun e => Nat.lt_irrefl _ (own_lt HJ.out.m.o _ e.symm)
          have HJ2 := Lib.hid (HJ.out.alloc hb2)
          have HUR := Lib.hid (And.intro (hur.below hb2) hcap)
          have HTK := Lib.hid htk
          have HX := Lib.hid hx2
          have HNE := Lib.hid (And.intro hs2 (And.intro hgne hrne))
          have HLT := Lib.hid hlt
          have hnl : es.length ≤ 14000 := HFO.out.k.l
          clear hE hi' hp hp? htk hur hcap hb2 hx2 hs2 hgne hrne
          rcases hkind with ⟨rfl, _⟩ | ⟨rfl | rfl, rfl⟩
          · have HC2 := Lib.hid (HJ2.out.data HFO.out.l HUR.out.1 HUR.out.2 HTK.out)
            go_wp2_with (go_at_call 10; (with_reducible refine HC2.out.mono ?_); rintro e w3 ⟨rfl, ⟨v'', hj⟩, hkp⟩; have HJ3 := Lib.hid hj; have hx3 := (hkp.block _ HNE.out.1 HNE.out.2.1 HNE.out.2.2).trans HX.out; have x0 := (blk_cell hx3 0).trans rfl; clear hj hkp hx3)
            go_roundw
            case rel => exact ⟨i, k + 1, v'', _, hi, HLT.out, rfl, by go_num, HJ3⟩
            case measure => (have := HLT.out; simp [intOf]; omega)
          · obtain ⟨hi2, hv2, hcv⟩ := HJ2.out.fin (u := .slice Au 0 ku) ⟨_, _, _, rfl⟩ HTK.out
            obtain ⟨ad, _, _, rfl, _⟩ := A.ops_at HC.out i hi2
            obtain ⟨⟨⟨h0, h1, h2, h3⟩, b, vv, o⟩, hpk⟩ : ∃ p, parts[i] = p := ⟨_, rfl⟩
            have hok := HP.out _ (List.getElem_mem hi2)
            have hbl := HFO.out.l _ (List.getElem_mem hi2)
            have HPK := Lib.hid hpk
            rw [hpk] at hok hv2 hbl hcv
            simp only at hok hv2 hbl hcv
            subst hv2
            obtain ⟨q9, hq9⟩ : ∃ q9, h0.tmod 9 = q9 := ⟨_, rfl⟩
            have hq9' : q9 = h0 % 9 := by rw [← hq9]; exact Int.tmod_eq_emod_of_nonneg hok.1
            have hpf := parse_f ⟨h0, h1, h2, h3⟩ b hbl hok.1 hok.2.2.1 hok.2.2.2.1
            simp only at hpf
            rw [← hq9'] at hpf
            obtain ⟨pl, hpl⟩ : ∃ pl, hdr ⟨h0, h1, h2, h3⟩ ++ b = pl := ⟨_, rfl⟩
            rw [hpl] at hpf hcv
            have HCV := Lib.hid hcv
            have HPF := Lib.hid hpf
            clear hcv hpk hpf hpl hq9' hok
            go_upto_region 28 with (go_at_call 10; ((refine HCV.out.mono ?_); rintro e w3 ⟨A9, k9, hk9, rfl, hC9, hj, hkp⟩; have HJ3 := Lib.hid hj; have hx3 := (hkp.block _ HNE.out.1 HNE.out.2.1 (by simp)).trans HX.out; have x0 := (blk_cell hx3 0).trans rfl; have HC9 := Lib.hid (And.intro hk9 hC9); obtain ⟨ad2, Ab, cb, e2, hcl⟩ := A.ops_at (Kd.C_below HC.out (HFO.out.w _ hj.f)) i hi2; obtain rfl : ad = ad2 := (by simpa using e2); rw [HPK.out] at hcl; obtain ⟨d0, d1, d2, d3, d4, d5, d6, hbl2, hbr⟩ := hcl; have HBR := Lib.hid (And.intro hbl2 hbr); simp only at d0 d1 d2 d3 d4 d5 d6; clear hj hkp hx3 e2 hbl2 hbr hk9 hC9))
            have hb4 := below_alloc (Below.refl w3.heap.size w3) (.cells #[.int .u8 h0, .int .u8 h1, .int .u8 h2, .int .u16 h3, .slice Ab b.length cb, .int .u8 0, .int .u8 o] 30)
            have hy4 := blk_new w3 (.cells #[.int .u8 h0, .int .u8 h1, .int .u8 h2, .int .u16 h3, .slice Ab b.length cb, .int .u8 0, .int .u8 o] 30)
            have hs4 : (w3.alloc (.cells #[.int .u8 h0, .int .u8 h1, .int .u8 h2, .int .u16 h3, .slice Ab b.length cb, .int .u8 0, .int .u8 o] 30)).heap.size = w3.heap.size + 1 := World.size_alloc _ _
            have y5 := (blk_cell hy4 5).trans rfl
            have HB4 := Lib.hid hb4
            have HY4 := Lib.hid hy4
            have HS4 := Lib.hid hs4
            clear x0 d0 d1 d2 d3 d4 d5 d6 hb4 hy4 hs4
            generalize w3.alloc (.cells #[.int .u8 h0, .int .u8 h1, .int .u8 h2, .int .u16 h3, .slice Ab b.length cb, .int .u8 0, .int .u8 o] 30) = W4 at *
            have HPC := Lib.hid (B.header_Parse.calls A9 k9 pl q9 h1 h2 h3 b 0 W4 (Kd.C_below HC9.out.2 HB4.out) HC9.out.1 HPF.out)
            go_upto_region 32 with (go_at_call 11; (refine HPC.out.mono ?_); rintro e w5 ⟨v4, rfl, hr5, hb5⟩; have HR5 := Lib.hid hr5; have HB5 := Lib.hid hb5; obtain ⟨A4, c4, rfl, _, _⟩ := Kd.R_reads hr5; clear hr5 hb5)
            have hb6 := below_alloc (Below.refl w5.heap.size w5) (.cells #[.int .u8 q9, .int .u8 h1, .int .u8 h2, .int .u16 h3] 28)
            have hz6 := blk_new w5 (.cells #[.int .u8 q9, .int .u8 h1, .int .u8 h2, .int .u16 h3] 28)
            have hy6 := blk_below (blk_below HY4.out HB5.out) hb6
            have hr6 := Kd.R_below HR5.out hb6
            have hb36 := below_then HB4.out HB4.out.size (below_then HB5.out HB5.out.size hb6)
            have y0 := (blk_cell hy6 0).trans rfl
            have f0 := blk_frozen hy6 0
            have HY6 := Lib.hid hy6
            have HZ6 := Lib.hid hz6
            have HR6 := Lib.hid hr6
            have HB36 := Lib.hid hb36
            have HNE6 : Hid (w5.heap.size ≠ w3.heap.size) := Lib.hid (fun e => by have := HB5.out.size; have := HS4.out; omega)
            clear hb6 hz6 hy6 hr6 hb36 y5
            generalize w5.alloc (.cells #[.int .u8 q9, .int .u8 h1, .int .u8 h2, .int .u16 h3] 28) = W6 at *
            go_upto_region 33 with fail
            have hy7 := blk_put HY6.out 0 (.int .u8 q9) rfl
            have hz7 := blk_far HZ6.out (p := ⟨w3.heap.size, 0, none⟩) HNE6.out (.int .u8 q9)
            have hr7 := Kd.R_set HR6.out HY6.out (by intro q hq; simp [Kd.int, Kd.scalar] at hq; subst hq; decide) 0 (.int .u8 q9)
            have hb37 := HB36.out.setCell (p := ⟨w3.heap.size, 0, none⟩) (Nat.le_refl _) (.int .u8 q9)
            have hcb := Kd.C_below HBR.out.2 hb37
            obtain ⟨_, hc4, hC4⟩ := Kd.R_reads' hr7
            have HSM := Lib.hid (A.greenscreenref01_Same.calls 1001 A4 c4 b Ab cb b true _ hC4 hc4 hcb HBR.out.1 (same_f b (by omega)))
            have HJ7 := Lib.hid (HJ3.out.alloc hb37)
            generalize W6.setCell ⟨w3.heap.size, 0, none⟩ (.int .u8 q9) = W7 at *
            have z0 := (blk_cell hz7 0).trans rfl
            have z1 := (blk_cell hz7 1).trans rfl
            have z2 := (blk_cell hz7 2).trans rfl
            have z3 := (blk_cell hz7 3).trans rfl
            have y0 := (blk_cell hy7 0).trans rfl
            have y1 := (blk_cell hy7 1).trans rfl
            have y2 := (blk_cell hy7 2).trans rfl
            have y3 := (blk_cell hy7 3).trans rfl
            have y4 := (blk_cell hy7 4).trans rfl
            have heq := fun W d => eq28 q9 h1 h2 h3 W d
            clear hy7 hz7 hr7 hb37 hcb hc4 hC4
            go_wp2_with (go_at_call 12; (refine HSM.out.mono ?_); rintro e w8 ⟨rfl, hd8⟩; have HJ8 := Lib.hid (HJ7.out.alloc hd8.below); clear hd8)
            go_roundw
            case rel => exact ⟨i + 1, k + 1, .slice none 0 0, [], hi2, HLT.out, by go_num, by go_num, HJ8⟩
            case measure => (have := HLT.out; simp [intOf]; omega)
          · obtain ⟨hi2, hv2, hcc, hoo, hcv⟩ := HJ2.out.verb (u := .slice Au 0 ku) ⟨_, _, _, rfl⟩ HTK.out
            obtain ⟨ad, _, _, rfl, _⟩ := A.ops_at HC.out i hi2
            obtain ⟨⟨⟨h0, h1, h2, h3⟩, b, vv, o⟩, hpk⟩ : ∃ p, parts[i] = p := ⟨_, rfl⟩
            have hok := HP.out _ (List.getElem_mem hi2)
            have HPK := Lib.hid hpk
            rw [hpk] at hok hv2 hcc hoo
            simp only at hok hv2 hcc hoo
            subst hcc
            subst hoo
            have hvb : (vv != 0) = true := bne_iff_ne.2 hv2
            obtain ⟨q, hq⟩ : ∃ q, (251 + bits .and .u8 vv 3) % 256 = q := ⟨_, rfl⟩
            have hq' : q = vb vv := by rw [← hq, and3 vv hok.2.2.2.2.1 hok.2.2.2.2.2]; unfold vb; omega
            subst hq'
            have HCV := Lib.hid hcv
            clear hcv hpk
            go_upto_region 28 with (go_at_call 10; ((refine HCV.out.mono ?_); rintro e w3 ⟨rfl, hj, hkp⟩; have HJ3 := Lib.hid hj; have hx3 := (hkp.block _ HNE.out.1 HNE.out.2.1 (by simp)).trans HX.out; have x0 := (blk_cell hx3 0).trans rfl; have HX3 := Lib.hid hx3; obtain ⟨ad2, Ab, cb, e2, hcl⟩ := A.ops_at (Kd.C_below HC.out (HFO.out.w _ hj.f)) i hi2; obtain rfl : ad = ad2 := (by simpa using e2); rw [HPK.out] at hcl; obtain ⟨d0, d1, d2, d3, d4, d5, d6, hbl, hbr⟩ := hcl; simp only at d0 d1 d2 d3 d4 d5 d6; clear hj hkp hx3 e2 hbl hbr))
            have hb4 := below_alloc (Below.refl w3.heap.size w3) (.cells #[.int .u8 h0, .int .u8 h1, .int .u8 h2, .int .u16 h3, .slice Ab b.length cb, .int .u8 vv, .int .u8 eo] 30)
            have hy4 := blk_new w3 (.cells #[.int .u8 h0, .int .u8 h1, .int .u8 h2, .int .u16 h3, .slice Ab b.length cb, .int .u8 vv, .int .u8 eo] 30)
            have hx4 := blk_below HX3.out hb4
            have HJ4 := Lib.hid (HJ3.out.alloc hb4)
            have z0 := (blk_cell hx4 0).trans rfl
            have z1 := (blk_cell hx4 1).trans rfl
            have z2 := (blk_cell hx4 2).trans rfl
            have y2 := (blk_cell hy4 5).trans rfl
            have y3 := (blk_cell hy4 6).trans rfl
            clear x0 d0 d1 d2 d3 d4 d5 d6 hb4 hy4 hx4
            generalize w3.alloc (.cells #[.int .u8 h0, .int .u8 h1, .int .u8 h2, .int .u16 h3, .slice Ab b.length cb, .int .u8 vv, .int .u8 eo] 30) = W4 at *
            go_wp2
            go_roundw
            case rel => exact ⟨i + 1, k + 1, v, [], hi2, HLT.out, by go_num, by go_num, HJ4⟩
            case measure => (have := HLT.out; simp [intOf]; omega)
        · obtain rfl : k = es.length := by omega
          have ht := HJ.out.t
          rw [List.drop_length] at ht
          obtain ⟨rfl, rfl⟩ := cut_end hi (by simpa [toks] using ht)
          have HL := Lib.hid (len_p HJ.out.m)
          go_wp2_with (first
            | (go_at_call 13; (refine HL.out.mono ?_); rintro e w4 ⟨rfl, hb⟩; have HJ4 := Lib.hid (HJ.out.alloc hb); have HD := Lib.hid (HFO.out.d _ HJ4.out.f); clear hb)
            | (go_at_call 14; (refine (open_p HD.out).mono ?_); rintro e w5 ⟨rfl, hb⟩; have HJ5 := Lib.hid (HJ4.out.alloc hb); clear hb))
          go_ret
          exact ⟨rfl, HFO.out.w _ HJ5.out.f⟩
end
end Go.Proofs.Ytgjicigagfhgmaa.H
