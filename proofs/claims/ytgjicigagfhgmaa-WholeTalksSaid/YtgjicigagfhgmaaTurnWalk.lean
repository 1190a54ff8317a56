/- WholeTalks: a turn, the walk. -/
import Derived.Test.YtgjicigagfhgmaaTurn
namespace Go.Proofs.Ytgjicigagfhgmaa.H
open Go.RowKit Go.Proofs.YtgjicigagfhgmaaW.PrintWords Go.Proofs.YtgjicigagfhgmaaW.PrintLast
set_option linter.unusedVariables false
set_option linter.unusedSimpArgs false
theorem St.grown {W W' : World} {gt gT gH gd ge : Nat} {nm : ByteArray} {T H : Ops} {cd ce : Int} (h : St W gt gT gH gd ge nm T H cd ce) {B n size : Nat} {v : Value} {xs : List Value} (ho : W.ownsRow B 5 size v n xs) (hg : W.grownBy W' v.ownBlock) : St W' gt gT gH gd ge nm T H cd ce := by
  have hf : Fr (fun k => v.ownBlock = some k) W W' := ⟨hg.os, hg.tape, hg.output, hg.size, fun k hk hn => hg.block k hk (fun e => hn e.symm)⟩
  obtain ⟨c1, h1, _⟩ := h.t.o.b
  obtain ⟨c2, h2, _⟩ := h.h.b
  exact h.fr hf (fun e => own_blk_ne ho h.t.p (by decide) _ e rfl) (fun e => own_blk_ne ho h1 (by decide) _ e rfl) (fun e => own_blk_ne ho h2 (by decide) _ e rfl) (fun e => own_blk_ne ho h.d (by decide) _ e rfl) (fun e => own_blk_ne ho h.e (by decide) _ e rfl)
/-- What was said so far. -/
structure Acc (wf wr : World) (R0 g B : Nat) (v : Value) (bs : List (Int × Int)) : Prop where
  fr : Fr (fun k => k = g ∨ k = R0) wf wr
  o : wr.ownsRow B 5 1 v (mb bs).length (nums .u8 (mb bs))
  own : ∀ k, v.ownBlock = some k → k = R0 ∨ wf.heap.size ≤ k
theorem Os.not5 {W : World} {g B n size : Nat} {P : Ops} {v : Value} {xs : List Value} (h : Os W g P) (ho : W.ownsRow B 5 size v n xs) : ∀ k, v.ownBlock = some k → k ≠ g := by
  obtain ⟨c1, h1, _⟩ := h.b
  exact own_blk_ne ho h1 (by decide)
/-- The row behind a callee's call. -/
theorem Acc.three {wf wr W2 w3 : World} {R0 g B : Nat} {v : Value} {bs : List (Int × Int)} {P : Ops} (h : Acc wf wr R0 g B v bs) (hP : Os wr g P) (hb : Below wr.heap.size wr W2) (hf : Fd W2 w3 g W2.heap.size) : w3.ownsRow B 5 1 v (mb bs).length (nums .u8 (mb bs)) := (Fr.of_fd hf).own (pw_own_below h.o hb) (fun k hk => (hP.below hb).not5 (pw_own_below h.o hb) k hk)
theorem Acc.step {wf wr W2 w3 w4 : World} {R0 g B : Nat} {v v4 : Value} {bs ns : List (Int × Int)} (h : Acc wf wr R0 g B v bs) (hb : Below wr.heap.size wr W2) (hf : Fd W2 w3 g W2.heap.size) (ho : w4.ownsRow B 5 1 v4 (mb bs ++ mb ns).length (nums .u8 (mb bs ++ mb ns))) (hg : w3.grownBy w4 v.ownBlock) (hat : v4.ownBlock = v.ownBlock ∨ ∃ b, v4.ownBlock = some b ∧ w3.heap.size ≤ b) : Acc wf w4 R0 g B v4 (bs ++ ns) := by
  have h3 : Fr (fun k => k = g ∨ k = R0) wf w3 := (h.fr.then_below hb).trans (Fr.of_fd hf) (fun k _ e => .inl e)
  refine ⟨⟨hg.os.trans h3.os, hg.tape.trans h3.tape, hg.output.trans h3.output, Nat.le_trans h3.size hg.size, fun k hk hn => ?_⟩, by rw [mb_append]; exact ho, fun k hk => ?_⟩
  · refine (hg.block k (Nat.lt_of_lt_of_le hk h3.size) (fun e => ?_)).trans (h3.block k hk hn)
    rcases h.own k e.symm with e | e
    · exact hn (.inr e)
    · omega
  · rcases hat with e | ⟨b, e, hle⟩
    · exact h.own k (e ▸ hk)
    · rw [e] at hk
      injection hk with hk
      subst hk
      exact .inr (Nat.le_trans h3.size hle)
/-- Events stay. -/
theorem Vbs.acc {wf wr : World} {R0 g B B2 : Nat} {v u : Value} {bs ms : List (Int × Int)} {es : List (Ev × Value)} {P : Ops} (h : Vbs wf B2 u ms es) (ha : Acc wf wr R0 g B v bs) (hP : Os wf g P) (hR : R0 < B2) : Vbs wr B2 u ms es := ⟨ha.fr.evs h.e (fun k cs t hk ht hc => by
  rintro (rfl | rfl)
  · obtain ⟨c1, h1, _⟩ := hP.b
    have := h1.symm.trans hc
    injection this with this
    injection this with _ e
    rcases ht with rfl | rfl <;> cases e
  · omega), h.m⟩
theorem Acc.start {w wf : World} {g g2 B : Nat} (hB : B ≤ w.heap.size) (h : Fr (fun k => k = g2) (w.alloc (.cells #[] 5)) wf) (hg : g2 ≠ w.heap.size) : Acc wf wf w.heap.size g B (.slice (some ⟨w.heap.size, 0, none⟩) 0 0) [] := by
  have ho : (w.alloc (.cells #[] 5)).ownsRow B 5 1 (.slice (some ⟨w.heap.size, 0, none⟩) 0 0) 0 (nums .u8 []) := by
    have := World.ownsRow_lit (base := B) (e := 5) (size := 1) w #[] 0 hB (by decide) (by decide)
    simpa [nums] using this
  refine ⟨Fr.refl _ _, h.own ho (fun k hk => ?_), fun k hk => .inl ?_⟩
  · have : w.heap.size = k := by simpa [Value.ownBlock] using hk
    omega
  · have : w.heap.size = k := by simpa [Value.ownBlock] using hk
    exact this.symm
/-- Where the first loop stands. -/
structure T1 (wf wr : World) (R0 B gt gT gH gd ge : Nat) (nm : ByteArray) (T H : Ops) (cd ce : Int) (ms : List (Int × Int)) (k : Nat) (v : Value) : Prop where
  a : Acc wf wr R0 gT B v (gots T (ms.take k)).2
  s : St wr gt gT gH gd ge nm (gots T (ms.take k)).1 H cd ce
/-- Where the second loop stands. -/
structure T2 (wf wr : World) (R0 B gt gT gH gd ge : Nat) (nm : ByteArray) (T H : Ops) (cd ce : Int) (ms : List (Int × Int)) (k : Nat) (v : Value) : Prop where
  a : Acc wf wr R0 gH B v (gots H (ms.take k)).2
  s : St wr gt gT gH gd ge nm T (gots H (ms.take k)).1 cd ce
section
variable {wf wr W2 w3 w4 : World} {R0 B gt gT gH gd ge : Nat} {nm : ByteArray} {T H : Ops} {cd ce : Int} {ms : List (Int × Int)} {k : Nat} {v v4 : Value}
theorem T1.step (h : T1 wf wr R0 B gt gT gH gd ge nm T H cd ce ms k v) (hk : k < ms.length) {c x : Int} (hp : ms[k] = (c, x)) (hb : Below wr.heap.size wr W2) (hf : Fd W2 w3 gT W2.heap.size) (ht : Tk w3 gt gT (got (gots T (ms.take k)).1 c x) nm) (ho : w4.ownsRow B 5 1 v4 (mb (gots T (ms.take k)).2 ++ mb (gotM (gots T (ms.take k)).1 c x)).length (nums .u8 (mb (gots T (ms.take k)).2 ++ mb (gotM (gots T (ms.take k)).1 c x)))) (hg : w3.grownBy w4 v.ownBlock) (hat : v4.ownBlock = v.ownBlock ∨ ∃ b, v4.ownBlock = some b ∧ w3.heap.size ≤ b) : T1 wf w4 R0 B gt gT gH gd ge nm T H cd ce ms (k + 1) v4 := by
  have e := gots_take T ms k hk
  rw [hp] at e
  refine ⟨?_, ?_⟩
  · rw [e]
    exact h.a.step hb hf ho hg hat
  · rw [e]
    exact ((h.s.below hb).setT ht (Fr.of_fd hf)).grown (h.a.three h.s.t.o hb hf) hg
theorem T2.step (h : T2 wf wr R0 B gt gT gH gd ge nm T H cd ce ms k v) (hk : k < ms.length) {c x : Int} (hp : ms[k] = (c, x)) (hb : Below wr.heap.size wr W2) (hf : Fd W2 w3 gH W2.heap.size) (ht : Os w3 gH (got (gots H (ms.take k)).1 c x)) (ho : w4.ownsRow B 5 1 v4 (mb (gots H (ms.take k)).2 ++ mb (gotM (gots H (ms.take k)).1 c x)).length (nums .u8 (mb (gots H (ms.take k)).2 ++ mb (gotM (gots H (ms.take k)).1 c x)))) (hg : w3.grownBy w4 v.ownBlock) (hat : v4.ownBlock = v.ownBlock ∨ ∃ b, v4.ownBlock = some b ∧ w3.heap.size ≤ b) : T2 wf w4 R0 B gt gT gH gd ge nm T H cd ce ms (k + 1) v4 := by
  have e := gots_take H ms k hk
  rw [hp] at e
  refine ⟨?_, ?_⟩
  · rw [e]
    exact h.a.step hb hf ho hg hat
  · rw [e]
    exact ((h.s.below hb).setH ht (Fr.of_fd hf)).grown (h.a.three h.s.h hb hf) hg
theorem T1.len (h : T1 wf wr R0 B gt gT gH gd ge nm T H cd ce ms k v) (hl : ms.length ≤ 100) : (mb (gots T (ms.take k)).2).length ≤ 300 := by
  have := gots_len (ms.take k) T
  rw [List.length_take] at this
  rw [mb_len]
  omega
theorem T2.len (h : T2 wf wr R0 B gt gT gH gd ge nm T H cd ce ms k v) (hl : ms.length ≤ 100) : (mb (gots H (ms.take k)).2).length ≤ 300 := by
  have := gots_len (ms.take k) H
  rw [List.length_take] at this
  rw [mb_len]
  omega
theorem gotM_mb (P : Ops) (c x : Int) : (mb (gotM P c x)).length ≤ 3 := by
  have := gotM_len P c x
  rw [mb_len]
  omega
end
section
variable {w : World} {gt gT gH gd ge B : Nat} {nm : ByteArray} {T H : Ops} {cd ce : Int} {ms : List (Int × Int)} {v5 : Value}
def S4 (gT gH gd ge k : Nat) : Prop := k = gT ∨ k = gH ∨ k = gd ∨ k = ge
set_option maxHeartbeats 4000000 in
set_option maxRecDepth 100000 in
theorem turn_p (h : St w gt gT gH gd ge nm T H cd ce) (ho : w.ownsRow B 5 1 v5 (mb ms).length (nums .u8 (mb ms))) (hl : ms.length ≤ 100) (hm : ∀ m ∈ ms, okm m) (hm2 : ∀ m ∈ turnS T ms, okm m) : Calls Try.prog 18 #[.pointer (some ⟨gt, 0, none⟩), .pointer (some ⟨gH, 0, none⟩), .pointer (some ⟨gd, 0, none⟩), .pointer (some ⟨ge, 0, none⟩), v5] w fun e' w' => ∃ v cd' ce', e' = .returned v ∧ St w' gt gT gH gd ge nm (turnT T ms) (turnT H (turnS T ms)) cd' ce' ∧ w'.ownsRow w.heap.size 5 1 v (mb (turnS H (turnS T ms))).length (nums .u8 (mb (turnS H (turnS T ms)))) ∧ Fr (S4 gT gH gd ge) w w' := by
  have hu25 := Try.underlying25
  have hu35 := Try.underlying35
  have hu43 := Try.underlying43
  have hb1 := below_alloc (Below.refl w.heap.size w) (.cells #[] 5)
  have H1 := Lib.hid (h.below hb1)
  have HFE := Lib.hid (feed_v (h.below hb1).d (pw_own_below ho hb1) hl hm)
  have HM := Lib.hid (And.intro hm hm2)
  have HL := Lib.hid hl
  have HGT := Lib.hid (show gT ≠ w.heap.size ∧ gd ≠ w.heap.size ∧ gH ≠ w.heap.size from ⟨Nat.ne_of_lt h.t.o.lt, Nat.ne_of_lt (blk_lt h.d), Nat.ne_of_lt h.h.lt⟩)
  have HB1 := Lib.hid hb1
  have HS1 : Hid ((w.alloc (.cells #[] 5)).heap.size = w.heap.size + 1) := Lib.hid (World.size_alloc _ _)
  obtain ⟨A5, c5, rfl, _⟩ := own_reads ho
  clear h ho hl hm hm2 hb1
  go_enter Try.func18, Try.ntmps18
  go_wp2_with (go_at_call 25; (with_reducible refine HFE.out.mono ?_); rintro e wf ⟨vE, es, cd1, rfl, ⟨AE, kE, rfl⟩, hd, hv, hel, hf⟩; have HD := Lib.hid hd; have HV := Lib.hid hv; have HEL := Lib.hid hel; have HF := Lib.hid hf; clear hd hv hel hf)
  have HSt := Lib.hid (H1.out.setd HD.out HF.out)
  have HT0 : Hid (T1 wf wf w.heap.size w.heap.size gt gT gH gd ge nm T H cd1 ce ms 0 (.slice (some ⟨w.heap.size, 0, none⟩) 0 0)) := Lib.hid ⟨Acc.start (Nat.le_refl _) HF.out HGT.out.2.1, HSt.out⟩
  have HLE : Hid (w.heap.size ≤ wf.heap.size) := Lib.hid (by have := HF.out.size; rw [HS1.out] at this; omega)
  clear HFE
  go_loopw [11, 22] (fun v11 v22 wr => ∃ k : Nat, k ≤ ms.length ∧ v22 = .int .i64 k ∧ Hid (T1 wf wr w.heap.size w.heap.size gt gT gH gd ge nm T H cd1 ce ms k v11)) (fun _ v22 _ => ms.length - (intOf v22).toNat)
  case atStart => exact ⟨0, Nat.zero_le _, rfl, HT0⟩
  case round =>
    obtain ⟨k, hk, rfl, HI⟩ := hrel
    clear HT0
    have hll : (ms.length : Int) ≤ 100 := by have := HL.out; omega
    obtain ⟨A11, k11, e11⟩ := own_slice HI.out.a.o
    subst e11
    by_cases hlt : k < ms.length
    · obtain ⟨R, cap, Au, cu, hv, c0, c1, c2, c3⟩ := (HV.out.acc HI.out.a HSt.out.t.o (by rw [HS1.out]; exact Nat.lt_succ_self _)).cells k hlt
      obtain ⟨rfl, rfl⟩ : AE = some ⟨R, 0, none⟩ ∧ kE = cap := by simpa using hv
      obtain ⟨⟨c, x⟩, hp⟩ : ∃ p, ms[k] = p := ⟨_, rfl⟩
      have hok := HM.out.1 ms[k] (List.getElem_mem hlt)
      rw [hp] at c1 c2 hok
      have HP := Lib.hid hp
      obtain ⟨_, _, hx0, hx1⟩ := hok
      simp only at c1 c2 hx0 hx1
      have hb2 := below_alloc (Below.refl wr.heap.size wr) (.cells #[.int .i64 4, .int .u8 c, .int .u8 x, .slice Au 0 cu] 43)
      have HTK := Lib.hid (talk_p (HI.out.s.below hb2).t c x (.slice Au 0 cu) ⟨_, _, _, rfl⟩ hx0 hx1)
      have HB2 := Lib.hid hb2
      have HLT := Lib.hid hlt
      clear hb2 hp hv hx0 hx1
      go_wp2_with (first
        | (go_at_call 23; (with_reducible refine HTK.out.mono ?_); rintro e w3 ⟨v3, rfl, hs3, ht3, hf3⟩; obtain ⟨A3, c3', rfl, hc3, hC3⟩ := Kd.R_reads hs3; have HT3 := Lib.hid ht3; have HF3 := Lib.hid hf3; have HC3 := Lib.hid (Kd.reads_of_C (enc := Value.int .u8) (d := (0 : Int)) (h1 := fun _ => rfl) hC3); rw [gotM_b] at HC3; clear hs3 ht3 hf3 hc3 hC3)
        | (at_builtin; rw [gotM_b]; refine print_append_row (w0 := w3) w.heap.size rfl (.tmp 26) (.tmp 29) 25 5 .u8 1 rfl Try.underlying25 info5 (by decide) (.slice A11 (mb (gots T (ms.take k)).2).length k11) (mb (gots T (ms.take k)).2) (mb (gotM (gots T (ms.take k)).1 c x)) A3 (mb (gotM (gots T (ms.take k)).1 c x)).length c3' rfl rfl (HI.out.a.three HI.out.s.t.o HB2.out HF3.out) (readsInt_of.2 HC3.out) (Below.refl _ _) (Nat.le_trans (Nat.le_trans HLE.out HI.out.a.fr.size) (Nat.le_trans HB2.out.size HF3.out.size)) (by have := HI.out.len HL.out; have := gotM_mb (gots T (ms.take k)).1 c x; omega) ?_; intro v4 w4 ho4 hb4 hg4 hat4; have HN := Lib.hid (HI.out.step HLT.out HP.out HB2.out HF3.out HT3.out ho4 hg4 hat4); clear ho4 hb4 hg4 hat4))
      go_roundw
      case rel => exact ⟨k + 1, by omega, by go_num, HN⟩
      case measure => (have := HLT.out; simp [intOf]; omega)
    · obtain rfl : k = ms.length := by omega
      obtain ⟨wq, hwq⟩ : ∃ wq, wq = wr := ⟨_, rfl⟩
      subst hwq
      rw [List.take_length] at HI ⊢
      have ha0 := HI.out.a
      have hs0 := HI.out.s
      rw [List.take_length] at ha0 hs0
      have eS : (gots T ms).2 = turnS T ms := rfl
      have eT : (gots T ms).1 = turnT T ms := rfl
      rw [eS] at ha0 ⊢
      rw [eT] at hs0
      have HA0 := Lib.hid ha0
      have HS0 := Lib.hid hs0
      have hsl : (turnS T ms).length ≤ 100 := by have := gots_len ms T; rw [eS] at this; have := HL.out; omega
      have HSL := Lib.hid hsl
      have hbb := below_alloc (Below.refl wq.heap.size wq) (.cells #[] 5)
      have HB7 := Lib.hid hbb
      have hs7 : (wq.alloc (.cells #[] 5)).heap.size = wq.heap.size + 1 := World.size_alloc _ _
      have HS7 := Lib.hid hs7
      have HFE2 := Lib.hid (feed_v (HS0.out.below hbb).e (pw_own_below HA0.out.o hbb) hsl HM.out.2)
      have HGE := Lib.hid (show ge ≠ wq.heap.size from Nat.ne_of_lt (blk_lt HS0.out.e))
      have HLE2 := Lib.hid (Nat.le_trans HLE.out HA0.out.fr.size)
      clear ha0 hs0 eS eT hsl hbb hs7 HI
      go_wp2_with (go_at_call 25; (with_reducible refine HFE2.out.mono ?_); rintro e wg ⟨vG, gs, cd2, rfl, ⟨AG, kG, rfl⟩, hd, hv, hel, hf⟩; have HD2 := Lib.hid hd; have HV2 := Lib.hid hv; have HF2 := Lib.hid hf; clear hd hv hel hf)
      have HSg := Lib.hid ((HS0.out.below HB7.out).sete HD2.out HF2.out)
      have HU0 : Hid (T2 wg wg wq.heap.size w.heap.size gt gT gH gd ge nm (turnT T ms) H cd1 cd2 (turnS T ms) 0 (.slice (some ⟨wq.heap.size, 0, none⟩) 0 0)) := Lib.hid ⟨Acc.start HLE2.out HF2.out HGE.out, HSg.out⟩
      clear HFE2
      have HLE3 : Hid (w.heap.size ≤ wg.heap.size) := Lib.hid (by have := HF2.out.size; rw [HS7.out] at this; have := HLE2.out; omega)
      go_loopw [14, 37] (fun v14 v37 wx => ∃ k : Nat, k ≤ (turnS T ms).length ∧ v37 = .int .i64 k ∧ Hid (T2 wg wx wq.heap.size w.heap.size gt gT gH gd ge nm (turnT T ms) H cd1 cd2 (turnS T ms) k v14)) (fun _ v37 _ => (turnS T ms).length - (intOf v37).toNat)
      case atStart => exact ⟨0, Nat.zero_le _, rfl, HU0⟩
      case round =>
        obtain ⟨k, hk, rfl, HI⟩ := hrel
        clear HU0
        have hsll : ((turnS T ms).length : Int) ≤ 100 := by have := HSL.out; omega
        obtain ⟨A14, k14, e14⟩ := own_slice HI.out.a.o
        subst e14
        by_cases hlt : k < (turnS T ms).length
        · obtain ⟨R, cap, Au, cu, hv, c0, c1, c2, c3⟩ := (HV2.out.acc HI.out.a HSg.out.h (by rw [HS7.out]; exact Nat.lt_succ_self _)).cells k hlt
          obtain ⟨rfl, rfl⟩ : AG = some ⟨R, 0, none⟩ ∧ kG = cap := by simpa using hv
          obtain ⟨⟨c, x⟩, hp⟩ : ∃ p, (turnS T ms)[k] = p := ⟨_, rfl⟩
          have hok := HM.out.2 (turnS T ms)[k] (List.getElem_mem hlt)
          rw [hp] at c1 c2 hok
          have HP := Lib.hid hp
          obtain ⟨_, _, hx0, hx1⟩ := hok
          simp only at c1 c2 hx0 hx1
          have hb2 := below_alloc (Below.refl wr.heap.size wr) (.cells #[.int .i64 4, .int .u8 c, .int .u8 x, .slice Au 0 cu] 43)
          have HTK := Lib.hid (got_p (HI.out.s.below hb2).h c x hx0 hx1)
          have HB2 := Lib.hid hb2
          have HLT := Lib.hid hlt
          clear hb2 hp hv hx0 hx1
          go_wp2_with (first
            | (go_at_call 33; (with_reducible refine HTK.out.mono ?_); rintro e w3 ⟨v3, rfl, hs3, ht3, hf3⟩; obtain ⟨A3, c3', rfl, hc3, hC3⟩ := Kd.R_reads hs3; have HT3 := Lib.hid ht3; have HF3 := Lib.hid hf3; have HC3 := Lib.hid (Kd.reads_of_C (enc := Value.int .u8) (d := (0 : Int)) (h1 := fun _ => rfl) hC3); rw [gotM_b] at HC3; clear hs3 ht3 hf3 hc3 hC3)
            | (at_builtin; rw [gotM_b]; refine print_append_row (w0 := w3) w.heap.size rfl (.tmp 44) (.tmp 50) 25 5 .u8 1 rfl Try.underlying25 info5 (by decide) (.slice A14 (mb (gots H ((turnS T ms).take k)).2).length k14) (mb (gots H ((turnS T ms).take k)).2) (mb (gotM (gots H ((turnS T ms).take k)).1 c x)) A3 (mb (gotM (gots H ((turnS T ms).take k)).1 c x)).length c3' rfl rfl (HI.out.a.three HI.out.s.h HB2.out HF3.out) (readsInt_of.2 HC3.out) (Below.refl _ _) (Nat.le_trans (Nat.le_trans HLE3.out HI.out.a.fr.size) (Nat.le_trans HB2.out.size HF3.out.size)) (by have := HI.out.len HSL.out; have := gotM_mb (gots H ((turnS T ms).take k)).1 c x; omega) ?_; intro v4 w4 ho4 hb4 hg4 hat4; have HN := Lib.hid (HI.out.step HLT.out HP.out HB2.out HF3.out HT3.out ho4 hg4 hat4); clear ho4 hb4 hg4 hat4))
          go_roundw
          case rel => exact ⟨k + 1, by omega, by go_num, HN⟩
          case measure => (have := HLT.out; simp [intOf]; omega)
        · obtain rfl : k = (turnS T ms).length := by omega
          have ha2 := HI.out.a
          have hs2 := HI.out.s
          rw [List.take_length] at ha2 hs2
          have eS : (gots H (turnS T ms)).2 = turnS H (turnS T ms) := rfl
          have eT : (gots H (turnS T ms)).1 = turnT H (turnS T ms) := rfl
          rw [eS] at ha2
          rw [eT] at hs2
          have HA2 := Lib.hid ha2
          have HS2 := Lib.hid hs2
          clear ha2 hs2 eS eT
          go_wp2
          go_ret
          rw [List.take_length]
          refine ⟨_, cd1, cd2, rfl, HS2.out, HA2.out.o, ?_⟩
          have f1 : Fr (S4 gT gH gd ge) w wf := (Fr.of_below (S := S4 gT gH gd ge) HB1.out).trans HF.out (fun k _ e => .inr (.inr (.inl e)))
          have f2 : Fr (S4 gT gH gd ge) w wq := f1.trans HA0.out.fr (fun k hk e => e.elim (fun e => .inl e) (fun e => absurd e (Nat.ne_of_lt hk)))
          have f3 : Fr (S4 gT gH gd ge) w wg := (f2.then_below HB7.out).trans HF2.out (fun k _ e => .inr (.inr (.inr e)))
          exact f3.trans HA2.out.fr (fun k hk e => e.elim (fun e => .inr (.inl e)) (fun e => absurd e (Nat.ne_of_lt (Nat.lt_of_lt_of_le hk (Nat.le_trans HLE.out HA0.out.fr.size)))))
end
end Go.Proofs.Ytgjicigagfhgmaa.H
