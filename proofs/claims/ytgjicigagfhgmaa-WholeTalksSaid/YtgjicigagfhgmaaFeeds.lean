/- What events say, byte by byte; Decoder.take where no subnegotiation is begun. -/
/- Decoder.command, Decoder.take where no subnegotiation is begun. -/
/- Decoder.Feed. -/
/- fed. -/
/- fed: the walk. -/
import Derived.Test.YtgjicigagfhgmaaDec
import Derived.Maps.AppendAt
namespace Go.Proofs.Ytgjicigagfhgmaa.H
open Go.RowKit Go.Proofs.YtgjicigagfhgmaaW.PrintWords Go.Proofs.YtgjicigagfhgmaaW.PrintLast
set_option linter.unusedVariables false
set_option linter.unusedSimpArgs false
inductive Tok where
  | d (c : Int)
  | v (code opt : Int)
  | e
def tokE (e : Ev) : List Tok := if e.k = 1 then e.b.map .d else if e.k = 2 then [.e] else [.v e.c e.o]
def toks (es : List (Ev × Value)) : List Tok := es.flatMap (fun p => tokE p.1)
theorem toks_append (es fs : List (Ev × Value)) : toks (es ++ fs) = toks es ++ toks fs := by simp [toks]
/-- Events as they come, of at most N bytes. -/
structure Okv (N : Nat) (es : List (Ev × Value)) : Prop where
  k : ∀ p ∈ es, (p.1.k = 1 ∧ p.1.b ≠ []) ∨ ((p.1.k = 2 ∨ p.1.k = 4) ∧ p.1.b = [])
  l : es.length ≤ N
  b : ∀ p ∈ es, p.1.b.length ≤ N
theorem Okv.nil (N : Nat) : Okv N [] := ⟨fun p h => by simp at h, Nat.zero_le _, fun p h => by simp at h⟩
theorem Okv.snoc {N : Nat} {es : List (Ev × Value)} (h : Okv N es) (e : Ev) (u : Value) (hk : (e.k = 1 ∧ e.b ≠ []) ∨ ((e.k = 2 ∨ e.k = 4) ∧ e.b = [])) (hb : e.b.length ≤ 1) : Okv (N + 1) (es ++ [(e, u)]) := by
  refine ⟨fun p hp => ?_, by rw [List.length_append]; have := h.l; simp; omega, fun p hp => ?_⟩
  · rcases List.mem_append.1 hp with hp | hp
    · exact h.k p hp
    · obtain rfl : p = (e, u) := by simpa using hp
      exact hk
  · rcases List.mem_append.1 hp with hp | hp
    · have := h.b p hp; omega
    · obtain rfl : p = (e, u) := by simpa using hp
      show e.b.length ≤ N + 1
      omega
section
variable {w : World} {g base N : Nat} {at_ code : Int} {x2 x3 x4 v : Value} {es : List (Ev × Value)}
theorem data_p (h : Dc w g base at_ code x2 x3 x4 v es) (hN : Okv N es) (hN2 : N ≤ 90000) (c : Int) : Calls Try.prog 55 #[.pointer (some ⟨g, 0, none⟩), .int .u8 c] w fun e' w' => ∃ v' es', e' = .returned (.tuple #[]) ∧ Dc w' g base 0 code x2 x3 x4 v' es' ∧ toks es' = toks es ++ [.d c] ∧ Okv (N + 1) es' ∧ Fd w w' g base := by
  rcases List.eq_nil_or_concat es with rfl | ⟨fs, ⟨e, u⟩, rfl⟩
  · refine (data_nil h c).mono ?_
    rintro e' w' ⟨v', u, rfl, hd, hf⟩
    exact ⟨v', _, rfl, hd, rfl, (Okv.nil N).snoc ⟨1, 0, 0, [c]⟩ u (.inl ⟨rfl, by simp⟩) (Nat.le_refl _), hf⟩
  · rw [List.concat_eq_append] at *
    have hl := hN.l
    rw [List.length_append] at hl
    have hb := hN.b (e, u) (by simp)
    by_cases hk : e.k = 1
    · refine (data_add h (by simp at hl; omega) (Nat.le_trans hb (by omega)) hk c).mono ?_
      rintro e' w' ⟨u', rfl, hd, hf⟩
      refine ⟨v, _, rfl, hd, ?_, ⟨fun p hp => ?_, by rw [List.length_append]; simp at hl ⊢; omega, fun p hp => ?_⟩, hf⟩
      · rw [toks_append, toks_append, List.append_assoc]
        congr 1
        simp [toks, tokE, hk]
      · rcases List.mem_append.1 hp with hp | hp
        · exact hN.k p (List.mem_append_left _ hp)
        · obtain rfl : p = ({ e with b := e.b ++ [c] }, u') := by simpa using hp
          exact .inl ⟨hk, by simp⟩
      · rcases List.mem_append.1 hp with hp | hp
        · have := hN.b p (List.mem_append_left _ hp); omega
        · obtain rfl : p = ({ e with b := e.b ++ [c] }, u') := by simpa using hp
          have hb : e.b.length ≤ N := hb
          simp
          omega
    · refine (data_new h (by simp at hl; omega) hk c).mono ?_
      rintro e' w' ⟨v', u', rfl, hd, hf⟩
      exact ⟨v', _, rfl, hd, by rw [toks_append]; simp [toks, tokE], hN.snoc ⟨1, 0, 0, [c]⟩ u' (.inl ⟨rfl, by simp⟩) (Nat.le_refl _), hf⟩
theorem emit_q (h : Dc w g base at_ code x2 x3 x4 v es) (hN : Okv N es) (hN2 : N ≤ 90000) (k c o : Int) (hk : k = 2 ∨ k = 4) : Calls Try.prog 49 #[.pointer (some ⟨g, 0, none⟩), .agg #[.int .i64 k, .int .u8 c, .int .u8 o, .slice none 0 0]] w fun e' w' => ∃ v' es', e' = .returned (.tuple #[]) ∧ Dc w' g base 0 code x2 x3 x4 v' es' ∧ toks es' = toks es ++ tokE ⟨k, c, o, []⟩ ∧ Okv (N + 1) es' ∧ Fd w w' g base := by
  refine (emit_p h (by have := hN.l; omega) k c o).mono ?_
  rintro e' w' ⟨v', rfl, hd, hf⟩
  exact ⟨v', _, rfl, hd, by rw [toks_append]; simp [toks], hN.snoc ⟨k, c, o, []⟩ _ (.inr ⟨hk, rfl⟩) (by simp), hf⟩
/-- A step of the decoder. -/
def dstep (s : Int × Int) (c : Int) : Option ((Int × Int) × List Tok) :=
  if s.1 = 0 then (if c = 255 then some ((1, s.2), []) else some ((0, s.2), [.d c]))
  else if s.1 = 1 then (if c = 255 then some ((0, s.2), [.d 255]) else if 251 ≤ c ∧ c ≤ 254 then some ((2, c), []) else if c = 239 then some ((0, s.2), [.e]) else none)
  else if s.1 = 2 then some ((0, s.2), [.v s.2 c]) else none
set_option maxHeartbeats 2000000 in
set_option maxRecDepth 100000 in
theorem outside_p (h : Dc w g base 0 code x2 x3 x4 v es) (hN : Okv N es) (hN2 : N ≤ 90000) (c : Int) {s' : Int × Int} {ts : List Tok} (hs : dstep (0, code) c = some (s', ts)) : Calls Try.prog 54 #[.pointer (some ⟨g, 0, none⟩), .int .u8 c] w fun e' w' => ∃ v' es', e' = .returned (.tuple #[]) ∧ Dc w' g base s'.1 s'.2 x2 x3 x4 v' es' ∧ toks es' = toks es ++ ts ∧ Okv (N + 1) es' ∧ Fd w w' g base := by
  have H := Lib.hid h
  have p0 := (blk_cell h.p 0).trans rfl
  have f0 := blk_frozen h.p 0
  by_cases hc : c = 255
  · subst hc
    obtain ⟨rfl, rfl⟩ : ((1, code) : Int × Int) = s' ∧ ([] : List Tok) = ts := by simpa [dstep] using hs
    have HN := Lib.hid hN
    clear h hN hs
    go_enter Try.func54, Try.ntmps54
    go_wp2
    first | go_end0 | refine bodyPost_ret (results_none rfl _ _ _) rfl ?_
    exact ⟨v, es, rfl, ⟨blk_set H.out.p 0 _, H.out.e.cell H.out.p (by decide) (by decide) 0 _, by simpa [World.setCell] using H.out.b⟩, by simp, ⟨HN.out.k, Nat.le_succ_of_le HN.out.l, fun p hp => Nat.le_succ_of_le (HN.out.b p hp)⟩, (Fd.refl w g base).set 0 _⟩
  · obtain ⟨rfl, rfl⟩ : ((0, code) : Int × Int) = s' ∧ [Tok.d c] = ts := by simpa [dstep, hc] using hs
    have hcb : (c == 255) = false := beq_eq_false_iff_ne.2 hc
    have HD := Lib.hid (data_p h hN hN2 c)
    clear h hN hs hc
    go_enter Try.func54, Try.ntmps54
    go_wp2_with (go_at_call 55; (with_reducible refine HD.out.mono ?_); rintro e w1 ⟨v', es', rfl, hd, ht, hk, hf⟩; have HR := Lib.hid (And.intro hd (And.intro ht (And.intro hk hf))); clear hd ht hk hf)
    first | go_end0 | refine bodyPost_ret (results_none rfl _ _ _) rfl ?_
    exact ⟨v', es', rfl, HR.out⟩
end
end Go.Proofs.Ytgjicigagfhgmaa.H

namespace Go.Proofs.Ytgjicigagfhgmaa.H
open Go.RowKit Go.Proofs.YtgjicigagfhgmaaW.PrintWords Go.Proofs.YtgjicigagfhgmaaW.PrintLast
set_option linter.unusedVariables false
set_option linter.unusedSimpArgs false
section
variable {w : World} {g base N : Nat} {at_ code : Int} {x2 x3 x4 v : Value} {es : List (Ev × Value)}
set_option maxHeartbeats 2000000 in
set_option maxRecDepth 100000 in
theorem command_p (h : Dc w g base 1 code x2 x3 x4 v es) (hN : Okv N es) (hN2 : N ≤ 90000) (c : Int) {s' : Int × Int} {ts : List Tok} (hs : dstep (1, code) c = some (s', ts)) : Calls Try.prog 48 #[.pointer (some ⟨g, 0, none⟩), .int .u8 c] w fun e' w' => ∃ v' es', e' = .returned (.tuple #[]) ∧ Dc w' g base s'.1 s'.2 x2 x3 x4 v' es' ∧ toks es' = toks es ++ ts ∧ Okv (N + 1) es' ∧ Fd w w' g base := by
  have H := Lib.hid h
  have p0 := (blk_cell h.p 0).trans rfl
  have f0 := blk_frozen h.p 0
  have p1 := (blk_cell h.p 1).trans rfl
  have f1 := blk_frozen h.p 1
  by_cases hc : c = 255
  · subst hc
    obtain ⟨rfl, rfl⟩ : ((0, code) : Int × Int) = s' ∧ [Tok.d 255] = ts := by simpa [dstep] using hs
    have HD := Lib.hid (data_p h hN hN2 255)
    clear h hN hs p0 f0 p1 f1
    go_enter Try.func48, Try.ntmps48
    go_wp2_with (go_at_call 55; (with_reducible refine HD.out.mono ?_); rintro e w1 ⟨v', es', rfl, hd, ht, hk, hf⟩; have HR := Lib.hid (And.intro hd (And.intro ht (And.intro hk hf))); clear hd ht hk hf)
    first | go_end0 | refine bodyPost_ret (results_none rfl _ _ _) rfl ?_
    exact ⟨v', es', rfl, HR.out⟩
  by_cases hv : 251 ≤ c ∧ c ≤ 254
  · obtain ⟨rfl, rfl⟩ : ((2, c) : Int × Int) = s' ∧ ([] : List Tok) = ts := by simpa [dstep, hc, hv] using hs
    have hcb : (c == 255) = false := beq_eq_false_iff_ne.2 hc
    have hcb2 : (c == 250) = false := beq_eq_false_iff_ne.2 (by omega)
    obtain ⟨hv1, hv2⟩ := hv
    have HN := Lib.hid hN
    clear h hN hs hc
    go_enter Try.func48, Try.ntmps48
    go_wp2
    first | go_end0 | refine bodyPost_ret (results_none rfl _ _ _) rfl ?_
    exact ⟨v, es, rfl, ⟨blk_set (blk_set H.out.p 0 _) 1 _, (H.out.e.cell H.out.p (by decide) (by decide) 0 _).cell (blk_set H.out.p 0 _) (by decide) (by decide) 1 _, by simpa [World.setCell] using H.out.b⟩, by simp, ⟨HN.out.k, Nat.le_succ_of_le HN.out.l, fun p hp => Nat.le_succ_of_le (HN.out.b p hp)⟩, ((Fd.refl w g base).set 0 _).set 1 _⟩
  by_cases he : c = 239
  · subst he
    obtain ⟨rfl, rfl⟩ : ((0, code) : Int × Int) = s' ∧ [Tok.e] = ts := by simpa [dstep] using hs
    have HD := Lib.hid (emit_q h hN hN2 2 0 0 (.inl rfl))
    clear h hN hs p0 f0 p1 f1
    go_enter Try.func48, Try.ntmps48
    go_wp2_with (go_at_call 49; (with_reducible refine HD.out.mono ?_); rintro e w1 ⟨v', es', rfl, hd, ht, hk, hf⟩; have HR := Lib.hid (And.intro hd (And.intro ht (And.intro hk hf))); clear hd ht hk hf)
    first | go_end0 | refine bodyPost_ret (results_none rfl _ _ _) rfl ?_
    exact ⟨v', es', rfl, HR.out⟩
  · simp [dstep, hc, hv, he] at hs
set_option maxHeartbeats 2000000 in
set_option maxRecDepth 100000 in
theorem take_p (h : Dc w g base at_ code x2 x3 x4 v es) (hN : Okv N es) (hN2 : N ≤ 90000) (c : Int) {s' : Int × Int} {ts : List Tok} (hs : dstep (at_, code) c = some (s', ts)) : Calls Try.prog 41 #[.pointer (some ⟨g, 0, none⟩), .int .u8 c] w fun e' w' => ∃ v' es', e' = .returned (.tuple #[]) ∧ Dc w' g base s'.1 s'.2 x2 x3 x4 v' es' ∧ toks es' = toks es ++ ts ∧ Okv (N + 1) es' ∧ Fd w w' g base := by
  have p0 := (blk_cell h.p 0).trans rfl
  have p1 := (blk_cell h.p 1).trans rfl
  by_cases h0 : at_ = 0
  · subst h0
    have HD := Lib.hid (outside_p h hN hN2 c hs)
    clear h hN hs
    go_enter Try.func41, Try.ntmps41
    go_wp2_with (go_at_call 54; (with_reducible refine HD.out.mono ?_); rintro e w1 ⟨v', es', rfl, hd, ht, hk, hf⟩; have HR := Lib.hid (And.intro hd (And.intro ht (And.intro hk hf))); clear hd ht hk hf)
    first | go_end0 | refine bodyPost_ret (results_none rfl _ _ _) rfl ?_
    exact ⟨v', es', rfl, HR.out⟩
  by_cases h1 : at_ = 1
  · subst h1
    have HD := Lib.hid (command_p h hN hN2 c hs)
    clear h hN hs
    go_enter Try.func41, Try.ntmps41
    go_wp2_with (go_at_call 48; (with_reducible refine HD.out.mono ?_); rintro e w1 ⟨v', es', rfl, hd, ht, hk, hf⟩; have HR := Lib.hid (And.intro hd (And.intro ht (And.intro hk hf))); clear hd ht hk hf)
    first | go_end0 | refine bodyPost_ret (results_none rfl _ _ _) rfl ?_
    exact ⟨v', es', rfl, HR.out⟩
  by_cases h2 : at_ = 2
  · subst h2
    obtain ⟨rfl, rfl⟩ : ((0, code) : Int × Int) = s' ∧ [Tok.v code c] = ts := by simpa [dstep] using hs
    have HD := Lib.hid (emit_q h hN hN2 4 code c (.inr rfl))
    clear h hN hs h0 h1
    go_enter Try.func41, Try.ntmps41
    go_wp2_with (go_at_call 49; (with_reducible refine HD.out.mono ?_); rintro e w1 ⟨v', es', rfl, hd, ht, hk, hf⟩; have HR := Lib.hid (And.intro hd (And.intro ht (And.intro hk hf))); clear hd ht hk hf)
    first | go_end0 | refine bodyPost_ret (results_none rfl _ _ _) rfl ?_
    exact ⟨v', es', rfl, HR.out⟩
  · simp [dstep, h0, h1, h2] at hs
end
end Go.Proofs.Ytgjicigagfhgmaa.H

namespace Go.Proofs.Ytgjicigagfhgmaa.H
open Go.RowKit Go.Proofs.YtgjicigagfhgmaaW.PrintWords Go.Proofs.YtgjicigagfhgmaaW.PrintLast
set_option linter.unusedVariables false
set_option linter.unusedSimpArgs false
/-- A run of the decoder. -/
def drun : (Int × Int) → List Int → Option ((Int × Int) × List Tok)
  | s, [] => some (s, [])
  | s, c :: bs => (dstep s c).bind fun p => (drun p.1 bs).bind fun q => some (q.1, p.2 ++ q.2)
/-- A decoder between its calls. -/
def Dz (W : World) (g : Nat) (at_ code : Int) (x2 x3 x4 : Value) : Prop := W.heap[g]? = some (.cells #[.int .i64 at_, .int .u8 code, x2, x3, x4, .slice none 0 0] 37 (0, 0))
theorem drun_cons {s s' : Int × Int} {c : Int} {bs : List Int} {ts : List Tok} (h : drun s (c :: bs) = some (s', ts)) : ∃ s1 t1 t2, dstep s c = some (s1, t1) ∧ drun s1 bs = some (s', t2) ∧ ts = t1 ++ t2 := by
  rw [drun] at h
  cases h1 : dstep s c with
  | none => rw [h1] at h; cases h
  | some p =>
    rw [h1, Option.bind_some] at h
    cases h2 : drun p.1 bs with
    | none => rw [h2] at h; cases h
    | some q =>
      rw [h2, Option.bind_some] at h
      injection h with h
      injection h with h3 h4
      exact ⟨p.1, p.2, q.2, rfl, by rw [h2, ← h3], h4.symm⟩
theorem rd_get (xs : List Int) (k : Nat) (h : k < xs.length) : rd xs (k : Int) = xs[k] := by simp [rd, List.getD, List.getElem?_eq_getElem h]
section
variable {w : World} {g : Nat} {at_ code : Int} {x2 x3 x4 : Value} {A0 : Option Addr} {c0 : Nat} {bs : List Int}
set_option maxHeartbeats 4000000 in
set_option maxRecDepth 100000 in
theorem feed_p (h : Dz w g at_ code x2 x3 x4) (hC : ∀ W, Fd w W g w.heap.size → Kd.C (Kd.int .u8) W A0 bs.length bs) (hl : bs.length ≤ 80000) {s' : Int × Int} {ts : List Tok} (hs : drun (at_, code) bs = some (s', ts)) : Calls Try.prog 25 #[.pointer (some ⟨g, 0, none⟩), .slice A0 bs.length c0] w fun e' w' => ∃ v' es', e' = .returned v' ∧ Dz w' g s'.1 s'.2 x2 x3 x4 ∧ Evs w' w.heap.size v' es' ∧ toks es' = ts ∧ Okv bs.length es' ∧ Fd w w' g w.heap.size := by
  have H := Lib.hid h
  have HC := Lib.hid hC
  have HL := Lib.hid hl
  have hu25 := Try.underlying25
  have p5 := (blk_cell h 5).trans rfl
  have f5 := blk_frozen h 5
  clear hC
  obtain ⟨n, hn⟩ : ∃ n, bs.length = n := ⟨_, rfl⟩
  rw [hn] at HC HL ⊢
  have HN := Lib.hid hn
  have HD0 : Hid (Dc (w.setCell ⟨g, 5, none⟩ (.slice none 0 0)) g w.heap.size at_ code x2 x3 x4 (.slice none 0 0) []) := Lib.hid ⟨blk_set h 5 _, Evs.nil _ _, by simp [World.setCell]⟩
  have HF0 := Lib.hid ((Fd.refl w g w.heap.size).set 5 (.slice none 0 0))
  have HR0 : Hid (drun (at_, code) (bs.drop 0) = some (s', ts)) := Lib.hid hs
  clear h hn hs hl
  go_enter Try.func25, Try.ntmps25
  go_wp2
  generalize w.setCell ⟨g, 5, none⟩ (.slice none 0 0) = W1 at HD0 HF0 ⊢
  clear p5 f5
  go_loopw [13] (fun v13 wr => ∃ k : Nat, ∃ a c v es us, k ≤ n ∧ v13 = .int .i64 k ∧ Hid (Dc wr g w.heap.size a c x2 x3 x4 v es) ∧ Hid (Okv k es) ∧ Hid (Fd w wr g w.heap.size) ∧ Hid (drun (a, c) (bs.drop k) = some (s', us) ∧ toks es ++ us = ts)) (fun v13 _ => n - (intOf v13).toNat)
  case atStart => exact ⟨0, at_, code, _, [], ts, Nat.zero_le _, rfl, HD0, Lib.hid (Okv.nil 0), HF0, Lib.hid ⟨HR0.out, rfl⟩⟩
  case round =>
    obtain ⟨k, a, c, v, es, us, hk, rfl, HD, HO, HF, HR⟩ := hrel
    clear HD0 HF0 HR0
    have hln : (n : Int) ≤ 80000 := by have := HL.out; omega
    by_cases hlt : k < n
    · have hlt' : k < bs.length := by rw [HN.out]; exact hlt
      obtain ⟨ad, rfl, d0⟩ := Kd.at_int (HC.out wr HF.out) (k : Int) (by omega) (by omega)
      rw [Int.toNat_natCast, rd_get bs k hlt'] at d0
      obtain ⟨h1, h2⟩ := HR.out
      rw [List.drop_eq_getElem_cons hlt'] at h1
      obtain ⟨s1, t1, t2, e1, e2, rfl⟩ := drun_cons h1
      obtain ⟨b, hb⟩ : ∃ b, bs[k] = b := ⟨_, rfl⟩
      rw [hb] at d0 e1
      have HT := Lib.hid (take_p HD.out HO.out (by have := HL.out; omega) b e1)
      have HE2 := Lib.hid e2
      have HTS := Lib.hid h2
      clear h1 h2 e1 e2 hb hlt'
      go_wp2_with (go_at_call 41; (with_reducible refine HT.out.mono ?_); rintro e w2 ⟨v2, es2, rfl, hd, ht, hk2, hf⟩; have HD2 := Lib.hid hd; have HT2 := Lib.hid ht; have HO2 := Lib.hid hk2; have HF2 := Lib.hid (HF.out.trans hf); clear hd ht hk2 hf)
      go_roundw
      case rel => exact ⟨k + 1, s1.1, s1.2, v2, es2, t2, by omega, by go_num, HD2, HO2, HF2, Lib.hid ⟨HE2.out, by rw [HT2.out, List.append_assoc]; exact HTS.out⟩⟩
      case measure => simp [intOf]; omega
    · obtain rfl : k = n := by omega
      obtain ⟨h1, h2⟩ := HR.out
      rw [List.drop_eq_nil_of_le (by rw [HN.out]; exact Nat.le_refl _)] at h1
      have h3 : (a, c) = s' ∧ ([] : List Tok) = us := by simpa [drun] using h1
      obtain ⟨rfl, rfl⟩ := h3
      rw [List.append_nil] at h2
      have HTS := Lib.hid h2
      have p5 := (blk_cell HD.out.p 5).trans rfl
      have f5 := blk_frozen HD.out.p 5
      obtain ⟨Av, kv, rfl⟩ := own_slice HD.out.e.o
      clear h1 h2
      go_wp2
      go_ret
      exact ⟨_, rfl, blk_set HD.out.p 5 _, es, HD.out.e.cell HD.out.p (by decide) (by decide) 5 _, HTS.out, HO.out, HF.out.set 5 _⟩
end
end Go.Proofs.Ytgjicigagfhgmaa.H

namespace Go.Proofs.Ytgjicigagfhgmaa.H
open Go.RowKit Go.Proofs.YtgjicigagfhgmaaW.PrintWords Go.Proofs.YtgjicigagfhgmaaW.PrintLast
set_option linter.unusedVariables false
set_option linter.unusedSimpArgs false
theorem own_one {W : World} {b e size n : Nat} {u : Value} {ys : List Value} (h : W.ownsRow b e size u n ys) (h1 : ∀ p ∈ ys, p.oneCell' = true) : True := trivial
/-- append of a whole row. -/
theorem app_rows {P : Program} {ops : Array Oper} {rest : List Oper} {o : Oper} {a : Act} {Q : Exit → Act → World → Prop} {W : World} (hgd : o.guard = none) (s x : Operand) (t e : TypeId) (z : Value) (size bytes base b2 : Nat)
    (ho : o.op = .call { callee := .builtin .append, args := #[s, x], argTypes := #[t, t] })
    (ht : P.underlying t = some (.slice e)) (hinfo : (P.info? e).map (fun i => (i.zero, i.size, i.bytes)) = some (some z, size, bytes)) (hz : z.cells.size = size) (hs0 : 0 < size) (hb0 : 0 < bytes)
    (v u : Value) (n m : Nat) (xs ys : List Value) (hs : a.eval s = v) (hx : a.eval x = u) (HO : W.ownsRow base e size v n xs) (HX : W.ownsRow b2 e size u m ys) (h1 : ∀ p ∈ ys, p.oneCell' = true)
    (hbase : base ≤ W.heap.size) (hl : (n + m) * bytes ≤ 140737488355328)
    (h : ∀ v1 w1, w1.ownsRow base e size v1 (n + m) (xs ++ ys) → W.grownBy w1 v.ownBlock → (v1.ownBlock = v.ownBlock ∨ v1.ownBlock = some W.heap.size) → wpList P ops Q rest (a.put o.dst v1) w1) :
    wpList P ops Q (o :: rest) a W := by
  obtain ⟨i0, hi, hzz⟩ := Option.map_eq_some_iff.1 hinfo
  simp only [Prod.mk.injEq] at hzz
  obtain ⟨hz0, hz1, hz2⟩ := hzz
  have hlen : n + m ≤ 140737488355328 := Nat.le_trans (Nat.le_mul_of_pos_right _ hb0) hl
  rcases HX.2 with ⟨hu, hm⟩ | ⟨g, cap, cur, hu, hbg, hb, hn, hcap, hsz, hys⟩
  · subst hm
    have hy : ys = [] := List.eq_nil_of_length_eq_zero (by have := HX.1; simpa using this)
    subst hy
    refine wpList_plain hgd fun K hK => ?_
    have hrun : (Builtin.append_ #[t, t] o.type #[v, .slice none 0 0]).run P W = .ok v W := by
      rcases HO.2 with ⟨rfl, hn⟩ | ⟨g, cap, cur, rfl, _, _, hnc, _⟩
      · simp [Builtin.append_, run_underlying ht, sizeOf, typeInfo, hi, Builtin.lenOf, Builtin.firstCells]
      · simp [Builtin.append_, run_underlying ht, sizeOf, typeInfo, hi, Builtin.lenOf, Builtin.firstCells, hnc, storeCells]
    unfold Oper.wp
    simp [execOp, ho, resolve, invoke, builtin, hs, hx, hu, hrun, Result.andThen]
    exact hK _ _ (h v W (by simpa using HO) (World.grownBy.refl W _) (.inl rfl))
  · have hcells : ∀ j p, ys[j]? = some p → W.cell? ((⟨g, 0, none⟩ : Addr).add j) = some p := fun j p hj => by
      rw [← hys] at hj
      have hlt := (List.getElem?_eq_some_iff.1 hj).1
      rw [List.length_take] at hlt
      rw [List.getElem?_take_of_lt (by omega)] at hj
      exact World.news_of_block hb j p hj
    exact wpList_append_own_at W hgd s x t ho base e i0 z size bytes ht hi hz0 hz1 hz2 hz hs0 v n xs hs HO ⟨g, 0, none⟩ m cap ys (by rw [hx, hu]) HX.1 hcells h1 (by simp only [maxLen]; omega) hl hbase (fun v1 w1 ho1 hg1 _ hat1 => h v1 w1 ho1 hg1 hat1)
theorem eflat_oneCell (es : List (Ev × Value)) (h : ∀ p ∈ es, p.2.oneCell' = true) : ∀ u ∈ eflat es, u.oneCell' = true := by
  intro u hu
  obtain ⟨p, hp, hu⟩ := List.mem_flatMap.1 hu
  simp only [ec, List.mem_cons, List.not_mem_nil, or_false] at hu
  rcases hu with rfl | rfl | rfl | rfl
  · rfl
  · rfl
  · rfl
  · exact h p hp
theorem Evs.one {W : World} {base : Nat} {v : Value} {es : List (Ev × Value)} (h : Evs W base v es) : ∀ u ∈ eflat es, u.oneCell' = true := eflat_oneCell es (fun p hp => by
  obtain ⟨A, c, e⟩ := own_slice (h.i p hp)
  rw [e]
  rfl)
/-- Two rows of events are one. -/
theorem Evs.join {W W1 : World} {base b2 : Nat} {v u v1 : Value} {es fs : List (Ev × Value)} (h : Evs W base v es) (k : Evs W b2 u fs) (hb : base ≤ b2) (hold : ∀ p ∈ es, ∀ x, p.2.ownBlock = some x → x < b2) (ho : W1.ownsRow base 43 4 v1 (es.length + fs.length) (eflat es ++ eflat fs)) (hg : W.grownBy W1 v.ownBlock) : Evs W1 base v1 (es ++ fs) := by
  refine ⟨by rw [List.length_append, eflat_append]; exact ho, fun p hp => ?_, List.pairwise_append.2 ⟨h.d, k.d, fun a ha b hb' => ?_⟩⟩
  · rcases List.mem_append.1 hp with hp | hp
    · exact own_other (h.i p hp) hg (own_apart (h.i p hp) h.o (by decide))
    · exact own_less (own_other (k.i p hp) hg (own_apart (k.i p hp) h.o (by decide))) hb
  · cases hx : a.2.ownBlock with
    | none => exact .inl rfl
    | some x =>
      refine .inr (fun e => ?_)
      have h1 := hold a ha x hx
      have h2 := own_base (k.i b hb') x e.symm
      omega
theorem Okv.join {N M : Nat} {es fs : List (Ev × Value)} (h : Okv N es) (k : Okv M fs) : Okv (N + M) (es ++ fs) :=
  ⟨fun p hp => (List.mem_append.1 hp).elim (h.k p) (k.k p), by rw [List.length_append]; have := h.l; have := k.l; omega, fun p hp => (List.mem_append.1 hp).elim (fun hp => by have := h.b p hp; omega) (fun hp => by have := k.b p hp; omega)⟩
theorem drun_append : ∀ (bs cs : List Int) (s s1 s2 : Int × Int) (t1 t2 : List Tok), drun s bs = some (s1, t1) → drun s1 cs = some (s2, t2) → drun s (bs ++ cs) = some (s2, t1 ++ t2)
  | [], cs, s, s1, s2, t1, t2, h1, h2 => by
    obtain ⟨rfl, rfl⟩ : s = s1 ∧ ([] : List Tok) = t1 := by simpa [drun] using h1
    exact h2
  | b :: bs, cs, s, s1, s2, t1, t2, h1, h2 => by
    obtain ⟨s0, a1, a2, e1, e2, rfl⟩ := drun_cons h1
    rw [List.cons_append, drun, e1, Option.bind_some, drun_append bs cs s0 s1 s2 a2 t2 e2 h2, Option.bind_some, List.append_assoc]
theorem drun_split : ∀ (bs cs : List Int) (s s2 : Int × Int) (t : List Tok), drun s (bs ++ cs) = some (s2, t) → ∃ s1 t1 t2, drun s bs = some (s1, t1) ∧ drun s1 cs = some (s2, t2) ∧ t = t1 ++ t2
  | [], cs, s, s2, t, h => ⟨s, [], t, rfl, h, rfl⟩
  | b :: bs, cs, s, s2, t, h => by
    obtain ⟨s0, a1, a2, e1, e2, rfl⟩ := drun_cons h
    obtain ⟨s1, t1, t2, h1, h2, rfl⟩ := drun_split bs cs s0 s2 a2 e2
    exact ⟨s1, a1 ++ t1, t2, by rw [drun, e1, Option.bind_some, h1, Option.bind_some], h2, by rw [List.append_assoc]⟩
end Go.Proofs.Ytgjicigagfhgmaa.H

namespace Go.Proofs.Ytgjicigagfhgmaa.H
open Go.RowKit Go.Proofs.YtgjicigagfhgmaaW.PrintWords Go.Proofs.YtgjicigagfhgmaaW.PrintLast
set_option linter.unusedVariables false
set_option linter.unusedSimpArgs false
theorem i64_mask (i : Nat) (hi : i ≤ 62) (x : Int) : bits .and .i64 x (2 ^ i - 1) = x % 2 ^ i := by
  have hpos : 0 < 2 ^ i := Nat.two_pow_pos i
  have hc : ((2 : Int) ^ i - 1) = ((2 ^ i - 1 : Nat) : Int) := by
    rw [Int.natCast_sub hpos]; simp
  have hle : 2 ^ i ≤ 4611686018427387904 := Nat.le_trans (Nat.pow_le_pow_right (by decide) hi) (by decide)
  have hdvd : (2 ^ i : Nat) ∣ 2 ^ 64 := Nat.pow_dvd_pow 2 (by omega)
  have hm : (2 ^ i - 1) % 2 ^ 64 = 2 ^ i - 1 := Nat.mod_eq_of_lt (by omega)
  have key : (x % (2 ^ 64 : Nat)).toNat % 2 ^ i = (x % (2 ^ i : Nat)).toNat := by
    have h0 : 0 ≤ x % ((2 ^ 64 : Nat) : Int) := Int.emod_nonneg _ (by decide)
    have h1 : 0 ≤ x % ((2 ^ i : Nat) : Int) := Int.emod_nonneg _ (by omega)
    have h2 : (((x % ((2 ^ 64 : Nat) : Int)).toNat % 2 ^ i : Nat) : Int) = x % ((2 ^ i : Nat) : Int) := by
      rw [Int.natCast_emod, Int.toNat_of_nonneg h0]
      exact Int.emod_emod_of_dvd x (by exact_mod_cast hdvd)
    omega
  have hr : 0 ≤ x % ((2 ^ i : Nat) : Int) := Int.emod_nonneg _ (by omega)
  have hlt : x % ((2 ^ i : Nat) : Int) < ((2 ^ i : Nat) : Int) := Int.emod_lt_of_pos _ (by omega)
  rw [hc]
  have hb : IntKind.i64.bits = 64 := rfl
  simp only [bits, BitVec.toNat_and, BitVec.toNat_ofInt, BitVec.ofInt_natCast, BitVec.toNat_ofNat]
  simp only [hb, hm, Nat.and_two_pow_sub_one_eq_mod]
  rw [key, Int.toNat_of_nonneg hr, IntKind.wrap_i64]
  have e : ((2 ^ i : Nat) : Int) = 2 ^ i := by simp
  rw [← e]
  generalize x % ((2 ^ i : Nat) : Int) = c at *
  generalize 2 ^ i = d at *
  omega
theorem and63 (x : Int) : bits .and .i64 x 63 = x % 64 := i64_mask 6 (by decide) x
theorem Fd.less {a b : World} {g n m : Nat} (h : Fd a b g m) (hn : n ≤ m) : Fd a b g n := ⟨h.os, h.tape, h.output, h.size, fun k hk hg => h.block k (Nat.lt_of_lt_of_le hk hn) hg⟩
theorem Evs.fd {W W1 : World} {base g : Nat} {v : Value} {es : List (Ev × Value)} {cs : Array Value} (h : Evs W base v es) (hf : Fd W W1 g W.heap.size) (hg : W.heap[g]? = some (.cells cs 37 (0, 0))) : Evs W1 base v es := h.move (fun k _ hlt ⟨c, t, ht, hc⟩ => hf.block k hlt (fun e => by
  subst e
  have := hg.symm.trans hc
  injection this with this
  injection this with _ e
  rcases ht with rfl | rfl <;> cases e))
theorem Evs.lt {W : World} {base : Nat} {v : Value} {es : List (Ev × Value)} (h : Evs W base v es) : ∀ p ∈ es, ∀ x, p.2.ownBlock = some x → x < W.heap.size := fun p hp x hx => own_lt (h.i p hp) x hx
theorem info5i : ∃ i, Try.prog.info? 5 = some i ∧ i.size = 1 := by
  obtain ⟨i, hi, hz⟩ := Option.map_eq_some_iff.1 info5
  simp only [Prod.mk.injEq] at hz
  exact ⟨i, hi, hz.2.1⟩
theorem Okv.mono {N M : Nat} {es : List (Ev × Value)} (h : Okv N es) (hm : N ≤ M) : Okv M es := ⟨h.k, Nat.le_trans h.l hm, fun p hp => Nat.le_trans (h.b p hp) hm⟩
/-- Where fed stands. -/
structure FI (w wr : World) (g : Nat) (s' : Int × Int) (x2 x3 x4 : Value) (N : Nat) (total : List Tok) (v7 v1 : Value) (a c : Int) (Ab : Option Addr) (cb : Nat) (rest : List Int) (es : List (Ev × Value)) (M : Nat) (us : List Tok) : Prop where
  b : v1 = .slice Ab rest.length cb
  l : rest.length ≤ cb
  r : ∀ W, Fd w W g w.heap.size → ReadsInt W .u8 Ab rest.length rest
  d : Dz wr g a c x2 x3 x4
  e : Evs wr w.heap.size v7 es
  o : Okv M es
  m : M + rest.length ≤ N
  t : drun (a, c) rest = some (s', us) ∧ toks es ++ us = total
  f : Fd w wr g w.heap.size
section
variable {w : World} {g : Nat} {at_ code : Int} {x2 x3 x4 : Value} {A0 A1 : Option Addr} {c0 c1 : Nat} {bs ms : List Int}
set_option maxHeartbeats 4000000 in
set_option maxRecDepth 100000 in
theorem fed_p (h : Dz w g at_ code x2 x3 x4) (hC : ∀ W, Fd w W g w.heap.size → ReadsInt W .u8 A0 bs.length bs) (hc0 : bs.length ≤ c0) (hM : ∀ W, Fd w W g w.heap.size → Kd.C (Kd.int .i64) W A1 ms.length ms) (hl : bs.length ≤ 80000) (hml : ms.length ≤ 1000) {s' : Int × Int} {ts : List Tok} (hs : drun (at_, code) bs = some (s', ts)) : Calls Try.prog 9 #[.pointer (some ⟨g, 0, none⟩), .slice A0 bs.length c0, .slice A1 ms.length c1] w fun e' w' => ∃ v' es', e' = .returned v' ∧ Dz w' g s'.1 s'.2 x2 x3 x4 ∧ Evs w' w.heap.size v' es' ∧ toks es' = ts ∧ Okv bs.length es' ∧ Fd w w' g w.heap.size := by
  have hu25 := Try.underlying25
  have hu23 := Try.underlying23
  have hu35 := Try.underlying35
  have HM := Lib.hid hM
  have hb1 := below_alloc (Below.refl w.heap.size w) (.cells #[] 43)
  have HI0 : Hid (FI w (w.alloc (.cells #[] 43)) g s' x2 x3 x4 bs.length ts (.slice (some ⟨w.heap.size, 0, none⟩) 0 0) (.slice A0 bs.length c0) at_ code A0 c0 bs [] 0 ts) := Lib.hid ⟨rfl, hc0, hC, blk_below h hb1, ⟨by
    have := World.ownsRow_lit (base := w.heap.size) (e := 43) (size := 4) w #[] 0 (Nat.le_refl _) (by decide) (by simp)
    simpa [eflat] using this, fun p hp => by simp at hp, List.Pairwise.nil⟩, Okv.nil 0, by omega, ⟨hs, rfl⟩, Fd.of_below hb1⟩
  obtain ⟨m, hm⟩ : ∃ m, ms.length = m := ⟨_, rfl⟩
  have HMM := Lib.hid hm
  have HNL := Lib.hid hl
  have HML := Lib.hid (show m ≤ 1000 by omega)
  clear h hC hM hc0 hl hml hs hb1
  rw [hm] at HM ⊢
  go_enter Try.func9, Try.ntmps9
  go_wp2_with fail
  generalize w.alloc (.cells #[] 43) = W1 at HI0 ⊢
  go_loopw [1, 7, 13] (fun v1 v7 v13 wr => ∃ k : Nat, ∃ a c Ab cb rest es M us, k ≤ m ∧ v13 = .int .i64 k ∧ Hid (FI w wr g s' x2 x3 x4 bs.length ts v7 v1 a c Ab cb rest es M us)) (fun _ _ v13 _ => m - (intOf v13).toNat)
  case atStart => exact ⟨0, at_, code, A0, c0, bs, [], 0, ts, Nat.zero_le _, rfl, HI0⟩
  case round =>
    obtain ⟨k, a, c, Ab, cb, rest, es, M, us, hk, rfl, HI⟩ := hrel
    clear HI0
    have hv1 := HI.out.b
    subst hv1
    obtain ⟨Ao, ko, rfl⟩ := own_slice HI.out.e.o
    have hml : (m : Int) ≤ 1000 := by have := HML.out; omega
    by_cases hlt : k < m
    · have hlt' : k < ms.length := by rw [HMM.out]; exact hlt
      obtain ⟨ad, rfl, d0⟩ := Kd.at_int (HM.out wr HI.out.f) (k : Int) (by omega) (by omega)
      rw [Int.toNat_natCast] at d0
      obtain ⟨sz, hsz⟩ : ∃ sz, rd ms (k : Int) = sz := ⟨_, rfl⟩
      rw [hsz] at d0
      obtain ⟨q, hq⟩ : ∃ q, sz % 64 = q := ⟨_, rfl⟩
      have hbm : bits .and .i64 sz 63 = q := by rw [and63, hq]
      have hq0 : 0 ≤ q ∧ q < 64 := by omega
      obtain ⟨j, hj⟩ : ∃ j : Int, (if (rest.length : Int) < q then (rest.length : Int) else q) = j := ⟨_, rfl⟩
      have hj0 : 0 ≤ j ∧ j ≤ rest.length := by rw [← hj]; split <;> omega
      have HJ0 := Lib.hid hj0
      obtain ⟨i5, hi5, hz5⟩ := info5i
      obtain ⟨hcut1, hcr1, hcl1⟩ := print_take_int (P := Try.prog) (k := .u8) 25 5 Try.underlying25 hi5 hz5 Ab cb rest j hj0.1 hj0.2 HI.out.l
      obtain ⟨A2, hcut2, hcr2, hcl2⟩ := print_cut_int (P := Try.prog) (k := .u8) 25 5 Try.underlying25 hi5 hz5 Ab cb rest j hj0.1 hj0.2 HI.out.l
      have hrun := HI.out.t.1
      have hsplit : rest = rest.take j.toNat ++ rest.drop j.toNat := (List.take_append_drop _ _).symm
      rw [hsplit] at hrun
      obtain ⟨s1, t1, t2, e1, e2, rfl⟩ := drun_split _ _ _ _ _ hrun
      have HR1 := Lib.hid hcr1
      have HR2 := Lib.hid hcr2
      have HL2 := Lib.hid hcl2
      have HRUN2 := Lib.hid e2
      have HNM := Lib.hid (show (rest.take j.toNat).length ≤ 80000 by have := HI.out.m; have := HNL.out; rw [List.length_take]; omega)
      have hfeed := fun W (hW : W = wr) => feed_p (A0 := Ab) (c0 := cb) (bs := rest.take j.toNat) HI.out.d (fun W hW => Kd.C_of_reads (d := (0 : Int)) (h1 := fun _ => rfl) (readsInt_of.1 (HR1.out W (HI.out.r W (HI.out.f.trans (hW.less HI.out.f.size)))))) (by exact HNM.out) e1
      have HFE := Lib.hid (hfeed wr rfl)
      clear hfeed
      have HLN : Hid ((rest.take j.toNat).length + (rest.drop j.toNat).length = rest.length) := Lib.hid (by rw [← List.length_append, List.take_append_drop])
      obtain ⟨jn, hjn⟩ : ∃ jn, (rest.take j.toNat).length = jn := ⟨_, rfl⟩
      obtain ⟨jr, hjr⟩ : ∃ jr, (rest.drop j.toNat).length = jr := ⟨_, rfl⟩
      rw [hjn] at hcut1 HFE
      rw [hjr] at hcut2
      have HJN := Lib.hid hjn
      have HJR := Lib.hid hjr
      clear hjn hjr
      clear hsz hq hq0 hj0 hcr1 hcl1 hcr2 hcl2 hrun hsplit e1 e2 hi5 hz5 hlt'
      go_wp2_with (first
        | (go_at_call 25; (with_reducible refine HFE.out.mono ?_); rintro e w2 ⟨v2, es2, rfl, hd, hv, ht, ho, hf⟩; have HD2 := Lib.hid hd; have HV2 := Lib.hid hv; have HT2 := Lib.hid ht; have HO2 := Lib.hid ho; have HF2 := Lib.hid hf; have HE2 := Lib.hid (HI.out.e.fd hf HI.out.d); have HLT := Lib.hid HI.out.e.lt; clear hd hv ht ho hf)
        | (at_builtin; refine app_rows rfl (.tmp 22) (.tmp 27) 35 43 (.agg #[.int .i64 0, .int .u8 0, .int .u8 0, .slice none 0 0]) 4 40 w.heap.size wr.heap.size rfl Try.underlying35 info43 rfl (by decide) (by decide) (.slice Ao es.length ko) v2 es.length es2.length (eflat es) (eflat es2) rfl rfl HE2.out.o HV2.out.o HV2.out.one (Nat.le_trans HI.out.f.size HF2.out.size) (by have := HI.out.o.l; have := HO2.out.l; have := HI.out.m; have := HNL.out; have := HNM.out; have := HJN.out; omega) ?_; intro v3 w3 ho3 hg3 hat3; have HJ3 := Lib.hid (HE2.out.join HV2.out HI.out.f.size HLT.out ho3 hg3); have HD3 : Hid (Dz w3 g s1.1 s1.2 x2 x3 x4) := Lib.hid (blk_grown HD2.out hg3 (fun e => by { obtain ⟨cells, hc⟩ := own_typed HE2.out.o g e.symm; have := HD2.out.symm.trans hc; injection this with this; injection this with _ e; cases e })); have HF3 := Lib.hid ((HI.out.f.trans (HF2.out.less HI.out.f.size)).trans (Fd.of_below (g := g) (pw_below_grown (Below.refl w.heap.size w2) _ (Nat.le_trans HI.out.f.size HF2.out.size) hg3 (fun k hk => own_base HE2.out.o k hk)))); clear ho3 hg3 hat3))
      go_roundw
      case rel => exact ⟨k + 1, s1.1, s1.2, A2, cb - j.toNat, rest.drop j.toNat, es ++ es2, M + (rest.take j.toNat).length, t2, by omega, by go_num, Lib.hid ⟨by rw [HJR.out], HL2.out, fun W hW => HR2.out W (HI.out.r W hW), HD3.out, HJ3.out, HI.out.o.join (by rw [HJN.out]; exact HO2.out), by have := HLN.out; have := HI.out.m; omega, ⟨HRUN2.out, by rw [toks_append, HT2.out, List.append_assoc]; exact HI.out.t.2⟩, HF3.out⟩⟩
      case measure => simp [intOf]; omega
    · obtain rfl : k = m := by omega
      have HNM := Lib.hid (show rest.length ≤ 80000 by have := HI.out.m; have := HNL.out; omega)
      have hfeed := fun W (hW : W = wr) => feed_p (A0 := Ab) (c0 := cb) (bs := rest) HI.out.d (fun W hW => Kd.C_of_reads (d := (0 : Int)) (h1 := fun _ => rfl) (readsInt_of.1 (id (HI.out.r W (HI.out.f.trans (hW.less HI.out.f.size)))))) (by exact HNM.out) HI.out.t.1
      have HFE := Lib.hid (hfeed wr rfl)
      clear hfeed
      go_wp2_with (first
        | (go_at_call 25; (with_reducible refine HFE.out.mono ?_); rintro e w2 ⟨v2, es2, rfl, hd, hv, ht, ho, hf⟩; have HD2 := Lib.hid hd; have HV2 := Lib.hid hv; have HT2 := Lib.hid ht; have HO2 := Lib.hid ho; have HF2 := Lib.hid hf; have HE2 := Lib.hid (HI.out.e.fd hf HI.out.d); have HLT := Lib.hid HI.out.e.lt; clear hd hv ht ho hf)
        | (at_builtin; refine app_rows rfl (.tmp 33) (.tmp 36) 35 43 (.agg #[.int .i64 0, .int .u8 0, .int .u8 0, .slice none 0 0]) 4 40 w.heap.size wr.heap.size rfl Try.underlying35 info43 rfl (by decide) (by decide) (.slice Ao es.length ko) v2 es.length es2.length (eflat es) (eflat es2) rfl rfl HE2.out.o HV2.out.o HV2.out.one (Nat.le_trans HI.out.f.size HF2.out.size) (by have := HI.out.o.l; have := HO2.out.l; have := HI.out.m; have := HNL.out; have := HNM.out; omega) ?_; intro v3 w3 ho3 hg3 hat3; have HJ3 := Lib.hid (HE2.out.join HV2.out HI.out.f.size HLT.out ho3 hg3); have HD3 : Hid (Dz w3 g s'.1 s'.2 x2 x3 x4) := Lib.hid (blk_grown HD2.out hg3 (fun e => by { obtain ⟨cells, hc⟩ := own_typed HE2.out.o g e.symm; have := HD2.out.symm.trans hc; injection this with this; injection this with _ e; cases e })); have HF3 := Lib.hid ((HI.out.f.trans (HF2.out.less HI.out.f.size)).trans (Fd.of_below (g := g) (pw_below_grown (Below.refl w.heap.size w2) _ (Nat.le_trans HI.out.f.size HF2.out.size) hg3 (fun k hk => own_base HE2.out.o k hk)))); clear ho3 hg3 hat3))
      go_ret
      exact ⟨_, _, rfl, HD3.out, HJ3.out, by rw [toks_append, HT2.out]; exact HI.out.t.2, (HI.out.o.join HO2.out).mono HI.out.m, HF3.out⟩
end
end Go.Proofs.Ytgjicigagfhgmaa.H

