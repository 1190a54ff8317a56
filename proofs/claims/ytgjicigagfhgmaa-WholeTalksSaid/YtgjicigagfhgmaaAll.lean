/- record.All, record.Split: one record. -/
import Derived.Test.YtgjicigagfhgmaaNew
namespace Go.Proofs.Ytgjicigagfhgmaa.H
open Go.RowKit Go.Proofs.YtgjicigagfhgmaaW.PrintWords Go.Proofs.YtgjicigagfhgmaaW.PrintLast
set_option linter.unusedVariables false
set_option linter.unusedSimpArgs false
theorem cutE : ∀ (bs P : List Int) (us : List Tok), bs.map Tok.d ++ (Tok.e :: us) = P.map Tok.d ++ [Tok.e] → bs = P ∧ us = []
  | [], [], us, h => by simpa using h
  | [], p :: P, us, h => by simp at h
  | b :: bs, [], us, h => by simp at h
  | b :: bs, p :: P, us, h => by
    simp only [List.map_cons, List.cons_append, List.cons.injEq, Tok.d.injEq] at h
    obtain ⟨rfl, rfl⟩ := cutE bs P us h.2
    exact ⟨by rw [h.1], rfl⟩
theorem cutL : ∀ (bs P : List Int) (us : List Tok), bs.map Tok.d ++ us = P.map Tok.d ++ [Tok.e] → bs.length ≤ P.length ∧ us ≠ []
  | [], P, us, h => ⟨Nat.zero_le _, by
    rintro rfl
    simp at h⟩
  | b :: bs, [], us, h => by simp at h
  | b :: bs, p :: P, us, h => by
    simp only [List.map_cons, List.cons_append, List.cons.injEq, Tok.d.injEq] at h
    have := cutL bs P us h.2
    exact ⟨by simpa using this.1, this.2⟩
theorem cutV : ∀ (bs P : List Int) (c o : Int) (us : List Tok), bs.map Tok.d ++ (Tok.v c o :: us) ≠ P.map Tok.d ++ [Tok.e]
  | [], [], c, o, us, h => by simp at h
  | [], p :: P, c, o, us, h => by simp at h
  | b :: bs, [], c, o, us, h => by simp at h
  | b :: bs, p :: P, c, o, us, h => by
    simp only [List.map_cons, List.cons_append, List.cons.injEq] at h
    exact cutV bs P c o us h.2
theorem toks_drop {es : List (Ev × Value)} {k : Nat} (h : k < es.length) : toks (es.drop k) = tokE es[k].1 ++ toks (es.drop (k + 1)) := by
  unfold toks
  rw [List.drop_eq_getElem_cons h, List.flatMap_cons]
/-- The rows that came. -/
structure Out (W : World) (B0 : Nat) (v : Value) (P : List Int) : Prop where
  o : ∃ u, W.ownsRow B0 25 1 v 1 [u] ∧ W.ownsRow B0 5 1 u P.length (nums .u8 P)
/-- Where All stands. -/
structure LI (w wr : World) (es : List (Ev × Value)) (P : List Int) (v5 : Value) (k : Nat) (B : Nat) (v : Value) (bs : List Int) : Prop where
  m : Mk wr w.heap.size B v bs
  f : Below w.heap.size w wr
  b : w.heap.size < B
  t : (v5 = .slice none 0 0 ∧ bs.map Tok.d ++ toks (es.drop k) = P.map Tok.d ++ [Tok.e]) ∨ (bs = [] ∧ toks (es.drop k) = [] ∧ ∀ W, Fd wr W w.heap.size B → Out W w.heap.size v5 P)
theorem info25 : (Try.prog.info? 25).map (fun i => (i.zero, i.size, i.bytes)) = some (some (.slice none 0 0), 1, 24) := by kernel_rfl
theorem own_fd {w W : World} {base B g n size : Nat} {e : TypeId} {v : Value} {xs : List Value} (h : w.ownsRow base e size v n xs) (hf : Fd w W g B) (hB : w.heap.size ≤ B) (hg : g < base) : W.ownsRow base e size v n xs := own_move h (fun k hk => hf.block k (Nat.lt_of_lt_of_le (own_lt h k hk) hB) (by have := own_base h k hk; omega))
theorem LI.data {w wr : World} {es : List (Ev × Value)} {P : List Int} {v5 v' : Value} {k B : Nat} {bs eb : List Int} {c o : Int} {Au : Option Addr} {ku N : Nat} (h : LI w wr es P v5 k B v' bs) (hP : P.length ≤ 8000) (hur : ReadsInt wr .u8 Au eb.length eb) (hcap : eb.length ≤ ku) (heb : eb.length ≤ N) (hN : N ≤ 192) (htk : toks (es.drop k) = tokE ⟨1, c, o, eb⟩ ++ toks (es.drop (k + 1))) : Calls Try.prog 10 #[.pointer (some ⟨w.heap.size, 0, none⟩), .agg #[.int .i64 1, .int .u8 c, .int .u8 o, .slice Au eb.length ku]] (wr.alloc (.cells #[.int .i64 1, .int .u8 c, .int .u8 o, .slice Au eb.length ku] 43)) fun e' w' => e' = .returned (.tuple #[.slice none 0 0, .bool false, .int .i64 0]) ∧ ∃ v'', LI w w' es P v5 (k + 1) B v'' (bs ++ eb) := by
  have hb := below_alloc (Below.refl wr.heap.size wr) (.cells #[.int .i64 1, .int .u8 c, .int .u8 o, .slice Au eb.length ku] 43)
  have hlen : bs.length + eb.length ≤ 8192 := by
    rcases h.t with ⟨_, ht⟩ | ⟨rfl, _, _⟩
    · have := (cutL _ _ _ ht).1; omega
    · simp; omega
  refine (take_data (h.m.below hb) (hur.below hb) hcap hlen c o).mono ?_
  rintro e' w' ⟨v'', rfl, hm, hf, _⟩
  have hfB := (Fd.of_below (g := w.heap.size) (⟨hb.os, hb.tape, hb.output, hb.size, fun i hi => hb.block i (Nat.lt_of_lt_of_le hi h.m.b)⟩ : Below B _ _)).trans hf
  refine ⟨rfl, v'', hm, h.f.trans (hfB.under (Nat.le_of_lt h.b) (Nat.le_refl _)), h.b, ?_⟩
  rcases h.t with ⟨h5, ht⟩ | ⟨rfl, ht, ho⟩
  · refine .inl ⟨h5, ?_⟩
    rw [htk] at ht
    simpa [tokE] using ht
  · rw [htk] at ht
    obtain ⟨h1, h2⟩ := List.append_eq_nil_iff.1 ht
    have : eb = [] := by simpa [tokE] using h1
    subst this
    exact .inr ⟨rfl, h2, fun W hW => ho W (hfB.trans hW)⟩
theorem LI.fin {w wr : World} {es : List (Ev × Value)} {P : List Int} {v5 v' u : Value} {k B : Nat} {bs : List Int} {c o : Int} (h : LI w wr es P v5 k B v' bs) (hu : ∃ A n m, u = .slice A n m) (htk : toks (es.drop k) = tokE ⟨2, c, o, []⟩ ++ toks (es.drop (k + 1))) : Calls Try.prog 10 #[.pointer (some ⟨w.heap.size, 0, none⟩), .agg #[.int .i64 2, .int .u8 c, .int .u8 o, u]] (wr.alloc (.cells #[.int .i64 2, .int .u8 c, .int .u8 o, u] 43)) fun e' w' => e' = .returned (.tuple #[v', .bool true, .int .i64 0]) ∧ v5 = .slice none 0 0 ∧ toks (es.drop (k + 1)) = [] ∧ Mk w' w.heap.size B (.slice none 0 0) [] ∧ w'.ownsRow B 5 1 v' P.length (nums .u8 P) ∧ Below w.heap.size w w' := by
  have hb := below_alloc (Below.refl wr.heap.size wr) (.cells #[.int .i64 2, .int .u8 c, .int .u8 o, u] 43)
  refine (take_end (h.m.below hb) c o u hu).mono ?_
  rintro e' w' ⟨rfl, hm, ho, hf, _⟩
  have hfB := (Fd.of_below (g := w.heap.size) (⟨hb.os, hb.tape, hb.output, hb.size, fun i hi => hb.block i (Nat.lt_of_lt_of_le hi h.m.b)⟩ : Below B _ _)).trans hf
  rcases h.t with ⟨h5, ht⟩ | ⟨rfl, ht, _⟩
  · rw [htk] at ht
    obtain ⟨rfl, e2⟩ := cutE _ _ _ (by simpa [tokE] using ht)
    exact ⟨rfl, h5, e2, hm, ho, h.f.trans (hfB.under (Nat.le_of_lt h.b) (Nat.le_refl _))⟩
  · rw [htk] at ht
    simp [tokE] at ht
theorem LI.verb {w wr : World} {es : List (Ev × Value)} {P : List Int} {v5 v' : Value} {k B : Nat} {bs : List Int} {c o : Int} (h : LI w wr es P v5 k B v' bs) (htk : toks (es.drop k) = tokE ⟨4, c, o, []⟩ ++ toks (es.drop (k + 1))) : False := by
  rcases h.t with ⟨h5, ht⟩ | ⟨rfl, ht, _⟩
  · rw [htk] at ht
    exact cutV bs P c o (toks (es.drop (k + 1))) (by simpa [tokE] using ht)
  · rw [htk] at ht
    simp [tokE] at ht
theorem _root_.Nat.lt.app {w w1 w2 : World} {es : List (Ev × Value)} {P : List Int} {B k : Nat} {u v2 : Value} (hB : w.heap.size < B) (hm : Mk w1 w.heap.size B (.slice none 0 0) []) (ho : w1.ownsRow B 5 1 u P.length (nums .u8 P)) (hf : Below w.heap.size w w1) (ht : toks (es.drop (k + 1)) = []) (ho2 : w2.ownsRow B 25 1 v2 (0 + 1) ([] ++ [u])) (hg : (w1.alloc (.cells #[u] 25)).grownBy w2 (Value.slice none 0 0).ownBlock) : LI w w2 es P v2 (k + 1) w2.heap.size (.slice none 0 0) [] := by
  have hb := below_alloc (Below.refl w1.heap.size w1) (.cells #[u] 25)
  have hle : w1.heap.size ≤ w2.heap.size := Nat.le_trans hb.size hg.size
  have hou : w2.ownsRow B 5 1 u P.length (nums .u8 P) := own_other (pw_own_below ho hb) hg (by
    by_cases e : u.ownBlock = none
    · exact .inl e
    · exact .inr e)
  refine ⟨⟨blk_grown (blk_below hm.p hb) hg (by simp [Value.ownBlock]), own_nil _ _ _ _, Nat.le_refl _⟩, pw_below_grown (below_then hf hf.size hb) _ (Nat.le_trans hf.size hb.size) hg (fun k hk => by simp [Value.ownBlock] at hk), Nat.lt_of_lt_of_le hB (Nat.le_trans hm.b hle), .inr ⟨rfl, ht, fun W hW => ⟨u, own_less (own_fd ho2 hW (Nat.le_refl _) hB) (Nat.le_of_lt hB), own_less (own_fd hou hW (Nat.le_refl _) hB) (Nat.le_of_lt hB)⟩⟩⟩
section
variable {w : World} {base : Nat} {v : Value} {es : List (Ev × Value)} {N : Nat} {P : List Int}
set_option maxHeartbeats 4000000 in
set_option maxRecDepth 100000 in
theorem all_p (h : Evs w base v es) (hk : Okv N es) (hN : N ≤ 192) (ht : toks es = P.map Tok.d ++ [Tok.e]) (hP : P.length ≤ 8000) : Calls Try.prog 37 #[v] w fun e' w' => ∃ v', e' = .returned (.tuple #[v', .int .i64 0]) ∧ Out w' w.heap.size v' P ∧ Below w.heap.size w w' := by
  have hu43 := Try.underlying43
  have hu35 := Try.underlying35
  have hu25 := Try.underlying25
  have hu62 := Try.underlying62
  have hb1 := below_alloc (Below.refl w.heap.size w) (.cells #[.slice none 0 0, .bool false] 39)
  have HI0 : Hid (LI w (w.alloc (.cells #[.slice none 0 0, .bool false] 39)) es P (.slice none 0 0) 0 (w.heap.size + 1) (.slice none 0 0) []) := Lib.hid ⟨⟨blk_new _ _, own_nil _ _ _ _, by rw [World.size_alloc]; exact Nat.le_refl _⟩, hb1, Nat.lt_succ_self _, .inl ⟨rfl, by simpa using ht⟩⟩
  have HE := Lib.hid h
  have HK := Lib.hid hk
  have HN := Lib.hid (And.intro hN hP)
  obtain ⟨A, k0, rfl⟩ := own_slice h.o
  have hnl : es.length ≤ 8000 := by have := hk.l; omega
  clear h hk hN ht hP hb1
  go_enter Try.func37, Try.ntmps37
  go_wp2_with fail
  go_loopw [5, 6, 14] (fun v5 v6 v14 wr => ∃ k : Nat, ∃ B v' bs, k ≤ es.length ∧ v14 = .int .i64 k ∧ v6 = .int .i64 0 ∧ Hid (LI w wr es P v5 k B v' bs)) (fun _ _ v14 _ => es.length - (intOf v14).toNat)
  case atStart => exact ⟨0, w.heap.size + 1, .slice none 0 0, [], Nat.zero_le _, rfl, rfl, HI0⟩
  case round =>
    obtain ⟨k, B, v', bs, hk, rfl, rfl, HI⟩ := hrel
    clear HI0
    by_cases hlt : k < es.length
    · have hlt' := hlt
      obtain ⟨⟨e, u⟩, hp⟩ : ∃ p, es[k] = p := ⟨_, rfl⟩
      have hp? : es[k]? = some (e, u) := by rw [List.getElem?_eq_getElem hlt', hp]
      have hkind := HK.out.k (e, u) (hp ▸ List.getElem_mem hlt')
      have heb := HK.out.b (e, u) (hp ▸ List.getElem_mem hlt')
      have htk := toks_drop hlt'
      rw [hp] at htk
      obtain ⟨R, cap, hv⟩ := own_form' HE.out.o (by omega)
      obtain ⟨rfl, rfl⟩ : A = some ⟨R, 0, none⟩ ∧ k0 = cap := by simpa using hv
      have hE := (HE.out.below HI.out.f)
      have c0 := (own_cell4 hE.o (k * 4 + 0) _ (eflat_get _ k (e, u) 0 _ hp? rfl)).1
      rw [Nat.add_zero] at c0
      have c1 := (own_cell4 hE.o (k * 4 + 1) _ (eflat_get _ k (e, u) 1 _ hp? rfl)).1
      have c2 := (own_cell4 hE.o (k * 4 + 2) _ (eflat_get _ k (e, u) 2 _ hp? rfl)).1
      have c3 := (own_cell4 hE.o (k * 4 + 3) _ (eflat_get _ k (e, u) 3 _ hp? rfl)).1
      obtain ⟨ek, ecc, eo, eb⟩ := e
      simp only at c0 c1 c2 c3 hkind heb
      have hi : wr.ownsRow base 5 1 u eb.length (nums .u8 eb) := hE.i (⟨ek, ecc, eo, eb⟩, u) (hp ▸ List.getElem_mem hlt')
      obtain ⟨Au, ku, rfl, hur⟩ := own_reads hi
      have hcap : eb.length ≤ ku := own_cap hi
      have hb2 := below_alloc (Below.refl wr.heap.size wr) (.cells #[.int .i64 ek, .int .u8 ecc, .int .u8 eo, .slice Au eb.length ku] 43)
      have HUR := Lib.hid (And.intro hur hcap)
      have HTK := Lib.hid htk
      have HB2 := Lib.hid hb2
      clear hE hi hp hp? htk hur hcap hb2
      rcases hkind with ⟨rfl, _⟩ | ⟨rfl | rfl, rfl⟩
      · have HC := Lib.hid (HI.out.data HN.out.2 HUR.out.1 HUR.out.2 heb HN.out.1 HTK.out)
        go_wp2_with (go_at_call 10; (with_reducible refine HC.out.mono ?_); rintro e w1 ⟨rfl, v'', hi⟩; have HI1 := Lib.hid hi; clear hi)
        go_roundw
        case rel => exact ⟨k + 1, B, v'', _, by omega, by go_num, rfl, HI1⟩
        case measure => simp [intOf]; omega
      · have HC := Lib.hid (HI.out.fin (u := .slice Au 0 ku) ⟨_, _, _, rfl⟩ HTK.out)
        go_wp2_with (first
          | (go_at_call 10; (with_reducible refine HC.out.mono ?_); rintro e w1 ⟨rfl, rfl, ht1, hm, ho, hf⟩; obtain ⟨Av, kv, rfl⟩ := own_slice ho; have HT1 := Lib.hid ht1; have HM1 := Lib.hid hm; have HO1 := Lib.hid ho; have HF1 := Lib.hid hf; clear ht1 hm ho hf)
          | (at_builtin; go_loud (refine app_rows rfl (.tmp 29) (.tmp 31) 62 25 (.slice none 0 0) 1 24 B w1.heap.size rfl Try.underlying62 info25 rfl (by decide) (by decide) (.slice none 0 0) (.slice (some ⟨w1.heap.size, 0, none⟩) 1 1) 0 1 [] [.slice Av P.length kv] rfl rfl (own_nil _ _ _ _) (World.ownsRow_lit (base := w1.heap.size) (e := 25) (size := 1) w1 #[.slice Av P.length kv] 1 (Nat.le_refl _) (by decide) rfl) (by intro p hp; obtain rfl : p = .slice Av P.length kv := (by simpa using hp); rfl) (Nat.le_trans HM1.out.b (by rw [World.size_alloc]; exact Nat.le_succ _)) (by decide) ?_; intro v2 w2 ho2 hg2 hat2; have HI2 : Hid (LI w w2 es P v2 (k + 1) w2.heap.size (.slice none 0 0) []) := Lib.hid (HI.out.b.app HM1.out HO1.out HF1.out HT1.out ho2 hg2); obtain ⟨A2, k2, rfl⟩ := own_slice ho2; clear ho2 hg2 hat2)))
        go_roundw
        case rel => exact ⟨k + 1, w2.heap.size, _, _, by omega, by go_num, rfl, HI2⟩
        case measure => simp [intOf]; omega
      · exact (HI.out.verb HTK.out).elim
    · obtain rfl : k = es.length := by omega
      have ht := HI.out.t
      rw [List.drop_length] at ht
      have HO : Hid (Out wr w.heap.size u5 P) := Lib.hid (by
        rcases ht with ⟨_, ht⟩ | ⟨_, _, ho⟩
        · exact absurd rfl (cutL _ _ _ ht).2
        · exact ho wr (Fd.refl _ _ _))
      obtain ⟨uu, ho1, _⟩ := HO.out.o
      obtain ⟨A2, k2, rfl⟩ := own_slice ho1
      clear ht ho1
      go_wp2_with fail
      go_ret2
      exact ⟨_, rfl, HO.out, HI.out.f⟩
end
end Go.Proofs.Ytgjicigagfhgmaa.H
