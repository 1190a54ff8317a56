/- WholeTalks: where a turn stands. -/
import Derived.Test.YtgjicigagfhgmaaTkPure
namespace Go.Proofs.Ytgjicigagfhgmaa.H
open Go.RowKit Go.Proofs.YtgjicigagfhgmaaW.PrintWords Go.Proofs.YtgjicigagfhgmaaW.PrintLast
set_option linter.unusedVariables false
set_option linter.unusedSimpArgs false
/-- All blocks but those of S stay. -/
structure Fr (S : Nat → Prop) (w w' : World) : Prop where
  os : w'.os = w.os
  tape : w'.tape = w.tape
  output : w'.output = w.output
  size : w.heap.size ≤ w'.heap.size
  block : ∀ k, k < w.heap.size → ¬ S k → w'.heap[k]? = w.heap[k]?
theorem Fr.refl (S : Nat → Prop) (w : World) : Fr S w w := ⟨rfl, rfl, rfl, Nat.le_refl _, fun _ _ _ => rfl⟩
theorem Fr.trans {S S' : Nat → Prop} {a b c : World} (h : Fr S a b) (k : Fr S' b c) (hS : ∀ k, k < a.heap.size → S' k → S k) : Fr S a c := ⟨k.os.trans h.os, k.tape.trans h.tape, k.output.trans h.output, Nat.le_trans h.size k.size, fun i hi hg => (k.block i (Nat.lt_of_lt_of_le hi h.size) (fun e => hg (hS i hi e))).trans (h.block i hi hg)⟩
theorem Fr.of_below {S : Nat → Prop} {a b : World} (h : Below a.heap.size a b) : Fr S a b := ⟨h.os, h.tape, h.output, h.size, fun i hi _ => h.block i hi⟩
theorem Fr.of_fd {a b : World} {g : Nat} (h : Fd a b g a.heap.size) : Fr (· = g) a b := ⟨h.os, h.tape, h.output, h.size, fun i hi hg => h.block i hi hg⟩
theorem Fr.mono {S S' : Nat → Prop} {a b : World} (h : Fr S a b) (hS : ∀ k, S k → S' k) : Fr S' a b := ⟨h.os, h.tape, h.output, h.size, fun i hi hg => h.block i hi (fun e => hg (hS i e))⟩
theorem Fr.then_below {S : Nat → Prop} {a b c : World} (h : Fr S a b) (k : Below b.heap.size b c) : Fr S a c := h.trans (Fr.of_below (S := fun _ => False) k) (fun _ _ e => e.elim)
theorem Fr.below {S : Nat → Prop} {a b : World} {B : Nat} (h : Fr S a b) (hB : B ≤ a.heap.size) (hS : ∀ k, k < B → ¬ S k) : Below B a b := ⟨h.os, h.tape, h.output, h.size, fun i hi => h.block i (Nat.lt_of_lt_of_le hi hB) (hS i hi)⟩
theorem Fr.blk {S : Nat → Prop} {a b : World} {g : Nat} {o : Obj} (h : Fr S a b) (hb : a.heap[g]? = some o) (hg : ¬ S g) : b.heap[g]? = some o := (h.block g (blk_lt hb) hg).trans hb
theorem Fr.own {S : Nat → Prop} {a b : World} {B n size : Nat} {e : TypeId} {v : Value} {xs : List Value} (h : Fr S a b) (ho : a.ownsRow B e size v n xs) (hS : ∀ k, v.ownBlock = some k → ¬ S k) : b.ownsRow B e size v n xs := own_move ho (fun k hk => h.block k (own_lt ho k hk) (hS k hk))
theorem Fr.evs {S : Nat → Prop} {a b : World} {B : Nat} {v : Value} {es : List (Ev × Value)} (h : Fr S a b) (hv : Evs a B v es) (hS : ∀ k cs t, B ≤ k → (t = 5 ∨ t = 43) → a.heap[k]? = some (.cells cs t (0, 0)) → ¬ S k) : Evs b B v es := hv.move (fun k hk hlt ⟨cs, t, ht, hc⟩ => h.block k hlt (hS k cs t hk ht hc))
theorem Os.fr {S : Nat → Prop} {a b : World} {g : Nat} {P : Ops} (h : Os a g P) (hf : Fr S a b) (hg : ¬ S g) : Os b g P := by
  obtain ⟨cs, hc, x, y⟩ := h.b
  exact ⟨cs, hf.blk hc hg, x, y⟩
/-- A terminal, a host, their decoders. -/
structure St (W : World) (gt gT gH gd ge : Nat) (nm : ByteArray) (T H : Ops) (cd ce : Int) : Prop where
  t : Tk W gt gT T nm
  h : Os W gH H
  d : Dz W gd 0 cd (.int .u8 0) (.slice none 0 0) (.bool false)
  e : Dz W ge 0 ce (.int .u8 0) (.slice none 0 0) (.bool false)
  ne : gT ≠ gH
  de : gd ≠ ge
section
variable {W W' : World} {gt gT gH gd ge : Nat} {nm : ByteArray} {T H : Ops} {cd ce : Int}
theorem St.gt_ne (h : St W gt gT gH gd ge nm T H cd ce) : gt ≠ gT ∧ gt ≠ gH ∧ gt ≠ gd ∧ gt ≠ ge := ⟨h.t.o.ne h.t.p (by decide), h.h.ne h.t.p (by decide), blk_ne h.t.p h.d (by decide), blk_ne h.t.p h.e (by decide)⟩
theorem St.gd_ne (h : St W gt gT gH gd ge nm T H cd ce) : gd ≠ gT ∧ gd ≠ gH := ⟨h.t.o.ne h.d (by decide), h.h.ne h.d (by decide)⟩
theorem St.ge_ne (h : St W gt gT gH gd ge nm T H cd ce) : ge ≠ gT ∧ ge ≠ gH := ⟨h.t.o.ne h.e (by decide), h.h.ne h.e (by decide)⟩
theorem St.fr {S : Nat → Prop} (h : St W gt gT gH gd ge nm T H cd ce) (hf : Fr S W W') (h1 : ¬ S gt) (h2 : ¬ S gT) (h3 : ¬ S gH) (h4 : ¬ S gd) (h5 : ¬ S ge) : St W' gt gT gH gd ge nm T H cd ce := ⟨⟨hf.blk h.t.p h1, h.t.o.fr hf h2⟩, h.h.fr hf h3, hf.blk h.d h4, hf.blk h.e h5, h.ne, h.de⟩
theorem St.below (h : St W gt gT gH gd ge nm T H cd ce) (hb : Below W.heap.size W W') : St W' gt gT gH gd ge nm T H cd ce := h.fr (Fr.of_below (S := fun _ => False) hb) id id id id id
theorem St.setT (h : St W gt gT gH gd ge nm T H cd ce) {T' : Ops} (hT : Tk W' gt gT T' nm) (hf : Fr (· = gT) W W') : St W' gt gT gH gd ge nm T' H cd ce := ⟨hT, h.h.fr hf (fun e => h.ne e.symm), hf.blk h.d h.gd_ne.1, hf.blk h.e h.ge_ne.1, h.ne, h.de⟩
theorem St.setH (h : St W gt gT gH gd ge nm T H cd ce) {H' : Ops} (hH : Os W' gH H') (hf : Fr (· = gH) W W') : St W' gt gT gH gd ge nm T H' cd ce := ⟨⟨hf.blk h.t.p h.gt_ne.2.1, h.t.o.fr hf h.ne⟩, hH, hf.blk h.d h.gd_ne.2, hf.blk h.e h.ge_ne.2, h.ne, h.de⟩
theorem St.setd (h : St W gt gT gH gd ge nm T H cd ce) {cd' : Int} (hd : Dz W' gd 0 cd' (.int .u8 0) (.slice none 0 0) (.bool false)) (hf : Fr (· = gd) W W') : St W' gt gT gH gd ge nm T H cd' ce := ⟨⟨hf.blk h.t.p h.gt_ne.2.2.1, h.t.o.fr hf h.gd_ne.1.symm⟩, h.h.fr hf h.gd_ne.2.symm, hd, hf.blk h.e h.de.symm, h.ne, h.de⟩
theorem St.sete (h : St W gt gT gH gd ge nm T H cd ce) {ce' : Int} (hd : Dz W' ge 0 ce' (.int .u8 0) (.slice none 0 0) (.bool false)) (hf : Fr (· = ge) W W') : St W' gt gT gH gd ge nm T H cd ce' := ⟨⟨hf.blk h.t.p h.gt_ne.2.2.2, h.t.o.fr hf h.ge_ne.1.symm⟩, h.h.fr hf h.ge_ne.2.symm, hf.blk h.d h.de, hd, h.ne, h.de⟩
end
theorem own_blk_ne {W : World} {B n size g : Nat} {e t : TypeId} {v : Value} {xs : List Value} {cs : Array Value} (h : W.ownsRow B e size v n xs) (hg : W.heap[g]? = some (.cells cs t (0, 0))) (hne : e ≠ t) : ∀ k, v.ownBlock = some k → k ≠ g := fun k hk e => own_ne h hg hne (by rw [hk, e])
/-- Words are taken apart as such. -/
theorem mb_run : ∀ (ms : List (Int × Int)) (c : Int), (∀ m ∈ ms, okm m) → ∃ c', drun (0, c) (mb ms) = some ((0, c'), ms.map (fun m => Tok.v m.1 m.2))
  | [], c, _ => ⟨c, rfl⟩
  | m :: ms, c, h => by
    obtain ⟨c', ih⟩ := mb_run ms m.1 (fun k hk => h k (List.mem_cons_of_mem _ hk))
    have hm := h m List.mem_cons_self
    have e1 : dstep (0, c) 255 = some ((1, c), []) := rfl
    have e2 : dstep (1, c) m.1 = some ((2, m.1), []) := by
      have h1 := hm.1
      have h2 := hm.2.1
      have : m.1 ≠ 255 := by omega
      simp [dstep, this, h1, h2]
    have e3 : dstep (2, m.1) m.2 = some ((0, m.1), [.v m.1 m.2]) := rfl
    refine ⟨c', ?_⟩
    show drun (0, c) (255 :: m.1 :: m.2 :: mb ms) = _
    simp only [drun, e1, e2, e3, ih, Option.bind_some, List.nil_append, List.map_cons, List.singleton_append]
theorem evs_verbs : ∀ (es : List (Ev × Value)) (ms : List (Int × Int)), (∀ p ∈ es, (p.1.k = 1 ∧ p.1.b ≠ []) ∨ ((p.1.k = 2 ∨ p.1.k = 4) ∧ p.1.b = [])) → toks es = ms.map (fun m => Tok.v m.1 m.2) → es.map (·.1) = ms.map (fun m => (⟨4, m.1, m.2, []⟩ : Ev))
  | [], [], _, _ => rfl
  | [], m :: ms, _, h => by simp [toks] at h
  | p :: es, ms, hk, h => by
    obtain ⟨⟨k, c, o, b⟩, u⟩ := p
    have hp := hk _ List.mem_cons_self
    have ht : tokE ⟨k, c, o, b⟩ ++ toks es = ms.map (fun m => Tok.v m.1 m.2) := h
    simp only at hp
    rcases hp with ⟨rfl, hb⟩ | ⟨rfl | rfl, rfl⟩
    · obtain ⟨y, ys, rfl⟩ := List.exists_cons_of_ne_nil hb
      cases ms with
      | nil => simp [tokE] at ht
      | cons m ms => simp [tokE] at ht
    · cases ms with
      | nil => simp [tokE] at ht
      | cons m ms => simp [tokE] at ht
    · cases ms with
      | nil => simp [tokE] at ht
      | cons m ms =>
        simp only [tokE, List.map_cons, List.cons_append, List.nil_append, List.cons.injEq] at ht
        have h4 : (4 : Int) ≠ 1 ∧ (4 : Int) ≠ 2 := by decide
        rw [if_neg h4.1, if_neg h4.2] at ht
        simp only [List.cons_append, List.nil_append, List.cons.injEq, Tok.v.injEq] at ht
        obtain ⟨⟨rfl, rfl⟩, ht⟩ := ht
        rw [List.map_cons, List.map_cons, evs_verbs es ms (fun p hp => hk p (List.mem_cons_of_mem _ hp)) ht]
/-- Events that are words. -/
structure Vbs (W : World) (B : Nat) (v : Value) (ms : List (Int × Int)) (es : List (Ev × Value)) : Prop where
  e : Evs W B v es
  m : es.map (·.1) = ms.map (fun m => (⟨4, m.1, m.2, []⟩ : Ev))
theorem Vbs.len {W : World} {B : Nat} {v : Value} {ms : List (Int × Int)} {es : List (Ev × Value)} (h : Vbs W B v ms es) : es.length = ms.length := by
  have := congrArg List.length h.m
  simpa using this
theorem Vbs.get {W : World} {B : Nat} {v : Value} {ms : List (Int × Int)} {es : List (Ev × Value)} (h : Vbs W B v ms es) (k : Nat) (hk : k < ms.length) : ∃ u, es[k]? = some ((⟨4, ms[k].1, ms[k].2, []⟩ : Ev), u) := by
  have hl := h.len
  have hk2 : k < es.length := by omega
  have := congrArg (fun l => l[k]?) h.m
  simp only [List.getElem?_map, List.getElem?_eq_getElem hk, List.getElem?_eq_getElem hk2, Option.map_some, Option.some.injEq] at this
  exact ⟨es[k].2, by rw [List.getElem?_eq_getElem hk2, ← this]⟩
/-- An event's cells. -/
theorem Vbs.cells {W : World} {B : Nat} {v : Value} {ms : List (Int × Int)} {es : List (Ev × Value)} (h : Vbs W B v ms es) (k : Nat) (hk : k < ms.length) : ∃ R cap A c, v = .slice (some ⟨R, 0, none⟩) ms.length cap ∧ W.cell? ⟨R, k * 4, none⟩ = some (.int .i64 4) ∧ W.cell? ⟨R, k * 4 + 1, none⟩ = some (.int .u8 ms[k].1) ∧ W.cell? ⟨R, k * 4 + 2, none⟩ = some (.int .u8 ms[k].2) ∧ W.cell? ⟨R, k * 4 + 3, none⟩ = some (.slice A 0 c) := by
  obtain ⟨u, hu⟩ := h.get k hk
  have hl := h.len
  obtain ⟨R, cap, hv⟩ := own_form' h.e.o (by omega)
  have ho := h.e.o
  rw [hv] at ho
  have hi : W.ownsRow B 5 1 u 0 (nums .u8 []) := h.e.i _ (List.mem_of_getElem? hu)
  obtain ⟨A, c, rfl, _⟩ := own_reads hi
  exact ⟨R, cap, A, c, by rw [hv, hl], (own_cell4 ho (k * 4 + 0) _ (eflat_get _ k _ 0 _ hu rfl)).1, (own_cell4 ho (k * 4 + 1) _ (eflat_get _ k _ 1 _ hu rfl)).1, (own_cell4 ho (k * 4 + 2) _ (eflat_get _ k _ 2 _ hu rfl)).1, (own_cell4 ho (k * 4 + 3) _ (eflat_get _ k _ 3 _ hu rfl)).1⟩
section
variable {w : World} {g : Nat} {cd : Int} {v5 : Value} {B : Nat} {ms : List (Int × Int)}
/-- A decoder is fed words. -/
theorem feed_v (h : Dz w g 0 cd (.int .u8 0) (.slice none 0 0) (.bool false)) (ho : w.ownsRow B 5 1 v5 (mb ms).length (nums .u8 (mb ms))) (hl : ms.length ≤ 100) (hm : ∀ m ∈ ms, okm m) : Calls Try.prog 25 #[.pointer (some ⟨g, 0, none⟩), v5] w fun e' w' => ∃ v' es' cd', e' = .returned v' ∧ (∃ A c, v' = .slice A ms.length c) ∧ Dz w' g 0 cd' (.int .u8 0) (.slice none 0 0) (.bool false) ∧ Vbs w' w.heap.size v' ms es' ∧ es'.length = ms.length ∧ Fr (· = g) w w' := by
  obtain ⟨A, c, rfl, _⟩ := own_reads ho
  obtain ⟨c', hr⟩ := mb_run ms cd hm
  refine (feed_p (c0 := c) h (fun W hW => ?_) (by rw [mb_len]; omega) hr).mono ?_
  · have := (Fr.of_fd hW).own ho (fun k hk e => own_blk_ne ho h (by decide) k hk e)
    obtain ⟨_, _, e, hr⟩ := own_reads this
    injection e with e1 e2 e3
    subst e1
    exact Kd.C_of_reads (d := (0 : Int)) (h1 := fun _ => rfl) (readsInt_of.1 hr)
  · rintro e' w' ⟨v', es', rfl, hd, he, ht, hk, hf⟩
    have hv : Vbs w' w.heap.size v' ms es' := ⟨he, evs_verbs _ _ hk.k ht⟩
    obtain ⟨A, c, e⟩ := own_slice he.o
    exact ⟨v', es', c', rfl, ⟨A, c, by rw [e, hv.len]⟩, hd, hv, hv.len, Fr.of_fd hf⟩
end
end Go.Proofs.Ytgjicigagfhgmaa.H
