/- reply.fields: the bytes of the fields that are modified. -/
import Derived.Test.YtnifkdcjphekpaaIters
import Derived.Sort.CutIn
import Derived.Test.YtnifkdcjphekpaaBridge
import Derived.Test.YtnifkdcjphekpaaStep
namespace Go.Proofs.Ytnifkdcjphekpaa.H
open Go.RowKit Go.Proofs.YtnifkdcjphekpaaW.PrintWords Go.Proofs.YtnifkdcjphekpaaW.PrintLast
set_option linter.unusedVariables false
set_option linter.unusedSimpArgs false
attribute [local go_sem] Oper.semAt_some

theorem bytes_ok (x : A.S34) : ∃ r, A.reply_bytes.f 10 x.f0 x.f1 x.f2 x.f3 x.f4 = some r := by
  unfold A.reply_bytes.f
  simp only [A.reply_bytes.j0, A.order_Plain.f]
  repeat (first | exact ⟨_, rfl⟩ | split | simp only [Option.bind_some])
/-- A cell's bytes. -/
def bytesL (x : A.S34) : List Int := (A.reply_bytes.f 10 x.f0 x.f1 x.f2 x.f3 x.f4).getD []
theorem bytes_f (x : A.S34) : A.reply_bytes.f 10 x.f0 x.f1 x.f2 x.f3 x.f4 = some (bytesL x) := by
  obtain ⟨r, h⟩ := bytes_ok x
  rw [bytesL, h]
  rfl
def emptyB (x : A.S34) : Bool := if x.f0 = 0 then !x.f1 else false
theorem empty_f (x : A.S34) : A.reply_empty.f x.f0 x.f1 x.f2 x.f3 x.f4 = some (emptyB x) := by
  unfold A.reply_empty.f emptyB
  split <;> rfl
def modB (a : Int) : Bool := (Go.bits .and .u8 a 1) != 0
theorem mod_f (a : Int) : A.attr_Modified.f a = some (modB a) := rfl
/-- What is sent of a cell. -/
def cellOut (cs : List A.S34) (q : Int) : List Int := if emptyB (A.rd_T34 cs q) = true then [] else bytesL (A.rd_T34 cs q)
/-- What is sent of a field. -/
def fldOut (cs : List A.S34) (x : Int) : List Int :=
  if modB (fldAttr cs x) = true then [17, dig ((x + 1) % cs.length / 64), dig ((x + 1) % cs.length)] ++ (placesTo cs x (fldMany cs (fldLen cs x))).flatMap (cellOut cs) else []
def fieldsL (cs : List A.S34) : List Int := (startsTo cs cs.length).flatMap (fldOut cs)

theorem blk_own {β : Type} (B : Nat) (cs : Array Value) (t : TypeId) (fr : Nat × Nat) : Own (fun (_ : β) (W : World) => W.heap[B]? = some (.cells cs t fr)) := fun _ X Y row hs hg hrow => by
  have hs' : X.heap[B]? = some (.cells cs t fr) := hs
  exact (hg.block B (Array.getElem?_eq_some_iff.1 hs').1 (fun e => by obtain ⟨o, ho, hc⟩ := hrow B e.symm; rw [hs'] at ho; cases ho; cases hc)).trans hs'
theorem kpB_put {w : World} {B2 : Nat} {n0 : Nat} (h1 : w.heap.size ≤ n0) (h2 : B2 < n0) : ∀ (W : World) (l : Nat) (o o' : Obj), n0 ≤ l → W.heap[l]? = some o → o.isCells = false → o.isWalk = false → KpB w [B2] W (W.putObj l o') := fun W l o o' hl ho _ _ =>
  ⟨(Below.refl _ W).grown (grownBy_putObj' W l o') (by have := (Array.getElem?_eq_some_iff.1 ho).1; omega) (fun k e => by cases e; omega), fun b hb => by
    obtain rfl := List.mem_singleton.1 hb
    exact World.putObj_heap_other (by omega)⟩
theorem keeps_below {B : Nat} {W W' : World} (hb : Below W.heap.size W W') : KeepsFrom B W W' := (ownFrom_keepsFrom (β := Unit) (B := B) (B' := W.heap.size) (w₀ := W) (Nat.le_refl _)) () W W' none (KeepsFrom.refl _ _) (grown_of_below hb none) (fun r h => by cases h)
/-- Where the bytes that are gathered lie: nowhere yet, or in a block of their own. -/
def SideO (n : Nat) (v : Value) : Prop := ∀ k, v.ownBlock = some k → n ≤ k
def outF (cs : List A.S34) (pre : List Int) : List Int := pre.flatMap (fldOut cs)
theorem outF_snoc (cs : List A.S34) (pre : List Int) (x : Int) : outF cs (pre ++ [x]) = outF cs pre ++ fldOut cs x := by simp [outF]
abbrev nu (xs : List Int) : List Value := nums .u8 xs

theorem keeps_grown {B : Nat} {W W' : World} {row : Option Nat} (hg : W.grownBy W' row) (hr : ∀ r, row = some r → ∃ cs t fr, W.heap[r]? = some (.cells cs t fr)) : KeepsFrom B W W' := ⟨hg.size, fun k o hk h0 ho => by
  refine (hg.block k (Array.getElem?_eq_some_iff.1 h0).1 (fun e => ?_)).trans h0
  obtain ⟨cs, t, fr, h⟩ := hr k e.symm
  rw [h0] at h
  cases h
  cases ho⟩
theorem own_slice {w : World} {base : Nat} {e : TypeId} {size n : Nat} {v : Value} {xs : List Value} (h : w.ownsRow base e size v n xs) : ∃ A m c, v = .slice A m c := by
  rcases h.2 with ⟨rfl, _⟩ | ⟨g, cap, cur, rfl, _⟩
  · exact ⟨_, _, _, rfl⟩
  · exact ⟨_, _, _, rfl⟩
theorem side_on {n m : Nat} {v v1 : Value} (h : SideO n v) (hm : n ≤ m) (hat : v1.ownBlock = v.ownBlock ∨ ∃ b, v1.ownBlock = some b ∧ m ≤ b) : SideO n v1 := fun k hk => by
  rcases hat with h1 | ⟨b, h1, h2⟩
  · exact h k (h1.symm.trans hk)
  · rw [h1] at hk
    cases hk
    omega
/-- What stays in a round of the outer loop, but for the bytes that are gathered. -/
structure T5 (w W0 W : World) (g Bx : Nat) (x len at_ : Int) (W' : World) : Prop where
  p : W'.heap[w.heap.size]? = some (.cells #[.pointer (some ⟨g, 0, none⟩)] 28 (0, 0))
  x : W'.heap[Bx]? = some (.cells #[.int .i64 x, .int .i64 len, .int .u8 at_] 86 (0, 0))
  kf : KeepsFrom W0.heap.size W W'
  kp : KpB w [w.heap.size + 1 + 1] W W'
  b : Below w.heap.size w W'
  s : w.heap.size + 3 ≤ W'.heap.size
section
variable {w W0 W W1 W2 : World} {g Bx n : Nat} {x len at_ : Int} {v : Value} {xs : List Value}
theorem T5.below (h : T5 w W0 W g Bx x len at_ W1) (hb : Below W1.heap.size W1 W2) : T5 w W0 W g Bx x len at_ W2 :=
  ⟨blk_below h.p hb, blk_below h.x hb, h.kf.trans (keeps_below hb), h.kp.trans ⟨hb.mono h.b.size, fun b hb2 => by obtain rfl := List.mem_singleton.1 hb2; exact hb.block _ (by have := h.s; omega)⟩, below_step h.b hb, Nat.le_trans h.s hb.size⟩
theorem T5.app (h : T5 w W0 W g Bx x len at_ W1) (hrow : W1.ownsRow w.heap.size 5 1 v n xs) (hs : SideO (w.heap.size + 3) v) (hg : W1.grownBy W2 v.ownBlock) : T5 w W0 W g Bx x len at_ W2 := by
  have hty := own_typed hrow
  have hs3 := h.s
  have hx : some Bx ≠ v.ownBlock := fun e => by
    obtain ⟨cells, hc⟩ := hty _ e.symm
    rw [h.x] at hc
    cases hc
  refine ⟨(hg.block _ (Array.getElem?_eq_some_iff.1 h.p).1 (fun e => by have := hs _ e.symm; omega)).trans h.p, (hg.block _ (Array.getElem?_eq_some_iff.1 h.x).1 hx).trans h.x,
    h.kf.trans (keeps_grown hg (fun r e => by obtain ⟨cells, hc⟩ := hty r e; exact ⟨_, _, _, hc⟩)),
    h.kp.trans ⟨(Below.refl _ _).grown hg h.b.size (fun k e => by have := hs k e; omega), fun b hb2 => by obtain rfl := List.mem_singleton.1 hb2; exact hg.block _ (by omega) (fun e => by have := hs _ e.symm; omega)⟩,
    h.b.grown hg h.b.size (fun k e => by have := hs k e; omega), Nat.le_trans hs3 hg.size⟩
/-- A store into the variable of the bytes. -/
theorem T5.set (h : T5 w W0 W g Bx x len at_ W1) (hx : w.heap.size + 3 ≤ Bx) (u : Value) : T5 w W0 W g Bx x len at_ (W1.setCell ⟨w.heap.size + 1, 0, none⟩ u) := by
  have e : ∀ i, i ≠ w.heap.size + 1 → (W1.setCell ⟨w.heap.size + 1, 0, none⟩ u).heap[i]? = W1.heap[i]? := fun i hi => Below.heap_setCell W1 ⟨w.heap.size + 1, 0, none⟩ u i hi
  exact ⟨(e _ (by omega)).trans h.p, (e _ (by omega)).trans h.x, h.kf.trans ((KeepsOthers.setCell _ _ _).from _), h.kp.trans ⟨(Below.refl _ W1).setCell (p := ⟨w.heap.size + 1, 0, none⟩) (by simp) _, fun b hb2 => by obtain rfl := List.mem_singleton.1 hb2; exact e _ (by omega)⟩, Below.setCell h.b (p := ⟨w.heap.size + 1, 0, none⟩) (by simp) _, by have := h.s; simpa using this⟩
end
theorem T5.own {β : Type} {w W0 W : World} {g Bx B : Nat} {x len at_ : Int} (hB : W.heap.size ≤ B) (hw : w.heap.size + 3 ≤ B) : OwnFrom B (fun (_ : β) W' => T5 w W0 W g Bx x len at_ W') := fun s X Y row h hg hr => by
  have hrw := fun k (e : row = some k) => (hr k e).1
  refine ⟨blk_own (β := Unit) _ _ _ _ () X Y row h.p hg (fun r e => (hr r e).2), blk_own (β := Unit) _ _ _ _ () X Y row h.x hg (fun r e => (hr r e).2), ownFrom_keepsFrom (β := Unit) hB () X Y row h.kf hg hr, ⟨h.kp.1.grown hg (by have := h.s; omega) (fun k e => by have := hrw k e; omega), fun b hb => ?_⟩, h.b.grown hg h.b.size (fun k e => by have := hrw k e; omega), Nat.le_trans h.s hg.size⟩
  have h2 := h.kp.2 b hb
  obtain rfl := List.mem_singleton.1 hb
  exact (hg.block _ (by have := h.s; omega) (fun e => by have := hrw _ e.symm; omega)).trans h2
theorem kpB_puts {w : World} {L : List Nat} {n0 : Nat} (h1 : w.heap.size ≤ n0) (h2 : ∀ b, b ∈ L → b < n0) : ∀ (W : World) (l : Nat) (o o' : Obj), n0 ≤ l → W.heap[l]? = some o → o.isCells = false → o.isWalk = false → KpB w L W (W.putObj l o') := fun W l o o' hl ho _ _ =>
  ⟨(Below.refl _ W).grown (grownBy_putObj' W l o') (by have := (Array.getElem?_eq_some_iff.1 ho).1; omega) (fun k e => by cases e; omega), fun b hb => by
    have := h2 b hb
    exact World.putObj_heap_other (by omega)⟩
/-- What stays in a round of the inner loop. -/
structure Y5 (w W0 W : World) (g Bx : Nat) (x len at_ : Int) (n m : Nat) (W' Wn : World) : Prop where
  t : T5 w W0 W g Bx x len at_ Wn
  p : Wn.heap[m]? = some (.cells #[.pointer (some ⟨g, 0, none⟩)] 28 (0, 0))
  f : Wn.heap[m + 1]? = some (.cells #[.int .i64 x, .int .i64 len, .int .u8 at_] 86 (0, 0))
  kf : KeepsFrom n W' Wn
  kp : KpB w [m + 1, m] W' Wn
section
variable {w W0 W W' W1 W2 : World} {g Bx n m k : Nat} {x len at_ : Int} {v : Value} {xs : List Value}
theorem kpB_two {A B : World} (hb : Below w.heap.size A B) (h1 : B.heap[m]? = A.heap[m]?) (h2 : B.heap[m + 1]? = A.heap[m + 1]?) : KpB w [m + 1, m] A B := ⟨hb, fun b hm => by
  simp only [List.mem_cons, List.not_mem_nil, or_false] at hm
  rcases hm with rfl | rfl
  · exact h2
  · exact h1⟩
theorem Y5.below (h : Y5 w W0 W g Bx x len at_ n m W' W1) (hb : Below W1.heap.size W1 W2) : Y5 w W0 W g Bx x len at_ n m W' W2 :=
  ⟨h.t.below hb, blk_below h.p hb, blk_below h.f hb, h.kf.trans (keeps_below hb), h.kp.trans (kpB_two (hb.mono h.t.b.size) (hb.block _ (Array.getElem?_eq_some_iff.1 h.p).1) (hb.block _ (Array.getElem?_eq_some_iff.1 h.f).1))⟩
theorem Y5.app (h : Y5 w W0 W g Bx x len at_ n m W' W1) (hrow : W1.ownsRow w.heap.size 5 1 v k xs) (hs : SideO (w.heap.size + 3) v) (hg : W1.grownBy W2 v.ownBlock) : Y5 w W0 W g Bx x len at_ n m W' W2 := by
  have hty := own_typed hrow
  have e1 : W2.heap[m]? = W1.heap[m]? := hg.block _ (Array.getElem?_eq_some_iff.1 h.p).1 (fun e => by
    obtain ⟨cells, hc⟩ := hty _ e.symm
    rw [h.p] at hc
    cases hc)
  have e2 : W2.heap[m + 1]? = W1.heap[m + 1]? := hg.block _ (Array.getElem?_eq_some_iff.1 h.f).1 (fun e => by
    obtain ⟨cells, hc⟩ := hty _ e.symm
    rw [h.f] at hc
    cases hc)
  exact ⟨h.t.app hrow hs hg, e1.trans h.p, e2.trans h.f, h.kf.trans (keeps_grown hg (fun r e => by obtain ⟨cells, hc⟩ := hty r e; exact ⟨_, _, _, hc⟩)),
    h.kp.trans (kpB_two ((Below.refl _ _).grown hg h.t.b.size (fun k e => by have := hs k e; omega)) e1 e2)⟩
theorem Y5.set (h : Y5 w W0 W g Bx x len at_ n m W' W1) (hx : w.heap.size + 3 ≤ Bx) (hm : w.heap.size + 3 ≤ m) (u : Value) : Y5 w W0 W g Bx x len at_ n m W' (W1.setCell ⟨w.heap.size + 1, 0, none⟩ u) := by
  have e : ∀ i, i ≠ w.heap.size + 1 → (W1.setCell ⟨w.heap.size + 1, 0, none⟩ u).heap[i]? = W1.heap[i]? := fun i hi => Below.heap_setCell W1 ⟨w.heap.size + 1, 0, none⟩ u i hi
  exact ⟨h.t.set hx u, (e _ (by omega)).trans h.p, (e _ (by omega)).trans h.f, h.kf.trans ((KeepsOthers.setCell _ _ _).from _), h.kp.trans (kpB_two ((Below.refl _ W1).setCell (p := ⟨w.heap.size + 1, 0, none⟩) (by simp) _) (e _ (by omega)) (e _ (by omega)))⟩
end
theorem flat_le {α : Type} (f : α → List Int) (n : Nat) (h : ∀ a, (f a).length ≤ n) : ∀ l : List α, (l.flatMap f).length ≤ l.length * n
  | [] => by simp
  | a :: l => by
    have h1 := flat_le f n h l
    have h2 := h a
    simp only [List.flatMap_cons, List.length_append, List.length_cons, Nat.add_mul]
    omega
theorem bytes_some (x : A.S34) : ∃ r, A.reply_bytes.f 10 x.f0 x.f1 x.f2 x.f3 x.f4 = some r ∧ r.length ≤ 2 := by
  unfold A.reply_bytes.f
  simp only [A.reply_bytes.j0, A.order_Plain.f]
  repeat (first | exact ⟨_, rfl, by simp⟩ | split | simp only [Option.bind_some])
theorem bytes_le (x : A.S34) : (bytesL x).length ≤ 2 := by
  obtain ⟨r, h, hl⟩ := bytes_some x
  rw [bytes_f] at h
  obtain rfl := Option.some.inj h
  exact hl
theorem cellOut_le (cs : List A.S34) (q : Int) : (cellOut cs q).length ≤ 2 := by
  unfold cellOut
  split
  · simp
  · exact bytes_le _
theorem fldMany_le (cs : List A.S34) (len : Int) : fldMany cs len ≤ cs.length := by unfold fldMany; split <;> split <;> omega
theorem fldOut_le (cs : List A.S34) (x : Int) (h : cs.length ≤ 4096) : (fldOut cs x).length ≤ 8195 := by
  unfold fldOut
  split
  · have h1 := flat_le (cellOut cs) 2 (cellOut_le cs) (placesTo cs x (fldMany cs (fldLen cs x)))
    have h2 := fldMany_le cs (fldLen cs x)
    rw [placesTo_len] at h1
    simp only [List.length_append, List.length_cons, List.length_nil]
    omega
  · simp
theorem outF_le (cs : List A.S34) (pre : List Int) (h : cs.length ≤ 4096) : (outF cs pre).length ≤ pre.length * 8195 := flat_le (fldOut cs) 8195 (fun x => fldOut_le cs x h) pre

set_option maxRecDepth 100000 in
set_option maxHeartbeats 4000000 in
theorem fields_in (g c0 : Nat) (A0 : Option Addr) (r c cur : Int) (cs : List A.S34) (w : World) (hI : IsP w g A0 c0 r c cs cur) :
    CallsIn Fence.wide 6 Try.prog 30 #[.pointer (some ⟨g, 0, none⟩)] w fun e W' =>
      ∃ v, e = .returned v ∧ W'.ownsRow w.heap.size 5 1 v (fieldsL cs).length (nu (fieldsL cs)) ∧ Below w.heap.size w W' := by
  have hu86 := Try.underlying86
  have hu34 := Try.underlying34
  have HI := Lib.hid hI
  have hsm := hI.small
  clear hI
  refine callsIn_of_wp_marks Try.func30 rfl trivial ?_ rfl
  simp only [Try.ntmps30, List.size_toArray, List.length_cons, List.length_nil, Nat.reduceAdd, Nat.reduceSub, Array.replicate_succ, Array.replicate_zero, List.push_toArray, List.append_toArray, List.nil_append, List.cons_append]
  gi_wp2_with (refine ⟨trivial, ?_⟩; gi_at_call 51; refine (all_c 5 g _).mono ?_; rintro e w' ⟨rfl, rfl⟩)
  have b1 := blk_alloc (blk_alloc (heap_alloc_new w (.cells #[.pointer (some ⟨g, 0, none⟩)] 28)) (.cells #[.slice none 0 0] 35)) (.cells #[.pointer (some ⟨g, 0, none⟩)] 28)
  have bO := blk_alloc (heap_alloc_new (w.alloc (.cells #[.pointer (some ⟨g, 0, none⟩)] 28)) (.cells #[.slice none 0 0] 35)) (.cells #[.pointer (some ⟨g, 0, none⟩)] 28)
  have b2 := heap_alloc_new ((w.alloc (.cells #[.pointer (some ⟨g, 0, none⟩)] 28)).alloc (.cells #[.slice none 0 0] 35)) (.cells #[.pointer (some ⟨g, 0, none⟩)] 28)
  have hsz : (((w.alloc (.cells #[.pointer (some ⟨g, 0, none⟩)] 28)).alloc (.cells #[.slice none 0 0] 35)).alloc (.cells #[.pointer (some ⟨g, 0, none⟩)] 28)).heap.size = w.heap.size + 3 := by simp
  have hB0 : Below w.heap.size w (((w.alloc (.cells #[.pointer (some ⟨g, 0, none⟩)] 28)).alloc (.cells #[.slice none 0 0] 35)).alloc (.cells #[.pointer (some ⟨g, 0, none⟩)] 28)) := below_alloc (below_alloc (below_alloc (Below.refl _ _) _) _) _
  simp only [World.size_alloc] at bO b2
  obtain ⟨W0, hW0⟩ : ∃ W0, (((w.alloc (.cells #[.pointer (some ⟨g, 0, none⟩)] 28)).alloc (.cells #[.slice none 0 0] 35)).alloc (.cells #[.pointer (some ⟨g, 0, none⟩)] 28)) = W0 := ⟨_, rfl⟩
  rw [hW0] at b1 bO b2 hB0 hsz ⊢
  clear hW0
  refine wpIn_rangeFunc_ownH (F := Fence.wide) (n := 6) rfl (by decide) (gf := 65) (lb := #[.pointer (some ⟨w.heap.size + 1 + 1, 0, none⟩)]) rfl trivial (fun args w => Go.Proofs.YtnifkdcjphekpaaW.PrintLast.enters_ Try.func65 (by kernel_rfl) rfl args w)
    (all_stops 5 (by decide) (w.heap.size + 1 + 1) g c0 A0 r c cur cs w W0 HI.out [w.heap.size + 1 + 1] (List.mem_singleton.2 rfl) hB0 b2) (fun h h' => h.trans h') (kpB_put (by omega) (by omega)) (Below.refl _ _) (fun _ => rfl)
    (fun pre W => ((∃ v, Boxed W (w.heap.size + 1) 35 v ∧ W.ownsRow w.heap.size 5 1 v (outF cs (vals pre)).length (nu (outF cs (vals pre))) ∧ SideO (w.heap.size + 3) v) ∧ W.heap[w.heap.size]? = some (.cells #[.pointer (some ⟨g, 0, none⟩)] 28 (0, 0))) ∧ Below w.heap.size w W ∧ w.heap.size + 3 ≤ W.heap.size)
    (fun _ _ _ => False)
    (OwnFrom.and (OwnFrom.and (Own.from (holdsRow_own w.heap.size (w.heap.size + 1) 35 5 1 (fun pre => (outF cs (vals pre)).length) (fun pre => nu (outF cs (vals pre))) (fun _ v => SideO (w.heap.size + 3) v)) _) (Own.from (blk_own _ _ _ _) _)) (OwnFrom.and (ownFrom_below (Nat.le_refl _) (by omega)) (fun _ A B row hs hg _ => Nat.le_trans hs hg.size)))
    (fun _ _ _ _ _ hs _ _ => hs)
    ⟨⟨⟨_, bO, own_nil _ _ _ _, fun k h => by cases h⟩, b1⟩, hB0, by omega⟩
    (fun (x : Pl cs) a' W => ∃ Bx, w.heap.size + 3 ≤ Bx ∧ W.heap[Bx]? = some (.cells #[.int .i64 x.1, .int .i64 (fldLen cs x.1), .int .u8 (fldAttr cs x.1)] 86 (0, 0)) ∧ a' = { tmps := #[.pointer (some ⟨g, 0, none⟩), .pointer (some ⟨w.heap.size, 0, none⟩), .slice none 0 0, .pointer (some ⟨w.heap.size + 1, 0, none⟩), .pointer (some ⟨Bx, 0, none⟩), undef, undef, .pointer (some ⟨g, 0, none⟩), .func (.func 65) #[] #[.pointer (some ⟨w.heap.size + 1 + 1, 0, none⟩)], .agg #[.int .i64 x.1, .int .i64 (fldLen cs x.1), .int .u8 (fldAttr cs x.1)], undef, undef, undef, undef, undef, undef, undef, undef, undef, undef, undef, undef, undef, undef, undef, undef, undef, undef, undef, undef, undef, undef, undef, undef, undef, undef, undef, undef, undef, undef], defers := [] })
    (fun x a' _ X Y row hs hg hr => by obtain ⟨Bx, h1, h2, h3⟩ := hs; exact ⟨Bx, h1, blk_own (β := Unit) Bx _ _ _ () X Y row h2 hg (fun r e => (hr r e).2), h3⟩)
    ?assign ?body ?done ?stop
  case assign =>
    rintro l pre ⟨x, hx0, hx1⟩ W K ⟨⟨hv1, bB1⟩, hB1, h3⟩ hK
    unfold fldV
    gi_wp2
    have hb := below_alloc (Below.refl W.heap.size W) (.cells #[.int .i64 x, .int .i64 (fldLen cs x), .int .u8 (fldAttr cs x)] 86)
    obtain ⟨v, hv, hrow, hs⟩ := hv1
    exact hK _ _ ((KeepsOthers.alloc _ _).from _) ⟨hb.mono hB1.size, fun b hb2 => by obtain rfl := List.mem_singleton.1 hb2; exact hb.block _ (by omega)⟩
      ⟨⟨⟨v, blk_below hv hb, hrow.alloc _, hs⟩, blk_below bB1 hb⟩, below_step hB1 hb, Nat.le_trans h3 hb.size⟩ ⟨W.heap.size, h3, heap_alloc_new _ _, rfl⟩
  case body =>
    rintro l pre ⟨x, hx0, hx1⟩ a' W hl ⟨lr, hlr⟩ ⟨⟨hv1, bB1⟩, hB1, h3⟩ ⟨Bx, hBx, bX, rfl⟩ hlt
    have cB := boxed_cell bB1
    have cX0 : W.cell? ⟨Bx, 0, none⟩ = some (.int .i64 x) := (blk_cell bX 0).trans rfl
    have cX2 : W.cell? ⟨Bx, 2, none⟩ = some (.int .u8 (fldAttr cs x)) := (blk_cell bX 2).trans rfl
    by_cases hm : modB (fldAttr cs x) = true
    · gi_wp2_with (refine ⟨trivial, ?_⟩; gi_at_call 52; refine (CallsIn.inRound l (callsIn_wide.2 (A.attr_Modified.calls (fldAttr cs x) _ _ (mod_f _)))).mono ?_; rintro e w' ⟨rfl, hd⟩; obtain ⟨m1, rfl⟩ := hd.out; rw [hm])
      obtain ⟨v, hv, hrow, hs⟩ := hv1
      have HN1 := Lib.hid HI.out.n1
      have HOL : Hid ((outF cs (vals pre)).length ≤ 4096 * 8195) := Lib.hid (Nat.le_trans (outF_le cs (vals pre) hsm) (Nat.mul_le_mul_right _ (by have h9 := Nat.le_of_lt hlt; simpa [vals] using h9)))
      have HSD := Lib.hid hs
      have HT0 : Hid (T5 w W0 W g Bx x (fldLen cs x) (fldAttr cs x) (W.drewN m1)) := Lib.hid (T5.below (W1 := W) ⟨bB1, bX, KeepsFrom.refl _ _, ⟨Below.refl _ _, fun _ _ => rfl⟩, hB1, h3⟩ (pw_below_drewN (Below.refl _ _) m1))
      have HR0 : Hid ((W.drewN m1).ownsRow w.heap.size 5 1 v (outF cs (vals pre)).length (nu (outF cs (vals pre)))) := Lib.hid (pw_own_below hrow (pw_below_drewN (Below.refl _ _) m1))
      have HO0 : Hid ((W.drewN m1).heap[w.heap.size + 1]? = some (.cells #[v] 35 (0, 0))) := Lib.hid hv
      obtain ⟨U, hU⟩ : ∃ U, W.drewN m1 = U := ⟨_, rfl⟩
      rw [hU] at HT0 HR0 HO0 ⊢
      clear hU hv hrow hs bB1 cB cX0 cX2 bX hlt
      gi_cut [] from 14 (fun wx => ∃ v7, T5 w W0 W g Bx x (fldLen cs x) (fldAttr cs x) wx ∧ wx.heap[w.heap.size + 1]? = some (.cells #[v7] 35 (0, 0)) ∧ wx.ownsRow w.heap.size 5 1 v7 (outF cs (vals pre) ++ [17] ++ [dig ((x + 1) % cs.length / 64), dig ((x + 1) % cs.length)]).length (nu (outF cs (vals pre) ++ [17] ++ [dig ((x + 1) % cs.length / 64), dig ((x + 1) % cs.length)])) ∧ SideO (w.heap.size + 3) v7)
      case first =>
        have HTV := Lib.hid (HT0.out.below (bdw (n := U.heap.size) (W := U)))
        have HRV := Lib.hid (pw_own_below HR0.out (bdw (n := U.heap.size) (W := U)))
        have HOV := Lib.hid (blk_below HO0.out (bdw (n := U.heap.size) (W := U)))
        obtain ⟨V, hV⟩ : ∃ V, V = U.drew := ⟨_, rfl⟩
        refine region_in (S := (fun W' => W'.cell? ⟨w.heap.size, 0, none⟩ = some (.pointer (some ⟨g, 0, none⟩)) ∧ W'.cell? ⟨Bx, 0, none⟩ = some (.int .i64 x))) (by kernel_rfl) (by kernel_rfl) (fun h => by obtain ⟨_, _, h⟩ := h; exact h) ⟨boxed_cell HTV.out.p, (blk_cell HTV.out.x 0).trans rfl⟩ (fun hHeld => ?_)
        rw [← hV] at hHeld HTV HRV HOV ⊢
        clear hV HT0 HR0 HO0
        have cO := boxed_cell HOV.out
        refine wpAnyH_take (i := 6) (v := .pointer (some ⟨Bx, 0, none⟩)) rfl (by kernel_rfl) (by kernel_rfl) (by kernel_rfl) (fun _ _ _ h => h) (Or.inl ⟨by rfl, fun W8 hS8 => by (have s1 := hS8.1; have s2 := hS8.2); go_simp⟩) (by assumption) ?_
        (try simp only [Act.put, List.setIfInBounds_toArray, List.set_cons_zero, List.set_cons_succ])
        refine wpAnyH_take (i := 3) (v := (.pointer (some ⟨g, 0, none⟩))) rfl (by kernel_rfl) (by kernel_rfl) (by kernel_rfl) (fun _ _ _ h => h) (Or.inl ⟨by rfl, fun W8 hS8 => by (have s1 := hS8.1; have s2 := hS8.2); go_simp⟩) (by assumption) ?_
        (try simp only [Act.put, List.setIfInBounds_toArray, List.set_cons_zero, List.set_cons_succ])
        refine wpAnyH_take (i := 4) (v := (.pointer (some ⟨g, 0, none⟩))) rfl (by kernel_rfl) (by kernel_rfl) (by kernel_rfl) (fun _ _ _ h => h) (Or.inl ⟨by rfl, fun W8 hS8 => by (have s1 := hS8.1; have s2 := hS8.2); go_simp⟩) (by assumption) ?_
        (try simp only [Act.put, List.setIfInBounds_toArray, List.set_cons_zero, List.set_cons_succ])
        refine wpAnyH_take (i := 7) (v := .int .i64 x) rfl (by kernel_rfl) (by kernel_rfl) (by kernel_rfl) (fun _ _ _ h => h) (Or.inl ⟨by rfl, fun W8 hS8 => by (have s1 := hS8.1; have s2 := hS8.2); go_simp⟩) (by assumption) ?_
        (try simp only [Act.put, List.setIfInBounds_toArray, List.set_cons_zero, List.set_cons_succ])
        have HT1 := Lib.hid (HTV.out.below (below_alloc (Below.refl V.heap.size V) (.cells #[.int .u8 17] 5)))
        have HR1 := Lib.hid (pw_own_below HRV.out (below_alloc (Below.refl V.heap.size V) (.cells #[.int .u8 17] 5)))
        have HO1 := Lib.hid (blk_below HOV.out (below_alloc (Below.refl V.heap.size V) (.cells #[.int .u8 17] 5)))
        have HL1 := Lib.hid (heap_alloc_new V (.cells #[.int .u8 17] 5))
        have cO1 := boxed_cell HO1.out
        refine wpAnyH_ready (rs := [0, 1]) (by kernel_rfl) (by simp) ?_
        refine AllReadyH.cons rfl (fun K hK => ?_) (AllReadyH.cons rfl (fun K hK => ?_) AllReadyH.nil)
        · go_simp
          refine hK.out _ _ ⟨boxed_cell HTV.out.p, (blk_cell HTV.out.x 0).trans rfl⟩ (fun hHeld => ?_)
          clear hK K
          (try simp only [Act.put, List.setIfInBounds_toArray, List.set_cons_zero, List.set_cons_succ])
          refine wpAnyH_ready (rs := [1]) (by kernel_rfl) (by simp) ?_
          refine AllReadyH.cons rfl (fun K hK => ?_) AllReadyH.nil
          go_simp
          refine hK.out _ _ ⟨boxed_cell HT1.out.p, (blk_cell HT1.out.x 0).trans rfl⟩ (fun hHeld => ?_)
          clear hK K
          (try simp only [Act.put, List.setIfInBounds_toArray, List.set_cons_zero, List.set_cons_succ])
          refine wpAnyH_ready (rs := [2]) (by kernel_rfl) (by simp) ?_
          refine AllReadyH.cons rfl (fun K hK => ?_) AllReadyH.nil
          refine step_append_row (w0 := w) (by rfl) w.heap.size (.tmp 14) (.tmp 15) 35 5 .u8 1 rfl Try.underlying35 hinfo5 (by decide) v (outF cs (vals pre)) [17] (some ⟨V.heap.size, 0, none⟩) 1 1 rfl rfl HR1.out (reads_one HL1.out) HT1.out.b HT1.out.b.size (by have := HOL.out; omega) (fun v2 w2 hown2 hb2 hg2 hat2 => ?_)
          have HT2 : Hid (T5 w W0 W g Bx x (fldLen cs x) (fldAttr cs x) w2) := Lib.hid (HT1.out.app HR1.out HSD.out hg2)
          have HS2 : Hid (SideO (w.heap.size + 3) v2) := Lib.hid (side_on HSD.out HT1.out.s hat2)
          have HR2 := Lib.hid hown2
          have HO2 : Hid (w2.heap[w.heap.size + 1]? = some (.cells #[v] 35 (0, 0))) := Lib.hid ((hg2.block _ (Array.getElem?_eq_some_iff.1 HO1.out).1 (fun e => by have := HSD.out _ e.symm; omega)).trans HO1.out)
          clear hown2 hb2 hg2 hat2
          refine hK.out _ _ ⟨boxed_cell HT2.out.p, (blk_cell HT2.out.x 0).trans rfl⟩ (fun hHeld => ?_)
          clear hK K
          (try simp only [Act.put, List.setIfInBounds_toArray, List.set_cons_zero, List.set_cons_succ])
          refine wpAnyH_ready (rs := [5]) (by kernel_rfl) (by simp) ?_
          refine AllReadyH.cons rfl (fun K hK => ?_) AllReadyH.nil
          go_simp
          refine (size_p (HI.out.later HT2.out.b)).mono ?_
          rintro e w3 ⟨rfl, hb3⟩
          have HT3 := Lib.hid (HT2.out.below hb3)
          have HR3 := Lib.hid (pw_own_below HR2.out hb3)
          have HO3 := Lib.hid (blk_below HO2.out hb3)
          clear hb3
          refine hK.out _ _ ⟨boxed_cell HT3.out.p, (blk_cell HT3.out.x 0).trans rfl⟩ (fun hHeld => ?_)
          clear hK K
          (try simp only [Act.put, List.setIfInBounds_toArray, List.set_cons_zero, List.set_cons_succ])
          refine wpAnyH_ready (rs := [8]) (by kernel_rfl) (by simp) ?_
          refine AllReadyH.cons rfl (fun K hK => ?_) AllReadyH.nil
          go_simp
          refine (move_c (HI.out.later HT3.out.b) x 1).mono ?_
          rintro e w4 ⟨rfl, hb4⟩
          have HT4 := Lib.hid (HT3.out.below hb4)
          have HR4 := Lib.hid (pw_own_below HR3.out hb4)
          have HO4 := Lib.hid (blk_below HO3.out hb4)
          clear hb4
          refine hK.out _ _ ⟨boxed_cell HT4.out.p, (blk_cell HT4.out.x 0).trans rfl⟩ (fun hHeld => ?_)
          clear hK K
          (try simp only [Act.put, List.setIfInBounds_toArray, List.set_cons_zero, List.set_cons_succ])
          refine wpAnyH_ready (rs := [9]) (by kernel_rfl) (by simp) ?_
          refine AllReadyH.cons rfl (fun K hK => ?_) AllReadyH.nil
          go_simp
          refine (place_p (HI.out.later HT4.out.b) ((x + 1) % cs.length) (Int.emod_nonneg _ (by have := HN1.out; omega)) (Int.emod_lt_of_pos _ (by have := HN1.out; omega))).mono ?_
          rintro e w5 ⟨b5, rfl, hp5, hb5⟩
          have HT5 := Lib.hid (HT4.out.below hb5)
          have HR5 := Lib.hid (pw_own_below HR4.out hb5)
          have HO5 := Lib.hid (blk_below HO4.out hb5)
          have HP5 := Lib.hid hp5
          clear hp5 hb5
          refine hK.out _ _ ⟨boxed_cell HT5.out.p, (blk_cell HT5.out.x 0).trans rfl⟩ (fun hHeld => ?_)
          clear hK K
          (try simp only [Act.put, List.setIfInBounds_toArray, List.set_cons_zero, List.set_cons_succ])
          refine wpAnyH_ready (rs := [10]) (by kernel_rfl) (by simp) ?_
          refine AllReadyH.cons rfl (fun K hK => ?_) AllReadyH.nil
          refine step_append_row (w0 := w) (by rfl) w.heap.size (.tmp 16) (.tmp 23) 35 5 .u8 1 rfl Try.underlying35 hinfo5 (by decide) v2 (outF cs (vals pre) ++ [17]) [dig ((x + 1) % cs.length / 64), dig ((x + 1) % cs.length)] (some ⟨b5, 0, none⟩) 2 2 rfl rfl HR5.out (reads_two HP5.out) HT5.out.b HT5.out.b.size (by have := HOL.out; simp only [List.length_append, List.length_cons, List.length_nil]; omega) (fun v6 w6 hown6 hb6 hg6 hat6 => ?_)
          obtain ⟨A6, n6, c6, rfl⟩ := own_slice hown6
          have HT6 : Hid (T5 w W0 W g Bx x (fldLen cs x) (fldAttr cs x) w6) := Lib.hid (HT5.out.app HR5.out HS2.out hg6)
          have HS6 : Hid (SideO (w.heap.size + 3) (.slice A6 n6 c6)) := Lib.hid (side_on HS2.out HT5.out.s hat6)
          have HR6 := Lib.hid hown6
          have HO6 : Hid (w6.heap[w.heap.size + 1]? = some (.cells #[v] 35 (0, 0))) := Lib.hid ((hg6.block _ (Array.getElem?_eq_some_iff.1 HO5.out).1 (fun e => by have := HS2.out _ e.symm; omega)).trans HO5.out)
          clear hown6 hb6 hg6 hat6
          refine hK.out _ _ ⟨boxed_cell HT6.out.p, (blk_cell HT6.out.x 0).trans rfl⟩ (fun hHeld => ?_)
          clear hK K
          (try simp only [Act.put, List.setIfInBounds_toArray, List.set_cons_zero, List.set_cons_succ])
          refine wpAnyH_ready (rs := [11]) (by kernel_rfl) (by simp) ?_
          refine AllReadyH.cons rfl (fun K hK => ?_) AllReadyH.nil
          have cO6 := boxed_cell HO6.out
          have fO6 := blk_frozen HO6.out 0
          go_simp
          have HT7 := Lib.hid (HT6.out.set hBx (.slice A6 n6 c6))
          refine hK.out _ _ ⟨boxed_cell HT7.out.p, (blk_cell HT7.out.x 0).trans rfl⟩ (fun hHeld => ?_)
          clear hK K
          (try simp only [Act.put, List.setIfInBounds_toArray, List.set_cons_zero, List.set_cons_succ])
          refine wpAnyH_done (by kernel_rfl) ?_ _
          gi_wp2
          gi_meet
          case rel => exact ⟨.slice A6 n6 c6, HT7.out, blk_set HO6.out 0 (.slice A6 n6 c6), ownsRow_setCell_other HR6.out (a := ⟨w.heap.size + 1, 0, none⟩) (fun e => absurd (HS6.out _ e) (by show ¬ (w.heap.size + 3 ≤ w.heap.size + 1); omega)) (.slice A6 n6 c6), HS6.out⟩
        · go_simp
          refine hK.out _ _ ⟨boxed_cell HT1.out.p, (blk_cell HT1.out.x 0).trans rfl⟩ (fun hHeld => ?_)
          clear hK K
          (try simp only [Act.put, List.setIfInBounds_toArray, List.set_cons_zero, List.set_cons_succ])
          refine wpAnyH_ready (rs := [0]) (by kernel_rfl) (by simp) ?_
          refine AllReadyH.cons rfl (fun K hK => ?_) AllReadyH.nil
          go_simp
          refine hK.out _ _ ⟨boxed_cell HT1.out.p, (blk_cell HT1.out.x 0).trans rfl⟩ (fun hHeld => ?_)
          clear hK K
          (try simp only [Act.put, List.setIfInBounds_toArray, List.set_cons_zero, List.set_cons_succ])
          refine wpAnyH_ready (rs := [2]) (by kernel_rfl) (by simp) ?_
          refine AllReadyH.cons rfl (fun K hK => ?_) AllReadyH.nil
          refine step_append_row (w0 := w) (by rfl) w.heap.size (.tmp 14) (.tmp 15) 35 5 .u8 1 rfl Try.underlying35 hinfo5 (by decide) v (outF cs (vals pre)) [17] (some ⟨V.heap.size, 0, none⟩) 1 1 rfl rfl HR1.out (reads_one HL1.out) HT1.out.b HT1.out.b.size (by have := HOL.out; omega) (fun v2 w2 hown2 hb2 hg2 hat2 => ?_)
          have HT2 : Hid (T5 w W0 W g Bx x (fldLen cs x) (fldAttr cs x) w2) := Lib.hid (HT1.out.app HR1.out HSD.out hg2)
          have HS2 : Hid (SideO (w.heap.size + 3) v2) := Lib.hid (side_on HSD.out HT1.out.s hat2)
          have HR2 := Lib.hid hown2
          have HO2 : Hid (w2.heap[w.heap.size + 1]? = some (.cells #[v] 35 (0, 0))) := Lib.hid ((hg2.block _ (Array.getElem?_eq_some_iff.1 HO1.out).1 (fun e => by have := HSD.out _ e.symm; omega)).trans HO1.out)
          clear hown2 hb2 hg2 hat2
          refine hK.out _ _ ⟨boxed_cell HT2.out.p, (blk_cell HT2.out.x 0).trans rfl⟩ (fun hHeld => ?_)
          clear hK K
          (try simp only [Act.put, List.setIfInBounds_toArray, List.set_cons_zero, List.set_cons_succ])
          refine wpAnyH_ready (rs := [5]) (by kernel_rfl) (by simp) ?_
          refine AllReadyH.cons rfl (fun K hK => ?_) AllReadyH.nil
          go_simp
          refine (size_p (HI.out.later HT2.out.b)).mono ?_
          rintro e w3 ⟨rfl, hb3⟩
          have HT3 := Lib.hid (HT2.out.below hb3)
          have HR3 := Lib.hid (pw_own_below HR2.out hb3)
          have HO3 := Lib.hid (blk_below HO2.out hb3)
          clear hb3
          refine hK.out _ _ ⟨boxed_cell HT3.out.p, (blk_cell HT3.out.x 0).trans rfl⟩ (fun hHeld => ?_)
          clear hK K
          (try simp only [Act.put, List.setIfInBounds_toArray, List.set_cons_zero, List.set_cons_succ])
          refine wpAnyH_ready (rs := [8]) (by kernel_rfl) (by simp) ?_
          refine AllReadyH.cons rfl (fun K hK => ?_) AllReadyH.nil
          go_simp
          refine (move_c (HI.out.later HT3.out.b) x 1).mono ?_
          rintro e w4 ⟨rfl, hb4⟩
          have HT4 := Lib.hid (HT3.out.below hb4)
          have HR4 := Lib.hid (pw_own_below HR3.out hb4)
          have HO4 := Lib.hid (blk_below HO3.out hb4)
          clear hb4
          refine hK.out _ _ ⟨boxed_cell HT4.out.p, (blk_cell HT4.out.x 0).trans rfl⟩ (fun hHeld => ?_)
          clear hK K
          (try simp only [Act.put, List.setIfInBounds_toArray, List.set_cons_zero, List.set_cons_succ])
          refine wpAnyH_ready (rs := [9]) (by kernel_rfl) (by simp) ?_
          refine AllReadyH.cons rfl (fun K hK => ?_) AllReadyH.nil
          go_simp
          refine (place_p (HI.out.later HT4.out.b) ((x + 1) % cs.length) (Int.emod_nonneg _ (by have := HN1.out; omega)) (Int.emod_lt_of_pos _ (by have := HN1.out; omega))).mono ?_
          rintro e w5 ⟨b5, rfl, hp5, hb5⟩
          have HT5 := Lib.hid (HT4.out.below hb5)
          have HR5 := Lib.hid (pw_own_below HR4.out hb5)
          have HO5 := Lib.hid (blk_below HO4.out hb5)
          have HP5 := Lib.hid hp5
          clear hp5 hb5
          refine hK.out _ _ ⟨boxed_cell HT5.out.p, (blk_cell HT5.out.x 0).trans rfl⟩ (fun hHeld => ?_)
          clear hK K
          (try simp only [Act.put, List.setIfInBounds_toArray, List.set_cons_zero, List.set_cons_succ])
          refine wpAnyH_ready (rs := [10]) (by kernel_rfl) (by simp) ?_
          refine AllReadyH.cons rfl (fun K hK => ?_) AllReadyH.nil
          refine step_append_row (w0 := w) (by rfl) w.heap.size (.tmp 16) (.tmp 23) 35 5 .u8 1 rfl Try.underlying35 hinfo5 (by decide) v2 (outF cs (vals pre) ++ [17]) [dig ((x + 1) % cs.length / 64), dig ((x + 1) % cs.length)] (some ⟨b5, 0, none⟩) 2 2 rfl rfl HR5.out (reads_two HP5.out) HT5.out.b HT5.out.b.size (by have := HOL.out; simp only [List.length_append, List.length_cons, List.length_nil]; omega) (fun v6 w6 hown6 hb6 hg6 hat6 => ?_)
          obtain ⟨A6, n6, c6, rfl⟩ := own_slice hown6
          have HT6 : Hid (T5 w W0 W g Bx x (fldLen cs x) (fldAttr cs x) w6) := Lib.hid (HT5.out.app HR5.out HS2.out hg6)
          have HS6 : Hid (SideO (w.heap.size + 3) (.slice A6 n6 c6)) := Lib.hid (side_on HS2.out HT5.out.s hat6)
          have HR6 := Lib.hid hown6
          have HO6 : Hid (w6.heap[w.heap.size + 1]? = some (.cells #[v] 35 (0, 0))) := Lib.hid ((hg6.block _ (Array.getElem?_eq_some_iff.1 HO5.out).1 (fun e => by have := HS2.out _ e.symm; omega)).trans HO5.out)
          clear hown6 hb6 hg6 hat6
          refine hK.out _ _ ⟨boxed_cell HT6.out.p, (blk_cell HT6.out.x 0).trans rfl⟩ (fun hHeld => ?_)
          clear hK K
          (try simp only [Act.put, List.setIfInBounds_toArray, List.set_cons_zero, List.set_cons_succ])
          refine wpAnyH_ready (rs := [11]) (by kernel_rfl) (by simp) ?_
          refine AllReadyH.cons rfl (fun K hK => ?_) AllReadyH.nil
          have cO6 := boxed_cell HO6.out
          have fO6 := blk_frozen HO6.out 0
          go_simp
          have HT7 := Lib.hid (HT6.out.set hBx (.slice A6 n6 c6))
          refine hK.out _ _ ⟨boxed_cell HT7.out.p, (blk_cell HT7.out.x 0).trans rfl⟩ (fun hHeld => ?_)
          clear hK K
          (try simp only [Act.put, List.setIfInBounds_toArray, List.set_cons_zero, List.set_cons_succ])
          refine wpAnyH_done (by kernel_rfl) ?_ _
          gi_wp2
          gi_meet
          case rel => exact ⟨.slice A6 n6 c6, HT7.out, blk_set HO6.out 0 (.slice A6 n6 c6), ownsRow_setCell_other HR6.out (a := ⟨w.heap.size + 1, 0, none⟩) (fun e => absurd (HS6.out _ e) (by show ¬ (w.heap.size + 3 ≤ w.heap.size + 1); omega)) (.slice A6 n6 c6), HS6.out⟩
      case rest =>
        obtain ⟨v7, hT, hO, hR, hS⟩ := hcut
        rename_i Ka ka Kb kb
        refine kb _ _ ?_
        clear kb Kb
        have cB := boxed_cell hT.p
        have cX0 : wc.cell? ⟨Bx, 0, none⟩ = some (.int .i64 x) := (blk_cell hT.x 0).trans rfl
        have cX1 : wc.cell? ⟨Bx, 1, none⟩ = some (.int .i64 (fldLen cs x)) := (blk_cell hT.x 1).trans rfl
        have cX2 : wc.cell? ⟨Bx, 2, none⟩ = some (.int .u8 (fldAttr cs x)) := (blk_cell hT.x 2).trans rfl
        gi_wp2_with (refine ⟨trivial, ?_⟩; gi_at_call 55; refine (CallsIn.inRound l (places_c _ g x (fldLen cs x) (fldAttr cs x) _)).mono ?_; rintro e w' ⟨rfl, rfl⟩)
        clear cB cX0 cX1 cX2
        obtain ⟨bs, hbs⟩ : ∃ bs, outF cs (vals pre) ++ [17] ++ [dig ((x + 1) % cs.length / 64), dig ((x + 1) % cs.length)] = bs := ⟨_, rfl⟩
        have hbl : Hid (bs.length ≤ 4096 * 8195 + 3) := Lib.hid (by rw [← hbs]; have := HOL.out; simp only [List.length_append, List.length_cons, List.length_nil]; omega)
        rw [hbs] at hR
        have HBS := Lib.hid hbs
        clear hbs HOL
        have hl1 : wc.heap[l]? = some (.loop lr) := hT.kf.same l _ hl hlr rfl
        have hb2 : Below wc.heap.size wc ((wc.alloc (.cells #[.pointer (some ⟨g, 0, none⟩)] 28)).alloc (.cells #[.int .i64 x, .int .i64 (fldLen cs x), .int .u8 (fldAttr cs x)] 86)) := below_alloc (below_alloc (Below.refl wc.heap.size wc) (.cells #[.pointer (some ⟨g, 0, none⟩)] 28)) (.cells #[.int .i64 x, .int .i64 (fldLen cs x), .int .u8 (fldAttr cs x)] 86)
        have hl2 := blk_below hl1 hb2
        have hT2 := hT.below hb2
        have hO2 := blk_below hO hb2
        have hR2 := pw_own_below hR hb2
        have hP2 := blk_alloc (heap_alloc_new wc (.cells #[.pointer (some ⟨g, 0, none⟩)] 28)) (.cells #[.int .i64 x, .int .i64 (fldLen cs x), .int .u8 (fldAttr cs x)] 86)
        have hF2 := heap_alloc_new (wc.alloc (.cells #[.pointer (some ⟨g, 0, none⟩)] 28)) (.cells #[.int .i64 x, .int .i64 (fldLen cs x), .int .u8 (fldAttr cs x)] 86)
        have hsz2 : ((wc.alloc (.cells #[.pointer (some ⟨g, 0, none⟩)] 28)).alloc (.cells #[.int .i64 x, .int .i64 (fldLen cs x), .int .u8 (fldAttr cs x)] 86)).heap.size = wc.heap.size + 2 := by simp
        simp only [World.size_alloc] at hF2
        obtain ⟨W2, hW2⟩ : ∃ W2, (wc.alloc (.cells #[.pointer (some ⟨g, 0, none⟩)] 28)).alloc (.cells #[.int .i64 x, .int .i64 (fldLen cs x), .int .u8 (fldAttr cs x)] 86) = W2 := ⟨_, rfl⟩
        rw [hW2] at hl2 hT2 hO2 hR2 hP2 hF2 hsz2 ⊢
        clear hW2 hb2
        have hws := hT.s
        have hWW := hT.kf.size
        refine wpIn_rangeFunc_ownN (l₀ := l) (r₀ := lr) rfl hl2 (by decide) (gf := 67) (lb := #[.pointer (some ⟨wc.heap.size + 1, 0, none⟩), .pointer (some ⟨wc.heap.size, 0, none⟩)]) rfl trivial (fun args w => Go.Proofs.YtnifkdcjphekpaaW.PrintLast.enters_ Try.func67 (by kernel_rfl) rfl args w)
          ((places_stops 3 (by decide) (wc.heap.size + 1) wc.heap.size g c0 A0 r c cur cs x (fldLen cs x) (fldAttr cs x) hx0 hx1 w W2 HI.out [wc.heap.size + 1, wc.heap.size] (by simp) (by simp) hT2.b hP2 hF2).inRound l) (fun h h' => h.trans h') (kpB_puts (by omega) (fun b hb => by simp at hb; omega)) (Below.refl _ _) (fun _ => rfl)
          (fun p W' => ((∃ v, Boxed W' (w.heap.size + 1) 35 v ∧ W'.ownsRow w.heap.size 5 1 v (bs ++ (vals p).flatMap (cellOut cs)).length (nu (bs ++ (vals p).flatMap (cellOut cs))) ∧ SideO (w.heap.size + 3) v) ∧ T5 w W0 W g Bx x (fldLen cs x) (fldAttr cs x) W') ∧ W'.heap[wc.heap.size]? = some (.cells #[.pointer (some ⟨g, 0, none⟩)] 28 (0, 0)) ∧ W'.heap[wc.heap.size + 1]? = some (.cells #[.int .i64 x, .int .i64 (fldLen cs x), .int .u8 (fldAttr cs x)] 86 (0, 0)))
          (fun _ _ _ => False)
          (OwnFrom.and (OwnFrom.and (Own.from (holdsRow_own w.heap.size (w.heap.size + 1) 35 5 1 (fun p => (bs ++ (vals p).flatMap (cellOut cs)).length) (fun p => nu (bs ++ (vals p).flatMap (cellOut cs))) (fun _ v => SideO (w.heap.size + 3) v)) _) (T5.own (by omega) (by omega))) (OwnFrom.and (Own.from (blk_own _ _ _ _) _) (Own.from (blk_own _ _ _ _) _)))
          (fun _ _ _ _ _ hs _ _ => hs)
          ⟨⟨⟨v7, hO2, by simpa [vals] using hR2, hS⟩, hT2⟩, hP2, hF2⟩
          (fun (q : Pl cs) a'' _ => a'' = { tmps := #[.pointer (some ⟨g, 0, none⟩), .pointer (some ⟨w.heap.size, 0, none⟩), .slice none 0 0, .pointer (some ⟨w.heap.size + 1, 0, none⟩), .pointer (some ⟨Bx, 0, none⟩), .int .i64 q.1, undef, .pointer (some ⟨g, 0, none⟩), .func (.func 65) #[] #[.pointer (some ⟨w.heap.size + 1 + 1, 0, none⟩)], .agg #[.int .i64 x, .int .i64 (fldLen cs x), .int .u8 (fldAttr cs x)], .pointer (some ⟨Bx, 2, none⟩), .int .u8 (fldAttr cs x), .bool true, .bool false, u14, u15, u16, u17, u18, u19, u20, u21, u22, u23, u24, .pointer (some ⟨g, 0, none⟩), .agg #[.int .i64 x, .int .i64 (fldLen cs x), .int .u8 (fldAttr cs x)], .func (.func 67) #[] #[.pointer (some ⟨wc.heap.size + 1, 0, none⟩), .pointer (some ⟨wc.heap.size, 0, none⟩)], .int .i64 q.1, u29, u30, u31, u32, u33, u34, u35, u36, u37, u38, u39], defers := [] })
          (fun _ _ _ _ _ _ hs _ _ => hs)
          ?assign2 ?body2 ?done2 ?stop2
        case assign2 =>
          rintro l2 pre' q W' K hi hK
          gi_wp2
          exact hK _ _ (KeepsFrom.refl _ _) ⟨Below.refl _ _, fun _ _ => rfl⟩ hi rfl
        case body2 =>
          rintro l2 pre' ⟨q, hq0, hq1⟩ a'' W' _ _ ⟨⟨⟨v8, hv8, hr8, hs8⟩, hT8⟩, hP8, hF8⟩ rfl hlt8
          have HY0 : Hid (Y5 w W0 W g Bx x (fldLen cs x) (fldAttr cs x) W2.heap.size wc.heap.size W' W') := Lib.hid ⟨hT8, hP8, hF8, KeepsFrom.refl _ _, ⟨Below.refl _ _, fun _ _ => rfl⟩⟩
          have HR0 := Lib.hid hr8
          have HO0 := Lib.hid hv8
          have HS0 := Lib.hid hs8
          have cB := boxed_cell hT8.p
          clear hv8 hr8 hs8 hT8 hP8 hF8 hR hO hS hT hR2 hO2 hP2 hF2 hT2
          have hcell := cellOut_le cs q
          have HCL : Hid ((bs ++ (vals pre').flatMap (cellOut cs)).length ≤ 4096 * 8195 + 3 + 4096 * 2) := Lib.hid (by
            have h1 := flat_le (cellOut cs) 2 (cellOut_le cs) (vals pre')
            have h2 := hbl.out
            have h9 : (vals pre').length < 4096 := by simpa [vals] using hlt8
            simp only [List.length_append]
            omega)
          obtain ⟨xs, hxs⟩ : ∃ xs, bs ++ (vals pre').flatMap (cellOut cs) = xs := ⟨_, rfl⟩
          rw [hxs] at HR0 HCL
          have HXS : Hid (bs ++ (vals (pre' ++ [(⟨q, hq0, hq1⟩ : Pl cs)])).flatMap (cellOut cs) = xs ++ cellOut cs q) := Lib.hid (by rw [vals_snoc, List.flatMap_append, ← List.append_assoc, hxs]; simp)
          clear hxs hlt8 hcell
          cases he : emptyB (A.rd_T34 cs q)
          · gi_wp2_with (refine ⟨trivial, ?_⟩; first | (gi_at_call 15; refine (CallsIn.inRound l2 (callsIn_wide.2 (at_p (HI.out.later HY0.out.t.b) q hq0 hq1))).mono ?_; rintro e w1 ⟨rfl, hb1⟩; have hb1' := below_alloc hb1 (.cells #[.int .u8 (A.rd_T34 cs q).f0, .bool (A.rd_T34 cs q).f1, .bool (A.rd_T34 cs q).f2, .int .u8 (A.rd_T34 cs q).f3, .int .u8 (A.rd_T34 cs q).f4] 34); have HY1 := Lib.hid (HY0.out.below hb1'); have HR1 := Lib.hid (pw_own_below HR0.out hb1'); have HO1 := Lib.hid (blk_below HO0.out hb1'); have HB6 : Hid (w.heap.size + 3 ≤ w1.heap.size) := Lib.hid (Nat.le_trans HY0.out.t.s hb1.size); have HZ1 := Lib.hid (heap_alloc_new w1 (.cells #[.int .u8 (A.rd_T34 cs q).f0, .bool (A.rd_T34 cs q).f1, .bool (A.rd_T34 cs q).f2, .int .u8 (A.rd_T34 cs q).f3, .int .u8 (A.rd_T34 cs q).f4] 34)); simp only [cellV]; clear hb1 hb1') | (gi_at_call 56; refine (CallsIn.inRound l2 (callsIn_wide.2 (A.reply_empty.calls _ _ _ _ _ _ _ (empty_f (A.rd_T34 cs q))))).mono ?_; rintro e w2 ⟨rfl, hb2⟩; rw [he]; have HY2 := Lib.hid (HY1.out.below hb2); have HR2 := Lib.hid (pw_own_below HR1.out hb2); have HO2 := Lib.hid (blk_below HO1.out hb2); have HZ2 := Lib.hid (blk_below HZ1.out hb2); clear hb2))
            have HYV := Lib.hid (HY2.out.below (bdw (n := w2.heap.size) (W := w2)))
            have HRV := Lib.hid (pw_own_below HR2.out (bdw (n := w2.heap.size) (W := w2)))
            have HOV := Lib.hid (blk_below HO2.out (bdw (n := w2.heap.size) (W := w2)))
            have HZV := Lib.hid (blk_below HZ2.out (bdw (n := w2.heap.size) (W := w2)))
            obtain ⟨b6, hb6⟩ : ∃ b6, b6 = w1.heap.size := ⟨_, rfl⟩
            rw [← hb6] at HZV HB6 ⊢
            obtain ⟨V, hV⟩ : ∃ V, V = w2.drew := ⟨_, rfl⟩
            refine region_in (l := l2) (S := (fun W8 => W8.cell? ⟨b6, 0, none⟩ = some (.int .u8 (A.rd_T34 cs q).f0) ∧ W8.cell? ⟨b6, 1, none⟩ = some (.bool (A.rd_T34 cs q).f1) ∧ W8.cell? ⟨b6, 2, none⟩ = some (.bool (A.rd_T34 cs q).f2) ∧ W8.cell? ⟨b6, 3, none⟩ = some (.int .u8 (A.rd_T34 cs q).f3) ∧ W8.cell? ⟨b6, 4, none⟩ = some (.int .u8 (A.rd_T34 cs q).f4))) (by kernel_rfl) (by kernel_rfl) (fun h => by obtain ⟨_, _, h⟩ := h; exact h) ⟨(blk_cell HZV.out 0).trans rfl, (blk_cell HZV.out 1).trans rfl, (blk_cell HZV.out 2).trans rfl, (blk_cell HZV.out 3).trans rfl, (blk_cell HZV.out 4).trans rfl⟩ (fun hHeld => ?_)
            rw [← hV] at hHeld HYV HRV HOV HZV ⊢
            clear hV hb6 HY2 HR2 HO2 HZ2 HY1 HR1 HO1 HZ1 HY0 HR0 HO0 cB
            have cO := boxed_cell HOV.out
            refine wpAnyH_take (i := 1) (v := .agg #[.int .u8 (A.rd_T34 cs q).f0, .bool (A.rd_T34 cs q).f1, .bool (A.rd_T34 cs q).f2, .int .u8 (A.rd_T34 cs q).f3, .int .u8 (A.rd_T34 cs q).f4]) rfl (by kernel_rfl) (by kernel_rfl) (by kernel_rfl) (fun _ _ _ h => h) (Or.inl ⟨by rfl, fun W8 hS8 => by (obtain ⟨s0, s1, s2, s3, s4⟩ := hS8); go_simp⟩) (by assumption) ?_
            (try simp only [Act.put, List.setIfInBounds_toArray, List.set_cons_zero, List.set_cons_succ])
            refine wpAnyH_ready (rs := [0, 2]) (by kernel_rfl) (by simp) ?_
            refine AllReadyH.cons rfl (fun K hK => ?_) (AllReadyH.cons rfl (fun K hK => ?_) AllReadyH.nil)
            · go_simp
              refine hK.out _ _ ⟨(blk_cell HZV.out 0).trans rfl, (blk_cell HZV.out 1).trans rfl, (blk_cell HZV.out 2).trans rfl, (blk_cell HZV.out 3).trans rfl, (blk_cell HZV.out 4).trans rfl⟩ (fun hHeld => ?_)
              clear hK K
              (try simp only [Act.put, List.setIfInBounds_toArray, List.set_cons_zero, List.set_cons_succ])
              refine wpAnyH_ready (rs := [2]) (by kernel_rfl) (by simp) ?_
              refine AllReadyH.cons rfl (fun K hK => ?_) AllReadyH.nil
              go_simp
              refine (A.reply_bytes.calls 10 _ _ _ _ _ _ _ (bytes_f (A.rd_T34 cs q))).mono ?_
              rintro e w3 ⟨v3, rfl, hr3, hb3⟩
              have HY3 := Lib.hid (HYV.out.below hb3)
              have HR3 := Lib.hid (pw_own_below HRV.out hb3)
              have HO3 := Lib.hid (blk_below HOV.out hb3)
              have HZ3 := Lib.hid (blk_below HZV.out hb3)
              have cO3 := boxed_cell HO3.out
              obtain ⟨A3, c3, rfl, hc3, hrd3⟩ := own_reads_of_le (enc := Value.int .u8) (d := (0 : Int)) (xs := bytesL (A.rd_T34 cs q)) (Kd.own_of_R hr3)
              have HD3 := Lib.hid (readsInt_of.2 hrd3)
              clear hb3 hr3 hrd3
              refine hK.out _ _ ⟨(blk_cell HZ3.out 0).trans rfl, (blk_cell HZ3.out 1).trans rfl, (blk_cell HZ3.out 2).trans rfl, (blk_cell HZ3.out 3).trans rfl, (blk_cell HZ3.out 4).trans rfl⟩ (fun hHeld => ?_)
              clear hK K
              (try simp only [Act.put, List.setIfInBounds_toArray, List.set_cons_zero, List.set_cons_succ])
              refine wpAnyH_ready (rs := [3]) (by kernel_rfl) (by simp) ?_
              refine AllReadyH.cons rfl (fun K hK => ?_) AllReadyH.nil
              refine step_append_row (w0 := w) (by rfl) w.heap.size (.tmp 35) (.tmp 37) 35 5 .u8 1 rfl Try.underlying35 hinfo5 (by decide) v8 xs (bytesL (A.rd_T34 cs q)) A3 (bytesL (A.rd_T34 cs q)).length c3 rfl rfl HR3.out HD3.out HY3.out.t.b HY3.out.t.b.size (by have := HCL.out; have := bytes_le (A.rd_T34 cs q); omega) (fun v4 w4 hown4 hb4 hg4 hat4 => ?_)
              obtain ⟨A4, n4, c4, rfl⟩ := own_slice hown4
              have HY4 := Lib.hid (HY3.out.app HR3.out HS0.out hg4)
              have HS4 : Hid (SideO (w.heap.size + 3) (.slice A4 n4 c4)) := Lib.hid (side_on HS0.out HY3.out.t.s hat4)
              have HR4 := Lib.hid hown4
              have HO4 := Lib.hid ((hg4.block _ (Array.getElem?_eq_some_iff.1 HO3.out).1 (fun e => absurd (HS0.out _ e.symm) (by show ¬ (w.heap.size + 3 ≤ w.heap.size + 1); omega))).trans HO3.out)
              have HZ4 := Lib.hid ((hg4.block _ (Array.getElem?_eq_some_iff.1 HZ3.out).1 (fun e => by
                obtain ⟨cells, hc⟩ := own_typed HR3.out _ e.symm
                have hz := HZ3.out
                rw [hc] at hz
                cases hz)).trans HZ3.out)
              clear hown4 hb4 hg4 hat4
              refine hK.out _ _ ⟨(blk_cell HZ4.out 0).trans rfl, (blk_cell HZ4.out 1).trans rfl, (blk_cell HZ4.out 2).trans rfl, (blk_cell HZ4.out 3).trans rfl, (blk_cell HZ4.out 4).trans rfl⟩ (fun hHeld => ?_)
              clear hK K
              (try simp only [Act.put, List.setIfInBounds_toArray, List.set_cons_zero, List.set_cons_succ])
              refine wpAnyH_ready (rs := [4]) (by kernel_rfl) (by simp) ?_
              refine AllReadyH.cons rfl (fun K hK => ?_) AllReadyH.nil
              have cO4 := boxed_cell HO4.out
              have fO4 := blk_frozen HO4.out 0
              go_simp
              have HZ5 := Lib.hid ((Below.heap_setCell w4 ⟨w.heap.size + 1, 0, none⟩ (.slice A4 n4 c4) b6 (by have := HB6.out; show b6 ≠ w.heap.size + 1; omega)).trans HZ4.out)
              refine hK.out _ _ ⟨(blk_cell HZ5.out 0).trans rfl, (blk_cell HZ5.out 1).trans rfl, (blk_cell HZ5.out 2).trans rfl, (blk_cell HZ5.out 3).trans rfl, (blk_cell HZ5.out 4).trans rfl⟩ (fun hHeld => ?_)
              clear hK K
              (try simp only [Act.put, List.setIfInBounds_toArray, List.set_cons_zero, List.set_cons_succ])
              refine wpAnyH_done (by kernel_rfl) ?_ _
              gi_wp2
              have HY5 := HY4.out.set hBx (m := wc.heap.size) (by omega) (.slice A4 n4 c4)
              exact ⟨HY5.kf, HY5.kp, ⟨⟨.slice A4 n4 c4, blk_set HO4.out 0 (.slice A4 n4 c4), by rw [HXS.out, cellOut, if_neg (by rw [he]; decide)]; exact ownsRow_setCell_other HR4.out (a := ⟨w.heap.size + 1, 0, none⟩) (fun e => absurd (HS4.out _ e) (by show ¬ (w.heap.size + 3 ≤ w.heap.size + 1); omega)) (.slice A4 n4 c4), HS4.out⟩, HY5.t⟩, HY5.p, HY5.f⟩
            · go_simp
              refine (A.reply_bytes.calls 10 _ _ _ _ _ _ _ (bytes_f (A.rd_T34 cs q))).mono ?_
              rintro e w3 ⟨v3, rfl, hr3, hb3⟩
              have HY3 := Lib.hid (HYV.out.below hb3)
              have HR3 := Lib.hid (pw_own_below HRV.out hb3)
              have HO3 := Lib.hid (blk_below HOV.out hb3)
              have HZ3 := Lib.hid (blk_below HZV.out hb3)
              have cO3 := boxed_cell HO3.out
              obtain ⟨A3, c3, rfl, hc3, hrd3⟩ := own_reads_of_le (enc := Value.int .u8) (d := (0 : Int)) (xs := bytesL (A.rd_T34 cs q)) (Kd.own_of_R hr3)
              have HD3 := Lib.hid (readsInt_of.2 hrd3)
              clear hb3 hr3 hrd3
              refine hK.out _ _ ⟨(blk_cell HZ3.out 0).trans rfl, (blk_cell HZ3.out 1).trans rfl, (blk_cell HZ3.out 2).trans rfl, (blk_cell HZ3.out 3).trans rfl, (blk_cell HZ3.out 4).trans rfl⟩ (fun hHeld => ?_)
              clear hK K
              (try simp only [Act.put, List.setIfInBounds_toArray, List.set_cons_zero, List.set_cons_succ])
              refine wpAnyH_ready (rs := [0]) (by kernel_rfl) (by simp) ?_
              refine AllReadyH.cons rfl (fun K hK => ?_) AllReadyH.nil
              go_simp
              refine hK.out _ _ ⟨(blk_cell HZ3.out 0).trans rfl, (blk_cell HZ3.out 1).trans rfl, (blk_cell HZ3.out 2).trans rfl, (blk_cell HZ3.out 3).trans rfl, (blk_cell HZ3.out 4).trans rfl⟩ (fun hHeld => ?_)
              clear hK K
              (try simp only [Act.put, List.setIfInBounds_toArray, List.set_cons_zero, List.set_cons_succ])
              refine wpAnyH_ready (rs := [3]) (by kernel_rfl) (by simp) ?_
              refine AllReadyH.cons rfl (fun K hK => ?_) AllReadyH.nil
              refine step_append_row (w0 := w) (by rfl) w.heap.size (.tmp 35) (.tmp 37) 35 5 .u8 1 rfl Try.underlying35 hinfo5 (by decide) v8 xs (bytesL (A.rd_T34 cs q)) A3 (bytesL (A.rd_T34 cs q)).length c3 rfl rfl HR3.out HD3.out HY3.out.t.b HY3.out.t.b.size (by have := HCL.out; have := bytes_le (A.rd_T34 cs q); omega) (fun v4 w4 hown4 hb4 hg4 hat4 => ?_)
              obtain ⟨A4, n4, c4, rfl⟩ := own_slice hown4
              have HY4 := Lib.hid (HY3.out.app HR3.out HS0.out hg4)
              have HS4 : Hid (SideO (w.heap.size + 3) (.slice A4 n4 c4)) := Lib.hid (side_on HS0.out HY3.out.t.s hat4)
              have HR4 := Lib.hid hown4
              have HO4 := Lib.hid ((hg4.block _ (Array.getElem?_eq_some_iff.1 HO3.out).1 (fun e => absurd (HS0.out _ e.symm) (by show ¬ (w.heap.size + 3 ≤ w.heap.size + 1); omega))).trans HO3.out)
              have HZ4 := Lib.hid ((hg4.block _ (Array.getElem?_eq_some_iff.1 HZ3.out).1 (fun e => by
                obtain ⟨cells, hc⟩ := own_typed HR3.out _ e.symm
                have hz := HZ3.out
                rw [hc] at hz
                cases hz)).trans HZ3.out)
              clear hown4 hb4 hg4 hat4
              refine hK.out _ _ ⟨(blk_cell HZ4.out 0).trans rfl, (blk_cell HZ4.out 1).trans rfl, (blk_cell HZ4.out 2).trans rfl, (blk_cell HZ4.out 3).trans rfl, (blk_cell HZ4.out 4).trans rfl⟩ (fun hHeld => ?_)
              clear hK K
              (try simp only [Act.put, List.setIfInBounds_toArray, List.set_cons_zero, List.set_cons_succ])
              refine wpAnyH_ready (rs := [4]) (by kernel_rfl) (by simp) ?_
              refine AllReadyH.cons rfl (fun K hK => ?_) AllReadyH.nil
              have cO4 := boxed_cell HO4.out
              have fO4 := blk_frozen HO4.out 0
              go_simp
              have HZ5 := Lib.hid ((Below.heap_setCell w4 ⟨w.heap.size + 1, 0, none⟩ (.slice A4 n4 c4) b6 (by have := HB6.out; show b6 ≠ w.heap.size + 1; omega)).trans HZ4.out)
              refine hK.out _ _ ⟨(blk_cell HZ5.out 0).trans rfl, (blk_cell HZ5.out 1).trans rfl, (blk_cell HZ5.out 2).trans rfl, (blk_cell HZ5.out 3).trans rfl, (blk_cell HZ5.out 4).trans rfl⟩ (fun hHeld => ?_)
              clear hK K
              (try simp only [Act.put, List.setIfInBounds_toArray, List.set_cons_zero, List.set_cons_succ])
              refine wpAnyH_done (by kernel_rfl) ?_ _
              gi_wp2
              have HY5 := HY4.out.set hBx (m := wc.heap.size) (by omega) (.slice A4 n4 c4)
              exact ⟨HY5.kf, HY5.kp, ⟨⟨.slice A4 n4 c4, blk_set HO4.out 0 (.slice A4 n4 c4), by rw [HXS.out, cellOut, if_neg (by rw [he]; decide)]; exact ownsRow_setCell_other HR4.out (a := ⟨w.heap.size + 1, 0, none⟩) (fun e => absurd (HS4.out _ e) (by show ¬ (w.heap.size + 3 ≤ w.heap.size + 1); omega)) (.slice A4 n4 c4), HS4.out⟩, HY5.t⟩, HY5.p, HY5.f⟩
          · gi_wp2_with (refine ⟨trivial, ?_⟩; first | (gi_at_call 15; refine (CallsIn.inRound l2 (callsIn_wide.2 (at_p (HI.out.later HY0.out.t.b) q hq0 hq1))).mono ?_; rintro e w1 ⟨rfl, hb1⟩; have hb1' := below_alloc hb1 (.cells #[.int .u8 (A.rd_T34 cs q).f0, .bool (A.rd_T34 cs q).f1, .bool (A.rd_T34 cs q).f2, .int .u8 (A.rd_T34 cs q).f3, .int .u8 (A.rd_T34 cs q).f4] 34); have HY1 := Lib.hid (HY0.out.below hb1'); have HR1 := Lib.hid (pw_own_below HR0.out hb1'); have HO1 := Lib.hid (blk_below HO0.out hb1'); simp only [cellV]; clear hb1 hb1') | (gi_at_call 56; refine (CallsIn.inRound l2 (callsIn_wide.2 (A.reply_empty.calls _ _ _ _ _ _ _ (empty_f (A.rd_T34 cs q))))).mono ?_; rintro e w2 ⟨rfl, hb2⟩; rw [he]; have HY2 := Lib.hid (HY1.out.below hb2); have HR2 := Lib.hid (pw_own_below HR1.out hb2); have HO2 := Lib.hid (blk_below HO1.out hb2); clear hb2))
            exact ⟨HY2.out.kf, HY2.out.kp, ⟨⟨v8, HO2.out, by rw [HXS.out, cellOut, if_pos he, List.append_nil]; exact HR2.out, HS0.out⟩, HY2.out.t⟩, HY2.out.p, HY2.out.f⟩
        case done2 =>
          rintro ys' W' hys ⟨⟨⟨v8, hv8, hr8, hs8⟩, hT8⟩, hP8, hF8⟩
          gi_wp2
          exact ⟨hT8.kf, hT8.kp, ⟨⟨v8, hv8, by rw [vals_snoc, outF_snoc, fldOut, if_pos hm]; rw [hys, ← HBS.out] at hr8; simpa using hr8, hs8⟩, hT8.p⟩, hT8.b, hT8.s⟩
        case stop2 =>
          rintro c2 pre' W' _ h
          exact h.elim
    · have hm := Bool.eq_false_iff.2 hm
      gi_wp2_with (refine ⟨trivial, ?_⟩; gi_at_call 52; refine (CallsIn.inRound l (callsIn_wide.2 (A.attr_Modified.calls (fldAttr cs x) _ _ (mod_f _)))).mono ?_; rintro e w' ⟨rfl, hd⟩; obtain ⟨m1, rfl⟩ := hd.out; rw [hm])
      obtain ⟨v, hv, hrow, hs⟩ := hv1
      have hb : Below W.heap.size W (W.drewN m1) := pw_below_drewN (Below.refl _ _) m1
      exact ⟨keeps_below hb, ⟨hb.mono hB1.size, fun b hb2 => by obtain rfl := List.mem_singleton.1 hb2; exact hb.block _ (by omega)⟩, ⟨⟨v, blk_below hv hb, by rw [vals_snoc, outF_snoc, fldOut, if_neg (by rw [hm]; decide), List.append_nil]; exact pw_own_below hrow hb, hs⟩, blk_below bB1 hb⟩, below_step hB1 hb, Nat.le_trans h3 hb.size⟩
  case done =>
    rintro D ys W hD hys ⟨⟨⟨v, hv, hrow, _⟩, _⟩, hB, h3⟩ hK
    have hc := boxed_cell hv
    have HR := Lib.hid hrow
    have HY := Lib.hid hys
    clear hrow hys
    gi_wp2
    refine ⟨by simp, .inl ⟨_, _, rfl, run_takeDeferred hK, ?_⟩⟩
    exact ⟨_, results_tmp rfl _ _ _, v, rfl, by rw [fieldsL, ← HY.out]; exact ownsRow_putObj HR.out _ hK rfl, hB.trans (belowK_b (w := w) (Nat.le_refl _) W D _ _ (by omega) hK rfl rfl)⟩
  case stop =>
    rintro D c pre W _ _ h _
    exact h.elim
end Go.Proofs.Ytnifkdcjphekpaa.H
