/- MailPours: the walk over the law's text. -/
import Derived.Test.YtofemimgjcjpdaaStep
import Derived.Deep.RegionWith
namespace Go.Proofs.Ytofemimgjcjpdaa.H
open Go.Conc Go.RowKit Go.Shelf
open Go.Proofs.YtofemimgjcjpdaaW.PrintWords (ReadsInt print_append_row own_typed own_move own_base own_lt own_reads_of_le readsInt_of print_cut own_reads' ReadsInt.take_)
open Go.Proofs.YtofemimgjcjpdaaW.PrintMore in
attribute [local go_sem] max2_int min2_int max_two min_two
set_option linter.unusedVariables false
set_option linter.unusedSimpArgs false

/-! ### what the queues' turns leave: rows of ints -/
def Stay (W W' : World) : Prop := W.heap.size ≤ W'.heap.size ∧ ∀ (k : Nat) (cells : Array Value) (fr : Nat × Nat), W.heap[k]? = some (Obj.cells cells 3 fr) → W'.heap[k]? = W.heap[k]?
theorem Stay.of_turn {S : Nat → Prop} {W W' : World} (h : Turn S W W') (hS : ∀ i, S i → ∀ cells fr, W.heap[i]? ≠ some (Obj.cells cells 3 fr)) : Stay W W' :=
  ⟨h.size, fun k cells fr hk => h.block k (Array.getElem?_eq_some_iff.1 hk).1 (fun s => hS k s cells fr hk)⟩
theorem Stay.of_below {W W' : World} (h : Below W.heap.size W W') : Stay W W' := ⟨h.size, fun k cells fr hk => h.block k (Array.getElem?_eq_some_iff.1 hk).1⟩
theorem IsQ.no3 {w : World} {g c cap : Nat} {xs : List Int} {shut : Bool} (h : IsQ w g c cap xs shut) : ∀ i, (i = c ∨ i = g) → ∀ cells fr, w.heap[i]? ≠ some (Obj.cells cells 3 fr) := by
  obtain ⟨h1, s, r, h2⟩ := h
  rintro i (rfl | rfl) cells fr e
  · rw [h2] at e
    cases e
  · rw [h1] at e
    injection e with e
    injection e with _ e _
    cases e
theorem own_stay {W W' : World} {base n : Nat} {v : Value} {xs : List Value} (h : W.ownsRow base 3 1 v n xs) (hs : Stay W W') : W'.ownsRow base 3 1 v n xs :=
  own_move h (fun k hk => by
    obtain ⟨cells, hc⟩ := own_typed h k hk
    exact hs.2 k cells _ hc)

/-- Two lists of the law's own. -/
structure Own2 (w : World) (vi vt : Value) (xs ys : List Int) (W : World) : Prop where
  i : W.ownsRow w.heap.size 3 1 vi xs.length (ints xs)
  t : W.ownsRow w.heap.size 3 1 vt ys.length (ints ys)
  ne : ∀ k, vi.ownBlock = some k → vt.ownBlock ≠ some k
theorem Own2.stay {w W W' : World} {vi vt : Value} {xs ys : List Int} (h : Own2 w vi vt xs ys W) (hs : Stay W W') : Own2 w vi vt xs ys W' := ⟨own_stay h.i hs, own_stay h.t hs, h.ne⟩
theorem Duo.grown {k1 k2 : Nat} {w W W' : World} {g c g2 c2 : Nat} {xs ys : List Int} {s s2 : Bool} (h : Duo k1 k2 w g c xs s g2 c2 ys s2 W) {row : Option Nat} (hg : W.grownBy W' row) (hr : ∀ r, row = some r → w.heap.size ≤ r ∧ ∃ cells, W.heap[r]? = some (Obj.cells cells 3 (0, 0))) : Duo k1 k2 w g c xs s g2 c2 ys s2 W' := by
  have hn : ∀ {g c cap : Nat} {xs : List Int} {s : Bool}, IsQ W g c cap xs s → IsQ W' g c cap xs s := fun {g c cap xs s} hq => by
    have h3 := hq.no3
    have hl := hq.lt
    obtain ⟨h1, s, r, h2⟩ := hq
    have hne : ∀ i, (i = c ∨ i = g) → some i ≠ row := fun i hi e => by
      obtain ⟨_, cells, hc⟩ := hr i e.symm
      exact h3 i hi _ _ hc
    exact ⟨(hg.block _ hl.1 (hne _ (.inr rfl))).trans h1, s, r, (hg.block _ hl.2 (hne _ (.inl rfl))).trans h2⟩
  exact ⟨hn h.q, hn h.q2, h.b.grown hg h.b.size (fun k e => (hr k e).1), h.g0, h.c0, h.g20, h.c20, h.hg, h.hc⟩

theorem Duo.lower {k1 k2 : Nat} {w W0 W : World} {g c g2 c2 : Nat} {xs ys : List Int} {s s2 : Bool} (h : Duo k1 k2 W0 g c xs s g2 c2 ys s2 W) (hb : Below w.heap.size w W0) : Duo k1 k2 w g c xs s g2 c2 ys s2 W := by
  have := hb.size
  have := h.g0
  have := h.c0
  have := h.g20
  have := h.c20
  exact ⟨h.q, h.q2, hb.trans (h.b.mono hb.size), by omega, by omega, by omega, by omega, h.hg, h.hc⟩
theorem own_fresh (w W : World) (hw : w.heap.size ≤ W.heap.size) : (W.alloc (Obj.cells #[] 3)).ownsRow w.heap.size 3 1 (.slice (some ⟨W.heap.size, 0, none⟩) 0 0) 0 [] := ⟨rfl, .inr ⟨W.heap.size, 0, #[], rfl, hw, World.alloc_heap_new W _, by simp⟩⟩

theorem Own2.swap {w W : World} {vi vt : Value} {xs ys : List Int} (h : Own2 w vi vt xs ys W) : Own2 w vt vi ys xs W := ⟨h.t, h.i, fun k e e2 => h.ne k e2 e⟩
theorem reads_one (W : World) (x : Int) : ReadsInt (W.alloc (Obj.cells #[.int .i64 x] 3)) .i64 (some ⟨W.heap.size, 0, none⟩) 1 [x] := by
  refine ⟨rfl, by omega, fun _ => ⟨_, rfl, fun j hj => ?_⟩⟩
  obtain rfl : j = 0 := by omega
  exact (cell_of (World.alloc_heap_new W (Obj.cells #[.int .i64 x] 3)) 0).trans rfl
theorem below_one {w W : World} (h : Below w.heap.size w W) (o : Obj) : Below w.heap.size w (W.alloc o) := h.alloc h.size o
theorem size_one {w W : World} (h : Below w.heap.size w W) (o : Obj) : w.heap.size ≤ (W.alloc o).heap.size := by have := h.size; simp; omega
theorem own_one {w W : World} {v : Value} {n : Nat} {xs : List Value} (h : W.ownsRow w.heap.size 3 1 v n xs) (o : Obj) : (W.alloc o).ownsRow w.heap.size 3 1 v n xs := own_stay h (Stay.of_below ((Below.refl _ _).alloc (Nat.le_refl _) _))
theorem after_app {k1 k2 : Nat} {w W w2 : World} {g c g2 c2 : Nat} {ps qs : List Int} {s s2 : Bool} {vi vt v1 : Value} {xs ys : List Int} {x : Int} (hd : Duo k1 k2 w g c ps s g2 c2 qs s2 W) (ho : Own2 w vi vt xs ys W)
    (hown : w2.ownsRow w.heap.size 3 1 v1 (xs ++ [x]).length (ints (xs ++ [x]))) (hg : (W.alloc (Obj.cells #[.int .i64 x] 3)).grownBy w2 vi.ownBlock) (hat : v1.ownBlock = vi.ownBlock ∨ ∃ b, v1.ownBlock = some b ∧ (W.alloc (Obj.cells #[.int .i64 x] 3)).heap.size ≤ b) :
    Duo k1 k2 w g c ps s g2 c2 qs s2 w2 ∧ Own2 w v1 vt (xs ++ [x]) ys w2 := by
  have hi := own_one ho.i (Obj.cells #[.int .i64 x] 3)
  have ht := own_one ho.t (Obj.cells #[.int .i64 x] 3)
  refine ⟨(hd.later ((Below.refl _ _).alloc (Nat.le_refl _) _)).grown hg (fun r e => ⟨own_base hi r e, own_typed hi r e⟩), hown, ht.kept hg ?_, fun k e e2 => ?_⟩
  · cases hv : vt.ownBlock with
    | none => exact .inl rfl
    | some k => exact .inr (fun e => ho.swap.ne k hv e.symm)
  · rcases hat with h | ⟨b, h, hb⟩
    · exact ho.ne k (h.symm.trans e) e2
    · rw [h] at e
      injection e with e
      have := Go.Proofs.YtofemimgjcjpdaaW.PrintWords.own_lt ho.t k e2
      simp at hb
      omega

theorem fresh_other {W W6 : World} {B base n m : Nat} {v vt : Value} {xs ys : List Value} (h6 : W6.ownsRow B 3 1 v n xs) (ht : W.ownsRow base 3 1 vt m ys) (hB : W.heap.size ≤ B) : v.ownBlock = none ∨ v.ownBlock ≠ vt.ownBlock := by
  cases hv : v.ownBlock with
  | none => exact .inl rfl
  | some k =>
    refine .inr (fun e => ?_)
    have := own_base h6 k hv
    have := own_lt ht k e.symm
    omega
/-- What was let in of so many. -/
def letIn (xs : List Int) (cap k : Nat) : List Int := (xs.take k).take cap
theorem letIn_room {xs : List Int} {cap k : Nat} (hk : k < xs.length) (hc : k < cap) : letIn xs cap (k + 1) = letIn xs cap k ++ [xs[k]'hk] ∧ (letIn xs cap k).length < cap := by
  unfold letIn
  rw [List.take_take, List.take_take, show min cap (k + 1) = k + 1 by omega, show min cap k = k by omega, List.take_succ_eq_append_getElem hk]
  exact ⟨rfl, by simp; omega⟩
theorem letIn_full {xs : List Int} {cap k : Nat} (hk : k < xs.length) (hc : cap ≤ k) : letIn xs cap (k + 1) = letIn xs cap k ∧ cap ≤ (letIn xs cap k).length := by
  unfold letIn
  rw [List.take_take, List.take_take, show min cap (k + 1) = cap by omega, show min cap k = cap by omega]
  exact ⟨rfl, by simp; omega⟩
theorem letIn_le (xs : List Int) (cap k : Nat) : (letIn xs cap k).length ≤ cap ∧ (letIn xs cap k).length ≤ xs.length := by
  unfold letIn
  simp
  omega

theorem Duo.drew' {k1 k2 : Nat} {w W : World} {g c g2 c2 : Nat} {xs ys : List Int} {s s2 : Bool} (h : Duo k1 k2 w g c xs s g2 c2 ys s2 W) : Duo k1 k2 w g c xs s g2 c2 ys s2 W.drew := h.later ⟨rfl, rfl, rfl, Nat.le_refl _, fun _ _ => rfl⟩
theorem Own2.drew' {w W : World} {vi vt : Value} {xs ys : List Int} (h : Own2 w vi vt xs ys W) : Own2 w vi vt xs ys W.drew := h.stay ⟨Nat.le_refl _, fun _ _ _ _ => rfl⟩
theorem Own2.drewN {w W : World} {vi vt : Value} {xs ys : List Int} (h : Own2 w vi vt xs ys W) (n : Nat) : Own2 w vi vt xs ys (W.drewN n) := h.stay ⟨Nat.le_refl _, fun _ _ _ _ => rfl⟩
def PR (w : World) (k1 k2 g c g2 c2 : Nat) (n : Nat) (f1 f2 : Nat → List Int) (vi vt : Value) (idx : Value) (wr : World) : Prop :=
  ∃ k : Nat, k ≤ n ∧ idx = .int .i64 k ∧ Duo k1 k2 w g c (f1 k) false g2 c2 (f2 k) false wr ∧ Own2 w vi vt (f1 k) (f2 k) wr

set_option maxHeartbeats 12000000 in
set_option maxRecDepth 100000 in
theorem pours_calls (a b : Int) (A0 : Option Addr) (c0 : Nat) (xs : List Int) (A1 : Option Addr) (c1 : Nat) (ys : List Int) (w : World) (hx : ReadsInt w .i64 A0 xs.length xs) (hxc : xs.length ≤ c0) (hy : ReadsInt w .i64 A1 ys.length ys) (hyc : ys.length ≤ c1)
    (hx50 : xs.length ≤ 50) (hy50 : ys.length ≤ 50) :
    Calls Try.prog 5 #[.int .i64 a, .int .i64 b, .slice A0 xs.length c0, .slice A1 ys.length c1] w fun e w' => e = .returned (.bool true) ∧ Below w.heap.size w w' := by
  have HX := Lib.hid hx
  have HY := Lib.hid hy
  clear hx hy
  go_enter Try.func5, Try.ntmps5
  go_wp2_with fail
  refine (alive_any _).mono ?_
  rintro e W0 ⟨rfl, hb0⟩
  have HB0 := Lib.hid hb0
  clear hb0
  go_wp2_with fail
  refine (new_any _ a).mono ?_
  rintro e W1 ⟨g, c, rfl, hq1, hg, hc, hb1⟩
  have HQ1 := Lib.hid hq1
  have HB1 := Lib.hid hb1
  have HG := Lib.hid (And.intro hg hc)
  clear hq1 hb1 hg hc
  go_wp2_with fail
  refine (new_any _ b).mono ?_
  rintro e W2 ⟨g2, c2, rfl, hq2, hg2, hc2, hb2⟩
  have T := Lib.hid (duo_new W0 HQ1.out HB1.out HG.out.1 HG.out.2 hq2 hb2 hg2 hc2)
  clear hq2 hb2 hg2 hc2 HQ1 HB1 HG
  obtain ⟨k1, hk1⟩ : ∃ k, k = held a := ⟨_, rfl⟩
  obtain ⟨k2, hk2⟩ : ∃ k, k = held b := ⟨_, rfl⟩
  rw [← hk1, ← hk2] at T
  have hk1l : k1 ≤ 1024 := by rw [hk1]; exact held_le a
  have hk2l : k2 ≤ 1024 := by rw [hk2]; exact held_le b
  clear hk1 hk2
  go_wp2_with fail
  have T1 := Lib.hid (T.out.lower HB0.out)
  clear T HB0
  obtain ⟨W, hW⟩ : ∃ W, (W2.alloc (Obj.cells #[] 3)).alloc (Obj.cells #[] 3) = W := ⟨_, rfl⟩
  have hb : Below W2.heap.size W2 W := by rw [← hW]; exact ((Below.refl _ _).alloc (Nat.le_refl _) _).alloc (by simp) _
  have T := Lib.hid (T1.out.later hb)
  have ho : Own2 w (.slice (some ⟨W2.heap.size, 0, none⟩) 0 0) (.slice (some ⟨W2.heap.size + 1, 0, none⟩) 0 0) [] [] W := by
    have hs := T1.out.b.size
    rw [← hW]
    refine ⟨own_stay (own_fresh w W2 hs) (Stay.of_below ((Below.refl _ _).alloc (Nat.le_refl _) _)), ?_, fun k e e2 => ?_⟩
    · have := own_fresh w (W2.alloc (Obj.cells #[] 3)) (by simp; omega)
      rw [World.size_alloc] at this
      exact this
    · simp [Value.ownBlock] at e e2
      omega
  rw [hW]
  have HO := Lib.hid ho
  obtain ⟨vi0, hvi⟩ : ∃ v, v = Value.slice (some ⟨W2.heap.size, 0, none⟩) 0 0 := ⟨_, rfl⟩
  obtain ⟨vt0, hvt⟩ : ∃ v, v = Value.slice (some ⟨W2.heap.size + 1, 0, none⟩) 0 0 := ⟨_, rfl⟩
  rw [← hvi, ← hvt] at HO ⊢
  clear hW ho hb T1 hvi hvt
  go_loopw [11, 37] (fun v idx wr => PR w k1 k2 g c g2 c2 xs.length (letIn xs k1) (fun _ => []) v vt0 idx wr) (fun _ idx _ => xs.length - (intOf idx).toNat)
  case atStart => exact ⟨0, Nat.zero_le _, rfl, by simpa [letIn] using T.out, by simpa [letIn] using HO.out⟩
  case round =>
    obtain ⟨k, hk, rfl, hd, ho⟩ := hrel
    by_cases hlt : k < xs.length
    · obtain ⟨ad, rfl, hcell⟩ := (HX.out.below hd.b).2.2 (by omega)
      have hc1 := hcell k hlt
      obtain ⟨x, hxk⟩ : ∃ x, x = xs[k]'hlt := ⟨_, rfl⟩
      rw [List.getD_eq_getElem?_getD, List.getElem?_eq_getElem hlt, Option.getD_some, ← hxk] at hc1
      have HCELL := Lib.hid hcell
      clear hcell
      by_cases hroom : k < k1
      · have hl := letIn_room hlt hroom
        rw [← hxk] at hl
        have HP := Lib.hid (put_room _ _ _ _ _ x hd.q hl.2)
        have HD := Lib.hid hd
        have HO1 := Lib.hid ho
        have HL := Lib.hid hl
        have HXK := Lib.hid hxk
        clear hd ho hl hxk
        have hlen : (letIn xs k1 k).length + 1 ≤ 100 := by have := (letIn_le xs k1 k).2; omega
        go_wp2_with (first | (go_at_call 17; refine HP.out.mono ?_; rintro e w1 ⟨rfl, hq1, ht1⟩; have HD1 := Lib.hid (HD.out.first hq1 ht1 (fun _ h => .inl h)); have HO2 := Lib.hid (HO1.out.stay (Stay.of_turn ht1 (fun i h => HD.out.q.no3 i (.inl h)))); clear hq1 ht1) | (at_builtin; refine print_append_row (w0 := w) w.heap.size rfl _ _ 27 3 .i64 8 rfl Try.underlying27 info3' (by decide) u11 (letIn xs k1 k) [x] _ _ _ rfl rfl (own_one HO2.out.i _) (reads_one w1 x) (below_one HD1.out.b _) (size_one HD1.out.b _) (by omega) ?_; intro v1 w2 hown hb2 hg2 hat2; have HF := Lib.hid (after_app HD1.out HO2.out hown hg2 hat2); clear hown hb2 hg2 hat2))
        go_roundw
        case rel => exact ⟨k + 1, by omega, by go_num, by rw [HL.out.1]; exact HF.out.1, by rw [HL.out.1]; exact HF.out.2⟩
        case measure => simp [intOf]; omega
      · have hl := letIn_full hlt (by omega : k1 ≤ k)
        have HP := Lib.hid (put_full _ _ _ _ _ x hd.q hl.2)
        have HD := Lib.hid hd
        have HO1 := Lib.hid ho
        have HL := Lib.hid hl
        clear hd ho hl hxk
        go_wp2_with (go_at_call 17; refine HP.out.mono ?_; rintro e w1 ⟨rfl, rfl⟩)
        go_roundw
        case rel => exact ⟨k + 1, by omega, by go_num, by rw [HL.out.1]; exact HD.out, by rw [HL.out.1]; exact HO1.out⟩
        case measure => simp [intOf]; omega
    · obtain rfl : k = xs.length := by omega
      obtain ⟨P, hP⟩ : ∃ P, P = letIn xs k1 xs.length := ⟨_, rfl⟩
      have hPl : P.length ≤ 50 := by rw [hP]; have := (letIn_le xs k1 xs.length).2; omega
      rw [← hP] at hd ho
      have HD := Lib.hid hd
      have HO1 := Lib.hid ho
      clear hd ho hP T HO
      go_wp2_with fail
      go_loopw [12, 52] (fun v idx wr => PR w k1 k2 g c g2 c2 ys.length (fun _ => P) (letIn ys k2) u11 v idx wr) (fun _ idx _ => ys.length - (intOf idx).toNat)
      case atStart => exact ⟨0, Nat.zero_le _, rfl, by simpa [letIn] using HD.out, by simpa [letIn] using HO1.out⟩
      case round =>
        obtain ⟨k, hk, rfl, hd, ho⟩ := hrel
        by_cases hlt2 : k < ys.length
        · obtain ⟨ad, rfl, hcell⟩ := (HY.out.below hd.b).2.2 (by omega)
          have hc1 := hcell k hlt2
          obtain ⟨x, hxk⟩ : ∃ x, x = ys[k]'hlt2 := ⟨_, rfl⟩
          rw [List.getD_eq_getElem?_getD, List.getElem?_eq_getElem hlt2, Option.getD_some, ← hxk] at hc1
          have HCELL := Lib.hid hcell
          clear hcell
          by_cases hroom : k < k2
          · have hl := letIn_room hlt2 hroom
            rw [← hxk] at hl
            have HP := Lib.hid (put_room _ _ _ _ _ x hd.q2 hl.2)
            have HD := Lib.hid hd
            have HO1 := Lib.hid ho
            have HL := Lib.hid hl
            clear hd ho hl hxk
            have hlen : (letIn ys k2 k).length + 1 ≤ 100 := by have := (letIn_le ys k2 k).2; omega
            go_wp2_with (first | (go_at_call 17; refine HP.out.mono ?_; rintro e w1 ⟨rfl, hq1, ht1⟩; have HD1 := Lib.hid (HD.out.second hq1 ht1 (fun _ h => .inl h)); have HO2 := Lib.hid (HO1.out.stay (Stay.of_turn ht1 (fun i h => HD.out.q2.no3 i (.inl h)))); clear hq1 ht1) | (at_builtin; refine print_append_row (w0 := w) w.heap.size rfl _ _ 27 3 .i64 8 rfl Try.underlying27 info3' (by decide) u12 (letIn ys k2 k) [x] _ _ _ rfl rfl (own_one HO2.out.t _) (reads_one w1 x) (below_one HD1.out.b _) (size_one HD1.out.b _) (by omega) ?_; intro v1 w2 hown hb2 hg2 hat2; have HF := Lib.hid (after_app HD1.out HO2.out.swap hown hg2 hat2); clear hown hb2 hg2 hat2))
            go_roundw
            case rel => exact ⟨k + 1, by omega, by go_num, by rw [HL.out.1]; exact HF.out.1, by rw [HL.out.1]; exact HF.out.2.swap⟩
            case measure => simp [intOf]; omega
          · have hl := letIn_full hlt2 (by omega : k2 ≤ k)
            have HP := Lib.hid (put_full _ _ _ _ _ x hd.q2 hl.2)
            have HD := Lib.hid hd
            have HO1 := Lib.hid ho
            have HL := Lib.hid hl
            clear hd ho hl hxk
            go_wp2_with (go_at_call 17; refine HP.out.mono ?_; rintro e w1 ⟨rfl, rfl⟩)
            go_roundw
            case rel => exact ⟨k + 1, by omega, by go_num, by rw [HL.out.1]; exact HD.out, by rw [HL.out.1]; exact HO1.out⟩
            case measure => simp [intOf]; omega
        · obtain rfl : k = ys.length := by omega
          obtain ⟨Q, hQ⟩ : ∃ Q, Q = letIn ys k2 ys.length := ⟨_, rfl⟩
          have hQl : Q.length ≤ 50 ∧ Q.length ≤ k2 := by rw [hQ]; have := letIn_le ys k2 ys.length; omega
          rw [← hQ] at hd ho
          have HD := Lib.hid hd
          have HO1 := Lib.hid ho
          clear hd ho hQ
          obtain ⟨r, hr⟩ : ∃ r, r = k2 - Q.length := ⟨_, rfl⟩
          obtain ⟨n, hn⟩ : ∃ n, n = min P.length r := ⟨_, rfl⟩
          have hr1 : Q.length + r ≤ k2 := by omega
          have hnl : n ≤ P.length := by omega
          have hnr : n ≤ r := by omega
          have hrm : roomN k2 Q false = (r : Int) := by simp [roomN]; omega
          have hpn : pourN P k2 Q false = n := by simp [pourN]; omega
          have HN := Lib.hid hn
          have HRM := Lib.hid hrm
          have HPN := Lib.hid hpn
          clear hr hn hrm hpn
          go_wp2_with fail
          have k := room_any _ _ _ _ _ _ HD.out.q2 (by omega) (by omega)
          rw [HRM.out] at k
          refine k.mono ?_
          clear k
          rintro e w1 ⟨rfl, nd, rfl⟩
          have HD1 := Lib.hid (HD.out.drewN nd)
          have HO2 := Lib.hid (HO1.out.drewN nd)
          go_wp2_with fail
          have k := pour_any _ _ _ _ _ _ _ _ _ _ _ HD1.out.q HD1.out.q2 HD1.out.hg HD1.out.hc (by omega) (by omega) (by omega)
          rw [HPN.out] at k
          refine k.mono ?_
          clear k
          rintro e w2 ⟨rfl, hq1, hq2, ht⟩
          have HD2 := Lib.hid (HD1.out.both hq1 hq2 ht (fun _ h => h))
          have HO3 := Lib.hid (HO2.out.stay (Stay.of_turn ht (fun i h => by rcases h with h | h; exact HD1.out.q.no3 i (.inl h); exact HD1.out.q2.no3 i (.inl h))))
          clear hq1 hq2 ht
          obtain ⟨D, hD⟩ : ∃ D, D = P.drop n := ⟨_, rfl⟩
          obtain ⟨Z, hZ⟩ : ∃ Z, Z = Q ++ P.take n := ⟨_, rfl⟩
          rw [← hD, ← hZ] at HD2
          have hDl : P.length - n = D.length := by rw [hD]; simp
          have hZl : Z.length = Q.length + n := by rw [hZ]; simp; omega
          have HDD := Lib.hid hD
          have HZZ := Lib.hid hZ
          have HDL := Lib.hid hDl
          clear hD hZ
          obtain ⟨Ai, ci, hvi, hci, hri⟩ := own_reads_of_le (enc := Value.int .i64) (d := (0 : Int)) (xs := P) HO3.out.i
          subst hvi
          obtain ⟨At, ct, hvt, hct, hrt⟩ := own_reads_of_le (enc := Value.int .i64) (d := (0 : Int)) (xs := Q) HO3.out.t
          subst hvt
          clear hri hrt
          have hlp := len_any _ _ _ _ _ _ HD2.out.q
          rw [show ((D.length : Nat) : Int) = (P.length : Int) - n by omega] at hlp
          have hlq := len_any _ _ _ _ _ _ HD2.out.q2
          rw [show ((Z.length : Nat) : Int) = (Q.length : Int) + n by omega] at hlq
          have HLP := Lib.hid hlp
          have HLQ := Lib.hid hlq
          clear hlp hlq
          have hD50 : D.length ≤ 50 := by omega
          have hZ50 : Z.length ≤ 100 := by omega
          obtain ⟨i0, hi, hz0, hz1, hz2⟩ := info_parts info3'
          obtain ⟨Ac, hcut, hcr⟩ := print_cut (P := Try.prog) 27 3 .i64 Try.underlying27 hi hz1 Ai P.length ci n hnl
          rw [hDl] at hcut hcr
          have hcut2 : ∀ W : World, (Instr.slice 27 (.slice Ai P.length ci) none (some (.int .i64 (n : Int))) none).run Try.prog W = .ok (.slice Ai n ci) W := by
            intro W
            have hel : Try.prog.elem 27 = 3 := by simp [Program.elem, Try.underlying27]
            rw [run_slice_h W 27 Ai P.length ci (by rw [hel]; exact Try.underlying27) .i64 (n : Int) (Int.natCast_nonneg _) (by omega), hel]
            simp [sizeOf, typeInfo, hi, hz1, sliced, Result.andThen]
            intro _
            cases Ai <;> simp [Addr.add]
          have HCR := Lib.hid (show ∀ W, ReadsInt W .i64 Ai P.length P → ReadsInt W .i64 Ac D.length D from fun W h => by have h2 := hcr W .i64 P hci h; rw [← HDD.out] at h2; exact h2)
          have HC := Lib.hid hcut
          have HC2 := Lib.hid hcut2
          have hcl : D.length ≤ ci - n := by omega
          clear hcr hi hz0 hz1 hz2 hcut hcut2 hDl hZl
          have hmin : (if P.length < r then (P.length : Int) else (r : Int)) = (n : Int) := by have := HN.out; split <;> omega
          go_wp2_with (first | (go_at_call 11; (with_reducible refine HLP.out.mono ?_); rintro e w3 ⟨rfl, rfl⟩) | (go_at_call 11; (with_reducible refine HLQ.out.mono ?_); rintro e w3 ⟨rfl, rfl⟩))
          clear hmin
          have hcut := HC.out
          have hcut2 := HC2.out
          have tokA : True := trivial
          have tokB : True := trivial
          go_region_law (first
            | (have _t := HR6; refine step_append_row (by rfl) w.heap.size (.tmp 103) (.tmp 106) 27 3 .i64 8 rfl Try.underlying27 info3' (by decide) (.slice At Q.length ct) Q (P.take n) _ _ _ rfl rfl HO6.out.t ((own_reads' HO6.out.i).take_ n hnl) HD6.out.b HD6.out.b.size (by omega) ?_; intro v7 w7 hown hb7 hg7 hat7; rw [← HZZ.out] at hown; obtain ⟨A7, c7, rfl, hl7, hr7⟩ := own_reads_of_le (enc := Value.int .i64) (d := (0 : Int)) (xs := Z) hown; have HR7 := Lib.hid (And.intro (own_reads' (HR6.out.kept hg7 (fresh_other HR6.out HO4.out.t (Nat.le_refl _)))) (readsInt_of.2 hr7)); have HB7 := Lib.hid hb7; clear hown hb7 hg7 hat7 hr7)
            | (rw [if_pos (by rfl)]; unfold Oper.wp; go_simp; first
            | (have _t := tokA; clear _t; go_at_call 16; (with_reducible refine (taken_all _ g c k1 D false (by first | exact HD2.out.q | exact HD2.out.drew'.q) (by omega)).mono ?_); rintro e w4 ⟨A4, c4, rfl, hl4, ho4, hr4, hq4, ht4⟩; have HT4 := Lib.hid (show Turn (· = c) w3 w4 by first | exact ht4 | exact ht4.of_drew1); have HD4 := Lib.hid (HD2.out.first hq4 HT4.out (fun _ h => .inl h)); have HO4 := Lib.hid (HO3.out.stay (Stay.of_turn HT4.out (fun i h => HD2.out.q.no3 i (.inl h)))); have HR4 := Lib.hid hr4; clear ho4 hr4 hq4 ht4 tokA)
            | (have _t := tokB; clear _t; go_at_call 15; (with_reducible refine (same_of _ A4 Ac c4 _ D.length D rfl (by first | exact HR4.out) hl4 (HCR.out _ (own_reads' HO4.out.i)) hcl (by omega)).mono ?_); rintro e w5 ⟨rfl, n5, rfl⟩; clear tokB)
            | (go_at_call 16; (with_reducible refine (taken_all _ g2 c2 k2 Z false (HD4.out.drewN n5).q2 (by omega)).mono ?_); rintro e w6 ⟨A6, c6, rfl, hl6, ho6, hr6, hq6, ht6⟩; have HD6 := Lib.hid ((HD4.out.drewN n5).second hq6 ht6 (fun _ h => .inl h)); have HO6 := Lib.hid ((HO4.out.drewN n5).stay (Stay.of_turn ht6 (fun i h => (HD4.out.drewN n5).q2.no3 i (.inl h)))); have HR6 := Lib.hid ho6; clear ho6 hr6 hq6 ht6)
            | (go_at_call 15; (with_reducible refine (same_of _ A6 A7 c6 c7 Z.length Z rfl HR7.out.1 hl6 HR7.out.2 hl7 (by omega)).mono ?_); rintro e w8 ⟨rfl, n8, rfl⟩)))
          all_goals
            go_wp2
            go_ret
            exact ⟨rfl, HB7.out.trans ⟨rfl, rfl, rfl, Nat.le_refl _, fun _ _ => rfl⟩⟩
end Go.Proofs.Ytofemimgjcjpdaa.H
