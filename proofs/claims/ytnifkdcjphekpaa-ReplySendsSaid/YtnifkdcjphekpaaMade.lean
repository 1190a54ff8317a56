/- made: a plane with these cells, and the document's. -/
import Derived.Test.YtnifkdcjphekpaaOwn
import Derived.Test.YtnifkdcjphekpaaAx
namespace Go.Proofs.Ytnifkdcjphekpaa.H
open Go.RowKit Go.Proofs.YtnifkdcjphekpaaW.PrintWords Go.Proofs.YtnifkdcjphekpaaW.PrintLast
set_option linter.unusedVariables false
set_option linter.unusedSimpArgs false
theorem results_tct {P : Program} {fn : Func} {p u v : Tmp} {ty : TypeId} (h : fn.results = #[.tmp u, .cell p ty, .tmp v]) (tmps : Array Value) (w : World) (g : Nat) (t : TypeId) (cs : Array Value) (fr : Nat × Nat) (d : TypeDesc)
    (hp : tmps.getD p undef = .pointer (some ⟨g, 0, none⟩)) (hg : w.heap[g]? = some (.cells cs t fr)) (hu : P.underlying ty = some d) (hd : (match d with | .struct _ | .array _ _ => true | _ => false) = true) (hi : (P.info? ty).map (·.size) = some cs.size) :
    (results fn tmps).run P w = .ok (.tuple #[tmps.getD u undef, .agg cs, tmps.getD v undef]) w := by
  have hp' : tmps[p]?.getD undef = .pointer (some ⟨g, 0, none⟩) := by simpa using hp
  simp [results, h, hp', asAddr, run_loadVar_row w g t ty cs fr d hg hu hd hi]
theorem wrap_le {k n : Nat} (h : k < n) (h2 : n ≤ 9223372036854775807) : wrap64 ((k : Int) + 1) = k + 1 := wrap_of (by omega) (by omega)
theorem meas {k n : Nat} {z : Int} (h : k < n) (hz : z = k + 1) : n - z.toNat < n - k := by omega
theorem wrap_sm {p : Int} (h : 0 ≤ p) (h2 : p < 120) : wrap64 p = p := wrap_of (by omega) (by omega)
theorem and255 (a : Int) : Go.bits .and .i64 a 255 = a % 256 := by
  unfold Go.bits
  simp only [BitVec.toNat_and, BitVec.toNat_ofInt]
  have e1 : ((255 : Int) % ((2 ^ IntKind.i64.bits : Nat) : Int)).toNat = 2 ^ 8 - 1 := by decide
  rw [e1, Nat.and_two_pow_sub_one_eq_mod]
  have h : (((a % ((2 ^ IntKind.i64.bits : Nat) : Int)).toNat % 2 ^ 8 : Nat) : Int) = a % 256 := by
    have e2 : ((2 ^ IntKind.i64.bits : Nat) : Int) = 18446744073709551616 := by decide
    rw [e2]
    omega
  rw [h, IntKind.wrap_i64]
  omega
/-- The document's row of cells, or the plane's. -/
def Row34 (W : World) (R : Nat) (cs : List A.S34) : Prop := ∃ ex, W.heap[R]? = some (.cells (flat cs ++ ex).toArray 34 (0, 0))
theorem Row34.lt {W : World} {R : Nat} {cs : List A.S34} (h : Row34 W R cs) : R < W.heap.size := by
  obtain ⟨ex, h⟩ := h
  exact blk_lt h
theorem Row34.keep {W W1 : World} {R : Nat} {cs : List A.S34} (h : Row34 W R cs) (he : W1.heap[R]? = W.heap[R]?) : Row34 W1 R cs := by
  obtain ⟨ex, h⟩ := h
  exact ⟨ex, he.trans h⟩
theorem Row34.later {W W1 : World} {R : Nat} {cs : List A.S34} (h : Row34 W R cs) (hb : Below W.heap.size W W1) : Row34 W1 R cs := h.keep (hb.block _ h.lt)
theorem Row34.C {W : World} {R : Nat} {cs : List A.S34} (h : Row34 W R cs) (hl : cs.length ≤ 4096) : Kd.C A.k34 W (some ⟨R, 0, none⟩) cs.length cs := by
  obtain ⟨ex, h⟩ := h
  exact row_C h hl
theorem row_put {W : World} {R : Nat} {cs : List A.S34} (h : Row34 W R cs) (x : A.S34) (i j : Nat) (hi : i < cs.length) (hj : i * 5 = j) :
    Row34 (((((W.setCell ⟨R, j, none⟩ (.int .u8 x.f0)).setCell ⟨R, j + 1, none⟩ (.bool x.f1)).setCell ⟨R, j + 2, none⟩ (.bool x.f2)).setCell ⟨R, j + 3, none⟩ (.int .u8 x.f3)).setCell ⟨R, j + 4, none⟩ (.int .u8 x.f4)) R (cs.set i x) ∧
    W.grownBy (((((W.setCell ⟨R, j, none⟩ (.int .u8 x.f0)).setCell ⟨R, j + 1, none⟩ (.bool x.f1)).setCell ⟨R, j + 2, none⟩ (.bool x.f2)).setCell ⟨R, j + 3, none⟩ (.int .u8 x.f3)).setCell ⟨R, j + 4, none⟩ (.int .u8 x.f4)) (some R) := by
  obtain ⟨ex, hq⟩ := h
  have y0 := blk_set hq j (.int .u8 x.f0)
  have y1 := blk_set y0 (j + 1) (.bool x.f1)
  have y2 := blk_set y1 (j + 2) (.bool x.f2)
  have y3 := blk_set y2 (j + 3) (.int .u8 x.f3)
  have y4 := blk_set y3 (j + 4) (.int .u8 x.f4)
  have hs := flat_set cs ex x i hi
  rw [hj] at hs
  simp only [List.setIfInBounds_toArray] at y4
  refine ⟨⟨ex, by rw [hs]; exact y4⟩, ?_⟩
  exact grown_setCell (grown_setCell (grown_setCell (grown_setCell (grown_setCell (grown_of_below (some R) (Below.refl _ _)) j (.int .u8 x.f0)) (j + 1) (.bool x.f1)) (j + 2) (.bool x.f2)) (j + 3) (.int .u8 x.f3)) (j + 4) (.int .u8 x.f4)
theorem reps_flat {W : World} {base : Nat} {P : Nat → Prop} : ∀ (xs : List A.S34) (inner : List Value), Reps (A.k34.M W base P) 5 xs inner → inner = flat xs
  | [], inner, h => List.eq_nil_of_length_eq_zero (by simpa using h.1)
  | x :: xs, inner, ⟨hl, hr⟩ => by
    have h0 := A.k34_openM (hr 0 x rfl)
    rw [Nat.zero_mul, List.drop_zero] at h0
    have hl2 : inner.length = (xs.length + 1) * 5 := hl
    rw [flat_cons, ← List.take_append_drop 5 inner, h0]
    refine congrArg (cellL x ++ ·) (reps_flat (W := W) (base := base) (P := P) xs _ ⟨?_, ?_⟩)
    · rw [List.length_drop, hl2]; omega
    · intro j p hj
      have := hr (j + 1) p hj
      rw [List.drop_drop, show 5 + j * 5 = (j + 1) * 5 by omega]
      exact this
theorem row_of_R {W : World} {base : Nat} {ok : Nat → Prop} {v : Value} {xs : List A.S34} (h : Kd.R A.k34 34 W base ok v xs) (hp : 0 < xs.length) : ∃ R c, v = .slice (some ⟨R, 0, none⟩) xs.length c ∧ base ≤ R ∧ xs.length ≤ c ∧ Row34 W R xs := by
  obtain ⟨_, inner, ho, hr⟩ := h
  obtain rfl := reps_flat xs inner hr
  rcases ho.2 with ⟨_, h0⟩ | ⟨g, cap, cur, rfl, hg, hh, hnc, hcm, hcs, htake⟩
  · omega
  · refine ⟨g, cap, rfl, hg, hnc, cur.toList.drop (xs.length * 5), ?_⟩
    have hs : A.k34.sz = 5 := rfl
    rw [← htake, hs, List.take_append_drop]
    exact hh
def madeK (n : Nat) (xs : List A.S34) : Nat → List A.S34
  | 0 => List.replicate n z34
  | k + 1 => if k < n then (madeK n xs k).set k (A.rd_T34 xs (k : Int)) else madeK n xs k
theorem madeK_length (n : Nat) (xs : List A.S34) : ∀ k, (madeK n xs k).length = n
  | 0 => by simp [madeK]
  | k + 1 => by
    unfold madeK
    split
    · rw [List.length_set]; exact madeK_length n xs k
    · exact madeK_length n xs k
theorem new14_f (r c : Int) : A.greenscreenref14_New.f r c = if cells r c = 0 then some (0, 0, [], 0, 1) else some (r, c, List.replicate (cells r c).toNat A.z34, 0, 0) := by
  have e : A.greenscreenref02_Cells.f r c = some (cells r c) := by
    have h1 : A.greenscreenref02_Cells.f r c = A.addr_Cells.f r c := rfl
    rw [h1, cells_f]
  have hr := cells_range r c
  unfold A.greenscreenref14_New.f
  rw [e, Option.bind_some]
  split
  · rfl
  · rw [if_pos (by omega), if_pos (by omega)]
/-- Where all lies while the cells are laid. -/
structure Md (w W : World) (g R c0 X Y R2 c2 : Nat) (r c : Int) (cs : List A.S34) : Prop where
  o : OwnP W g R c0 r c cs 0
  q : Row34 W R2 cs
  x : W.heap[X]? = some (.cells #[.int .i64 r, .int .i64 c, .slice (some ⟨R2, 0, none⟩) cs.length c2, .int .i64 0] 30 (0, 0))
  y : W.heap[Y]? = some (.cells #[.int .i64 0, .int .i64 0, .slice none 0 0, .int .i64 0] 30 (0, 0))
  b : Below w.heap.size w W
  g0 : w.heap.size ≤ g
  r0 : w.heap.size ≤ R
  q0 : w.heap.size ≤ R2
  ne : R ≠ R2
  xy : X ≠ Y
  x0 : w.heap.size ≤ X
  y0 : w.heap.size ≤ Y
section
variable {w W W1 : World} {g R c0 X Y R2 c2 : Nat} {r c : Int} {cs : List A.S34}
theorem Md.later (h : Md w W g R c0 X Y R2 c2 r c cs) (hb : Below W.heap.size W W1) : Md w W1 g R c0 X Y R2 c2 r c cs :=
  ⟨h.o.later hb, h.q.later hb, blk_below h.x hb, blk_below h.y hb, below_step h.b hb, h.g0, h.r0, h.q0, h.ne, h.xy, h.x0, h.y0⟩
theorem Md.far (h : Md w W g R c0 X Y R2 c2 r c cs) : X ≠ R ∧ Y ≠ R ∧ X ≠ R2 ∧ Y ≠ R2 ∧ g ≠ R2 ∧ X ≠ g ∧ Y ≠ g := by
  obtain ⟨e1, h1⟩ := h.o.q
  obtain ⟨e2, h2⟩ := h.q
  exact ⟨blk_ne h.x h1 (by decide), blk_ne h.y h1 (by decide), blk_ne h.x h2 (by decide), blk_ne h.y h2 (by decide), blk_ne h.o.p h2 (by decide), blk_ne h.x h.o.p (by decide), blk_ne h.y h.o.p (by decide)⟩
/-- The plane's cell is turned, the document's not yet. -/
theorem Md.mid (h : Md w W g R c0 X Y R2 c2 r c cs) (hg : W.grownBy W1 (some R)) : Row34 W1 R2 cs ∧ W1.heap[X]? = W.heap[X]? ∧ W1.heap[Y]? = W.heap[Y]? ∧ Below w.heap.size w W1 := by
  obtain ⟨h1, h2, _, _, _, _, _⟩ := h.far
  exact ⟨h.q.keep (hg.block _ h.q.lt (by simpa using Ne.symm h.ne)), hg.block _ (blk_lt h.x) (by simpa using h1), hg.block _ (blk_lt h.y) (by simpa using h2), h.b.trans (grown_below hg h.r0 h.b.size)⟩
theorem Md.fin {W2 : World} {i : Nat} {x : A.S34} (h : Md w W g R c0 X Y R2 c2 r c cs) (ho : OwnP W1 g R c0 r c (cs.set i x) 0) (hg : W.grownBy W1 (some R)) (hq : Row34 W2 R2 (cs.set i x)) (hg2 : W1.grownBy W2 (some R2)) : Md w W2 g R c0 X Y R2 c2 r c (cs.set i x) := by
  obtain ⟨f1, f2, f3, f4, f5, _, _⟩ := h.far
  obtain ⟨h1, h2, h3, h4⟩ := h.mid hg
  have hs := hg.size
  have lx := blk_lt h.x
  have ly := blk_lt h.y
  exact ⟨ho.grown hg2 f5 h.ne, hq, by rw [List.length_set]; exact (hg2.block _ (by omega) (by simpa using f3)).trans (h2.trans h.x), (hg2.block _ (by omega) (by simpa using f4)).trans (h3.trans h.y), h4.trans (grown_below hg2 h.q0 h4.size), h.g0, h.r0, h.q0, h.ne, h.xy, h.x0, h.y0⟩
end
set_option maxHeartbeats 4000000 in
set_option maxRecDepth 100000 in
theorem made_p (r c a : Int) (hn : 1 ≤ cells r c) (h120 : cells r c ≤ 120) (xs : List A.S34) (A1 : Option Addr) (c1 : Nat) (w : World) (hC : Kd.C A.k34 w A1 xs.length xs) :
    Calls Try.prog 9 #[.agg #[.int .i64 r, .int .i64 c], .slice A1 xs.length c1, .int .i64 a] w fun e w' => ∃ g R c0 R2 c2, e = .returned (.tuple #[.pointer (some ⟨g, 0, none⟩), .agg #[.int .i64 r, .int .i64 c, .slice (some ⟨R2, 0, none⟩) (cells r c).toNat c2, .int .i64 (a % 256 % cells r c)], .bool true]) ∧
      w.heap.size ≤ g ∧ w.heap.size ≤ R ∧ w.heap.size ≤ R2 ∧ R ≠ R2 ∧ (cells r c).toNat ≤ c2 ∧ OwnP w' g R c0 r c (madeK (cells r c).toNat xs xs.length) (a % 256 % cells r c) ∧ Row34 w' R2 (madeK (cells r c).toNat xs xs.length) ∧ Below w.heap.size w w' := by
  have hu26 := Try.underlying26
  have hu30 := Try.underlying30
  have hu34 := Try.underlying34
  have HLM := Lib.hid hC.2.1
  have HC := Lib.hid hC
  obtain ⟨n, hN⟩ : ∃ n : Nat, cells r c = n := ⟨(cells r c).toNat, by omega⟩
  have hnew := fun (W : World) => new_p r c (by omega : 0 < cells r c) W
  simp only [hN, Int.toNat_natCast] at hnew
  have hF := new14_f r c
  rw [hN] at hn h120 hF ⊢
  rw [if_neg (by omega), Int.toNat_natCast] at hF
  have HF := Lib.hid hF
  have HN := Lib.hid hN
  clear hF hN hC
  have e1 : decide ((n : Int) > 120) = false := by simp; omega
  rw [Int.toNat_natCast]
  go_enter Try.func9, Try.ntmps9
  go_wp2_with (first
    | (go_at_call 26; (with_reducible refine (A.greenscreenref14_New.calls r c _ _ _ _ _ _ HF.out).mono ?_); rintro e w1 ⟨v, rfl, hR, hb⟩; obtain ⟨R2, c2, rfl, hR2, hcap, hq⟩ := row_of_R hR (by simp; omega); rw [List.length_replicate] at *; have HCAP := Lib.hid hcap; clear hcap; have HB1 := Lib.hid (below_step (below_alloc (below_alloc (Below.refl w.heap.size w) (.cells #[.int .i64 r, .int .i64 c] 26)) (.cells #[.int .i64 0, .int .i64 0, .slice none 0 0, .int .i64 0] 30)) hb); have HQ1 := Lib.hid hq; have HR2 := Lib.hid hR2; have HY1 := Lib.hid (blk_below (heap_alloc_new (w.alloc (.cells #[.int .i64 r, .int .i64 c] 26)) (.cells #[.int .i64 0, .int .i64 0, .slice none 0 0, .int .i64 0] 30)) hb); have HS1 := Lib.hid (blk_below (blk_alloc (heap_alloc_new w (.cells #[.int .i64 r, .int .i64 c] 26)) (.cells #[.int .i64 0, .int .i64 0, .slice none 0 0, .int .i64 0] 30)) hb); have hs0 := (blk_cell (blk_alloc HS1.out (.cells #[.int .i64 r, .int .i64 c, .slice (some ⟨R2, 0, none⟩) n c2, .int .i64 0] 30)) 0).trans rfl; have hs1 := (blk_cell (blk_alloc HS1.out (.cells #[.int .i64 r, .int .i64 c, .slice (some ⟨R2, 0, none⟩) n c2, .int .i64 0] 30)) 1).trans rfl; clear hb hR hR2 hq)
    | (go_at_call 24; (with_reducible refine (hnew _).mono ?_); rintro e w2 ⟨g, R, hg, hR, rfl, hO, hb⟩; have hO2 := hO; have hX0 := heap_alloc_new w1 (.cells #[.int .i64 r, .int .i64 c, .slice (some ⟨R2, 0, none⟩) n c2, .int .i64 0] 30); have HM0 : Hid (Md w w2 g R n w1.heap.size (w.heap.size + 1) R2 c2 r c (List.replicate n z34)) := Lib.hid ⟨hO, (HQ1.out.later (below_alloc (Below.refl _ _) (.cells #[.int .i64 r, .int .i64 c, .slice (some ⟨R2, 0, none⟩) n c2, .int .i64 0] 30))).later hb, by rw [List.length_replicate]; exact blk_below hX0 hb, by simpa using blk_below (blk_alloc HY1.out (.cells #[.int .i64 r, .int .i64 c, .slice (some ⟨R2, 0, none⟩) n c2, .int .i64 0] 30)) hb, below_step (below_alloc HB1.out (.cells #[.int .i64 r, .int .i64 c, .slice (some ⟨R2, 0, none⟩) n c2, .int .i64 0] 30)) hb, Nat.le_trans (Nat.le_trans HB1.out.size (by simp)) hg, Nat.le_trans (Nat.le_trans HB1.out.size (by simp)) hR, Nat.le_trans (by simp; omega) HR2.out, fun h => by have h1 := HQ1.out.lt; simp only [World.size_alloc] at hR; omega, fun h => by have h1 := blk_lt HY1.out; simp only [World.size_alloc] at h1; omega, HB1.out.size, Nat.le_succ _⟩; clear hb hg hR hO hO2 hX0))
  obtain ⟨X, hX⟩ : ∃ X, w1.heap.size = X := ⟨_, rfl⟩
  obtain ⟨Y, hY⟩ : ∃ Y, w.heap.size + 1 = Y := ⟨_, rfl⟩
  rw [hX, hY] at HM0
  simp only [hX, hY]
  clear hnew HF HQ1 HR2 HY1 HS1 hs0 hs1 HB1
  go_loopw [36] (fun v wr => ∃ k : Nat, k ≤ xs.length ∧ v = .int .i64 k ∧ Md w wr g R n X Y R2 c2 r c (madeK n xs k)) (fun v _ => xs.length - (intOf v).toNat)
  case atStart => exact ⟨0, Nat.zero_le _, rfl, HM0.out⟩
  case round =>
    clear HM0
    obtain ⟨k, hk, rfl, hm⟩ := hrel
    have HM := Lib.hid hm
    clear hm
    by_cases hlt : k < xs.length
    · obtain ⟨ad, rfl, d0, d1, d2, d3, d4⟩ := A.at_T34 (Kd.C_below HC.out HM.out.b) (k : Int) (by omega) (by omega)
      simp only [Int.toNat_natCast] at d0 d1 d2 d3 d4
      obtain ⟨x, hx⟩ : ∃ x, A.rd_T34 xs (k : Int) = x := ⟨_, rfl⟩
      rw [hx] at d0 d1 d2 d3 d4
      have HX := Lib.hid hx
      clear hx
      obtain ⟨b0, b1, b2, b3, b4⟩ := x
      have HM1 := Lib.hid (HM.out.later (below_alloc (Below.refl wr.heap.size wr) (.cells #[.int .u8 b0, .bool b1, .bool b2, .int .u8 b3, .int .u8 b4] 34)))
      have hz := heap_alloc_new wr (.cells #[.int .u8 b0, .bool b1, .bool b2, .int .u8 b3, .int .u8 b4] 34)
      have HZ := Lib.hid hz
      have x2 := (blk_cell HM1.out.x 2).trans rfl
      rw [madeK_length] at x2
      clear hz
      by_cases hkn : k < n
      · have hk1 : decide ((k : Int) < n) = true := decide_eq_true (by omega)
        have hk0 : madeK n xs (k + 1) = (madeK n xs k).set k (A.rd_T34 xs (k : Int)) := by rw [madeK, if_pos hkn]
        have HK0 := Lib.hid hk0
        have hset : Calls Try.prog 16 #[.pointer (some ⟨g, 0, none⟩), .int .i64 k, .agg #[.int .u8 b0, .bool b1, .bool b2, .int .u8 b3, .int .u8 b4]] (wr.alloc (.cells #[.int .u8 b0, .bool b1, .bool b2, .int .u8 b3, .int .u8 b4] 34)) fun e w' => e = .returned (.bool true) ∧ OwnP w' g R n r c ((madeK n xs k).set k ⟨b0, b1, b2, b3, b4⟩) 0 ∧ (wr.alloc (.cells #[.int .u8 b0, .bool b1, .bool b2, .int .u8 b3, .int .u8 b4] 34)).grownBy w' (some R) := set_p HM1.out.o ⟨b0, b1, b2, b3, b4⟩ (k : Int) (by omega) (by rw [madeK_length]; omega)
        have HSET := Lib.hid hset
        clear hset hk0
        go_wp2_with (go_at_call 16; (with_reducible refine HSET.out.mono ?_); rintro e w3 ⟨rfl, ho, hg⟩; have HO3 := Lib.hid ho; have HG3 := Lib.hid hg; obtain ⟨hq, hX3, hY3, hb3⟩ := HM1.out.mid hg; have hx' := hX3.trans HM1.out.x; rw [madeK_length] at hx'; have x3 := (blk_cell hx' 2).trans rfl; have hz3 := (hg.block _ (by simp) (by simp; have := HM.out.o.lt.2; omega)).trans HZ.out; have z0 := (blk_cell hz3 0).trans rfl; have z1 := (blk_cell hz3 1).trans rfl; have z2 := (blk_cell hz3 2).trans rfl; have z3 := (blk_cell hz3 3).trans rfl; have z4 := (blk_cell hz3 4).trans rfl; obtain ⟨ad2, hd2, q0, q1, q2, q3, q4⟩ := A.at_T34 (hq.C (by rw [madeK_length]; omega)) (k : Int) (by omega) (by rw [madeK_length]; omega); obtain rfl : ⟨R2, 0, none⟩ = ad2 := by { injection hd2 }; simp only [addr_mk, Int.toNat_natCast] at q0 q1 q2 q3 q4; obtain ⟨j, hj⟩ : ∃ j, k * 5 = j := ⟨_, rfl⟩; have ha : (⟨R2, 0, none⟩ : Addr).add (k * 5) = ⟨R2, j, none⟩ := by { rw [addr_mk, hj] }; rw [hj] at q0 q1 q2 q3 q4; obtain ⟨ex, hq'⟩ := hq; have f0 := blk_frozen hq' j; have f1 := blk_frozen hq' (j + 1); have f2 := blk_frozen hq' (j + 2); have f3 := blk_frozen hq' (j + 3); have f4 := blk_frozen hq' (j + 4); have HQ3 : Hid (Row34 w3 R2 (madeK n xs k)) := Lib.hid ⟨ex, hq'⟩; clear hq' hz3 hx' hX3 hY3 hb3 hd2 ho hg)
        have hput := row_put HQ3.out ⟨b0, b1, b2, b3, b4⟩ k j (by rw [madeK_length]; omega) hj
        have hfin := HM1.out.fin HO3.out HG3.out hput.1 hput.2
        have HFIN := Lib.hid hfin
        clear hput hfin
        go_roundw
        case rel => exact ⟨k + 1, by omega, by go_num, by rw [HK0.out, HX.out]; exact HFIN.out⟩
        case measure => simp [intOf]; omega
      · have hk1 : decide ((k : Int) < n) = false := decide_eq_false (by omega)
        have hk0 : madeK n xs (k + 1) = madeK n xs k := by rw [madeK, if_neg hkn]
        have HK0 := Lib.hid hk0
        have hwk : wrap64 ((k : Int) + 1) = k + 1 := wrap_le hlt HLM.out
        clear hk0
        go_wp2_with fail
        go_roundw
        case rel => exact ⟨k + 1, by omega, by rw [hwk]; rfl, by rw [HK0.out]; exact HM1.out⟩
        case measure => rw [hwk]; simp [intOf]; omega
    · obtain rfl : k = xs.length := by omega
      have hx' := HM.out.x
      rw [madeK_length] at hx'
      have x2 := (blk_cell hx' 2).trans rfl
      have x3 := (blk_cell hx' 3).trans rfl
      have fx3 := blk_frozen hx' 3
      obtain ⟨q, hq⟩ : ∃ q, a % 256 = q := ⟨_, rfl⟩
      have hand : Go.bits .and .i64 a 255 = q := (and255 a).trans hq
      have hq0 : 0 ≤ q ∧ q < 256 := by omega
      obtain ⟨p, hp⟩ : ∃ p, q % (n : Int) = p := ⟨_, rfl⟩
      have hp0 : 0 ≤ p := by rw [← hp]; exact Int.emod_nonneg _ (by omega)
      have hp1 : p < n := by rw [← hp]; exact Int.emod_lt_of_pos _ (by omega)
      have hrem : Int.tmod q n = p := by rw [Int.tmod_eq_emod_of_nonneg hq0.1, hp]
      have hwp : wrap64 p = p := wrap_sm hp0 (Int.lt_of_lt_of_le hp1 h120)
      have HP := Lib.hid (And.intro hq (And.intro hp (And.intro hp0 hp1)))
      have HX' := Lib.hid hx'
      clear hq hp hp0 hp1 hq0 hx'
      obtain ⟨f1, f2, f3, f4, f5, f6, f7⟩ := HM.out.far
      have ho := HM.out.o.keep (W1 := wr.setCell ⟨X, 3, none⟩ (.int .i64 p)) (Below.heap_setCell wr ⟨X, 3, none⟩ _ g (Ne.symm f6)) (Below.heap_setCell wr ⟨X, 3, none⟩ _ R (Ne.symm f1))
      have hX1 := blk_set HX'.out 3 (.int .i64 p)
      have hY1 := blk_far HM.out.y (p := ⟨X, 3, none⟩) (Ne.symm HM.out.xy) (.int .i64 p)
      have hq1 := HM.out.q.keep (W1 := wr.setCell ⟨X, 3, none⟩ (.int .i64 p)) (Below.heap_setCell wr ⟨X, 3, none⟩ _ R2 (Ne.symm f3))
      have hX0 := HM.out.x0
      have hb1 := HM.out.b.trans ((Below.refl w.heap.size wr).setCell (p := ⟨X, 3, none⟩) hX0 (.int .i64 p))
      have HO1 := Lib.hid ho
      have HX1 := Lib.hid hX1
      have HY1 := Lib.hid hY1
      have HQ1 := Lib.hid hq1
      have HB1 := Lib.hid hb1
      clear ho hX1 hY1 hq1 hb1
      go_wp2_with (go_at_call 25; (with_reducible refine (point_p HO1.out p HP.out.2.2.1 (by rw [madeK_length]; exact HP.out.2.2.2)).mono ?_); rintro e w4 ⟨rfl, ho, hg⟩; have HO4 := Lib.hid ho; have hx4 := (hg.block _ (blk_lt HX1.out) (by simpa using f6)).trans HX1.out; have hy4 := (hg.block _ (blk_lt HY1.out) (by simpa using f7)).trans HY1.out; have HQ4 := Lib.hid (HQ1.out.keep (hg.block _ HQ1.out.lt (by simpa using Ne.symm f5))); have HB4 := Lib.hid (HB1.out.trans (grown_below hg HM.out.g0 HB1.out.size)); simp only [List.setIfInBounds_toArray, List.set_cons_zero, List.set_cons_succ] at hx4; have x0 := (blk_cell hx4 0).trans rfl; have x1 := (blk_cell hx4 1).trans rfl; have x2 := (blk_cell hx4 2).trans rfl; have x3 := (blk_cell hx4 3).trans rfl; have y0 := (blk_cell hy4 0).trans rfl; have y1 := (blk_cell hy4 1).trans rfl; have y2 := (blk_cell hy4 2).trans rfl; have y3 := (blk_cell hy4 3).trans rfl; have fy0 := blk_frozen hy4 0; have fy1 := blk_frozen hy4 1; have fy2 := blk_frozen hy4 2; have fy3 := blk_frozen hy4 3; have HY4 := Lib.hid hy4; clear ho hg hx4 hy4)
      go_region
      go_wp2
      have s0 := blk_set HY4.out 0 (.int .i64 r)
      have s1 := blk_set s0 1 (.int .i64 c)
      have s2 := blk_set s1 2 (.slice (some ⟨R2, 0, none⟩) n c2)
      have s3 := blk_set s2 3 (.int .i64 p)
      simp only [List.setIfInBounds_toArray, List.set_cons_zero, List.set_cons_succ] at s3
      have hgy := grown_setCell (grown_setCell (grown_setCell (grown_setCell (grown_of_below (some Y) (Below.refl _ w4)) 0 (.int .i64 r)) 1 (.int .i64 c)) 2 (.slice (some ⟨R2, 0, none⟩) n c2)) 3 (.int .i64 p)
      have ho5 := (HO4.out.grown hgy (Ne.symm f7) (Ne.symm f2)).drew
      have hq5 := HQ4.out.keep (hgy.block _ HQ4.out.lt (by simpa using Ne.symm f4))
      have hb5 := below_drew (HB4.out.trans (grown_below hgy HM.out.y0 HB4.out.size))
      refine bodyPost_ret (results_tct rfl _ _ Y 30 _ (0, 0) _ rfl (blk_drew s3) Try.underlying30 rfl (by kernel_rfl)) rfl ?_
      rw [HP.out.1, HP.out.2.1]
      exact ⟨g, R, n, R2, c2, rfl, HM.out.g0, HM.out.r0, HM.out.q0, HM.out.ne, HCAP.out, ho5, hq5, hb5⟩
end Go.Proofs.Ytnifkdcjphekpaa.H
