/- greenscreenref24.Parse: the walk. -/
import Derived.Test.YtpdihhfeekoplaaPlainR
import Derived.Test.YtpdihhfeekoplaaBx2
import Derived.Test.YtpdihhfeekoplaaParseW
import Derived.Test.YtpdihhfeekoplaaQuiet
namespace Go.Proofs.Ytpdihhfeekoplaa.P
open Go.RowKit Go.Proofs.YtpdihhfeekoplaaW.PrintWords Go.Proofs.YtpdihhfeekoplaaW.PrintLast Go.Proofs.YtpdihhfeekoplaaW.PrintMore
open Go.Proofs.Ytpdihhfeekoplaa.B Go.Proofs.Ytpdihhfeekoplaa.Plain
set_option linter.unusedVariables false
set_option linter.unusedSimpArgs false
attribute [local go_sem] max2_int min2_int max_two min_two max_three min_three max_four min_four

def RGives (P0_ : Nat → Prop) (w : World) (r : Int × Int × Int × Int × List Int × List Int × Int) (e : Ending) (w' : World) : Prop :=
  ∃ v4_ v5_ : Value, e = .returned (.tuple #[.agg #[.int .i64 r.1, .int .i64 r.2.1, .int .i64 r.2.2.1, .int .i64 r.2.2.2.1, v4_, v5_], .int .i64 r.2.2.2.2.2.2]) ∧ Kd.V (Kd.int .u8) 5 w' w.heap.size (fun k_ => (P0_ k_ ∨ w.heap.size ≤ k_)) v4_ r.2.2.2.2.1 ∧ Kd.V (Kd.int .u8) 5 w' w.heap.size (fun k_ => (P0_ k_ ∨ w.heap.size ≤ k_)) v5_ r.2.2.2.2.2.1 ∧ Below w.heap.size w w'
def okb (l : List Int) : Bool := l.all fun y => decide (0 ≤ y) && decide (y < 256)
theorem okb_ok {l : List Int} (h : okb l = true) : okL l := by
  intro y hy
  have := List.all_eq_true.mp h y hy
  simp only [Bool.and_eq_true, decide_eq_true_eq] at this
  exact this
theorem ok_okb {l : List Int} (h : okL l) : okb l = true := by
  refine List.all_eq_true.mpr fun y hy => ?_
  simp only [Bool.and_eq_true, decide_eq_true_eq]
  exact h y hy
/-- What the document's Parse answers to bytes. -/
def rparse_f (l : List Int) : Option (Int × Int × Int × Int × List Int × List Int × Int) := if okb l = true then (if l.length < 100000 then parse_f l else none) else none

theorem rput6 {w : World} {g : Nat} {a0 a1 a2 a3 a4 a5 v0 v1 v2 v3 v4 v5 : Value} (h : w.heap[g]? = some (.cells #[a0, a1, a2, a3, a4, a5] 34 (0, 0))) : ((((((w.setCell ⟨g, 0, none⟩ v0).setCell ⟨g, 1, none⟩ v1).setCell ⟨g, 2, none⟩ v2).setCell ⟨g, 3, none⟩ v3).setCell ⟨g, 4, none⟩ v4).setCell ⟨g, 5, none⟩ v5).heap[g]? = some (.cells #[v0, v1, v2, v3, v4, v5] 34 (0, 0)) :=
  blk_put (cs := #[v0, v1, v2, v3, v4, a5]) (blk_put (cs := #[v0, v1, v2, v3, a4, a5]) (blk_put (cs := #[v0, v1, v2, a3, a4, a5]) (blk_put (cs := #[v0, v1, a2, a3, a4, a5]) (blk_put (cs := #[v0, a1, a2, a3, a4, a5]) (blk_put (cs := #[a0, a1, a2, a3, a4, a5]) h 0 _ rfl) 1 _ rfl) 2 _ rfl) 3 _ rfl) 4 _ rfl) 5 _ rfl
theorem far6 {w : World} {g g' : Nat} {cs : Array Value} (v0 v1 v2 v3 v4 v5 : Value) (h : w.heap[g]? = some (.cells cs 34 (0, 0))) (hg : g ≠ g') : ((((((w.setCell ⟨g', 0, none⟩ v0).setCell ⟨g', 1, none⟩ v1).setCell ⟨g', 2, none⟩ v2).setCell ⟨g', 3, none⟩ v3).setCell ⟨g', 4, none⟩ v4).setCell ⟨g', 5, none⟩ v5).heap[g]? = some (.cells cs 34 (0, 0)) :=
  blk_far (blk_far (blk_far (blk_far (blk_far (blk_far h hg _) hg _) hg _) hg _) hg _) hg _

/-- What a region keeps that only reads. -/
def RC (W : World) (g2 g4 : Nat) (l : List Int) (ad : Addr) (gk ck : Nat) (K : List Int) (t : Ter) (vc vl : Value) (w : World) : Prop :=
  W.heap[g2]? = some (.cells #[.int .i64 0, .int .i64 0, .int .i64 0, .int .i64 0, .slice none 0 0, .slice none 0 0] 34 (0, 0)) ∧ W.heap[g4]? = some (.cells #[.int .i64 t.1, .int .i64 t.2.1, .int .i64 t.2.2.1, .int .i64 t.2.2.2.1, vc, vl] 34 (0, 0)) ∧ Kd.C (Kd.int .u8) W (some ad) l.length l ∧ Kd.R (Kd.int .u8) 5 W w.heap.size (fun k => k ≠ g4) (.slice (some ⟨gk, 0, none⟩) 5 ck) K ∧ Below w.heap.size w W
theorem rload {W : World} {ad : Addr} {l : List Int} (h : Kd.C (Kd.int .u8) W (some ad) l.length l) (n : Nat) (hn : n < l.length) : W.cell? (ad.add n) = some (.int .u8 (rd l (n : Int))) := by
  obtain ⟨ad', e0, hz⟩ := Kd.at_int h (n : Int) (by omega) (by omega)
  injection e0 with e0
  subst e0
  rw [Int.toNat_natCast] at hz
  exact hz
theorem rloadj {W : World} {ad : Addr} {l : List Int} (h : Kd.C (Kd.int .u8) W (some ad) l.length l) (n j : Nat) (hj : 0 < j) (hn : n + j < l.length) : W.cell? ⟨ad.block, ad.off + (n + j), none⟩ = some (.int .u8 (rd l ((n + j : Nat) : Int))) := by
  have := rload h (n + j) hn
  rw [Addr.add, if_neg (by omega)] at this
  exact this
theorem rloadk {W : World} {gk ck B : Nat} {ok : Nat → Prop} {K : List Int} (h : Kd.R (Kd.int .u8) 5 W B ok (.slice (some ⟨gk, 0, none⟩) 5 ck) K) (i : Nat) (hi : i < K.length) (hk : K.length = 5) : W.cell? ⟨gk, i, none⟩ = some (.int .u8 (rd K (i : Int))) := by
  obtain ⟨ad2, e2, hca⟩ := Kd.at_int (Kd.R_reads' h).2.2 (i : Int) (by omega) (by omega)
  injection e2 with e2
  subst e2
  have h2 : (⟨gk, 0, none⟩ : Addr).add ((i : Int)).toNat = ⟨gk, i, none⟩ := by
    rw [Int.toNat_natCast]
    by_cases h0 : i = 0 <;> simp [Addr.add, h0]
  rw [← h2]
  exact hca
theorem take_drop4 (l : List Int) (n m : Nat) : ((l.drop n).take m).drop 4 = (l.take (n + m)).drop (n + 4) := by
  rw [List.drop_take, List.drop_take, List.drop_drop, show n + m - (n + 4) = m - 4 from by omega]
theorem rd_drop (l : List Int) (n j : Nat) : rd (l.drop n) ((j : Nat) : Int) = rd l ((n + j : Nat) : Int) := by
  unfold rd
  rw [Int.toNat_natCast, Int.toNat_natCast]
  simp [List.getD, List.getElem?_drop]
theorem cutL_drop (l : List Int) (n : Nat) (k : Int) (h : n + 4 ≤ l.length) : cutL (l.drop n) k = if (rd l ((n : Nat) : Int) * 256 + rd l ((n + 1 : Nat) : Int)) < 4 ∨ rd l ((n + 2 : Nat) : Int) ≠ 129 ∨ rd l ((n + 3 : Nat) : Int) ≠ k then ([], [], 21) else if rd l ((n : Nat) : Int) * 256 + rd l ((n + 1 : Nat) : Int) > ((l.drop n).length : Int) then ([], [], 20) else (((l.drop n).take (rd l ((n : Nat) : Int) * 256 + rd l ((n + 1 : Nat) : Int)).toNat).drop 4, (l.drop n).drop (rd l ((n : Nat) : Int) * 256 + rd l ((n + 1 : Nat) : Int)).toNat, 0) := by
  have e0 := rd_drop l n 0
  have e1 := rd_drop l n 1
  have e2 := rd_drop l n 2
  have e3 := rd_drop l n 3
  have hl : (l.drop n).length = l.length - n := List.length_drop
  unfold cutL
  rw [if_neg (by omega)]
  unfold cutN
  rw [show rd (l.drop n) 0 = _ from e0, show rd (l.drop n) 1 = _ from e1, show rd (l.drop n) 2 = _ from e2, show rd (l.drop n) 3 = _ from e3]
  rfl
def r_T27 : Bool × List (List Nat × List Nat) := (true, [([], []), ([0], [0]), ([1], [1]), ([2], [2]), ([3], [3]), ([], []), ([5], [5]), ([6], [6]), ([7], [7]), ([4, 8], [4, 8]), ([], []), ([10], [10]), ([11], [11]), ([12], [12]), ([13], [13]), ([], []), ([15], [15]), ([16], [16]), ([17], [17]), ([14, 18], [14, 18]), ([9, 19], [9, 19]), ([0, 1, 2, 3, 4, 5, 6, 7, 8, 9, 10, 11, 12, 13, 14, 15, 16, 17, 18, 19, 20], []), ([21, 20, 0, 1, 2, 3, 4, 5, 6, 7, 8, 9, 10, 11, 12, 13, 14, 15, 16, 17, 18, 19, 20], [20, 21])])
theorem r_tab27 : rtab .any (opsOf Try.f12 27) = r_T27 := by kernel_rfl
theorem r_tab28 : rtab .any (opsOf Try.f12 28) = r_T27 := by kernel_rfl
def r_B : List Nat := [0, 1, 3, 7, 15, 0, 32, 96, 224, 511, 0, 1024, 3072, 7168, 15360, 0, 32768, 98304, 229376, 523264, 1048575, 2097151, 4194303]
theorem r_bits : waitsOk r_T27.2 r_B = true := by kernel_rfl
/-- The eight cells of two sizes. -/
def XC (W : World) (ad : Addr) (x : List Int) : Prop :=
  W.cell? ad = some (.int .u8 (rd x 0)) ∧ W.cell? ⟨ad.block, ad.off + 1, none⟩ = some (.int .u8 (rd x 1)) ∧ W.cell? ⟨ad.block, ad.off + 2, none⟩ = some (.int .u8 (rd x 2)) ∧ W.cell? ⟨ad.block, ad.off + 3, none⟩ = some (.int .u8 (rd x 3)) ∧ W.cell? ⟨ad.block, ad.off + 4, none⟩ = some (.int .u8 (rd x 4)) ∧ W.cell? ⟨ad.block, ad.off + 5, none⟩ = some (.int .u8 (rd x 5)) ∧ W.cell? ⟨ad.block, ad.off + 6, none⟩ = some (.int .u8 (rd x 6)) ∧ W.cell? ⟨ad.block, ad.off + 7, none⟩ = some (.int .u8 (rd x 7))
theorem XC_of {W : World} {ad : Addr} {x : List Int} (h : Kd.C (Kd.int .u8) W (some ad) x.length x) (hl : x.length = 8) : XC W ad x := by
  have h0 := rload h 0 (by omega)
  have e : ∀ j : Nat, 0 < j → j < 8 → W.cell? ⟨ad.block, ad.off + j, none⟩ = some (.int .u8 (rd x (j : Int))) := by
    intro j hj hj8
    have := rload h j (by omega)
    rw [Addr.add, if_neg (by omega)] at this
    exact this
  exact ⟨by simpa [Addr.add] using h0, e 1 (by decide) (by decide), e 2 (by decide) (by decide), e 3 (by decide) (by decide), e 4 (by decide) (by decide), e 5 (by decide) (by decide), e 6 (by decide) (by decide), e 7 (by decide) (by decide)⟩
theorem XC.below {w W : World} {ad : Addr} {x : List Int} (h : XC w ad x) (hb : Below w.heap.size w W) : XC W ad x := by
  have e : ∀ {a : Addr} {v : Value}, w.cell? a = some v → W.cell? a = some v := fun h => (hb.cell (World.block_lt_of_cell? w _ h)).trans h
  exact ⟨e h.1, e h.2.1, e h.2.2.1, e h.2.2.2.1, e h.2.2.2.2.1, e h.2.2.2.2.2.1, e h.2.2.2.2.2.2.1, e h.2.2.2.2.2.2.2⟩
theorem XC.drew {W : World} {ad : Addr} {x : List Int} (h : XC W ad x) : XC W.drew ad x := h
theorem XC.far {W : World} {ad : Addr} {x : List Int} {g j : Nat} (h : XC W ad x) (hn : ad.block ≠ g) (v : Value) : XC (W.setCell ⟨g, j, none⟩ v) ad x := by
  have e : ∀ {a : Addr} {u : Value}, a.block = ad.block → W.cell? a = some u → (W.setCell ⟨g, j, none⟩ v).cell? a = some u := fun hb h => (cell_far (p := ⟨g, j, none⟩) (by rw [hb]; exact hn) v).trans h
  exact ⟨e rfl h.1, e rfl h.2.1, e rfl h.2.2.1, e rfl h.2.2.2.1, e rfl h.2.2.2.2.1, e rfl h.2.2.2.2.2.1, e rfl h.2.2.2.2.2.2.1, e rfl h.2.2.2.2.2.2.2⟩
theorem some_of {W : World} {A : Option Addr} {x : List Int} (h : Kd.C (Kd.int .u8) W A x.length x) (hl : 0 < x.length) : ∃ ad, A = some ad := by
  obtain ⟨ad, e, _⟩ := (readsInt_of.2 (Kd.reads_of_C (d := (0 : Int)) h)).2.2 hl
  exact ⟨ad, e⟩
theorem w2_id {a b : Int} (ha : okB a) (hb : okB b) : wrap64 (wrap64 (256 * wrap64 a) + wrap64 b) = a * 256 + b := by
  unfold okB at ha hb
  rw [wrap_id (a := a) (by omega) (by omega), wrap_id (a := b) (by omega) (by omega), wrap_id (a := 256 * a) (by omega) (by omega), wrap_id (by omega) (by omega)]
  omega
theorem read8 {x : List Int} (ho : okL x) (hl : 4 ≤ x.length) : A.query_read.f x = some (wrap64 (wrap64 (256 * wrap64 (rd x 2)) + wrap64 (rd x 3)), wrap64 (wrap64 (256 * wrap64 (rd x 0)) + wrap64 (rd x 1))) := by
  have k : ∀ j : Int, j.toNat < 4 → okB (rd x j) := fun j hj => okL_rd ho j (by omega)
  unfold A.query_read.f
  rw [if_pos (by omega), if_pos (by omega), if_pos (by omega), if_pos (by omega), or_bytes (k 2 (by decide)) (k 3 (by decide)), or_bytes (k 0 (by decide)) (k 1 (by decide)), w2_id (k 2 (by decide)) (k 3 (by decide)), w2_id (k 0 (by decide)) (k 1 (by decide))]
theorem lay_sizes_f (x : List Int) (t : Ter) (h8 : x.length = 8) (ho : okL x) (hm : ¬ 100000 ≤ x.length) : layf 166 x t = some (true, wrap64 (wrap64 (256 * wrap64 (rd x 2)) + wrap64 (rd x 3)), wrap64 (wrap64 (256 * wrap64 (rd x 0)) + wrap64 (rd x 1)), wrap64 (wrap64 (256 * wrap64 (rd x 6)) + wrap64 (rd x 7)), wrap64 (wrap64 (256 * wrap64 (rd x 4)) + wrap64 (rd x 5)), t.2.2.2.2.1, t.2.2.2.2.2) := by
  have n4 : ¬ (166 : Int) = 134 := by decide
  have n5 : ¬ (166 : Int) = 135 := by decide
  have y6 : (166 : Int) = 166 := rfl
  have e : ∀ j : Nat, rd (x.drop 4) (j : Int) = rd x ((4 + j : Nat) : Int) := fun j => rd_drop x 4 j
  unfold layf
  rw [if_neg hm, if_neg n4, if_neg n5, if_pos y6, if_pos h8, read8 ho (by omega), Option.bind_some, read8 (okL_drop ho 4) (by rw [List.length_drop]; omega), Option.bind_some, show rd (x.drop 4) 0 = rd x 4 from e 0, show rd (x.drop 4) 1 = rd x 5 from e 1, show rd (x.drop 4) 2 = rd x 6 from e 2, show rd (x.drop 4) 3 = rd x 7 from e 3]
theorem wrapK {a : Int} (h1 : -9223372036854775808 ≤ a) (h2 : a < 9223372036854775808) : IntKind.i64.wrap a = a := by rw [IntKind.wrap_i64]; omega
theorem read_facts {l : List Int} (h : okL l) {n : Nat} (hn : n + 1 < l.length) (hl : l.length < 100000) : IntKind.i64.wrap (rd l (n : Int)) = rd l (n : Int) ∧ IntKind.i64.wrap (256 * rd l (n : Int)) = 256 * rd l (n : Int) ∧ IntKind.i64.wrap (rd l ((n + 1 : Nat) : Int)) = rd l ((n + 1 : Nat) : Int) ∧ IntKind.i64.wrap (256 * rd l (n : Int) + rd l ((n + 1 : Nat) : Int)) = 256 * rd l (n : Int) + rd l ((n + 1 : Nat) : Int) ∧ IntKind.i64.wrap ((n : Int) + 1) = (n : Int) + 1 ∧ (0 ≤ 256 * rd l (n : Int) + rd l ((n + 1 : Nat) : Int) ∧ 256 * rd l (n : Int) + rd l ((n + 1 : Nat) : Int) < 65536) := by
  have a := okL_rd h (n : Int) (by omega)
  have b := okL_rd h ((n + 1 : Nat) : Int) (by omega)
  unfold okB at a b
  exact ⟨wrapK (by omega) (by omega), wrapK (by omega) (by omega), wrapK (by omega) (by omega), wrapK (by omega) (by omega), wrapK (by omega) (by omega), by omega, by omega⟩

theorem vput6 {w w1 : World} {g c : Nat} {A : Option Addr} {P : Nat → Prop} {xs : List Int} (v0 v1 v2 v3 v4 v5 : Value) (h : Kd.V (Kd.int .u8) 5 w w.heap.size (fun k_ => P k_) (.slice A xs.length c) xs) (hb : Below w.heap.size w w1) (hg : w.heap.size ≤ g) :
    Kd.V (Kd.int .u8) 5 ((((((w1.setCell ⟨g, 0, none⟩ v0).setCell ⟨g, 1, none⟩ v1).setCell ⟨g, 2, none⟩ v2).setCell ⟨g, 3, none⟩ v3).setCell ⟨g, 4, none⟩ v4).setCell ⟨g, 5, none⟩ v5) w.heap.size (fun k_ => (P k_ ∨ w.heap.size ≤ k_)) (.slice A xs.length c) xs :=
  Kd.V_mono (Kd.V_below h (below_put6 v0 v1 v2 v3 v4 v5 hb hg)) (fun _ hk => .inl hk)
theorem wend (l : List Int) (t : Ter) : (∃ e, e ≠ 0 ∧ greenscreenref24_Write.f 2100 t.1 t.2.1 t.2.2.1 t.2.2.2.1 t.2.2.2.2.1 t.2.2.2.2.2 = some ([], e) ∧ parse_end l t = some (none_f 21)) ∨ ((writeL t).length ≤ 346 ∧ greenscreenref24_Write.f 2100 t.1 t.2.1 t.2.2.1 t.2.2.2.1 t.2.2.2.2.1 t.2.2.2.2.2 = some (writeL t, 0) ∧ parse_end l t = some (if writeL t = l then (t.1, t.2.1, t.2.2.1, t.2.2.2.1, t.2.2.2.2.1, t.2.2.2.2.2, 0) else none_f 21)) := by
  by_cases h : okT t
  · by_cases hf : few t
    · exact .inr ⟨write_len t hf, refW_ok t h hf 2100 (by decide), end_ok l t h hf⟩
    · refine .inl ⟨3, by decide, refW_many t h hf 2100 (by decide), ?_⟩
      rcases end_any l t with e | ⟨_, q, _⟩
      · exact e
      · exact absurd q hf
  · refine .inl ⟨1, by decide, refW_arg t h 2100 (by decide), ?_⟩
    rcases end_any l t with e | ⟨q, _⟩
    · exact e
    · exact absurd q h

set_option maxHeartbeats 16000000 in
set_option maxRecDepth 100000 in
theorem rparse_empty (P0_ : Nat → Prop) (A : Option Addr) (c : Nat) (w : World) : Calls Try.prog 12 #[.slice A 0 c] w (RGives P0_ w (none_f 20)) := by
  have hu34 := Try.underlying34
  have HB := Aside0.mk (Below.refl w.heap.size w)
  go_enter Try.func12, Try.ntmps12
  go_upto_region 2 with ((with_reducible refine gate_dst (N := 2) rfl ?_); refine box_event ?hg (N := 2) ?hd (cs := #[.int .i64 0, .int .i64 0, .int .i64 0, .int .i64 0, .slice none 0 0, .slice none 0 0]) (t := 34) ?hr ?_; (case hd => rfl); (case hg => rfl); (case hr => first | (go_simp; done) | (go_simp; rfl)); intro g2 hg w1 hbox hb; have n0_ := Aside0.mk (below_step HB.out hb); have BK2 := Aside0.mk hbox; have GE2 := Aside0.mk ((by rw [hg]; exact Nat.le_refl _) : w.heap.size ≤ g2); clear HB; have HB := n0_; clear n0_ hb hbox hg)
  have hza_0 := (show w1.cell? ⟨g2, 0, none⟩ = _ from (blk_cell BK2.out 0).trans rfl)
  have hfa_0 := blk_frozen BK2.out 0
  have hza_1 := (show w1.cell? ⟨g2, 1, none⟩ = _ from (blk_cell BK2.out 1).trans rfl)
  have hfa_1 := blk_frozen BK2.out 1
  have hza_2 := (show w1.cell? ⟨g2, 2, none⟩ = _ from (blk_cell BK2.out 2).trans rfl)
  have hfa_2 := blk_frozen BK2.out 2
  have hza_3 := (show w1.cell? ⟨g2, 3, none⟩ = _ from (blk_cell BK2.out 3).trans rfl)
  have hfa_3 := blk_frozen BK2.out 3
  have hza_4 := (show w1.cell? ⟨g2, 4, none⟩ = _ from (blk_cell BK2.out 4).trans rfl)
  have hfa_4 := blk_frozen BK2.out 4
  have hza_5 := (show w1.cell? ⟨g2, 5, none⟩ = _ from (blk_cell BK2.out 5).trans rfl)
  have hfa_5 := blk_frozen BK2.out 5
  go_wp2
  refine bodyPost_ret (results_ct rfl _ _ g2 34 #[.int .i64 0, .int .i64 0, .int .i64 0, .int .i64 0, .slice none 0 0, .slice none 0 0] (0, 0) _ rfl (rput6 BK2.out) Try.underlying34 rfl (by kernel_rfl)) rfl ?_
  exact ⟨_, _, rfl, Kd.V_nil _ _ _ _ _, Kd.V_nil _ _ _ _ _, below_put6 _ _ _ _ _ _ HB.out GE2.out⟩

set_option maxHeartbeats 16000000 in
set_option maxRecDepth 100000 in
theorem rparse_calls (P0_ : Nat → Prop) (A : Option Addr) (c : Nat) (l : List Int) (w : World) (r : Int × Int × Int × Int × List Int × List Int × Int) (hV : Kd.V (Kd.int .u8) 5 w w.heap.size (fun k_ => P0_ k_) (.slice A l.length c) l) (h : rparse_f l = some r) : Calls Try.prog 12 #[.slice A l.length c] w (RGives P0_ w r) := by
  have hu34 := Try.underlying34
  have hu23 := Try.underlying23
  unfold rparse_f at h
  split at h
  case isFalse => cases h
  rename_i hokb
  have HOK := Aside0.mk (okb_ok hokb)
  clear hokb
  split at h
  case isFalse => cases h
  rename_i hlim
  have HLIM := Aside0.mk hlim
  clear hlim
  unfold parse_f at h
  split at h
  · rename_i hl
    obtain rfl := Option.some.inj h
    rw [hl]
    exact rparse_empty P0_ A c w
  rename_i hl
  have hlp : 0 < l.length := by omega
  have hc : l.length ≤ c := (Kd.V_reads' hV).2.1
  have hr := readsInt_of.2 (Kd.reads_of_C (d := (0 : Int)) (Kd.V_reads' hV).2.2)
  have HC := Aside0.mk (fun (w1 : World) (hb1 : Below w.heap.size w w1) => (Kd.C_of_reads (readsInt_of.1 (hr.below hb1)) : Kd.C (Kd.int .u8) w1 A l.length l))
  obtain ⟨ad, rfl, _⟩ := hr.2.2 hlp
  have HV := Aside0.mk hV
  have HCC := Aside0.mk hc
  clear hr hV
  have HB := Aside0.mk (Below.refl w.heap.size w)
  have H := Aside0.mk h
  clear h
  have b0 : decide (0 < l.length) = true := decide_eq_true hlp
  have b1 : decide (0 < (l.length : Int)) = true := decide_eq_true (by omega)
  have b2 : ((l.length : Int) == 0) = false := beq_eq_false_iff_ne.mpr (by omega)
  have b3 : ¬ ((l.length : Int) = 0) := by omega
  go_enter Try.func12, Try.ntmps12
  go_upto_region 3 with ((with_reducible refine gate_dst (N := 2) rfl ?_); refine box_event ?hg (N := 2) ?hd (cs := #[.int .i64 0, .int .i64 0, .int .i64 0, .int .i64 0, .slice none 0 0, .slice none 0 0]) (t := 34) ?hr ?_; (case hd => rfl); (case hg => rfl); (case hr => first | (go_simp; done) | (go_simp; rfl)); intro g2 hg w1 hbox hb; have n0_ := Aside0.mk (below_step HB.out hb); have BK2 := Aside0.mk hbox; have GE2 := Aside0.mk ((by rw [hg]; exact Nat.le_refl _) : w.heap.size ≤ g2); clear HB; have HB := n0_; clear n0_ hb hbox hg)
  obtain ⟨ad', e0, hcell0⟩ := Kd.at_int (HC.out _ HB.out) 0 (Int.le_refl _) (by omega)
  injection e0 with e0
  subst e0
  rw [show ((0 : Int)).toNat = 0 from rfl] at hcell0
  have hcell : w1.cell? ad = some (.int .u8 (rd l 0)) := by simpa [Addr.add] using hcell0
  clear hcell0
  have hne : g2 ≠ w1.heap.size := Nat.ne_of_lt (blk_lt BK2.out)
  by_cases hd : rd l 0 = 136
  case neg =>
    have h := H.out
    rw [if_neg hd] at h
    obtain rfl := Option.some.inj h
    clear h H
    have hb4 : (rd l 0 == 136) = false := beq_eq_false_iff_ne.mpr hd
    have hb5 : (rd l 0 != 136) = true := bne_iff_ne.mpr hd
    have hzb_0 := (show w1.cell? ⟨g2, 0, none⟩ = _ from (blk_cell BK2.out 0).trans rfl)
    have hfb_0 := blk_frozen BK2.out 0
    have hzb_1 := (show w1.cell? ⟨g2, 1, none⟩ = _ from (blk_cell BK2.out 1).trans rfl)
    have hfb_1 := blk_frozen BK2.out 1
    have hzb_2 := (show w1.cell? ⟨g2, 2, none⟩ = _ from (blk_cell BK2.out 2).trans rfl)
    have hfb_2 := blk_frozen BK2.out 2
    have hzb_3 := (show w1.cell? ⟨g2, 3, none⟩ = _ from (blk_cell BK2.out 3).trans rfl)
    have hfb_3 := blk_frozen BK2.out 3
    have hzb_4 := (show w1.cell? ⟨g2, 4, none⟩ = _ from (blk_cell BK2.out 4).trans rfl)
    have hfb_4 := blk_frozen BK2.out 4
    have hzb_5 := (show w1.cell? ⟨g2, 5, none⟩ = _ from (blk_cell BK2.out 5).trans rfl)
    have hfb_5 := blk_frozen BK2.out 5
    go_wp2
    refine bodyPost_ret (results_ct rfl _ _ g2 34 #[.int .i64 0, .int .i64 0, .int .i64 0, .int .i64 0, .slice none 0 0, .slice none 0 0] (0, 0) _ rfl (rput6 BK2.out) Try.underlying34 rfl (by kernel_rfl)) rfl ?_
    exact ⟨_, _, rfl, Kd.V_nil _ _ _ _ _, Kd.V_nil _ _ _ _ _, below_put6 _ _ _ _ _ _ HB.out GE2.out⟩
  case pos =>
    have h := H.out
    rw [if_pos hd] at h
    have H1 := Aside0.mk h
    clear h H
    have hb4 : (rd l 0 == 136) = true := beq_iff_eq.mpr hd
    have hb5 : (rd l 0 != 136) = false := bne_eq_false_iff_eq.mpr hd
    go_upto_region 6 with ((with_reducible refine gate_dst (N := 4) rfl ?_); refine box_event ?hg (N := 4) ?hd (cs := #[.int .i64 0, .int .i64 0, .int .i64 0, .int .i64 0, .slice none 0 0, .slice none 0 0]) (t := 34) ?hr ?_; (case hd => rfl); (case hg => rfl); (case hr => first | (go_simp; done) | (go_simp; rfl)); intro g4 hg w2 hbox hb; have n0_ := Aside0.mk (below_step HB.out hb); have BK4 := Aside0.mk hbox; have GE4 := Aside0.mk ((by rw [hg]; exact below_size HB.out) : w.heap.size ≤ g4); have NE2 := Aside0.mk (show g2 ≠ g4 from by rw [hg]; exact Nat.ne_of_lt (blk_lt BK2.out)); have n1_ := Aside0.mk (blk_below BK2.out hb); clear BK2; have BK2 := n1_; clear n1_; have hzc_0 := (show w2.cell? ⟨g4, 0, none⟩ = _ from (blk_cell BK4.out 0).trans rfl); have hfc_0 := blk_frozen BK4.out 0; have hzc_1 := (show w2.cell? ⟨g4, 1, none⟩ = _ from (blk_cell BK4.out 1).trans rfl); have hfc_1 := blk_frozen BK4.out 1; have hzc_2 := (show w2.cell? ⟨g4, 2, none⟩ = _ from (blk_cell BK4.out 2).trans rfl); have hfc_2 := blk_frozen BK4.out 2; have hzc_3 := (show w2.cell? ⟨g4, 3, none⟩ = _ from (blk_cell BK4.out 3).trans rfl); have hfc_3 := blk_frozen BK4.out 3; have hzc_4 := (show w2.cell? ⟨g4, 4, none⟩ = _ from (blk_cell BK4.out 4).trans rfl); have hfc_4 := blk_frozen BK4.out 4; have hzc_5 := (show w2.cell? ⟨g4, 5, none⟩ = _ from (blk_cell BK4.out 5).trans rfl); have hfc_5 := blk_frozen BK4.out 5; clear HB; have HB := n0_; clear n0_ hb hbox hg)
    have n1_ := Aside0.mk (rput6 (v0 := .int .i64 0) (v1 := .int .i64 0) (v2 := .int .i64 0) (v3 := .int .i64 0) (v4 := .slice none 0 0) (v5 := .slice none 0 0) BK4.out)
    have n2_ := Aside0.mk (far6 (.int .i64 0) (.int .i64 0) (.int .i64 0) (.int .i64 0) (.slice none 0 0) (.slice none 0 0) BK2.out NE2.out)
    have n3_ := Aside0.mk (below_put6 (.int .i64 0) (.int .i64 0) (.int .i64 0) (.int .i64 0) (.slice none 0 0) (.slice none 0 0) HB.out GE4.out)
    clear BK4 BK2 HB hzc_0 hzc_1 hzc_2 hzc_3 hzc_4 hzc_5 hfc_0 hfc_1 hfc_2 hfc_3 hfc_4 hfc_5 hcell
    have BK4 := n1_
    have BK2 := n2_
    have HB := n3_
    clear n1_ n2_ n3_
    generalize ((((((w2.setCell ⟨g4, 0, none⟩ (.int .i64 0)).setCell ⟨g4, 1, none⟩ (.int .i64 0)).setCell ⟨g4, 2, none⟩ (.int .i64 0)).setCell ⟨g4, 3, none⟩ (.int .i64 0)).setCell ⟨g4, 4, none⟩ (.slice none 0 0)).setCell ⟨g4, 5, none⟩ (.slice none 0 0)) = w2b at BK4 BK2 HB ⊢
    obtain ⟨K, hK⟩ : ∃ K : List Int, K = [128, 129, 134, 135, 166] := ⟨_, rfl⟩
    rw [← hK] at H1
    have hKl : K.length = 5 := by rw [hK]; rfl
    have NE := Aside0.mk hne
    clear hne
    go_wp2_with ((with_reducible refine gate_dst (N := 22) rfl ?_); (try (refine gate_guard (by rfl) ?_; dsimp only)); refine Kd.R_lit (Kd.int .u8) _ 5 ?hg (N := 22) ?hd (xs := ([128, 129, 134, 135, 166] : List Int)) (inner := [.int .u8 128, .int .u8 129, .int .u8 134, .int .u8 135, .int .u8 166]) (ok := fun _ => True) (okp := fun _ => True) ?hr ?hp (fun _ hk => hk) trivial (Below.refl _ _) (Nat.le_refl _) (by simp) ?_; (case hd => rfl); (case hg => rfl); (case hr => first | (go_simp; done) | (go_simp; rfl)); (case hp => exact (Reps.one (show Kd.M (Kd.int .u8) _ _ _ 128 [.int .u8 128] from rfl) (Reps.one (show Kd.M (Kd.int .u8) _ _ _ 129 [.int .u8 129] from rfl) (Reps.one (show Kd.M (Kd.int .u8) _ _ _ 134 [.int .u8 134] from rfl) (Reps.one (show Kd.M (Kd.int .u8) _ _ _ 135 [.int .u8 135] from rfl) (Reps.one (show Kd.M (Kd.int .u8) _ _ _ 166 [.int .u8 166] from rfl) (Reps.none _ _))))))); intro vk w3 hR hb hg_ hnew_; clear hg_ hnew_; rw [← hK] at hR; have n1_ := Aside0.mk (blk_below BK2.out hb); have n2_ := Aside0.mk (blk_below BK4.out hb); have n3_ := Aside0.mk (below_step HB.out hb); have HK := Aside0.mk (Kd.R_lower (Kd.R_mono (Kd.R_bound hR) (fun k hk => show k ≠ g4 from fun e => Nat.lt_irrefl _ (Nat.lt_of_lt_of_le (blk_lt BK4.out) (e ▸ hk.2.1)))) (below_size HB.out)); clear BK2 BK4 HB hR hb; have BK2 := n1_; have BK4 := n2_; have HB := n3_; clear n1_ n2_ n3_; obtain ⟨gk, ck, rfl, hgk1, hgk2, _⟩ := Kd.R_form HK.out (by omega); rw [hKl] at HK)
    have HKK := Aside0.mk hK
    clear hK
    go_loopw [5, 7] (fun v5 v7 wr => ∃ (i n : Nat) (t : Ter) (vc vl : Value), v5 = .int .i64 (n : Int) ∧ v7 = .int .i64 (i : Int) ∧ i ≤ 5 ∧ n ≤ l.length ∧ Aside0 ((parse_l (K.drop i) (l.drop n) t).bind (parse_out l) = some r) ∧ Aside0 (Kd.V (Kd.int .u8) 5 w w.heap.size (fun k_ => P0_ k_) vc t.2.2.2.2.1) ∧ Aside0 (Kd.V (Kd.int .u8) 5 w w.heap.size (fun k_ => P0_ k_) vl t.2.2.2.2.2) ∧ Aside0 (wr.heap[g2]? = some (.cells #[.int .i64 0, .int .i64 0, .int .i64 0, .int .i64 0, .slice none 0 0, .slice none 0 0] 34 (0, 0))) ∧ Aside0 (wr.heap[g4]? = some (.cells #[.int .i64 t.1, .int .i64 t.2.1, .int .i64 t.2.2.1, .int .i64 t.2.2.2.1, vc, vl] 34 (0, 0))) ∧ Aside0 (Kd.R (Kd.int .u8) 5 wr w.heap.size (fun k => k ≠ g4) (.slice (some ⟨gk, 0, none⟩) 5 ck) K) ∧ Aside0 (Below w.heap.size w wr))
      (fun _ i _ => 5 - (intOf i).toNat)
    case atStart => exact ⟨0, 1, (0, 0, 0, 0, [], []), _, _, rfl, rfl, by omega, by omega, ⟨H1.out⟩, ⟨Kd.V_nil _ _ _ _ _⟩, ⟨Kd.V_nil _ _ _ _ _⟩, ⟨BK2.out⟩, ⟨BK4.out⟩, ⟨HK.out⟩, ⟨HB.out⟩⟩
    case round =>
      obtain ⟨i, n, t, vc, vl, rfl, rfl, hi, hn, H, HVc, HVl, BK2r, BK4r, HKr, HBr⟩ := hrel
      clear BK2 BK4 HK HB H1
      have BK2 := BK2r
      have BK4 := BK4r
      have HK := HKr
      have HB := HBr
      clear BK2r BK4r HKr HBr
      by_cases hi5 : i < 5
      · obtain ⟨kd, hkd⟩ : ∃ kd, kd = rd K (i : Int) := ⟨_, rfl⟩
        have hsplit : K.drop i = kd :: K.drop (i + 1) := by
          rw [List.drop_eq_getElem_cons (by omega : i < K.length), hkd]
          simp [rd, List.getD, List.getElem?_eq_getElem (by omega : i < K.length)]
        have h := H.out
        rw [hsplit, parse_l, cut_f _ _ (okL_drop HOK.out n) 4, Option.bind_some] at h
        clear H hsplit
        have hld : (l.drop n).length = l.length - n := List.length_drop
        have d1 : decide ((i : Int) < 5) = true := decide_eq_true (by omega)
        have d3 : (i : Int) < 5 := by omega
        have hw1 : wrap64 ((l.length : Int) - (n : Int)) = (l.length : Int) - (n : Int) := by have := HLIM.out; exact wrap_id (by omega) (by omega)
        by_cases c1 : l.length - n < 4
        · have e1 : (l.length : Int) - (n : Int) < 4 := by omega
          have hcut : cutL (l.drop n) kd = ([], [], 20) := by unfold cutL; rw [if_pos (by omega)]
          rw [hcut] at h
          obtain rfl := Option.some.inj (h : some (none_f 20) = some r)
          clear h hcut hld hkd c1 hKl hgk1 hgk2 hi hi5 d3
          go_upto_region 12 with (fail)
          have hzd_0 := (show wr.cell? ⟨g2, 0, none⟩ = _ from (blk_cell BK2.out 0).trans rfl)
          have hfd_0 := blk_frozen BK2.out 0
          have hzd_1 := (show wr.cell? ⟨g2, 1, none⟩ = _ from (blk_cell BK2.out 1).trans rfl)
          have hfd_1 := blk_frozen BK2.out 1
          have hzd_2 := (show wr.cell? ⟨g2, 2, none⟩ = _ from (blk_cell BK2.out 2).trans rfl)
          have hfd_2 := blk_frozen BK2.out 2
          have hzd_3 := (show wr.cell? ⟨g2, 3, none⟩ = _ from (blk_cell BK2.out 3).trans rfl)
          have hfd_3 := blk_frozen BK2.out 3
          have hzd_4 := (show wr.cell? ⟨g2, 4, none⟩ = _ from (blk_cell BK2.out 4).trans rfl)
          have hfd_4 := blk_frozen BK2.out 4
          have hzd_5 := (show wr.cell? ⟨g2, 5, none⟩ = _ from (blk_cell BK2.out 5).trans rfl)
          have hfd_5 := blk_frozen BK2.out 5
          go_wp2
          refine bodyPost_ret (results_ct rfl _ _ g2 34 #[.int .i64 0, .int .i64 0, .int .i64 0, .int .i64 0, .slice none 0 0, .slice none 0 0] (0, 0) _ rfl (rput6 BK2.out) Try.underlying34 rfl (by kernel_rfl)) rfl ?_
          exact ⟨_, _, rfl, Kd.V_nil _ _ _ _ _, Kd.V_nil _ _ _ _ _, below_put6 _ _ _ _ _ _ HB.out GE2.out⟩
        · have e1 : ¬ ((l.length : Int) - (n : Int) < 4) := by omega
          have HH := Aside0.mk h
          have HLD := Aside0.mk hld
          have HKD := Aside0.mk hkd
          have C1 := Aside0.mk c1
          have HKL := Aside0.mk hKl
          have HI5 := Aside0.mk hi5
          clear h hld hkd c1 hKl hgk1 hgk2 hi hi5 d3
          go_upto_region 13 with (fail)
          clear hw1 e1
          have F := Aside0.mk (read_facts (HOK.out) (n := n) (by have := C1.out; omega) HLIM.out)
          obtain ⟨x0, hx0⟩ : ∃ x, x = rd l ((n : Nat) : Int) := ⟨_, rfl⟩
          obtain ⟨x1, hx1⟩ : ∃ x, x = rd l ((n + 1 : Nat) : Int) := ⟨_, rfl⟩
          obtain ⟨x2, hx2⟩ : ∃ x, x = rd l ((n + 2 : Nat) : Int) := ⟨_, rfl⟩
          obtain ⟨x3, hx3⟩ : ∃ x, x = rd l ((n + 3 : Nat) : Int) := ⟨_, rfl⟩
          rw [← hx0, ← hx1] at F
          have HCUT := Aside0.mk (cutL_drop l n kd (by have := C1.out; omega))
          rw [← hx0, ← hx1, ← hx2, ← hx3] at HCUT
          obtain ⟨m, hm⟩ : ∃ m : Nat, 256 * x0 + x1 = (m : Int) := ⟨(256 * x0 + x1).toNat, by have := F.out.2.2.2.2.2.1; omega⟩
          have L0 := Aside0.mk (fun (W : World) (h : Kd.C (Kd.int .u8) W (some ad) l.length l) => (rload h n (by have := C1.out; omega)))
          have L1 := Aside0.mk (fun (W : World) (h : Kd.C (Kd.int .u8) W (some ad) l.length l) => (rloadj h n 1 (by decide) (by have := C1.out; omega)))
          have L2 := Aside0.mk (fun (W : World) (h : Kd.C (Kd.int .u8) W (some ad) l.length l) => (rloadj h n 2 (by decide) (by have := C1.out; omega)))
          have L3 := Aside0.mk (fun (W : World) (h : Kd.C (Kd.int .u8) W (some ad) l.length l) => (rloadj h n 3 (by decide) (by have := C1.out; omega)))
          have LK := Aside0.mk (fun (W : World) (h : Kd.R (Kd.int .u8) 5 W w.heap.size (fun k => k ≠ g4) (.slice (some ⟨gk, 0, none⟩) 5 ck) K) => rloadk h i (by have := HKL.out; have := HI5.out; omega) (by have := HKL.out; omega))
          rw [← hx0] at L0
          rw [← hx1] at L1
          rw [← hx2] at L2
          rw [← hx3] at L3
          rw [← HKD.out] at LK
          have FM := Aside0.mk (show 0 ≤ (m : Int) ∧ m < 65536 from by have := F.out.2.2.2.2.2; omega)
          have FW := Aside0.mk (show IntKind.i64.wrap (256 * x0 + x1) = (m : Int) from by rw [F.out.2.2.2.1, hm])
          have HCUTM := Aside0.mk (show x0 * 256 + x1 = (m : Int) from by rw [← hm]; omega)
          have FN := Aside0.mk (show (IntKind.i64.wrap ((n : Int) + 1) = (n : Int) + 1 ∧ IntKind.i64.wrap ((n : Int) + 2) = (n : Int) + 2 ∧ IntKind.i64.wrap ((n : Int) + 3) = (n : Int) + 3) from by have := C1.out; have := HLIM.out; exact ⟨wrapK (by omega) (by omega), wrapK (by omega) (by omega), wrapK (by omega) (by omega)⟩)
          clear hx0 hx1 hx2 hx3 hm
          have B0 := Aside0.mk (show l.length ≤ n → False by have := C1.out; omega)
          have B1 := Aside0.mk (show (0 ≤ (n : Int) + 1 → (l.length : Int) ≤ (n : Int) + 1) → False by have := C1.out; omega)
          have B2 := Aside0.mk (show (0 ≤ (n : Int) + 2 ∧ (n : Int) + 2 < (l.length : Int)) ∧ ad.add ((n : Int) + 2).toNat = ⟨ad.block, ad.off + (n + 2), none⟩ from ⟨by have := C1.out; omega, by rw [show ((n : Int) + 2).toNat = n + 2 by omega, Addr.add, if_neg (by omega)]⟩)
          have B3 := Aside0.mk (show (0 ≤ (n : Int) + 3 ∧ (n : Int) + 3 < (l.length : Int)) ∧ ad.add ((n : Int) + 3).toNat = ⟨ad.block, ad.off + (n + 3), none⟩ from ⟨by have := C1.out; omega, by rw [show ((n : Int) + 3).toNat = n + 3 by omega, Addr.add, if_neg (by omega)]⟩)
          have BI := Aside0.mk (show (5 : Int) ≤ (i : Int) → False by have := HI5.out; omega)
          refine wp_region_class (fun W => RC W g2 g4 l ad gk ck K t vc vl w) (by kernel_rfl) (by kernel_rfl) ⟨BK2.out, BK4.out, HC.out _ ⟨HB.out.os, HB.out.tape, HB.out.output, HB.out.size, HB.out.block⟩, Kd.R_drew HK.out, ⟨HB.out.os, HB.out.tape, HB.out.output, HB.out.size, HB.out.block⟩⟩ ?_
          apply q_mv (v := (.slice (some ad) l.length c))
          · rfl
          · rfl
          · rfl
          (try simp only [Act.put, List.setIfInBounds_toArray, List.set_cons_zero, List.set_cons_succ])
          apply q_mv (v := (.int .i64 (n : Int)))
          · rfl
          · rfl
          · rfl
          (try simp only [Act.put, List.setIfInBounds_toArray, List.set_cons_zero, List.set_cons_succ])
          apply q_run (v := (.pointer (some (ad.add n))))
          · rfl
          · intro W hW; go_simp; exact fun h_ => (B0.out h_).elim
          (try simp only [Act.put, List.setIfInBounds_toArray, List.set_cons_zero, List.set_cons_succ])
          apply q_run (v := (.int .u8 x0))
          · rfl
          · intro W hW; have hz := L0.out _ hW.2.2.1; go_simp
          (try simp only [Act.put, List.setIfInBounds_toArray, List.set_cons_zero, List.set_cons_succ])
          apply q_run (v := (.int .i64 x0))
          · rfl
          · intro W hW; go_simp; exact F.out.1
          (try simp only [Act.put, List.setIfInBounds_toArray, List.set_cons_zero, List.set_cons_succ])
          apply q_run (v := (.int .i64 (256 * x0)))
          · rfl
          · intro W hW; go_simp; exact F.out.2.1
          (try simp only [Act.put, List.setIfInBounds_toArray, List.set_cons_zero, List.set_cons_succ])
          apply q_mv (v := (.slice (some ad) l.length c))
          · rfl
          · rfl
          · rfl
          (try simp only [Act.put, List.setIfInBounds_toArray, List.set_cons_zero, List.set_cons_succ])
          apply q_mv (v := (.int .i64 (n : Int)))
          · rfl
          · rfl
          · rfl
          (try simp only [Act.put, List.setIfInBounds_toArray, List.set_cons_zero, List.set_cons_succ])
          apply q_run (v := (.int .i64 ((n : Int) + 1)))
          · rfl
          · intro W hW; go_simp; exact FN.out.1
          (try simp only [Act.put, List.setIfInBounds_toArray, List.set_cons_zero, List.set_cons_succ])
          apply q_run (v := (.pointer (some ⟨ad.block, ad.off + (n + 1), none⟩)))
          · rfl
          · intro W hW; go_simp; exact fun h_ => (B1.out h_).elim
          (try simp only [Act.put, List.setIfInBounds_toArray, List.set_cons_zero, List.set_cons_succ])
          apply q_run (v := (.int .u8 x1))
          · rfl
          · intro W hW; have hz := L1.out _ hW.2.2.1; go_simp
          (try simp only [Act.put, List.setIfInBounds_toArray, List.set_cons_zero, List.set_cons_succ])
          apply q_run (v := (.int .i64 x1))
          · rfl
          · intro W hW; go_simp; exact F.out.2.2.1
          (try simp only [Act.put, List.setIfInBounds_toArray, List.set_cons_zero, List.set_cons_succ])
          apply q_run (v := (.int .i64 (m : Int)))
          · rfl
          · intro W hW; go_simp; exact FW.out
          (try simp only [Act.put, List.setIfInBounds_toArray, List.set_cons_zero, List.set_cons_succ])
          apply q_asg (v := (.int .i64 (m : Int)))
          · rfl
          · rfl
          · rfl
          (try simp only [Act.put, List.setIfInBounds_toArray, List.set_cons_zero, List.set_cons_succ])
          refine wpQuiet_nil ?_
          rintro wa ⟨q1, q2, _, q4, q5⟩
          clear BK2 BK4 HB HK
          have BK2 := Aside0.mk q1
          have BK4 := Aside0.mk q2
          have HK := Aside0.mk q4
          have HB := Aside0.mk q5
          clear q1 q2 q4 q5
          go_upto_region 14 with (fail)
          have hh := HH.out
          rw [HCUT.out, HCUTM.out] at hh
          have HH2 := Aside0.mk hh
          clear HH hh
          by_cases ca : m < 4
          · have ca1 : (m : Int) < 4 := by omega
            have hh := HH2.out
            rw [if_pos (Or.inl ca1)] at hh
            obtain rfl := Option.some.inj (hh : some (none_f 21) = some r)
            clear hh HH2
            go_quiet (fail)
            have n1_ := Aside0.mk (blk_drewN BK2.out nq)
            have n2_ := Aside0.mk (pw_below_drewN HB.out nq)
            clear BK2 HB
            have BK2 := n1_
            have HB := n2_
            clear n1_ n2_
            generalize wa.drewN nq = wb at BK2 HB ⊢
            go_upto_region 15 with (fail)
            have hze1_0 := (show wb.cell? ⟨g2, 0, none⟩ = _ from (blk_cell BK2.out 0).trans rfl)
            have hfe1_0 := blk_frozen BK2.out 0
            have hze1_1 := (show wb.cell? ⟨g2, 1, none⟩ = _ from (blk_cell BK2.out 1).trans rfl)
            have hfe1_1 := blk_frozen BK2.out 1
            have hze1_2 := (show wb.cell? ⟨g2, 2, none⟩ = _ from (blk_cell BK2.out 2).trans rfl)
            have hfe1_2 := blk_frozen BK2.out 2
            have hze1_3 := (show wb.cell? ⟨g2, 3, none⟩ = _ from (blk_cell BK2.out 3).trans rfl)
            have hfe1_3 := blk_frozen BK2.out 3
            have hze1_4 := (show wb.cell? ⟨g2, 4, none⟩ = _ from (blk_cell BK2.out 4).trans rfl)
            have hfe1_4 := blk_frozen BK2.out 4
            have hze1_5 := (show wb.cell? ⟨g2, 5, none⟩ = _ from (blk_cell BK2.out 5).trans rfl)
            have hfe1_5 := blk_frozen BK2.out 5
            go_wp2
            refine bodyPost_ret (results_ct rfl _ _ g2 34 #[.int .i64 0, .int .i64 0, .int .i64 0, .int .i64 0, .slice none 0 0, .slice none 0 0] (0, 0) _ rfl (rput6 BK2.out) Try.underlying34 rfl (by kernel_rfl)) rfl ?_
            exact ⟨_, _, rfl, Kd.V_nil _ _ _ _ _, Kd.V_nil _ _ _ _ _, below_put6 _ _ _ _ _ _ HB.out GE2.out⟩
          have ca1 : ¬ (m : Int) < 4 := by omega
          by_cases cb : x2 = 129
          case neg =>
            have hh := HH2.out
            rw [if_pos (Or.inr (Or.inl cb))] at hh
            obtain rfl := Option.some.inj (hh : some (none_f 21) = some r)
            have cb1 : (x2 == 129) = false := beq_eq_false_iff_ne.mpr cb
            have cb2 : (x2 != 129) = true := bne_iff_ne.mpr cb
            clear hh HH2
            have hz := L2.out _ (HC.out _ HB.out)
            have hb2 := B2.out.1.1
            have hb3 := B2.out.1.2
            have hb4 := B2.out.2
            have hw5 : wrap64 ((n : Int) + 2) = (n : Int) + 2 := by have := C1.out; have := HLIM.out; exact wrap_id (by omega) (by omega)
            go_quiet (fail)
            have n1_ := Aside0.mk (blk_drewN BK2.out nq)
            have n2_ := Aside0.mk (pw_below_drewN HB.out nq)
            clear BK2 HB
            have BK2 := n1_
            have HB := n2_
            clear n1_ n2_
            generalize wa.drewN nq = wb at BK2 HB ⊢
            go_upto_region 15 with (fail)
            have hze2_0 := (show wb.cell? ⟨g2, 0, none⟩ = _ from (blk_cell BK2.out 0).trans rfl)
            have hfe2_0 := blk_frozen BK2.out 0
            have hze2_1 := (show wb.cell? ⟨g2, 1, none⟩ = _ from (blk_cell BK2.out 1).trans rfl)
            have hfe2_1 := blk_frozen BK2.out 1
            have hze2_2 := (show wb.cell? ⟨g2, 2, none⟩ = _ from (blk_cell BK2.out 2).trans rfl)
            have hfe2_2 := blk_frozen BK2.out 2
            have hze2_3 := (show wb.cell? ⟨g2, 3, none⟩ = _ from (blk_cell BK2.out 3).trans rfl)
            have hfe2_3 := blk_frozen BK2.out 3
            have hze2_4 := (show wb.cell? ⟨g2, 4, none⟩ = _ from (blk_cell BK2.out 4).trans rfl)
            have hfe2_4 := blk_frozen BK2.out 4
            have hze2_5 := (show wb.cell? ⟨g2, 5, none⟩ = _ from (blk_cell BK2.out 5).trans rfl)
            have hfe2_5 := blk_frozen BK2.out 5
            go_wp2
            refine bodyPost_ret (results_ct rfl _ _ g2 34 #[.int .i64 0, .int .i64 0, .int .i64 0, .int .i64 0, .slice none 0 0, .slice none 0 0] (0, 0) _ rfl (rput6 BK2.out) Try.underlying34 rfl (by kernel_rfl)) rfl ?_
            exact ⟨_, _, rfl, Kd.V_nil _ _ _ _ _, Kd.V_nil _ _ _ _ _, below_put6 _ _ _ _ _ _ HB.out GE2.out⟩
          case pos =>
          have cb1 : (x2 == 129) = true := beq_iff_eq.mpr cb
          have cb2 : (x2 != 129) = false := bne_eq_false_iff_eq.mpr cb
          by_cases cc : x3 = kd
          case neg =>
            have hh := HH2.out
            rw [if_pos (Or.inr (Or.inr cc))] at hh
            obtain rfl := Option.some.inj (hh : some (none_f 21) = some r)
            have cc1 : (x3 == kd) = false := beq_eq_false_iff_ne.mpr cc
            have cc2 : (x3 != kd) = true := bne_iff_ne.mpr cc
            clear hh HH2
            refine wp_region_class (fun W => RC W g2 g4 l ad gk ck K t vc vl w) (by kernel_rfl) (by kernel_rfl) ⟨BK2.out, BK4.out, HC.out _ ⟨HB.out.os, HB.out.tape, HB.out.output, HB.out.size, HB.out.block⟩, Kd.R_drew HK.out, ⟨HB.out.os, HB.out.tape, HB.out.output, HB.out.size, HB.out.block⟩⟩ ?_
            apply q_mv (v := (.int .i64 (m : Int)))
            · rfl
            · rfl
            · rfl
            (try simp only [Act.put, List.setIfInBounds_toArray, List.set_cons_zero, List.set_cons_succ])
            apply q_run (v := (.bool false))
            · rfl
            · intro W hW; go_simp
            (try simp only [Act.put, List.setIfInBounds_toArray, List.set_cons_zero, List.set_cons_succ])
            apply q_mv (v := (.bool false))
            · rfl
            · rfl
            · rfl
            (try simp only [Act.put, List.setIfInBounds_toArray, List.set_cons_zero, List.set_cons_succ])
            apply q_mv (v := (.slice (some ad) l.length c))
            · rfl
            · rfl
            · rfl
            (try simp only [Act.put, List.setIfInBounds_toArray, List.set_cons_zero, List.set_cons_succ])
            apply q_mv (v := (.int .i64 (n : Int)))
            · rfl
            · rfl
            · rfl
            (try simp only [Act.put, List.setIfInBounds_toArray, List.set_cons_zero, List.set_cons_succ])
            apply q_run (v := (.int .i64 ((n : Int) + 2)))
            · rfl
            · intro W hW; go_simp; exact FN.out.2.1
            (try simp only [Act.put, List.setIfInBounds_toArray, List.set_cons_zero, List.set_cons_succ])
            apply q_run (v := (.pointer (some ⟨ad.block, ad.off + (n + 2), none⟩)))
            · rfl
            · intro W hW; go_simp; rw [if_pos B2.out.1, B2.out.2]
            (try simp only [Act.put, List.setIfInBounds_toArray, List.set_cons_zero, List.set_cons_succ])
            apply q_run (v := (.int .u8 x2))
            · rfl
            · intro W hW; have hz := L2.out _ hW.2.2.1; go_simp
            (try simp only [Act.put, List.setIfInBounds_toArray, List.set_cons_zero, List.set_cons_succ])
            apply q_run (v := (.bool false))
            · rfl
            · intro W hW; go_simp
            (try simp only [Act.put, List.setIfInBounds_toArray, List.set_cons_zero, List.set_cons_succ])
            apply q_run (v := (.bool false))
            · rfl
            · intro W hW; go_simp
            (try simp only [Act.put, List.setIfInBounds_toArray, List.set_cons_zero, List.set_cons_succ])
            apply q_mv (v := (.bool false))
            · rfl
            · rfl
            · rfl
            (try simp only [Act.put, List.setIfInBounds_toArray, List.set_cons_zero, List.set_cons_succ])
            apply q_mv (v := (.slice (some ad) l.length c))
            · rfl
            · rfl
            · rfl
            (try simp only [Act.put, List.setIfInBounds_toArray, List.set_cons_zero, List.set_cons_succ])
            apply q_mv (v := (.int .i64 (n : Int)))
            · rfl
            · rfl
            · rfl
            (try simp only [Act.put, List.setIfInBounds_toArray, List.set_cons_zero, List.set_cons_succ])
            apply q_run (v := (.int .i64 ((n : Int) + 3)))
            · rfl
            · intro W hW; go_simp; exact FN.out.2.2
            (try simp only [Act.put, List.setIfInBounds_toArray, List.set_cons_zero, List.set_cons_succ])
            apply q_run (v := (.pointer (some ⟨ad.block, ad.off + (n + 3), none⟩)))
            · rfl
            · intro W hW; go_simp; rw [if_pos B3.out.1, B3.out.2]
            (try simp only [Act.put, List.setIfInBounds_toArray, List.set_cons_zero, List.set_cons_succ])
            apply q_run (v := (.int .u8 x3))
            · rfl
            · intro W hW; have hz := L3.out _ hW.2.2.1; go_simp
            (try simp only [Act.put, List.setIfInBounds_toArray, List.set_cons_zero, List.set_cons_succ])
            apply q_mv (v := (.slice (some ⟨gk, 0, none⟩) 5 ck))
            · rfl
            · rfl
            · rfl
            (try simp only [Act.put, List.setIfInBounds_toArray, List.set_cons_zero, List.set_cons_succ])
            apply q_mv (v := (.int .i64 (i : Int)))
            · rfl
            · rfl
            · rfl
            (try simp only [Act.put, List.setIfInBounds_toArray, List.set_cons_zero, List.set_cons_succ])
            apply q_run (v := (.pointer (some ⟨gk, i, none⟩)))
            · rfl
            · intro W hW; go_simp; exact fun h_ => (BI.out h_).elim
            (try simp only [Act.put, List.setIfInBounds_toArray, List.set_cons_zero, List.set_cons_succ])
            apply q_run (v := (.int .u8 kd))
            · rfl
            · intro W hW; have hz := LK.out _ hW.2.2.2.1; go_simp
            (try simp only [Act.put, List.setIfInBounds_toArray, List.set_cons_zero, List.set_cons_succ])
            apply q_run (v := (.bool true))
            · rfl
            · intro W hW; go_simp
            (try simp only [Act.put, List.setIfInBounds_toArray, List.set_cons_zero, List.set_cons_succ])
            apply q_run (v := (.bool true))
            · rfl
            · intro W hW; go_simp
            (try simp only [Act.put, List.setIfInBounds_toArray, List.set_cons_zero, List.set_cons_succ])
            refine wpQuiet_nil ?_
            rintro wb ⟨q1, q2, _, q4, q5⟩
            clear BK2 BK4 HB HK
            have BK2 := Aside0.mk q1
            have BK4 := Aside0.mk q2
            have HK := Aside0.mk q4
            have HB := Aside0.mk q5
            clear q1 q2 q4 q5
            go_upto_region 15 with (fail)
            have hze3_0 := (show wb.cell? ⟨g2, 0, none⟩ = _ from (blk_cell BK2.out 0).trans rfl)
            have hfe3_0 := blk_frozen BK2.out 0
            have hze3_1 := (show wb.cell? ⟨g2, 1, none⟩ = _ from (blk_cell BK2.out 1).trans rfl)
            have hfe3_1 := blk_frozen BK2.out 1
            have hze3_2 := (show wb.cell? ⟨g2, 2, none⟩ = _ from (blk_cell BK2.out 2).trans rfl)
            have hfe3_2 := blk_frozen BK2.out 2
            have hze3_3 := (show wb.cell? ⟨g2, 3, none⟩ = _ from (blk_cell BK2.out 3).trans rfl)
            have hfe3_3 := blk_frozen BK2.out 3
            have hze3_4 := (show wb.cell? ⟨g2, 4, none⟩ = _ from (blk_cell BK2.out 4).trans rfl)
            have hfe3_4 := blk_frozen BK2.out 4
            have hze3_5 := (show wb.cell? ⟨g2, 5, none⟩ = _ from (blk_cell BK2.out 5).trans rfl)
            have hfe3_5 := blk_frozen BK2.out 5
            go_wp2
            refine bodyPost_ret (results_ct rfl _ _ g2 34 #[.int .i64 0, .int .i64 0, .int .i64 0, .int .i64 0, .slice none 0 0, .slice none 0 0] (0, 0) _ rfl (rput6 BK2.out) Try.underlying34 rfl (by kernel_rfl)) rfl ?_
            exact ⟨_, _, rfl, Kd.V_nil _ _ _ _ _, Kd.V_nil _ _ _ _ _, below_put6 _ _ _ _ _ _ HB.out GE2.out⟩
          case pos =>
          have cc1 : (x3 == kd) = true := beq_iff_eq.mpr cc
          have cc2 : (x3 != kd) = false := bne_eq_false_iff_eq.mpr cc
          have hh := HH2.out
          rw [if_neg (show ¬ ((m : Int) < 4 ∨ x2 ≠ 129 ∨ x3 ≠ kd) by simp [ca1, cb, cc])] at hh
          have HH := Aside0.mk hh
          clear hh HH2
          refine wp_region_class (fun W => RC W g2 g4 l ad gk ck K t vc vl w) (by kernel_rfl) (by kernel_rfl) ⟨BK2.out, BK4.out, HC.out _ ⟨HB.out.os, HB.out.tape, HB.out.output, HB.out.size, HB.out.block⟩, Kd.R_drew HK.out, ⟨HB.out.os, HB.out.tape, HB.out.output, HB.out.size, HB.out.block⟩⟩ ?_
          apply q_mv (v := (.int .i64 (m : Int)))
          · rfl
          · rfl
          · rfl
          (try simp only [Act.put, List.setIfInBounds_toArray, List.set_cons_zero, List.set_cons_succ])
          apply q_run (v := (.bool false))
          · rfl
          · intro W hW; go_simp
          (try simp only [Act.put, List.setIfInBounds_toArray, List.set_cons_zero, List.set_cons_succ])
          apply q_mv (v := (.bool false))
          · rfl
          · rfl
          · rfl
          (try simp only [Act.put, List.setIfInBounds_toArray, List.set_cons_zero, List.set_cons_succ])
          apply q_mv (v := (.slice (some ad) l.length c))
          · rfl
          · rfl
          · rfl
          (try simp only [Act.put, List.setIfInBounds_toArray, List.set_cons_zero, List.set_cons_succ])
          apply q_mv (v := (.int .i64 (n : Int)))
          · rfl
          · rfl
          · rfl
          (try simp only [Act.put, List.setIfInBounds_toArray, List.set_cons_zero, List.set_cons_succ])
          apply q_run (v := (.int .i64 ((n : Int) + 2)))
          · rfl
          · intro W hW; go_simp; exact FN.out.2.1
          (try simp only [Act.put, List.setIfInBounds_toArray, List.set_cons_zero, List.set_cons_succ])
          apply q_run (v := (.pointer (some ⟨ad.block, ad.off + (n + 2), none⟩)))
          · rfl
          · intro W hW; go_simp; rw [if_pos B2.out.1, B2.out.2]
          (try simp only [Act.put, List.setIfInBounds_toArray, List.set_cons_zero, List.set_cons_succ])
          apply q_run (v := (.int .u8 x2))
          · rfl
          · intro W hW; have hz := L2.out _ hW.2.2.1; go_simp
          (try simp only [Act.put, List.setIfInBounds_toArray, List.set_cons_zero, List.set_cons_succ])
          apply q_run (v := (.bool false))
          · rfl
          · intro W hW; go_simp
          (try simp only [Act.put, List.setIfInBounds_toArray, List.set_cons_zero, List.set_cons_succ])
          apply q_run (v := (.bool false))
          · rfl
          · intro W hW; go_simp
          (try simp only [Act.put, List.setIfInBounds_toArray, List.set_cons_zero, List.set_cons_succ])
          apply q_mv (v := (.bool false))
          · rfl
          · rfl
          · rfl
          (try simp only [Act.put, List.setIfInBounds_toArray, List.set_cons_zero, List.set_cons_succ])
          apply q_mv (v := (.slice (some ad) l.length c))
          · rfl
          · rfl
          · rfl
          (try simp only [Act.put, List.setIfInBounds_toArray, List.set_cons_zero, List.set_cons_succ])
          apply q_mv (v := (.int .i64 (n : Int)))
          · rfl
          · rfl
          · rfl
          (try simp only [Act.put, List.setIfInBounds_toArray, List.set_cons_zero, List.set_cons_succ])
          apply q_run (v := (.int .i64 ((n : Int) + 3)))
          · rfl
          · intro W hW; go_simp; exact FN.out.2.2
          (try simp only [Act.put, List.setIfInBounds_toArray, List.set_cons_zero, List.set_cons_succ])
          apply q_run (v := (.pointer (some ⟨ad.block, ad.off + (n + 3), none⟩)))
          · rfl
          · intro W hW; go_simp; rw [if_pos B3.out.1, B3.out.2]
          (try simp only [Act.put, List.setIfInBounds_toArray, List.set_cons_zero, List.set_cons_succ])
          apply q_run (v := (.int .u8 x3))
          · rfl
          · intro W hW; have hz := L3.out _ hW.2.2.1; go_simp
          (try simp only [Act.put, List.setIfInBounds_toArray, List.set_cons_zero, List.set_cons_succ])
          apply q_mv (v := (.slice (some ⟨gk, 0, none⟩) 5 ck))
          · rfl
          · rfl
          · rfl
          (try simp only [Act.put, List.setIfInBounds_toArray, List.set_cons_zero, List.set_cons_succ])
          apply q_mv (v := (.int .i64 (i : Int)))
          · rfl
          · rfl
          · rfl
          (try simp only [Act.put, List.setIfInBounds_toArray, List.set_cons_zero, List.set_cons_succ])
          apply q_run (v := (.pointer (some ⟨gk, i, none⟩)))
          · rfl
          · intro W hW; go_simp; exact fun h_ => (BI.out h_).elim
          (try simp only [Act.put, List.setIfInBounds_toArray, List.set_cons_zero, List.set_cons_succ])
          apply q_run (v := (.int .u8 kd))
          · rfl
          · intro W hW; have hz := LK.out _ hW.2.2.2.1; go_simp
          (try simp only [Act.put, List.setIfInBounds_toArray, List.set_cons_zero, List.set_cons_succ])
          apply q_run (v := (.bool false))
          · rfl
          · intro W hW; go_simp
          (try simp only [Act.put, List.setIfInBounds_toArray, List.set_cons_zero, List.set_cons_succ])
          apply q_run (v := (.bool false))
          · rfl
          · intro W hW; go_simp
          (try simp only [Act.put, List.setIfInBounds_toArray, List.set_cons_zero, List.set_cons_succ])
          refine wpQuiet_nil ?_
          rintro wb ⟨q1, q2, _, q4, q5⟩
          clear BK2 BK4 HB HK
          have BK2 := Aside0.mk q1
          have BK4 := Aside0.mk q2
          have HK := Aside0.mk q4
          have HB := Aside0.mk q5
          clear q1 q2 q4 q5
          go_upto_region 16 with (fail)
          have HW2 : Aside0 (wrap64 ((n : Int) + (m : Int)) = (n : Int) + (m : Int)) := Aside0.mk <| by have := C1.out; have := HLIM.out; have := FM.out; exact wrap_id (by omega) (by omega)
          have HW3 : Aside0 (wrap64 ((n : Int) + 4) = (n : Int) + 4) := Aside0.mk <| by have := C1.out; have := HLIM.out; exact wrap_id (by omega) (by omega)
          by_cases cd : n + m > l.length
          · have cd1 : (l.length : Int) < (n : Int) + (m : Int) := by omega
            have hh := HH.out
            rw [if_pos (show (m : Int) > ((l.drop n).length : Int) by rw [HLD.out]; have := C1.out; omega)] at hh
            obtain rfl := Option.some.inj (hh : some (none_f 20) = some r)
            have hw2 := HW2.out
            clear hh HH HW3 cd ca
            go_upto_region 17 with (fail)
            have hzf_0 := (show wb.cell? ⟨g2, 0, none⟩ = _ from (blk_cell BK2.out 0).trans rfl)
            have hff_0 := blk_frozen BK2.out 0
            have hzf_1 := (show wb.cell? ⟨g2, 1, none⟩ = _ from (blk_cell BK2.out 1).trans rfl)
            have hff_1 := blk_frozen BK2.out 1
            have hzf_2 := (show wb.cell? ⟨g2, 2, none⟩ = _ from (blk_cell BK2.out 2).trans rfl)
            have hff_2 := blk_frozen BK2.out 2
            have hzf_3 := (show wb.cell? ⟨g2, 3, none⟩ = _ from (blk_cell BK2.out 3).trans rfl)
            have hff_3 := blk_frozen BK2.out 3
            have hzf_4 := (show wb.cell? ⟨g2, 4, none⟩ = _ from (blk_cell BK2.out 4).trans rfl)
            have hff_4 := blk_frozen BK2.out 4
            have hzf_5 := (show wb.cell? ⟨g2, 5, none⟩ = _ from (blk_cell BK2.out 5).trans rfl)
            have hff_5 := blk_frozen BK2.out 5
            go_wp2
            refine bodyPost_ret (results_ct rfl _ _ g2 34 #[.int .i64 0, .int .i64 0, .int .i64 0, .int .i64 0, .slice none 0 0, .slice none 0 0] (0, 0) _ rfl (rput6 BK2.out) Try.underlying34 rfl (by kernel_rfl)) rfl ?_
            exact ⟨_, _, rfl, Kd.V_nil _ _ _ _ _, Kd.V_nil _ _ _ _ _, below_put6 _ _ _ _ _ _ HB.out GE2.out⟩
          have cd1 : ¬ (l.length : Int) < (n : Int) + (m : Int) := by omega
          obtain ⟨x, hx⟩ : ∃ x : List Int, x = (l.take (n + m)).drop (n + 4) := ⟨_, rfl⟩
          have hxl : x.length = m - 4 := by rw [hx, List.length_drop, List.length_take]; omega
          have hh := HH.out
          rw [if_neg (show ¬ (m : Int) > ((l.drop n).length : Int) by rw [HLD.out]; have := C1.out; omega), Int.toNat_natCast, List.drop_drop, show ((l.drop n).take m).drop 4 = x from by rw [hx]; exact take_drop4 l n m] at hh
          have HN := Aside0.mk (hh : ((layf kd x t).bind fun b => if b.1 = true then parse_l (K.drop (i + 1)) (l.drop (n + m)) b.2 else some (.inl 21)).bind (parse_out l) = some r)
          clear hh HH
          have q18 : (n : Int) + 4 ≤ (n : Int) + (m : Int) := by omega
          have q19 : (n : Int) + (m : Int) ≤ (l.length : Int) := by omega
          obtain ⟨i018, hi018, _, hsz18, _⟩ := info_parts hinfo5
          have hF := (Kd.V_at (base := w.heap.size) HV.out).2.2
          have hcut18 := cut_mid (P := Try.prog) 24 5 .i64 .i64 Try.underlying24 hi018 1 hsz18 (some ad) l.length c ((n : Int) + 4) ((n : Int) + (m : Int)) (by omega) q18 q19 HCC.out
          have hr18 := Kd.F_mid (lo := ((n : Int) + 4).toNat) (hi := ((n : Int) + (m : Int)).toNat) (c := c) hF (by omega) (by omega) HCC.out
          obtain ⟨A9, hA9⟩ : ∃ A1, A1 = (if c = ((n : Int) + 4).toNat then (some ad) else ((some ad) : Option Addr).map (·.add (((n : Int) + 4).toNat * 1))) := ⟨_, rfl⟩
          obtain ⟨c9, hc9⟩ : ∃ c1, c1 = c - ((n : Int) + 4).toNat := ⟨_, rfl⟩
          have hy18 : x.length = ((n : Int) + (m : Int)).toNat - ((n : Int) + 4).toNat := by omega
          rw [show (l.take ((n : Int) + (m : Int)).toNat).drop ((n : Int) + 4).toNat = x from by rw [hx, show ((n : Int) + (m : Int)).toNat = n + m by omega, show ((n : Int) + 4).toNat = n + 4 by omega]] at hr18
          replace hr18 : Kd.F (Kd.int .u8) w _ A9 x.length x := (by rw [hA9]; exact hr18)
          rw [← hy18, ← hA9, ← hc9] at hcut18
          have HCX := Aside0.mk (show x.length ≤ c9 by have := HCC.out; omega)
          have HVX := Aside0.mk (show Kd.V (Kd.int .u8) 5 w w.heap.size _ (.slice A9 x.length c9) x from Kd.V_mk HCX.out hr18)
          have HXL := Aside0.mk hxl
          have HOX := Aside0.mk (show okL x by rw [hx]; exact okL_drop (okL_take HOK.out _) _)
          have CA := Aside0.mk ca1
          have CD := Aside0.mk cd
          clear hF hr18 hA9 hc9 hy18 hx hxl hi018 hsz18 q18 q19 ca1 ca cb cc cb1 cb2 cc1 cc2 hn cd
          have hw2 := HW2.out
          have hw3 := HW3.out
          go_upto_region 20 with (fail)
          clear hcut18 hw2 hw3 cd1
          rcases (show i = 0 ∨ i = 1 ∨ i = 2 ∨ i = 3 ∨ i = 4 by have := HI5.out; omega) with rfl | rfl | rfl | rfl | rfl
          · have hkd : kd = 128 := by rw [HKD.out, HKK.out]; rfl
            have HND := Aside0.mk (show n + m ≤ l.length by have := CD.out; omega)
            have hxlim : ¬ 100000 ≤ x.length := by have := HXL.out; have := CD.out; have := HLIM.out; omega
            have HXM := Aside0.mk hxlim
            clear hxlim
            have hh := HN.out
            rw [hkd] at hh
            rw [show layf 128 x t = some (true, t) by unfold layf; rw [if_neg HXM.out]; rfl, Option.bind_some, if_pos rfl] at hh
            have HNN := Aside0.mk hh
            clear hh HN hkd
            go_wp2
            refine ⟨⟨1, n + m, t, vc, vl, by rw [HW2.out, Int.natCast_add], rfl, by omega, HND.out, HNN, HVc, HVl, BK2, BK4, HK, HB⟩, ?_⟩
            simp only [intOf]
            omega
          · have hkd : kd = 129 := by rw [HKD.out, HKK.out]; rfl
            have HND := Aside0.mk (show n + m ≤ l.length by have := CD.out; omega)
            have hxlim : ¬ 100000 ≤ x.length := by have := HXL.out; have := CD.out; have := HLIM.out; omega
            have HXM := Aside0.mk hxlim
            clear hxlim
            have hh := HN.out
            rw [hkd] at hh
            rw [show layf 129 x t = some (true, t) by unfold layf; rw [if_neg HXM.out]; rfl, Option.bind_some, if_pos rfl] at hh
            have HNN := Aside0.mk hh
            clear hh HN hkd
            go_wp2
            refine ⟨⟨2, n + m, t, vc, vl, by rw [HW2.out, Int.natCast_add], rfl, by omega, HND.out, HNN, HVc, HVl, BK2, BK4, HK, HB⟩, ?_⟩
            simp only [intOf]
            omega
          · have hkd : kd = 134 := by rw [HKD.out, HKK.out]; rfl
            have HND := Aside0.mk (show n + m ≤ l.length by have := CD.out; omega)
            have hxlim : ¬ 100000 ≤ x.length := by have := HXL.out; have := CD.out; have := HLIM.out; omega
            have HXM := Aside0.mk hxlim
            clear hxlim
            have hh := HN.out
            rw [hkd] at hh
            by_cases h0 : x.length = 0
            · rw [show layf 134 x t = some (false, t) by unfold layf; rw [if_neg HXM.out, if_pos rfl, if_pos h0], Option.bind_some, if_neg Bool.false_ne_true] at hh
              obtain rfl := Option.some.inj (hh : some (none_f 21) = some r)
              have g0 : ((x.length : Int) == 0) = true := beq_iff_eq.mpr (by omega)
              clear hh HN hkd
              go_upto_region 21 with (fail)
              have hzg2_0 := (show wb.cell? ⟨g2, 0, none⟩ = _ from (blk_cell BK2.out 0).trans rfl)
              have hfg2_0 := blk_frozen BK2.out 0
              have hzg2_1 := (show wb.cell? ⟨g2, 1, none⟩ = _ from (blk_cell BK2.out 1).trans rfl)
              have hfg2_1 := blk_frozen BK2.out 1
              have hzg2_2 := (show wb.cell? ⟨g2, 2, none⟩ = _ from (blk_cell BK2.out 2).trans rfl)
              have hfg2_2 := blk_frozen BK2.out 2
              have hzg2_3 := (show wb.cell? ⟨g2, 3, none⟩ = _ from (blk_cell BK2.out 3).trans rfl)
              have hfg2_3 := blk_frozen BK2.out 3
              have hzg2_4 := (show wb.cell? ⟨g2, 4, none⟩ = _ from (blk_cell BK2.out 4).trans rfl)
              have hfg2_4 := blk_frozen BK2.out 4
              have hzg2_5 := (show wb.cell? ⟨g2, 5, none⟩ = _ from (blk_cell BK2.out 5).trans rfl)
              have hfg2_5 := blk_frozen BK2.out 5
              go_wp2
              refine bodyPost_ret (results_ct rfl _ _ g2 34 #[.int .i64 0, .int .i64 0, .int .i64 0, .int .i64 0, .slice none 0 0, .slice none 0 0] (0, 0) _ rfl (rput6 BK2.out) Try.underlying34 rfl (by kernel_rfl)) rfl ?_
              exact ⟨_, _, rfl, Kd.V_nil _ _ _ _ _, Kd.V_nil _ _ _ _ _, below_put6 _ _ _ _ _ _ HB.out GE2.out⟩
            · rw [show layf 134 x t = some (true, t.1, t.2.1, t.2.2.1, t.2.2.2.1, x.drop 1, t.2.2.2.2.2) by unfold layf; rw [if_neg HXM.out, if_pos rfl, if_neg h0], Option.bind_some, if_pos rfl] at hh
              obtain ⟨y, hy⟩ : ∃ y : List Int, y = x.drop 1 := ⟨_, rfl⟩
              rw [← hy] at hh
              have HNN := Aside0.mk hh
              have g0 : ((x.length : Int) == 0) = false := beq_eq_false_iff_ne.mpr (by omega)
              clear hh HN hkd
              obtain ⟨i019, hi019, _, hsz19, _⟩ := info_parts hinfo5
              have q1 : (1 : Int) ≤ (x.length : Int) := by omega
              have hcut19 := cut_from (P := Try.prog) 24 5 .i64 Try.underlying24 hi019 1 hsz19 A9 x.length c9 1 (by omega) q1
              have hr19 := Kd.F_cut (m := (1 : Int).toNat) (c := c9) (Kd.V_at (base := w.heap.size) HVX.out).2.2 (by omega) HCX.out
              obtain ⟨A10, hA10⟩ : ∃ A1, A1 = (if c9 = (1 : Int).toNat then A9 else A9.map (·.add ((1 : Int).toNat * 1))) := ⟨_, rfl⟩
              obtain ⟨c10, hc10⟩ : ∃ c1, c1 = c9 - (1 : Int).toNat := ⟨_, rfl⟩
              have hy19 : y.length = x.length - (1 : Int).toNat := by rw [hy, List.length_drop]; rfl
              replace hr19 : Kd.F (Kd.int .u8) w _ A10 y.length y := (by rw [hA10, hy]; exact hr19)
              rw [← hy19, ← hA10, ← hc10] at hcut19
              have HVY := Aside0.mk (show Kd.V (Kd.int .u8) 5 w w.heap.size _ (.slice A10 y.length c10) y from Kd.V_mk (by rw [hy19, hc10]; exact Nat.sub_le_sub_right HCX.out _) hr19)
              clear hy hr19 hA10 hc10 hy19 hi019 hsz19 h0
              have hz_ := (show wb.cell? ⟨g4, 4, none⟩ = _ from (blk_cell BK4.out 4).trans rfl)
              have hf_ := blk_frozen BK4.out 4
              go_upto_region 10 with (fail)
              have n1_ := Aside0.mk (blk_put (cs' := #[.int .i64 t.1, .int .i64 t.2.1, .int .i64 t.2.2.1, .int .i64 t.2.2.2.1, .slice A10 y.length c10, vl]) BK4.out 4 (.slice A10 y.length c10) rfl)
              have n2_ := Aside0.mk (blk_far (p := ⟨g4, 4, none⟩) BK2.out NE2.out (.slice A10 y.length c10))
              have n3_ := Aside0.mk (below_set (j := 4) (v := .slice A10 y.length c10) HB.out GE4.out)
              have n4_ := Aside0.mk (Kd.R_far (p := ⟨g4, 4, none⟩) HK.out (fun _ hk => hk) (.slice A10 y.length c10))
              clear BK2 BK4 HB HK hz_ hf_ hcut19 q1 g0
              have BK4 := n1_
              have BK2 := n2_
              have HB := n3_
              have HK := n4_
              clear n1_ n2_ n3_ n4_
              go_wp2
              refine ⟨⟨3, n + m, (t.1, t.2.1, t.2.2.1, t.2.2.2.1, y, t.2.2.2.2.2), _, vl, by rw [HW2.out, Int.natCast_add], rfl, by omega, HND.out, HNN, HVY, HVl, BK2, BK4, HK, HB⟩, ?_⟩
              simp only [intOf]
              omega
          · have hkd : kd = 135 := by rw [HKD.out, HKK.out]; rfl
            have HND := Aside0.mk (show n + m ≤ l.length by have := CD.out; omega)
            have hxlim : ¬ 100000 ≤ x.length := by have := HXL.out; have := CD.out; have := HLIM.out; omega
            have HXM := Aside0.mk hxlim
            clear hxlim
            have hh := HN.out
            rw [hkd] at hh
            by_cases h0 : x.length = 0
            · rw [show layf 135 x t = some (false, t) by unfold layf; rw [if_neg HXM.out, if_neg (show ¬ (135 : Int) = 134 by decide), if_pos rfl, if_pos h0], Option.bind_some, if_neg Bool.false_ne_true] at hh
              obtain rfl := Option.some.inj (hh : some (none_f 21) = some r)
              have g0 : ((x.length : Int) == 0) = true := beq_iff_eq.mpr (by omega)
              clear hh HN hkd
              go_upto_region 21 with (fail)
              have hzg3_0 := (show wb.cell? ⟨g2, 0, none⟩ = _ from (blk_cell BK2.out 0).trans rfl)
              have hfg3_0 := blk_frozen BK2.out 0
              have hzg3_1 := (show wb.cell? ⟨g2, 1, none⟩ = _ from (blk_cell BK2.out 1).trans rfl)
              have hfg3_1 := blk_frozen BK2.out 1
              have hzg3_2 := (show wb.cell? ⟨g2, 2, none⟩ = _ from (blk_cell BK2.out 2).trans rfl)
              have hfg3_2 := blk_frozen BK2.out 2
              have hzg3_3 := (show wb.cell? ⟨g2, 3, none⟩ = _ from (blk_cell BK2.out 3).trans rfl)
              have hfg3_3 := blk_frozen BK2.out 3
              have hzg3_4 := (show wb.cell? ⟨g2, 4, none⟩ = _ from (blk_cell BK2.out 4).trans rfl)
              have hfg3_4 := blk_frozen BK2.out 4
              have hzg3_5 := (show wb.cell? ⟨g2, 5, none⟩ = _ from (blk_cell BK2.out 5).trans rfl)
              have hfg3_5 := blk_frozen BK2.out 5
              go_wp2
              refine bodyPost_ret (results_ct rfl _ _ g2 34 #[.int .i64 0, .int .i64 0, .int .i64 0, .int .i64 0, .slice none 0 0, .slice none 0 0] (0, 0) _ rfl (rput6 BK2.out) Try.underlying34 rfl (by kernel_rfl)) rfl ?_
              exact ⟨_, _, rfl, Kd.V_nil _ _ _ _ _, Kd.V_nil _ _ _ _ _, below_put6 _ _ _ _ _ _ HB.out GE2.out⟩
            · rw [show layf 135 x t = some (true, t.1, t.2.1, t.2.2.1, t.2.2.2.1, t.2.2.2.2.1, x.drop 1) by unfold layf; rw [if_neg HXM.out, if_neg (show ¬ (135 : Int) = 134 by decide), if_pos rfl, if_neg h0], Option.bind_some, if_pos rfl] at hh
              obtain ⟨y, hy⟩ : ∃ y : List Int, y = x.drop 1 := ⟨_, rfl⟩
              rw [← hy] at hh
              have HNN := Aside0.mk hh
              have g0 : ((x.length : Int) == 0) = false := beq_eq_false_iff_ne.mpr (by omega)
              clear hh HN hkd
              obtain ⟨i019, hi019, _, hsz19, _⟩ := info_parts hinfo5
              have q1 : (1 : Int) ≤ (x.length : Int) := by omega
              have hcut19 := cut_from (P := Try.prog) 24 5 .i64 Try.underlying24 hi019 1 hsz19 A9 x.length c9 1 (by omega) q1
              have hr19 := Kd.F_cut (m := (1 : Int).toNat) (c := c9) (Kd.V_at (base := w.heap.size) HVX.out).2.2 (by omega) HCX.out
              obtain ⟨A10, hA10⟩ : ∃ A1, A1 = (if c9 = (1 : Int).toNat then A9 else A9.map (·.add ((1 : Int).toNat * 1))) := ⟨_, rfl⟩
              obtain ⟨c10, hc10⟩ : ∃ c1, c1 = c9 - (1 : Int).toNat := ⟨_, rfl⟩
              have hy19 : y.length = x.length - (1 : Int).toNat := by rw [hy, List.length_drop]; rfl
              replace hr19 : Kd.F (Kd.int .u8) w _ A10 y.length y := (by rw [hA10, hy]; exact hr19)
              rw [← hy19, ← hA10, ← hc10] at hcut19
              have HVY := Aside0.mk (show Kd.V (Kd.int .u8) 5 w w.heap.size _ (.slice A10 y.length c10) y from Kd.V_mk (by rw [hy19, hc10]; exact Nat.sub_le_sub_right HCX.out _) hr19)
              clear hy hr19 hA10 hc10 hy19 hi019 hsz19 h0
              have hz_ := (show wb.cell? ⟨g4, 5, none⟩ = _ from (blk_cell BK4.out 5).trans rfl)
              have hf_ := blk_frozen BK4.out 5
              go_upto_region 10 with (fail)
              have n1_ := Aside0.mk (blk_put (cs' := #[.int .i64 t.1, .int .i64 t.2.1, .int .i64 t.2.2.1, .int .i64 t.2.2.2.1, vc, .slice A10 y.length c10]) BK4.out 5 (.slice A10 y.length c10) rfl)
              have n2_ := Aside0.mk (blk_far (p := ⟨g4, 5, none⟩) BK2.out NE2.out (.slice A10 y.length c10))
              have n3_ := Aside0.mk (below_set (j := 5) (v := .slice A10 y.length c10) HB.out GE4.out)
              have n4_ := Aside0.mk (Kd.R_far (p := ⟨g4, 5, none⟩) HK.out (fun _ hk => hk) (.slice A10 y.length c10))
              clear BK2 BK4 HB HK hz_ hf_ hcut19 q1 g0
              have BK4 := n1_
              have BK2 := n2_
              have HB := n3_
              have HK := n4_
              clear n1_ n2_ n3_ n4_
              go_wp2
              refine ⟨⟨4, n + m, (t.1, t.2.1, t.2.2.1, t.2.2.2.1, t.2.2.2.2.1, y), vc, _, by rw [HW2.out, Int.natCast_add], rfl, by omega, HND.out, HNN, HVc, HVY, BK2, BK4, HK, HB⟩, ?_⟩
              simp only [intOf]
              omega
          · have hkd : kd = 166 := by rw [HKD.out, HKK.out]; rfl
            have HND := Aside0.mk (show n + m ≤ l.length by have := CD.out; omega)
            have hxlim : ¬ 100000 ≤ x.length := by have := HXL.out; have := CD.out; have := HLIM.out; omega
            have HXM := Aside0.mk hxlim
            clear hxlim
            have hh := HN.out
            rw [hkd] at hh
            by_cases h0 : x.length = 8
            case neg =>
              rw [show layf 166 x t = some (false, t) by unfold layf; rw [if_neg HXM.out, if_neg (show ¬ (166 : Int) = 134 by decide), if_neg (show ¬ (166 : Int) = 135 by decide), if_pos rfl, if_neg h0], Option.bind_some, if_neg Bool.false_ne_true] at hh
              obtain rfl := Option.some.inj (hh : some (none_f 21) = some r)
              have g0 : ((x.length : Int) == 8) = false := beq_eq_false_iff_ne.mpr (by omega)
              have g1 : ((x.length : Int) != 8) = true := bne_iff_ne.mpr (by omega)
              clear hh HN hkd
              go_upto_region 21 with (fail)
              have hzh_0 := (show wb.cell? ⟨g2, 0, none⟩ = _ from (blk_cell BK2.out 0).trans rfl)
              have hfh_0 := blk_frozen BK2.out 0
              have hzh_1 := (show wb.cell? ⟨g2, 1, none⟩ = _ from (blk_cell BK2.out 1).trans rfl)
              have hfh_1 := blk_frozen BK2.out 1
              have hzh_2 := (show wb.cell? ⟨g2, 2, none⟩ = _ from (blk_cell BK2.out 2).trans rfl)
              have hfh_2 := blk_frozen BK2.out 2
              have hzh_3 := (show wb.cell? ⟨g2, 3, none⟩ = _ from (blk_cell BK2.out 3).trans rfl)
              have hfh_3 := blk_frozen BK2.out 3
              have hzh_4 := (show wb.cell? ⟨g2, 4, none⟩ = _ from (blk_cell BK2.out 4).trans rfl)
              have hfh_4 := blk_frozen BK2.out 4
              have hzh_5 := (show wb.cell? ⟨g2, 5, none⟩ = _ from (blk_cell BK2.out 5).trans rfl)
              have hfh_5 := blk_frozen BK2.out 5
              go_wp2
              refine bodyPost_ret (results_ct rfl _ _ g2 34 #[.int .i64 0, .int .i64 0, .int .i64 0, .int .i64 0, .slice none 0 0, .slice none 0 0] (0, 0) _ rfl (rput6 BK2.out) Try.underlying34 rfl (by kernel_rfl)) rfl ?_
              exact ⟨_, _, rfl, Kd.V_nil _ _ _ _ _, Kd.V_nil _ _ _ _ _, below_put6 _ _ _ _ _ _ HB.out GE2.out⟩
            case pos =>
              obtain ⟨ad9, rfl⟩ := some_of (Kd.V_reads' HVX.out).2.2 (by omega)
              have XW := Aside0.mk (XC_of (Kd.V_reads' HVX.out).2.2 h0)
              have NB := Aside0.mk (show ad9.block ≠ g4 by have h1 := World.block_lt_of_cell? w _ XW.out.1; have h2 := GE4.out; exact Nat.ne_of_lt (Nat.lt_of_lt_of_le h1 h2))
              have hq := lay_sizes_f x t h0 HOX.out HXM.out
              rw [hq, Option.bind_some, if_pos rfl] at hh
              have HNN := Aside0.mk hh
              clear hh hq HN hkd
              have H8 := Aside0.mk h0
              clear h0
              have g8 : x.length = 8 := H8.out
              go_upto_region 27 with (fail)
              clear g8
              have p0 : 0 < x.length := by have := H8.out; omega
              have p1 : (1 : Int) < (x.length : Int) := by have := H8.out; omega
              have p2 : (2 : Int) < (x.length : Int) := by have := H8.out; omega
              have p3 : (3 : Int) < (x.length : Int) := by have := H8.out; omega
              have p4 : (4 : Int) < (x.length : Int) := by have := H8.out; omega
              have p5 : (5 : Int) < (x.length : Int) := by have := H8.out; omega
              have p6 : (6 : Int) < (x.length : Int) := by have := H8.out; omega
              have p7 : (7 : Int) < (x.length : Int) := by have := H8.out; omega
              have XD := Aside0.mk (XW.out.below  HB.out)
              have n1_ := Aside0.mk (blk_drew BK4.out)
              have n2_ := Aside0.mk (blk_drew BK2.out)
              have n3_ := Aside0.mk (below_drew1 HB.out)
              have n4_ := Aside0.mk (Kd.R_drew HK.out)
              refine start_ (n := 23) (S := fun w' => XC w' ad9 x) (ds := []) #[false, false, false, false, false, false, false, false, false, false, false, false, false, false, false, false, false, false, false, false, false, false, false] (by kernel_rfl) rfl rfl XD.out.drew (fun hHeld => ?_); refine with_tabW r_tab27 r_bits (fun HT_ HW_ => ?_)
              clear BK4 BK2 HB HK XD
              have BK4 := n1_
              have BK2 := n2_
              have HB := n3_
              have HK := n4_
              clear n1_ n2_ n3_ n4_
              generalize wb.drew = wc at BK4 BK2 HB HK hHeld ⊢
              refine pure_ (i := 0) (N := some 119) (v := ?_) (a' := ?_) #[true, false, false, false, false, false, false, false, false, false, false, false, false, false, false, false, false, false, false, false, false, false, false] rfl rfl (any_of HT_.out (by kernel_rfl)) (fun _ _ _ h => h) (Or.inl ⟨by rfl, ?_⟩) ?_ ?_
              rotate_left
              · intro w'
                go_simp
                with_reducible rfl
              rotate_left
              · simp only [Act.put, List.setIfInBounds_toArray, List.set_cons_zero, List.set_cons_succ, i64_w, i32_w]
                rfl
              refine pure_ (i := 1) (N := some 120) (v := ?_) (a' := ?_) #[true, true, false, false, false, false, false, false, false, false, false, false, false, false, false, false, false, false, false, false, false, false, false] rfl rfl (any_of HT_.out (by kernel_rfl)) (fun _ _ _ h => h) (Or.inl ⟨by rfl, ?_⟩) ?_ ?_
              rotate_left
              · intro w'
                go_simp
                with_reducible rfl
              rotate_left
              · simp only [Act.put, List.setIfInBounds_toArray, List.set_cons_zero, List.set_cons_succ, i64_w, i32_w]
                rfl
              refine pure_ (i := 5) (N := some 124) (v := ?_) (a' := ?_) #[true, true, false, false, false, true, false, false, false, false, false, false, false, false, false, false, false, false, false, false, false, false, false] rfl rfl (any_of HT_.out (by kernel_rfl)) (fun _ _ _ h => h) (Or.inl ⟨by rfl, ?_⟩) ?_ ?_
              rotate_left
              · intro w'
                go_simp
                with_reducible rfl
              rotate_left
              · simp only [Act.put, List.setIfInBounds_toArray, List.set_cons_zero, List.set_cons_succ, i64_w, i32_w]
                rfl
              refine pure_ (i := 6) (N := some 125) (v := ?_) (a' := ?_) #[true, true, false, false, false, true, true, false, false, false, false, false, false, false, false, false, false, false, false, false, false, false, false] rfl rfl (any_of HT_.out (by kernel_rfl)) (fun _ _ _ h => h) (Or.inl ⟨by rfl, ?_⟩) ?_ ?_
              rotate_left
              · intro w'
                go_simp
                with_reducible rfl
              rotate_left
              · simp only [Act.put, List.setIfInBounds_toArray, List.set_cons_zero, List.set_cons_succ, i64_w, i32_w]
                rfl
              refine pure_ (i := 10) (N := some 129) (v := ?_) (a' := ?_) #[true, true, false, false, false, true, true, false, false, false, true, false, false, false, false, false, false, false, false, false, false, false, false] rfl rfl (any_of HT_.out (by kernel_rfl)) (fun _ _ _ h => h) (Or.inl ⟨by rfl, ?_⟩) ?_ ?_
              rotate_left
              · intro w'
                go_simp
                with_reducible rfl
              rotate_left
              · simp only [Act.put, List.setIfInBounds_toArray, List.set_cons_zero, List.set_cons_succ, i64_w, i32_w]
                rfl
              refine pure_ (i := 11) (N := some 130) (v := ?_) (a' := ?_) #[true, true, false, false, false, true, true, false, false, false, true, true, false, false, false, false, false, false, false, false, false, false, false] rfl rfl (any_of HT_.out (by kernel_rfl)) (fun _ _ _ h => h) (Or.inl ⟨by rfl, ?_⟩) ?_ ?_
              rotate_left
              · intro w'
                go_simp
                with_reducible rfl
              rotate_left
              · simp only [Act.put, List.setIfInBounds_toArray, List.set_cons_zero, List.set_cons_succ, i64_w, i32_w]
                rfl
              refine pure_ (i := 15) (N := some 134) (v := ?_) (a' := ?_) #[true, true, false, false, false, true, true, false, false, false, true, true, false, false, false, true, false, false, false, false, false, false, false] rfl rfl (any_of HT_.out (by kernel_rfl)) (fun _ _ _ h => h) (Or.inl ⟨by rfl, ?_⟩) ?_ ?_
              rotate_left
              · intro w'
                go_simp
                with_reducible rfl
              rotate_left
              · simp only [Act.put, List.setIfInBounds_toArray, List.set_cons_zero, List.set_cons_succ, i64_w, i32_w]
                rfl
              refine pure_ (i := 16) (N := some 135) (v := ?_) (a' := ?_) #[true, true, false, false, false, true, true, false, false, false, true, true, false, false, false, true, true, false, false, false, false, false, false] rfl rfl (any_of HT_.out (by kernel_rfl)) (fun _ _ _ h => h) (Or.inl ⟨by rfl, ?_⟩) ?_ ?_
              rotate_left
              · intro w'
                go_simp
                with_reducible rfl
              rotate_left
              · simp only [Act.put, List.setIfInBounds_toArray, List.set_cons_zero, List.set_cons_succ, i64_w, i32_w]
                rfl
              refine take_ (i := 2) (N := some 121) (v := ?_) (a' := ?_) #[true, true, true, false, false, true, true, false, false, false, true, true, false, false, false, true, true, false, false, false, false, false, false] rfl rfl (take_ofW HT_.out HW_.out (by kernel_rfl)) (fun _ _ _ h => h) (Or.inl ⟨by rfl, ?_⟩) hHeld ?_ ?_
              rotate_left
              · rintro w' ⟨s0, s1, s2, s3, s4, s5, s6, s7⟩
                go_simp
                with_reducible rfl
              rotate_left
              · simp only [Act.put, List.setIfInBounds_toArray, List.set_cons_zero, List.set_cons_succ, i64_w, i32_w]
                rfl
              refine take_ (i := 7) (N := some 126) (v := ?_) (a' := ?_) #[true, true, true, false, false, true, true, true, false, false, true, true, false, false, false, true, true, false, false, false, false, false, false] rfl rfl (take_ofW HT_.out HW_.out (by kernel_rfl)) (fun _ _ _ h => h) (Or.inl ⟨by rfl, ?_⟩) hHeld ?_ ?_
              rotate_left
              · rintro w' ⟨s0, s1, s2, s3, s4, s5, s6, s7⟩
                go_simp
                with_reducible rfl
              rotate_left
              · simp only [Act.put, List.setIfInBounds_toArray, List.set_cons_zero, List.set_cons_succ, i64_w, i32_w]
                rfl
              refine take_ (i := 12) (N := some 131) (v := ?_) (a' := ?_) #[true, true, true, false, false, true, true, true, false, false, true, true, true, false, false, true, true, false, false, false, false, false, false] rfl rfl (take_ofW HT_.out HW_.out (by kernel_rfl)) (fun _ _ _ h => h) (Or.inl ⟨by rfl, ?_⟩) hHeld ?_ ?_
              rotate_left
              · rintro w' ⟨s0, s1, s2, s3, s4, s5, s6, s7⟩
                go_simp
                with_reducible rfl
              rotate_left
              · simp only [Act.put, List.setIfInBounds_toArray, List.set_cons_zero, List.set_cons_succ, i64_w, i32_w]
                rfl
              refine take_ (i := 17) (N := some 136) (v := ?_) (a' := ?_) #[true, true, true, false, false, true, true, true, false, false, true, true, true, false, false, true, true, true, false, false, false, false, false] rfl rfl (take_ofW HT_.out HW_.out (by kernel_rfl)) (fun _ _ _ h => h) (Or.inl ⟨by rfl, ?_⟩) hHeld ?_ ?_
              rotate_left
              · rintro w' ⟨s0, s1, s2, s3, s4, s5, s6, s7⟩
                go_simp
                with_reducible rfl
              rotate_left
              · simp only [Act.put, List.setIfInBounds_toArray, List.set_cons_zero, List.set_cons_succ, i64_w, i32_w]
                rfl
              refine pure_ (i := 3) (N := some 122) (v := ?_) (a' := ?_) #[true, true, true, true, false, true, true, true, false, false, true, true, true, false, false, true, true, true, false, false, false, false, false] rfl rfl (any_of HT_.out (by kernel_rfl)) (fun _ _ _ h => h) (Or.inl ⟨by rfl, ?_⟩) ?_ ?_
              rotate_left
              · intro w'
                go_simp
                with_reducible rfl
              rotate_left
              · simp only [Act.put, List.setIfInBounds_toArray, List.set_cons_zero, List.set_cons_succ, i64_w, i32_w]
                rfl
              refine pure_ (i := 4) (N := some 123) (v := ?_) (a' := ?_) #[true, true, true, true, true, true, true, true, false, false, true, true, true, false, false, true, true, true, false, false, false, false, false] rfl rfl (any_of HT_.out (by kernel_rfl)) (fun _ _ _ h => h) (Or.inl ⟨by rfl, ?_⟩) ?_ ?_
              rotate_left
              · intro w'
                go_simp
                with_reducible rfl
              rotate_left
              · simp only [Act.put, List.setIfInBounds_toArray, List.set_cons_zero, List.set_cons_succ, i64_w, i32_w]
                rfl
              refine pure_ (i := 8) (N := some 127) (v := ?_) (a' := ?_) #[true, true, true, true, true, true, true, true, true, false, true, true, true, false, false, true, true, true, false, false, false, false, false] rfl rfl (any_of HT_.out (by kernel_rfl)) (fun _ _ _ h => h) (Or.inl ⟨by rfl, ?_⟩) ?_ ?_
              rotate_left
              · intro w'
                go_simp
                with_reducible rfl
              rotate_left
              · simp only [Act.put, List.setIfInBounds_toArray, List.set_cons_zero, List.set_cons_succ, i64_w, i32_w]
                rfl
              refine pure_ (i := 9) (N := some 128) (v := ?_) (a' := ?_) #[true, true, true, true, true, true, true, true, true, true, true, true, true, false, false, true, true, true, false, false, false, false, false] rfl rfl (any_of HT_.out (by kernel_rfl)) (fun _ _ _ h => h) (Or.inl ⟨by rfl, ?_⟩) ?_ ?_
              rotate_left
              · intro w'
                go_simp
                with_reducible rfl
              rotate_left
              · simp only [Act.put, List.setIfInBounds_toArray, List.set_cons_zero, List.set_cons_succ, i64_w, i32_w]
                rfl
              refine pure_ (i := 13) (N := some 132) (v := ?_) (a' := ?_) #[true, true, true, true, true, true, true, true, true, true, true, true, true, true, false, true, true, true, false, false, false, false, false] rfl rfl (any_of HT_.out (by kernel_rfl)) (fun _ _ _ h => h) (Or.inl ⟨by rfl, ?_⟩) ?_ ?_
              rotate_left
              · intro w'
                go_simp
                with_reducible rfl
              rotate_left
              · simp only [Act.put, List.setIfInBounds_toArray, List.set_cons_zero, List.set_cons_succ, i64_w, i32_w]
                rfl
              refine pure_ (i := 14) (N := some 133) (v := ?_) (a' := ?_) #[true, true, true, true, true, true, true, true, true, true, true, true, true, true, true, true, true, true, false, false, false, false, false] rfl rfl (any_of HT_.out (by kernel_rfl)) (fun _ _ _ h => h) (Or.inl ⟨by rfl, ?_⟩) ?_ ?_
              rotate_left
              · intro w'
                go_simp
                with_reducible rfl
              rotate_left
              · simp only [Act.put, List.setIfInBounds_toArray, List.set_cons_zero, List.set_cons_succ, i64_w, i32_w]
                rfl
              refine pure_ (i := 18) (N := some 137) (v := ?_) (a' := ?_) #[true, true, true, true, true, true, true, true, true, true, true, true, true, true, true, true, true, true, true, false, false, false, false] rfl rfl (any_of HT_.out (by kernel_rfl)) (fun _ _ _ h => h) (Or.inl ⟨by rfl, ?_⟩) ?_ ?_
              rotate_left
              · intro w'
                go_simp
                with_reducible rfl
              rotate_left
              · simp only [Act.put, List.setIfInBounds_toArray, List.set_cons_zero, List.set_cons_succ, i64_w, i32_w]
                rfl
              refine pure_ (i := 19) (N := some 138) (v := ?_) (a' := ?_) #[true, true, true, true, true, true, true, true, true, true, true, true, true, true, true, true, true, true, true, true, false, false, false] rfl rfl (any_of HT_.out (by kernel_rfl)) (fun _ _ _ h => h) (Or.inl ⟨by rfl, ?_⟩) ?_ ?_
              rotate_left
              · intro w'
                go_simp
                with_reducible rfl
              rotate_left
              · simp only [Act.put, List.setIfInBounds_toArray, List.set_cons_zero, List.set_cons_succ, i64_w, i32_w]
                rfl
              refine pure_ (i := 20) (N := some 139) (v := ?_) (a' := ?_) #[true, true, true, true, true, true, true, true, true, true, true, true, true, true, true, true, true, true, true, true, true, false, false] rfl rfl (any_of HT_.out (by kernel_rfl)) (fun _ _ _ h => h) (Or.inl ⟨by rfl, ?_⟩) ?_ ?_
              rotate_left
              · intro w'
                go_simp
                with_reducible rfl
              rotate_left
              · simp only [Act.put, List.setIfInBounds_toArray, List.set_cons_zero, List.set_cons_succ, i64_w, i32_w]
                rfl
              refine pure_ (i := 21) (N := some 140) (v := ?_) (a' := ?_) #[true, true, true, true, true, true, true, true, true, true, true, true, true, true, true, true, true, true, true, true, true, true, false] rfl rfl (any_of HT_.out (by kernel_rfl)) (fun _ _ _ h => h) (Or.inl ⟨by rfl, ?_⟩) ?_ ?_
              rotate_left
              · intro w'
                go_simp
                with_reducible rfl
              rotate_left
              · simp only [Act.put, List.setIfInBounds_toArray, List.set_cons_zero, List.set_cons_succ, i64_w, i32_w]
                rfl
              refine one_ (i := 22) (N := none) #[true, true, true, true, true, true, true, true, true, true, true, true, true, true, true, true, true, true, true, true, true, true, true] rfl rfl (one_of HT_.out (by kernel_rfl)) (by decide) (fun K_ hK_ => ?_)
              have hs0 := (blk_cell BK4.out 0).trans rfl
              have hfs0 := blk_frozen BK4.out 0
              have hs1 := (blk_cell BK4.out 1).trans rfl
              have hfs1 := blk_frozen BK4.out 1
              refine skip_ (w1 := ?_) (by rfl) rfl ?_ ?_
              rotate_left
              · go_simp
                rfl
              refine hK_.out _ _ ((hHeld.far NB.out _).far NB.out _) (fun hHeld => ?_)
              clear hK_ K_ hs0 hfs0 hs1 hfs1
              have n1_ := Aside0.mk (blk_put (cs := #[.int .i64 (wrap64 (wrap64 (256 * wrap64 (rd x 2)) + wrap64 (rd x 3))), .int .i64 (t.2.1), .int .i64 (t.2.2.1), .int .i64 (t.2.2.2.1), vc, vl]) (cs' := #[.int .i64 (wrap64 (wrap64 (256 * wrap64 (rd x 2)) + wrap64 (rd x 3))), .int .i64 (wrap64 (wrap64 (256 * wrap64 (rd x 0)) + wrap64 (rd x 1))), .int .i64 (t.2.2.1), .int .i64 (t.2.2.2.1), vc, vl]) (blk_put (cs := #[.int .i64 (t.1), .int .i64 (t.2.1), .int .i64 (t.2.2.1), .int .i64 (t.2.2.2.1), vc, vl]) (cs' := #[.int .i64 (wrap64 (wrap64 (256 * wrap64 (rd x 2)) + wrap64 (rd x 3))), .int .i64 (t.2.1), .int .i64 (t.2.2.1), .int .i64 (t.2.2.2.1), vc, vl]) BK4.out 0 (.int .i64 (wrap64 (wrap64 (256 * wrap64 (rd x 2)) + wrap64 (rd x 3)))) rfl) 1 (.int .i64 (wrap64 (wrap64 (256 * wrap64 (rd x 0)) + wrap64 (rd x 1)))) rfl)
              have n2_ := Aside0.mk (blk_far (p := ⟨g4, 1, none⟩) (blk_far (p := ⟨g4, 0, none⟩) BK2.out NE2.out (.int .i64 (wrap64 (wrap64 (256 * wrap64 (rd x 2)) + wrap64 (rd x 3))))) NE2.out (.int .i64 (wrap64 (wrap64 (256 * wrap64 (rd x 0)) + wrap64 (rd x 1)))))
              have n3_ := Aside0.mk (below_set (j := 1) (v := .int .i64 (wrap64 (wrap64 (256 * wrap64 (rd x 0)) + wrap64 (rd x 1)))) (below_set (j := 0) (v := .int .i64 (wrap64 (wrap64 (256 * wrap64 (rd x 2)) + wrap64 (rd x 3)))) HB.out GE4.out) GE4.out)
              have n4_ := Aside0.mk (Kd.R_far (p := ⟨g4, 1, none⟩) (Kd.R_far (p := ⟨g4, 0, none⟩) HK.out (fun _ hk => hk) (.int .i64 (wrap64 (wrap64 (256 * wrap64 (rd x 2)) + wrap64 (rd x 3))))) (fun _ hk => hk) (.int .i64 (wrap64 (wrap64 (256 * wrap64 (rd x 0)) + wrap64 (rd x 1)))))
              clear BK4 BK2 HB HK
              have BK4 := n1_
              have BK2 := n2_
              have HB := n3_
              have HK := n4_
              clear n1_ n2_ n3_ n4_
              refine done_ (done_of HT_.out (by kernel_rfl)) ?_
              clear HT_ HW_ hHeld
              go_upto_region 28 with (fail)
              generalize (wc.setCell ⟨g4, 0, none⟩ (.int .i64 (wrap64 (wrap64 (256 * wrap64 (rd x 2)) + wrap64 (rd x 3))))).setCell ⟨g4, 1, none⟩ (.int .i64 (wrap64 (wrap64 (256 * wrap64 (rd x 0)) + wrap64 (rd x 1)))) = wc at BK4 BK2 HB HK ⊢
              have XD := Aside0.mk (XW.out.below  HB.out)
              have n1_ := Aside0.mk (blk_drew BK4.out)
              have n2_ := Aside0.mk (blk_drew BK2.out)
              have n3_ := Aside0.mk (below_drew1 HB.out)
              have n4_ := Aside0.mk (Kd.R_drew HK.out)
              refine start_ (n := 23) (S := fun w' => XC w' ad9 x) (ds := []) #[false, false, false, false, false, false, false, false, false, false, false, false, false, false, false, false, false, false, false, false, false, false, false] (by kernel_rfl) rfl rfl XD.out.drew (fun hHeld => ?_); refine with_tabW r_tab28 r_bits (fun HT_ HW_ => ?_)
              clear BK4 BK2 HB HK XD
              have BK4 := n1_
              have BK2 := n2_
              have HB := n3_
              have HK := n4_
              clear n1_ n2_ n3_ n4_
              generalize wc.drew = we at BK4 BK2 HB HK hHeld ⊢
              refine pure_ (i := 0) (N := some 141) (v := ?_) (a' := ?_) #[true, false, false, false, false, false, false, false, false, false, false, false, false, false, false, false, false, false, false, false, false, false, false] rfl rfl (any_of HT_.out (by kernel_rfl)) (fun _ _ _ h => h) (Or.inl ⟨by rfl, ?_⟩) ?_ ?_
              rotate_left
              · intro w'
                go_simp
                with_reducible rfl
              rotate_left
              · simp only [Act.put, List.setIfInBounds_toArray, List.set_cons_zero, List.set_cons_succ, i64_w, i32_w]
                rfl
              refine pure_ (i := 1) (N := some 142) (v := ?_) (a' := ?_) #[true, true, false, false, false, false, false, false, false, false, false, false, false, false, false, false, false, false, false, false, false, false, false] rfl rfl (any_of HT_.out (by kernel_rfl)) (fun _ _ _ h => h) (Or.inl ⟨by rfl, ?_⟩) ?_ ?_
              rotate_left
              · intro w'
                go_simp
                with_reducible rfl
              rotate_left
              · simp only [Act.put, List.setIfInBounds_toArray, List.set_cons_zero, List.set_cons_succ, i64_w, i32_w]
                rfl
              refine pure_ (i := 5) (N := some 146) (v := ?_) (a' := ?_) #[true, true, false, false, false, true, false, false, false, false, false, false, false, false, false, false, false, false, false, false, false, false, false] rfl rfl (any_of HT_.out (by kernel_rfl)) (fun _ _ _ h => h) (Or.inl ⟨by rfl, ?_⟩) ?_ ?_
              rotate_left
              · intro w'
                go_simp
                with_reducible rfl
              rotate_left
              · simp only [Act.put, List.setIfInBounds_toArray, List.set_cons_zero, List.set_cons_succ, i64_w, i32_w]
                rfl
              refine pure_ (i := 6) (N := some 147) (v := ?_) (a' := ?_) #[true, true, false, false, false, true, true, false, false, false, false, false, false, false, false, false, false, false, false, false, false, false, false] rfl rfl (any_of HT_.out (by kernel_rfl)) (fun _ _ _ h => h) (Or.inl ⟨by rfl, ?_⟩) ?_ ?_
              rotate_left
              · intro w'
                go_simp
                with_reducible rfl
              rotate_left
              · simp only [Act.put, List.setIfInBounds_toArray, List.set_cons_zero, List.set_cons_succ, i64_w, i32_w]
                rfl
              refine pure_ (i := 10) (N := some 151) (v := ?_) (a' := ?_) #[true, true, false, false, false, true, true, false, false, false, true, false, false, false, false, false, false, false, false, false, false, false, false] rfl rfl (any_of HT_.out (by kernel_rfl)) (fun _ _ _ h => h) (Or.inl ⟨by rfl, ?_⟩) ?_ ?_
              rotate_left
              · intro w'
                go_simp
                with_reducible rfl
              rotate_left
              · simp only [Act.put, List.setIfInBounds_toArray, List.set_cons_zero, List.set_cons_succ, i64_w, i32_w]
                rfl
              refine pure_ (i := 11) (N := some 152) (v := ?_) (a' := ?_) #[true, true, false, false, false, true, true, false, false, false, true, true, false, false, false, false, false, false, false, false, false, false, false] rfl rfl (any_of HT_.out (by kernel_rfl)) (fun _ _ _ h => h) (Or.inl ⟨by rfl, ?_⟩) ?_ ?_
              rotate_left
              · intro w'
                go_simp
                with_reducible rfl
              rotate_left
              · simp only [Act.put, List.setIfInBounds_toArray, List.set_cons_zero, List.set_cons_succ, i64_w, i32_w]
                rfl
              refine pure_ (i := 15) (N := some 156) (v := ?_) (a' := ?_) #[true, true, false, false, false, true, true, false, false, false, true, true, false, false, false, true, false, false, false, false, false, false, false] rfl rfl (any_of HT_.out (by kernel_rfl)) (fun _ _ _ h => h) (Or.inl ⟨by rfl, ?_⟩) ?_ ?_
              rotate_left
              · intro w'
                go_simp
                with_reducible rfl
              rotate_left
              · simp only [Act.put, List.setIfInBounds_toArray, List.set_cons_zero, List.set_cons_succ, i64_w, i32_w]
                rfl
              refine pure_ (i := 16) (N := some 157) (v := ?_) (a' := ?_) #[true, true, false, false, false, true, true, false, false, false, true, true, false, false, false, true, true, false, false, false, false, false, false] rfl rfl (any_of HT_.out (by kernel_rfl)) (fun _ _ _ h => h) (Or.inl ⟨by rfl, ?_⟩) ?_ ?_
              rotate_left
              · intro w'
                go_simp
                with_reducible rfl
              rotate_left
              · simp only [Act.put, List.setIfInBounds_toArray, List.set_cons_zero, List.set_cons_succ, i64_w, i32_w]
                rfl
              refine take_ (i := 2) (N := some 143) (v := ?_) (a' := ?_) #[true, true, true, false, false, true, true, false, false, false, true, true, false, false, false, true, true, false, false, false, false, false, false] rfl rfl (take_ofW HT_.out HW_.out (by kernel_rfl)) (fun _ _ _ h => h) (Or.inl ⟨by rfl, ?_⟩) hHeld ?_ ?_
              rotate_left
              · rintro w' ⟨s0, s1, s2, s3, s4, s5, s6, s7⟩
                go_simp
                with_reducible rfl
              rotate_left
              · simp only [Act.put, List.setIfInBounds_toArray, List.set_cons_zero, List.set_cons_succ, i64_w, i32_w]
                rfl
              refine take_ (i := 7) (N := some 148) (v := ?_) (a' := ?_) #[true, true, true, false, false, true, true, true, false, false, true, true, false, false, false, true, true, false, false, false, false, false, false] rfl rfl (take_ofW HT_.out HW_.out (by kernel_rfl)) (fun _ _ _ h => h) (Or.inl ⟨by rfl, ?_⟩) hHeld ?_ ?_
              rotate_left
              · rintro w' ⟨s0, s1, s2, s3, s4, s5, s6, s7⟩
                go_simp
                with_reducible rfl
              rotate_left
              · simp only [Act.put, List.setIfInBounds_toArray, List.set_cons_zero, List.set_cons_succ, i64_w, i32_w]
                rfl
              refine take_ (i := 12) (N := some 153) (v := ?_) (a' := ?_) #[true, true, true, false, false, true, true, true, false, false, true, true, true, false, false, true, true, false, false, false, false, false, false] rfl rfl (take_ofW HT_.out HW_.out (by kernel_rfl)) (fun _ _ _ h => h) (Or.inl ⟨by rfl, ?_⟩) hHeld ?_ ?_
              rotate_left
              · rintro w' ⟨s0, s1, s2, s3, s4, s5, s6, s7⟩
                go_simp
                with_reducible rfl
              rotate_left
              · simp only [Act.put, List.setIfInBounds_toArray, List.set_cons_zero, List.set_cons_succ, i64_w, i32_w]
                rfl
              refine take_ (i := 17) (N := some 158) (v := ?_) (a' := ?_) #[true, true, true, false, false, true, true, true, false, false, true, true, true, false, false, true, true, true, false, false, false, false, false] rfl rfl (take_ofW HT_.out HW_.out (by kernel_rfl)) (fun _ _ _ h => h) (Or.inl ⟨by rfl, ?_⟩) hHeld ?_ ?_
              rotate_left
              · rintro w' ⟨s0, s1, s2, s3, s4, s5, s6, s7⟩
                go_simp
                with_reducible rfl
              rotate_left
              · simp only [Act.put, List.setIfInBounds_toArray, List.set_cons_zero, List.set_cons_succ, i64_w, i32_w]
                rfl
              refine pure_ (i := 3) (N := some 144) (v := ?_) (a' := ?_) #[true, true, true, true, false, true, true, true, false, false, true, true, true, false, false, true, true, true, false, false, false, false, false] rfl rfl (any_of HT_.out (by kernel_rfl)) (fun _ _ _ h => h) (Or.inl ⟨by rfl, ?_⟩) ?_ ?_
              rotate_left
              · intro w'
                go_simp
                with_reducible rfl
              rotate_left
              · simp only [Act.put, List.setIfInBounds_toArray, List.set_cons_zero, List.set_cons_succ, i64_w, i32_w]
                rfl
              refine pure_ (i := 4) (N := some 145) (v := ?_) (a' := ?_) #[true, true, true, true, true, true, true, true, false, false, true, true, true, false, false, true, true, true, false, false, false, false, false] rfl rfl (any_of HT_.out (by kernel_rfl)) (fun _ _ _ h => h) (Or.inl ⟨by rfl, ?_⟩) ?_ ?_
              rotate_left
              · intro w'
                go_simp
                with_reducible rfl
              rotate_left
              · simp only [Act.put, List.setIfInBounds_toArray, List.set_cons_zero, List.set_cons_succ, i64_w, i32_w]
                rfl
              refine pure_ (i := 8) (N := some 149) (v := ?_) (a' := ?_) #[true, true, true, true, true, true, true, true, true, false, true, true, true, false, false, true, true, true, false, false, false, false, false] rfl rfl (any_of HT_.out (by kernel_rfl)) (fun _ _ _ h => h) (Or.inl ⟨by rfl, ?_⟩) ?_ ?_
              rotate_left
              · intro w'
                go_simp
                with_reducible rfl
              rotate_left
              · simp only [Act.put, List.setIfInBounds_toArray, List.set_cons_zero, List.set_cons_succ, i64_w, i32_w]
                rfl
              refine pure_ (i := 9) (N := some 150) (v := ?_) (a' := ?_) #[true, true, true, true, true, true, true, true, true, true, true, true, true, false, false, true, true, true, false, false, false, false, false] rfl rfl (any_of HT_.out (by kernel_rfl)) (fun _ _ _ h => h) (Or.inl ⟨by rfl, ?_⟩) ?_ ?_
              rotate_left
              · intro w'
                go_simp
                with_reducible rfl
              rotate_left
              · simp only [Act.put, List.setIfInBounds_toArray, List.set_cons_zero, List.set_cons_succ, i64_w, i32_w]
                rfl
              refine pure_ (i := 13) (N := some 154) (v := ?_) (a' := ?_) #[true, true, true, true, true, true, true, true, true, true, true, true, true, true, false, true, true, true, false, false, false, false, false] rfl rfl (any_of HT_.out (by kernel_rfl)) (fun _ _ _ h => h) (Or.inl ⟨by rfl, ?_⟩) ?_ ?_
              rotate_left
              · intro w'
                go_simp
                with_reducible rfl
              rotate_left
              · simp only [Act.put, List.setIfInBounds_toArray, List.set_cons_zero, List.set_cons_succ, i64_w, i32_w]
                rfl
              refine pure_ (i := 14) (N := some 155) (v := ?_) (a' := ?_) #[true, true, true, true, true, true, true, true, true, true, true, true, true, true, true, true, true, true, false, false, false, false, false] rfl rfl (any_of HT_.out (by kernel_rfl)) (fun _ _ _ h => h) (Or.inl ⟨by rfl, ?_⟩) ?_ ?_
              rotate_left
              · intro w'
                go_simp
                with_reducible rfl
              rotate_left
              · simp only [Act.put, List.setIfInBounds_toArray, List.set_cons_zero, List.set_cons_succ, i64_w, i32_w]
                rfl
              refine pure_ (i := 18) (N := some 159) (v := ?_) (a' := ?_) #[true, true, true, true, true, true, true, true, true, true, true, true, true, true, true, true, true, true, true, false, false, false, false] rfl rfl (any_of HT_.out (by kernel_rfl)) (fun _ _ _ h => h) (Or.inl ⟨by rfl, ?_⟩) ?_ ?_
              rotate_left
              · intro w'
                go_simp
                with_reducible rfl
              rotate_left
              · simp only [Act.put, List.setIfInBounds_toArray, List.set_cons_zero, List.set_cons_succ, i64_w, i32_w]
                rfl
              refine pure_ (i := 19) (N := some 160) (v := ?_) (a' := ?_) #[true, true, true, true, true, true, true, true, true, true, true, true, true, true, true, true, true, true, true, true, false, false, false] rfl rfl (any_of HT_.out (by kernel_rfl)) (fun _ _ _ h => h) (Or.inl ⟨by rfl, ?_⟩) ?_ ?_
              rotate_left
              · intro w'
                go_simp
                with_reducible rfl
              rotate_left
              · simp only [Act.put, List.setIfInBounds_toArray, List.set_cons_zero, List.set_cons_succ, i64_w, i32_w]
                rfl
              refine pure_ (i := 20) (N := some 161) (v := ?_) (a' := ?_) #[true, true, true, true, true, true, true, true, true, true, true, true, true, true, true, true, true, true, true, true, true, false, false] rfl rfl (any_of HT_.out (by kernel_rfl)) (fun _ _ _ h => h) (Or.inl ⟨by rfl, ?_⟩) ?_ ?_
              rotate_left
              · intro w'
                go_simp
                with_reducible rfl
              rotate_left
              · simp only [Act.put, List.setIfInBounds_toArray, List.set_cons_zero, List.set_cons_succ, i64_w, i32_w]
                rfl
              refine pure_ (i := 21) (N := some 162) (v := ?_) (a' := ?_) #[true, true, true, true, true, true, true, true, true, true, true, true, true, true, true, true, true, true, true, true, true, true, false] rfl rfl (any_of HT_.out (by kernel_rfl)) (fun _ _ _ h => h) (Or.inl ⟨by rfl, ?_⟩) ?_ ?_
              rotate_left
              · intro w'
                go_simp
                with_reducible rfl
              rotate_left
              · simp only [Act.put, List.setIfInBounds_toArray, List.set_cons_zero, List.set_cons_succ, i64_w, i32_w]
                rfl
              refine one_ (i := 22) (N := none) #[true, true, true, true, true, true, true, true, true, true, true, true, true, true, true, true, true, true, true, true, true, true, true] rfl rfl (one_of HT_.out (by kernel_rfl)) (by decide) (fun K_ hK_ => ?_)
              have hs0 := (blk_cell BK4.out 2).trans rfl
              have hfs0 := blk_frozen BK4.out 2
              have hs1 := (blk_cell BK4.out 3).trans rfl
              have hfs1 := blk_frozen BK4.out 3
              refine skip_ (w1 := ?_) (by rfl) rfl ?_ ?_
              rotate_left
              · go_simp
                rfl
              refine hK_.out _ _ ((hHeld.far NB.out _).far NB.out _) (fun hHeld => ?_)
              clear hK_ K_ hs0 hfs0 hs1 hfs1
              have n1_ := Aside0.mk (blk_put (cs := #[.int .i64 (wrap64 (wrap64 (256 * wrap64 (rd x 2)) + wrap64 (rd x 3))), .int .i64 (wrap64 (wrap64 (256 * wrap64 (rd x 0)) + wrap64 (rd x 1))), .int .i64 (wrap64 (wrap64 (256 * wrap64 (rd x 6)) + wrap64 (rd x 7))), .int .i64 (t.2.2.2.1), vc, vl]) (cs' := #[.int .i64 (wrap64 (wrap64 (256 * wrap64 (rd x 2)) + wrap64 (rd x 3))), .int .i64 (wrap64 (wrap64 (256 * wrap64 (rd x 0)) + wrap64 (rd x 1))), .int .i64 (wrap64 (wrap64 (256 * wrap64 (rd x 6)) + wrap64 (rd x 7))), .int .i64 (wrap64 (wrap64 (256 * wrap64 (rd x 4)) + wrap64 (rd x 5))), vc, vl]) (blk_put (cs := #[.int .i64 (wrap64 (wrap64 (256 * wrap64 (rd x 2)) + wrap64 (rd x 3))), .int .i64 (wrap64 (wrap64 (256 * wrap64 (rd x 0)) + wrap64 (rd x 1))), .int .i64 (t.2.2.1), .int .i64 (t.2.2.2.1), vc, vl]) (cs' := #[.int .i64 (wrap64 (wrap64 (256 * wrap64 (rd x 2)) + wrap64 (rd x 3))), .int .i64 (wrap64 (wrap64 (256 * wrap64 (rd x 0)) + wrap64 (rd x 1))), .int .i64 (wrap64 (wrap64 (256 * wrap64 (rd x 6)) + wrap64 (rd x 7))), .int .i64 (t.2.2.2.1), vc, vl]) BK4.out 2 (.int .i64 (wrap64 (wrap64 (256 * wrap64 (rd x 6)) + wrap64 (rd x 7)))) rfl) 3 (.int .i64 (wrap64 (wrap64 (256 * wrap64 (rd x 4)) + wrap64 (rd x 5)))) rfl)
              have n2_ := Aside0.mk (blk_far (p := ⟨g4, 3, none⟩) (blk_far (p := ⟨g4, 2, none⟩) BK2.out NE2.out (.int .i64 (wrap64 (wrap64 (256 * wrap64 (rd x 6)) + wrap64 (rd x 7))))) NE2.out (.int .i64 (wrap64 (wrap64 (256 * wrap64 (rd x 4)) + wrap64 (rd x 5)))))
              have n3_ := Aside0.mk (below_set (j := 3) (v := .int .i64 (wrap64 (wrap64 (256 * wrap64 (rd x 4)) + wrap64 (rd x 5)))) (below_set (j := 2) (v := .int .i64 (wrap64 (wrap64 (256 * wrap64 (rd x 6)) + wrap64 (rd x 7)))) HB.out GE4.out) GE4.out)
              have n4_ := Aside0.mk (Kd.R_far (p := ⟨g4, 3, none⟩) (Kd.R_far (p := ⟨g4, 2, none⟩) HK.out (fun _ hk => hk) (.int .i64 (wrap64 (wrap64 (256 * wrap64 (rd x 6)) + wrap64 (rd x 7))))) (fun _ hk => hk) (.int .i64 (wrap64 (wrap64 (256 * wrap64 (rd x 4)) + wrap64 (rd x 5)))))
              clear BK4 BK2 HB HK
              have BK4 := n1_
              have BK2 := n2_
              have HB := n3_
              have HK := n4_
              clear n1_ n2_ n3_ n4_
              refine done_ (done_of HT_.out (by kernel_rfl)) ?_
              clear HT_ HW_ hHeld
              clear p0 p1 p2 p3 p4 p5 p6 p7
              go_wp2
              refine ⟨⟨5, n + m, (wrap64 (wrap64 (256 * wrap64 (rd x 2)) + wrap64 (rd x 3)), wrap64 (wrap64 (256 * wrap64 (rd x 0)) + wrap64 (rd x 1)), wrap64 (wrap64 (256 * wrap64 (rd x 6)) + wrap64 (rd x 7)), wrap64 (wrap64 (256 * wrap64 (rd x 4)) + wrap64 (rd x 5)), t.2.2.2.2.1, t.2.2.2.2.2), vc, vl, by rw [HW2.out, Int.natCast_add], rfl, by omega, HND.out, HNN, HVc, HVl, BK2, BK4, HK, HB⟩, ?_⟩
              simp only [intOf]
              omega
      · obtain rfl : i = 5 := by omega
        have h := H.out
        rw [show K.drop 5 = [] from List.drop_eq_nil_of_le (by omega)] at h
        clear H
        obtain ⟨p0, p1, o0, o1, cs, ls⟩ := t
        dsimp only at HVc HVl BK4
        have HE := Aside0.mk (h : parse_end l (p0, p1, o0, o1, cs, ls) = some r)
        clear h
        obtain ⟨A4, c4, rfl⟩ := Kd.V_slice HVc.out
        obtain ⟨A5, c5, rfl⟩ := Kd.V_slice HVl.out
        have n1_ := Aside0.mk (show wr.heap[g4]? = some (.cells #[.int .i64 p0, .int .i64 p1, .int .i64 o0, .int .i64 o1, .slice A4 cs.length c4, .slice A5 ls.length c5] 34 (0, 0)) from BK4.out)
        clear BK4
        have BK4 := n1_
        clear n1_ hKl hgk1 hgk2 hi hn hi5 HK HKK
        have hzn_0 := (show wr.cell? ⟨g4, 0, none⟩ = _ from (blk_cell BK4.out 0).trans rfl)
        have hfn_0 := blk_frozen BK4.out 0
        have hzn_1 := (show wr.cell? ⟨g4, 1, none⟩ = _ from (blk_cell BK4.out 1).trans rfl)
        have hfn_1 := blk_frozen BK4.out 1
        have hzn_2 := (show wr.cell? ⟨g4, 2, none⟩ = _ from (blk_cell BK4.out 2).trans rfl)
        have hfn_2 := blk_frozen BK4.out 2
        have hzn_3 := (show wr.cell? ⟨g4, 3, none⟩ = _ from (blk_cell BK4.out 3).trans rfl)
        have hfn_3 := blk_frozen BK4.out 3
        have hzn_4 := (show wr.cell? ⟨g4, 4, none⟩ = _ from (blk_cell BK4.out 4).trans rfl)
        have hfn_4 := blk_frozen BK4.out 4
        have hzn_5 := (show wr.cell? ⟨g4, 5, none⟩ = _ from (blk_cell BK4.out 5).trans rfl)
        have hfn_5 := blk_frozen BK4.out 5
        have d5 : ¬ (((5 : Nat) : Int) < 5) := by decide
        rcases wend l (p0, p1, o0, o1, cs, ls) with ⟨e, he, hW, hE⟩ | ⟨hlen, hW, hE⟩
        · have HW := Aside0.mk (greenscreenref24_Write.calls 2100 p0 p1 o0 o1 (fun k_ => P0_ k_) A4 c4 cs (fun k_ => P0_ k_) A5 c5 ls [] e wr (Kd.V_map (Kd.V_below HVc.out HB.out) (fun _ h => h)) (Kd.V_map (Kd.V_below HVl.out HB.out) (fun _ h => h)) hW)
          obtain rfl := Option.some.inj (hE.symm.trans HE.out)
          have e1 : (e == 0) = false := beq_eq_false_iff_ne.mpr he
          have e2 : (e != 0) = true := bne_iff_ne.mpr he
          clear hE HE hW he
          go_upto_region 31 with ((with_reducible refine gate_callee (f := 9) rfl ?_); (try (refine gate_guard (by rfl) ?_; dsimp only)); refine goesL_ (some 165) rfl rfl Try.func9 (by kernel_rfl) rfl #[.agg #[.int .i64 p0, .int .i64 p1, .int .i64 o0, .int .i64 o1, .slice A4 cs.length c4, .slice A5 ls.length c5]] rfl (by (try simp only [List.map_toArray, List.map_cons, List.map_nil]); first | done | rfl | (go_simp; done)) ?_; refine (HW.out).mono ?_; rintro e w6 ⟨v10, rfl, hR10, hb⟩; refine ⟨_, rfl, ?_⟩; have n1_ := Aside0.mk (blk_below BK2.out hb); have n2_ := Aside0.mk (blk_below BK4.out hb); have n3_ := Aside0.mk (below_step HB.out hb); have HR10 := Aside0.mk hR10; clear BK2 BK4 HB HW hR10 hb; have BK2 := n1_; have BK4 := n2_; have HB := n3_; clear n1_ n2_ n3_; obtain ⟨A10, c10, rfl⟩ := Kd.R_slice HR10.out)
          have hzo_0 := (show w6.cell? ⟨g2, 0, none⟩ = _ from (blk_cell BK2.out 0).trans rfl)
          have hfo_0 := blk_frozen BK2.out 0
          have hzo_1 := (show w6.cell? ⟨g2, 1, none⟩ = _ from (blk_cell BK2.out 1).trans rfl)
          have hfo_1 := blk_frozen BK2.out 1
          have hzo_2 := (show w6.cell? ⟨g2, 2, none⟩ = _ from (blk_cell BK2.out 2).trans rfl)
          have hfo_2 := blk_frozen BK2.out 2
          have hzo_3 := (show w6.cell? ⟨g2, 3, none⟩ = _ from (blk_cell BK2.out 3).trans rfl)
          have hfo_3 := blk_frozen BK2.out 3
          have hzo_4 := (show w6.cell? ⟨g2, 4, none⟩ = _ from (blk_cell BK2.out 4).trans rfl)
          have hfo_4 := blk_frozen BK2.out 4
          have hzo_5 := (show w6.cell? ⟨g2, 5, none⟩ = _ from (blk_cell BK2.out 5).trans rfl)
          have hfo_5 := blk_frozen BK2.out 5
          go_wp2
          refine bodyPost_ret (results_ct rfl _ _ g2 34 #[.int .i64 0, .int .i64 0, .int .i64 0, .int .i64 0, .slice none 0 0, .slice none 0 0] (0, 0) _ rfl (rput6 BK2.out) Try.underlying34 rfl (by kernel_rfl)) rfl ?_
          exact ⟨_, _, rfl, Kd.V_nil _ _ _ _ _, Kd.V_nil _ _ _ _ _, below_put6 _ _ _ _ _ _ HB.out GE2.out⟩
        · obtain ⟨wb, hwb⟩ : ∃ wb, wb = writeL (p0, p1, o0, o1, cs, ls) := ⟨_, rfl⟩
          rw [← hwb] at hlen hW hE
          have HW := Aside0.mk (greenscreenref24_Write.calls 2100 p0 p1 o0 o1 (fun k_ => P0_ k_) A4 c4 cs (fun k_ => P0_ k_) A5 c5 ls wb 0 wr (Kd.V_map (Kd.V_below HVc.out HB.out) (fun _ h => h)) (Kd.V_map (Kd.V_below HVl.out HB.out) (fun _ h => h)) hW)
          have HE2 := Aside0.mk (hE.symm.trans HE.out)
          have HS0 := Aside0.mk (refSame_f wb l (by omega) (wb.length + 5) (by omega))
          clear hE HE hW hwb hlen
          by_cases hq : wb = l
          · have HS := Aside0.mk (show greenscreenref01_Same.f (wb.length + 5) wb l = some true by rw [HS0.out, decide_eq_true hq])
            have hh := HE2.out
            rw [if_pos hq] at hh
            obtain rfl := Option.some.inj hh
            clear hh HE2 HS0 hq
            go_upto_region 32 with (first | ((with_reducible refine gate_callee (f := 9) rfl ?_); (try (refine gate_guard (by rfl) ?_; dsimp only)); refine goesL_ (some 165) rfl rfl Try.func9 (by kernel_rfl) rfl #[.agg #[.int .i64 p0, .int .i64 p1, .int .i64 o0, .int .i64 o1, .slice A4 cs.length c4, .slice A5 ls.length c5]] rfl (by (try simp only [List.map_toArray, List.map_cons, List.map_nil]); first | done | rfl | (go_simp; done)) ?_; refine (HW.out).mono ?_; rintro e w6 ⟨v10, rfl, hR10, hb⟩; refine ⟨_, rfl, ?_⟩; have n1_ := Aside0.mk (blk_below BK2.out hb); have n2_ := Aside0.mk (blk_below BK4.out hb); have n3_ := Aside0.mk (below_step HB.out hb); have HR10 := Aside0.mk hR10; clear BK2 BK4 HB HW hR10 hb; have BK2 := n1_; have BK4 := n2_; have HB := n3_; clear n1_ n2_ n3_; obtain ⟨A10, c10, rfl⟩ := Kd.R_slice HR10.out) | ((with_reducible refine gate_callee (f := 13) rfl ?_); (try (refine gate_guard (by rfl) ?_; dsimp only)); refine goesL_ (some 173) rfl rfl Try.func13 (by kernel_rfl) rfl #[.slice A10 wb.length c10, .slice (some ad) l.length c] rfl (by (try simp only [List.map_toArray, List.map_cons, List.map_nil]); first | done | rfl | (go_simp; done)) ?_; refine (greenscreenref01_Same.calls (wb.length + 5) A10 c10 wb (some ad) c l _ w6 (Kd.R_reads' HR10.out).2.2 (Kd.R_reads' HR10.out).2.1 (HC.out _ HB.out) HCC.out HS.out).mono ?_; rintro e w7 ⟨rfl, hd0⟩; refine ⟨_, rfl, ?_⟩; have hb := hd0.below; have n1_ := Aside0.mk (blk_below BK2.out hb); have n2_ := Aside0.mk (blk_below BK4.out hb); have n3_ := Aside0.mk (below_step HB.out hb); clear BK2 BK4 HB hd0 hb; have BK2 := n1_; have BK4 := n2_; have HB := n3_; clear n1_ n2_ n3_))
            have hzp_0 := (show w7.cell? ⟨g2, 0, none⟩ = _ from (blk_cell BK2.out 0).trans rfl)
            have hfp_0 := blk_frozen BK2.out 0
            have hzp_1 := (show w7.cell? ⟨g2, 1, none⟩ = _ from (blk_cell BK2.out 1).trans rfl)
            have hfp_1 := blk_frozen BK2.out 1
            have hzp_2 := (show w7.cell? ⟨g2, 2, none⟩ = _ from (blk_cell BK2.out 2).trans rfl)
            have hfp_2 := blk_frozen BK2.out 2
            have hzp_3 := (show w7.cell? ⟨g2, 3, none⟩ = _ from (blk_cell BK2.out 3).trans rfl)
            have hfp_3 := blk_frozen BK2.out 3
            have hzp_4 := (show w7.cell? ⟨g2, 4, none⟩ = _ from (blk_cell BK2.out 4).trans rfl)
            have hfp_4 := blk_frozen BK2.out 4
            have hzp_5 := (show w7.cell? ⟨g2, 5, none⟩ = _ from (blk_cell BK2.out 5).trans rfl)
            have hfp_5 := blk_frozen BK2.out 5
            have hzq_0 := (show w7.cell? ⟨g4, 0, none⟩ = _ from (blk_cell BK4.out 0).trans rfl)
            have hfq_0 := blk_frozen BK4.out 0
            have hzq_1 := (show w7.cell? ⟨g4, 1, none⟩ = _ from (blk_cell BK4.out 1).trans rfl)
            have hfq_1 := blk_frozen BK4.out 1
            have hzq_2 := (show w7.cell? ⟨g4, 2, none⟩ = _ from (blk_cell BK4.out 2).trans rfl)
            have hfq_2 := blk_frozen BK4.out 2
            have hzq_3 := (show w7.cell? ⟨g4, 3, none⟩ = _ from (blk_cell BK4.out 3).trans rfl)
            have hfq_3 := blk_frozen BK4.out 3
            have hzq_4 := (show w7.cell? ⟨g4, 4, none⟩ = _ from (blk_cell BK4.out 4).trans rfl)
            have hfq_4 := blk_frozen BK4.out 4
            have hzq_5 := (show w7.cell? ⟨g4, 5, none⟩ = _ from (blk_cell BK4.out 5).trans rfl)
            have hfq_5 := blk_frozen BK4.out 5
            go_wp2
            refine bodyPost_ret (results_ct rfl _ _ g2 34 #[.int .i64 p0, .int .i64 p1, .int .i64 o0, .int .i64 o1, .slice A4 cs.length c4, .slice A5 ls.length c5] (0, 0) _ rfl (rput6 BK2.out) Try.underlying34 rfl (by kernel_rfl)) rfl ?_
            exact ⟨_, _, rfl, vput6 _ _ _ _ _ _ HVc.out HB.out GE2.out, vput6 _ _ _ _ _ _ HVl.out HB.out GE2.out, below_put6 _ _ _ _ _ _ HB.out GE2.out⟩
          · have HS := Aside0.mk (show greenscreenref01_Same.f (wb.length + 5) wb l = some false by rw [HS0.out, decide_eq_false hq])
            have hh := HE2.out
            rw [if_neg hq] at hh
            obtain rfl := Option.some.inj hh
            clear hh HE2 HS0 hq
            go_upto_region 31 with (first | ((with_reducible refine gate_callee (f := 9) rfl ?_); (try (refine gate_guard (by rfl) ?_; dsimp only)); refine goesL_ (some 165) rfl rfl Try.func9 (by kernel_rfl) rfl #[.agg #[.int .i64 p0, .int .i64 p1, .int .i64 o0, .int .i64 o1, .slice A4 cs.length c4, .slice A5 ls.length c5]] rfl (by (try simp only [List.map_toArray, List.map_cons, List.map_nil]); first | done | rfl | (go_simp; done)) ?_; refine (HW.out).mono ?_; rintro e w6 ⟨v10, rfl, hR10, hb⟩; refine ⟨_, rfl, ?_⟩; have n1_ := Aside0.mk (blk_below BK2.out hb); have n2_ := Aside0.mk (blk_below BK4.out hb); have n3_ := Aside0.mk (below_step HB.out hb); have HR10 := Aside0.mk hR10; clear BK2 BK4 HB HW hR10 hb; have BK2 := n1_; have BK4 := n2_; have HB := n3_; clear n1_ n2_ n3_; obtain ⟨A10, c10, rfl⟩ := Kd.R_slice HR10.out) | ((with_reducible refine gate_callee (f := 13) rfl ?_); (try (refine gate_guard (by rfl) ?_; dsimp only)); refine goesL_ (some 173) rfl rfl Try.func13 (by kernel_rfl) rfl #[.slice A10 wb.length c10, .slice (some ad) l.length c] rfl (by (try simp only [List.map_toArray, List.map_cons, List.map_nil]); first | done | rfl | (go_simp; done)) ?_; refine (greenscreenref01_Same.calls (wb.length + 5) A10 c10 wb (some ad) c l _ w6 (Kd.R_reads' HR10.out).2.2 (Kd.R_reads' HR10.out).2.1 (HC.out _ HB.out) HCC.out HS.out).mono ?_; rintro e w7 ⟨rfl, hd0⟩; refine ⟨_, rfl, ?_⟩; have hb := hd0.below; have n1_ := Aside0.mk (blk_below BK2.out hb); have n2_ := Aside0.mk (blk_below BK4.out hb); have n3_ := Aside0.mk (below_step HB.out hb); clear BK2 BK4 HB hd0 hb; have BK2 := n1_; have BK4 := n2_; have HB := n3_; clear n1_ n2_ n3_))
            have hzr_0 := (show w7.cell? ⟨g2, 0, none⟩ = _ from (blk_cell BK2.out 0).trans rfl)
            have hfr_0 := blk_frozen BK2.out 0
            have hzr_1 := (show w7.cell? ⟨g2, 1, none⟩ = _ from (blk_cell BK2.out 1).trans rfl)
            have hfr_1 := blk_frozen BK2.out 1
            have hzr_2 := (show w7.cell? ⟨g2, 2, none⟩ = _ from (blk_cell BK2.out 2).trans rfl)
            have hfr_2 := blk_frozen BK2.out 2
            have hzr_3 := (show w7.cell? ⟨g2, 3, none⟩ = _ from (blk_cell BK2.out 3).trans rfl)
            have hfr_3 := blk_frozen BK2.out 3
            have hzr_4 := (show w7.cell? ⟨g2, 4, none⟩ = _ from (blk_cell BK2.out 4).trans rfl)
            have hfr_4 := blk_frozen BK2.out 4
            have hzr_5 := (show w7.cell? ⟨g2, 5, none⟩ = _ from (blk_cell BK2.out 5).trans rfl)
            have hfr_5 := blk_frozen BK2.out 5
            go_wp2
            refine bodyPost_ret (results_ct rfl _ _ g2 34 #[.int .i64 0, .int .i64 0, .int .i64 0, .int .i64 0, .slice none 0 0, .slice none 0 0] (0, 0) _ rfl (rput6 BK2.out) Try.underlying34 rfl (by kernel_rfl)) rfl ?_
            exact ⟨_, _, rfl, Kd.V_nil _ _ _ _ _, Kd.V_nil _ _ _ _ _, below_put6 _ _ _ _ _ _ HB.out GE2.out⟩
end Go.Proofs.Ytpdihhfeekoplaa.P
