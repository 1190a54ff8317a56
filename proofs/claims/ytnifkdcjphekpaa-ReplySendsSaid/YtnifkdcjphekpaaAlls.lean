/- made where there is no plane; what the lengths of replies are. -/
import Derived.Test.YtnifkdcjphekpaaMade
import Derived.Test.YtnifkdcjphekpaaReplies
namespace Go.Proofs.Ytnifkdcjphekpaa.H
open Go.RowKit Go.Proofs.YtnifkdcjphekpaaW.PrintWords Go.Proofs.YtnifkdcjphekpaaW.PrintLast
set_option linter.unusedVariables false
set_option linter.unusedSimpArgs false
set_option maxHeartbeats 2000000 in
set_option maxRecDepth 100000 in
theorem made_no (r c a : Int) (hn : cells r c = 0 ∨ 120 < cells r c) (xs : List A.S34) (A1 : Option Addr) (c1 : Nat) (w : World) :
    Calls Try.prog 9 #[.agg #[.int .i64 r, .int .i64 c], .slice A1 xs.length c1, .int .i64 a] w fun e w' => ∃ x0 x1 A n c x3, e = .returned (.tuple #[.pointer none, .agg #[.int .i64 x0, .int .i64 x1, .slice A n c, .int .i64 x3], .bool false]) ∧ Below w.heap.size w w' := by
  have hu26 := Try.underlying26
  have hu30 := Try.underlying30
  have hu34 := Try.underlying34
  have hF := new14_f r c
  rcases hn with hn | hn
  · rw [if_pos hn] at hF
    have HF := Lib.hid hF
    clear hF hn
    go_enter Try.func9, Try.ntmps9
    go_wp2_with (go_at_call 26; (with_reducible refine (A.greenscreenref14_New.calls r c _ _ _ _ _ _ HF.out).mono ?_); rintro e w1 ⟨v, rfl, hR, hb⟩; obtain ⟨A2, c2, rfl⟩ := Kd.R_slice hR; simp only [List.length_replicate, List.length_nil]; have HB1 := Lib.hid (below_step (below_alloc (below_alloc (Below.refl w.heap.size w) (.cells #[.int .i64 r, .int .i64 c] 26)) (.cells #[.int .i64 0, .int .i64 0, .slice none 0 0, .int .i64 0] 30)) hb); have hy := blk_alloc (blk_below (heap_alloc_new (w.alloc (.cells #[.int .i64 r, .int .i64 c] 26)) (.cells #[.int .i64 0, .int .i64 0, .slice none 0 0, .int .i64 0] 30)) hb) (.cells #[.int .i64 0, .int .i64 0, .slice A2 0 c2, .int .i64 0] 30); rw [World.size_alloc] at hy; have y0 := (blk_cell hy 0).trans rfl; have y1 := (blk_cell hy 1).trans rfl; have y2 := (blk_cell hy 2).trans rfl; have y3 := (blk_cell hy 3).trans rfl; have f0 := blk_frozen hy 0; have f1 := blk_frozen hy 1; have f2 := blk_frozen hy 2; have f3 := blk_frozen hy 3; have HY := Lib.hid hy; clear hb hR hy)
    go_region
    go_wp2
    have s0 := blk_set HY.out 0 (.int .i64 0)
    have s1 := blk_set s0 1 (.int .i64 0)
    have s2 := blk_set s1 2 (.slice A2 0 c2)
    have s3 := blk_set s2 3 (.int .i64 0)
    simp only [List.setIfInBounds_toArray, List.set_cons_zero, List.set_cons_succ] at s3
    have hgy := grown_setCell (grown_setCell (grown_setCell (grown_setCell (grown_of_below (some (w.heap.size + 1)) (Below.refl _ (w1.alloc (.cells #[.int .i64 0, .int .i64 0, .slice A2 0 c2, .int .i64 0] 30)))) 0 (.int .i64 0)) 1 (.int .i64 0)) 2 (.slice A2 0 c2)) 3 (.int .i64 0)
    have hb2 := below_alloc HB1.out (.cells #[.int .i64 0, .int .i64 0, .slice A2 0 c2, .int .i64 0] 30)
    have hb5 := below_drew (hb2.trans (grown_below hgy (Nat.le_succ _) hb2.size))
    refine bodyPost_ret (results_tct rfl _ _ (w.heap.size + 1) 30 _ (0, 0) _ rfl (blk_drew s3) Try.underlying30 rfl (by kernel_rfl)) rfl ?_
    exact ⟨0, 0, A2, _, c2, 0, rfl, hb5⟩
  · rw [if_neg (by omega)] at hF
    obtain ⟨n, hN⟩ : ∃ n : Nat, cells r c = n := ⟨(cells r c).toNat, by omega⟩
    rw [hN] at hn hF
    rw [Int.toNat_natCast] at hF
    have e1 : decide ((n : Int) > 120) = true := by simp; omega
    have HF := Lib.hid hF
    clear hF hn hN
    go_enter Try.func9, Try.ntmps9
    go_wp2_with (go_at_call 26; (with_reducible refine (A.greenscreenref14_New.calls r c _ _ _ _ _ _ HF.out).mono ?_); rintro e w1 ⟨v, rfl, hR, hb⟩; obtain ⟨A2, c2, rfl⟩ := Kd.R_slice hR; simp only [List.length_replicate, List.length_nil]; have HB1 := Lib.hid (below_step (below_alloc (below_alloc (Below.refl w.heap.size w) (.cells #[.int .i64 r, .int .i64 c] 26)) (.cells #[.int .i64 0, .int .i64 0, .slice none 0 0, .int .i64 0] 30)) hb); have hy := blk_alloc (blk_below (heap_alloc_new (w.alloc (.cells #[.int .i64 r, .int .i64 c] 26)) (.cells #[.int .i64 0, .int .i64 0, .slice none 0 0, .int .i64 0] 30)) hb) (.cells #[.int .i64 r, .int .i64 c, .slice A2 n c2, .int .i64 0] 30); rw [World.size_alloc] at hy; have y0 := (blk_cell hy 0).trans rfl; have y1 := (blk_cell hy 1).trans rfl; have y2 := (blk_cell hy 2).trans rfl; have y3 := (blk_cell hy 3).trans rfl; have f0 := blk_frozen hy 0; have f1 := blk_frozen hy 1; have f2 := blk_frozen hy 2; have f3 := blk_frozen hy 3; have HY := Lib.hid hy; clear hb hR hy)
    go_region
    go_wp2
    have s0 := blk_set HY.out 0 (.int .i64 r)
    have s1 := blk_set s0 1 (.int .i64 c)
    have s2 := blk_set s1 2 (.slice A2 n c2)
    have s3 := blk_set s2 3 (.int .i64 0)
    simp only [List.setIfInBounds_toArray, List.set_cons_zero, List.set_cons_succ] at s3
    have hgy := grown_setCell (grown_setCell (grown_setCell (grown_setCell (grown_of_below (some (w.heap.size + 1)) (Below.refl _ (w1.alloc (.cells #[.int .i64 r, .int .i64 c, .slice A2 n c2, .int .i64 0] 30)))) 0 (.int .i64 r)) 1 (.int .i64 c)) 2 (.slice A2 n c2)) 3 (.int .i64 0)
    have hb2 := below_alloc HB1.out (.cells #[.int .i64 r, .int .i64 c, .slice A2 n c2, .int .i64 0] 30)
    have hb5 := below_drew (hb2.trans (grown_below hgy (Nat.le_succ _) hb2.size))
    refine bodyPost_ret (results_tct rfl _ _ (w.heap.size + 1) 30 _ (0, 0) _ rfl (blk_drew s3) Try.underlying30 rfl (by kernel_rfl)) rfl ?_
    exact ⟨r, c, A2, _, c2, 0, rfl, hb5⟩
theorem rd_mem (xs : List A.S34) (k : Nat) (h : k < xs.length) : A.rd_T34 xs (k : Int) ∈ xs := by
  have e : A.rd_T34 xs (k : Int) = xs[k] := by
    unfold A.rd_T34
    simp [h]
  rw [e]
  exact List.getElem_mem h
theorem madeK_mem (n : Nat) (xs : List A.S34) : ∀ k, k ≤ xs.length → ∀ x, x ∈ madeK n xs k → x = z34 ∨ x ∈ xs
  | 0, _, x, h => .inl (List.eq_of_mem_replicate h)
  | k + 1, hk, x, h => by
    unfold madeK at h
    split at h
    · rcases List.mem_or_eq_of_mem_set h with h | h
      · exact madeK_mem n xs k (by omega) x h
      · exact .inr (h ▸ rd_mem xs k hk)
    · exact madeK_mem n xs k (by omega) x h
/-- made, where there is a plane. -/
theorem made_q (r c a : Int) (hn : 1 ≤ cells r c) (h120 : cells r c ≤ 120) (xs : List A.S34) (A1 : Option Addr) (c1 : Nat) (w : World) (hC : Kd.C A.k34 w A1 xs.length xs) :
    Calls Try.prog 9 #[.agg #[.int .i64 r, .int .i64 c], .slice A1 xs.length c1, .int .i64 a] w fun e w' => ∃ cs p g R c0 R2 c2, e = .returned (.tuple #[.pointer (some ⟨g, 0, none⟩), .agg #[.int .i64 r, .int .i64 c, .slice (some ⟨R2, 0, none⟩) cs.length c2, .int .i64 p], .bool true]) ∧
      (w.heap.size ≤ g ∧ w.heap.size ≤ R ∧ w.heap.size ≤ R2 ∧ R ≠ R2 ∧ cs.length ≤ c2) ∧ (cells r c = cs.length ∧ 1 ≤ cs.length ∧ cs.length ≤ 120 ∧ 0 ≤ p ∧ p < cs.length ∧ ∀ x, x ∈ cs → x = z34 ∨ x ∈ xs) ∧ OwnP w' g R c0 r c cs p ∧ Row34 w' R2 cs ∧ Below w.heap.size w w' := by
  refine (made_p r c a hn h120 xs A1 c1 w hC).mono ?_
  rintro e w' ⟨g, R, c0, R2, c2, rfl, hg, hR, hR2, hne, hcap, ho, hq, hb⟩
  have hl := madeK_length (cells r c).toNat xs xs.length
  refine ⟨madeK (cells r c).toNat xs xs.length, a % 256 % cells r c, g, R, c0, R2, c2, by rw [hl], ⟨hg, hR, hR2, hne, by rw [hl]; exact hcap⟩, ⟨?_, ?_, ?_, ?_, ?_, madeK_mem _ _ _ (Nat.le_refl _)⟩, ho, hq, hb⟩
  · rw [hl]; omega
  · rw [hl]; omega
  · rw [hl]; omega
  · exact Int.emod_nonneg _ (by omega)
  · rw [hl, Int.toNat_of_nonneg (by omega)]; exact Int.emod_lt_of_pos _ (by omega)
end Go.Proofs.Ytnifkdcjphekpaa.H
