/- plane.Clone. -/
import Derived.Test.YtnifkdcjphekpaaOwn
import Derived.Lib.SliceRun
import Derived.Test.YtnifkdcjphekpaaBridge
namespace Go.Proofs.Ytnifkdcjphekpaa.H
open Go.RowKit Go.Proofs.YtnifkdcjphekpaaW.PrintWords Go.Proofs.YtnifkdcjphekpaaW.PrintLast
set_option linter.unusedVariables false
set_option linter.unusedSimpArgs false
section
variable {w : World} {ad : Addr} {g R c0 : Nat} {A0 : Option Addr} {r c cur : Int} {cs : List A.S34}
theorem row_cells {W : World} {ad : Addr} {n : Nat} (h : Kd.C A.k34 W (some ad) n cs) : ∀ k u, (flat cs)[k]? = some u → W.cell? (ad.add k) = some u := by
  intro k u hk
  have hl := (List.getElem?_eq_some_iff.1 hk).1
  rw [flat_length] at hl
  obtain ⟨_, _, h3⟩ := h
  obtain ⟨ad', he, hc⟩ := h3 (by omega)
  obtain rfl : ad = ad' := by injection he
  have h1 : k / 5 < cs.length := by omega
  have h2 : k % 5 < 5 := by omega
  obtain ⟨L, _, hK, hcell⟩ := hc (k / 5) _ (List.getElem?_eq_getElem h1)
  obtain rfl := A.k34_open hK
  have e : k / 5 * 5 + k % 5 = k := by omega
  have hg := flat_get cs [] (k / 5) _ (k % 5) ((cellL cs[k / 5])[k % 5]'h2) (List.getElem?_eq_getElem h1) (List.getElem?_eq_getElem h2)
  rw [e, List.append_nil, hk] at hg
  have := hcell (k % 5) u (by rw [Option.some.inj hg]; exact List.getElem?_eq_getElem h2)
  have e' : k / 5 * A.k34.sz + k % 5 = k := e
  rw [e'] at this
  exact this
theorem flat_one (cs : List A.S34) : ∀ u ∈ flat cs, u.oneCell' = true := by
  intro u hu
  obtain ⟨x, _, hx⟩ := List.mem_flatMap.1 hu
  simp only [cellL, List.mem_cons, List.not_mem_nil, or_false] at hx
  rcases hx with rfl | rfl | rfl | rfl | rfl <;> rfl
set_option maxHeartbeats 2000000 in
set_option maxRecDepth 100000 in
theorem clone_s {W : World} {n c0 : Nat} {ad : Addr} (hk : Kd.C A.k34 W (some ad) n cs) (hn : cs.length = n) (h4 : n ≤ 4096) : Calls Try.prog 35 #[.slice (some ad) n c0] W fun e w' => ∃ R ex c1, e = .returned (.slice (some ⟨R, 0, none⟩) n c1) ∧ W.heap.size ≤ R ∧ w'.heap[R]? = some (.cells (flat cs ++ ex).toArray 34 (0, 0)) ∧ Below W.heap.size W w' := by
  have HK := Lib.hid hk
  have hu27 := Try.underlying27
  clear hk
  go_enter Try.func35, Try.ntmps35
  have heq := fun (W' : World) => Go.Lib.run_eql_slice_nil (P := Try.prog) W' 27 34 (some ad) n c0 0 0 hu27
  have hrow : (W.alloc (.cells #[] 34)).ownsRow W.heap.size 34 5 (.slice (some ⟨W.heap.size, 0, none⟩) 0 0) 0 [] := ⟨rfl, .inr ⟨_, 0, _, rfl, Nat.le_refl _, heap_alloc_new _ _, Nat.le_refl _, by decide, rfl, rfl⟩⟩
  have HR := Lib.hid hrow
  clear hrow
  obtain ⟨i, hi, hz, hs, hb⟩ := info_parts info34
  have HI := Lib.hid hi
  have HZ := Lib.hid (And.intro hz (And.intro hs hb))
  clear hi hz hs hb
  go_wp2_with ( (at_builtin; refine wpList_append_own_at _ rfl (.tmp 5) (.tmp 6) 27 rfl W.heap.size 34 i _ 5 5 Try.underlying27 HI.out HZ.out.1 HZ.out.2.1 HZ.out.2.2 rfl (by decide) _ 0 [] rfl HR.out ad n c0 (flat cs) rfl ?_ ?_ ?_ ?_ ?_ ?_ ?_))

  · show _ = n * 5
    rw [flat_length, hn]
  · intro j u hj
    exact pw_cell_below (below_alloc (Below.refl W.heap.size W) _) (row_cells HK.out j u hj)
  · exact flat_one cs
  · simp only [maxLen]; omega
  · omega
  · simp
  · intro v1 w1 hown hg _ hat
    have HO := Lib.hid hown
    have hb1 : Below W.heap.size W w1 := (below_alloc (Below.refl W.heap.size W) (.cells #[] 34)).grown hg (by simp) (fun k hk => by simp [Value.ownBlock] at hk; omega)
    have HB := Lib.hid hb1
    clear hb1 hown hg hat
    go_wp2
    go_ret
    rename_i hne
    rcases HO.out.2 with ⟨h, _⟩ | ⟨g, cap, cur, hv, hg, hh, hnc, hcm, hcs, htake⟩
    · exact absurd h hne
    · subst hv
      refine ⟨g, cur.toList.drop (n * 5), cap, rfl, hg, ?_, HB.out⟩
      rw [← htake, List.take_append_drop]
      exact hh
set_option maxHeartbeats 2000000 in
set_option maxRecDepth 100000 in
theorem clone_p (hI : IsP w g (some ad) c0 r c cs cur) : Calls Try.prog 14 #[.pointer (some ⟨g, 0, none⟩)] w fun e w' => ∃ g2 R2 c2, e = .returned (.pointer (some ⟨g2, 0, none⟩)) ∧ w.heap.size ≤ g2 ∧ w.heap.size ≤ R2 ∧ OwnP w' g2 R2 c2 r c cs cur ∧ Below w.heap.size w w' := by
  have HI := Lib.hid hI
  have hu26 := Try.underlying26
  have hu65 := Try.underlying65
  have H0 : Hid (w.drew.cell? ⟨g, 0, none⟩ = some (.int .i64 r) ∧ w.drew.cell? ⟨g, 1, none⟩ = some (.int .i64 c) ∧ w.drew.cell? ⟨g, 2, none⟩ = some (.slice (some ad) cs.length c0) ∧ w.drew.cell? ⟨g, 3, none⟩ = some (.int .i64 cur)) := Lib.hid ⟨(blk_cell hI.p 0).trans rfl, (blk_cell hI.p 1).trans rfl, (blk_cell hI.p 2).trans rfl, (blk_cell hI.p 3).trans rfl⟩
  clear hI
  go_enter Try.func14, Try.ntmps14
  go_wp2_with fail
  go_region_held3 (fun w' => w'.cell? ⟨g, 0, none⟩ = some (.int .i64 r) ∧ w'.cell? ⟨g, 1, none⟩ = some (.int .i64 c) ∧ w'.cell? ⟨g, 2, none⟩ = some (.slice (some ad) cs.length c0) ∧ w'.cell? ⟨g, 3, none⟩ = some (.int .i64 cur)) (with_reducible first | exact H1.out | exact H0.out | exact ⟨pw_cell_below (below_alloc (Below.refl _ _) _) H1.out.1, pw_cell_below (below_alloc (Below.refl _ _) _) H1.out.2.1, pw_cell_below (below_alloc (Below.refl _ _) _) H1.out.2.2.1, pw_cell_below (below_alloc (Below.refl _ _) _) H1.out.2.2.2⟩) ((go_at_call 35; (with_reducible refine (clone_s (HI.out.later (below_drew (Below.refl _ _))).k rfl HI.out.small).mono ?_); rintro e w1 ⟨R, ex, c1, rfl, hR, hq, hb⟩; have HB := Lib.hid (below_step (below_drew (Below.refl w.heap.size w)) hb); have HQ := Lib.hid (And.intro hR hq); have H1 := Lib.hid (And.intro (pw_cell_below hb H0.out.1) (And.intro (pw_cell_below hb H0.out.2.1) (And.intro (pw_cell_below hb H0.out.2.2.1) (pw_cell_below hb H0.out.2.2.2)))); clear hb hq hR))
  all_goals
    go_wp2
    go_ret
    have hN := heap_alloc_new w1 (.cells #[.int .i64 r, .int .i64 c, .slice (some ⟨R, 0, none⟩) cs.length c1, .int .i64 cur] 65)
    exact ⟨w1.heap.size, R, c1, rfl, HB.out.size, HQ.out.1, ⟨hN, ⟨ex, blk_alloc HQ.out.2 _⟩, HI.out.n, HI.out.n1⟩, below_alloc HB.out _⟩
end
end Go.Proofs.Ytnifkdcjphekpaa.H
