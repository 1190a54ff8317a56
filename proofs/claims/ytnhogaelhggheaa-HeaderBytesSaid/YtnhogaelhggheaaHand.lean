/- header.Counter: what is told of its state, what its methods do; slices.Clone of bytes. -/
import Derived.Test.YtnhogaelhggheaaAx1
import Derived.Shelf.SlicesE.Delete
namespace Go.Proofs.Ytnhogaelhggheaa.P
open Go.RowKit Go.Proofs.YtnhogaelhggheaaW.PrintWords Go.Proofs.YtnhogaelhggheaaW.PrintLast Go.Proofs.YtnhogaelhggheaaW.PrintMore
set_option linter.unusedVariables false
set_option linter.unusedSimpArgs false

/-! ### all but one block, and the blocks of one type, stay -/
def KeepT (w w' : World) (g : Nat) (T : TypeId) : Prop := w.heap.size ≤ w'.heap.size ∧ ∀ i, i < w.heap.size → i ≠ g → (∀ cs fr, w.heap[i]? ≠ some (.cells cs T fr)) → w'.heap[i]? = w.heap[i]?
theorem KeepT.refl (w : World) (g : Nat) (T : TypeId) : KeepT w w g T := ⟨Nat.le_refl _, fun _ _ _ _ => rfl⟩
theorem KeepT.of_below {w w1 : World} (g : Nat) (T : TypeId) (h : Below w.heap.size w w1) : KeepT w w1 g T := ⟨h.size, fun i hi _ _ => h.block i hi⟩
theorem KeepT.blk {w w1 : World} {g g' : Nat} {T : TypeId} {o : Obj} (h : KeepT w w1 g T) (hb : w.heap[g']? = some o) (hg : g' ≠ g) (ht : ∀ cs fr, o ≠ .cells cs T fr) : w1.heap[g']? = some o :=
  (h.2 g' (blk_lt hb) hg (fun cs fr e => ht cs fr (by rw [hb] at e; exact Option.some.inj e))).trans hb
theorem Kd.R_keepT {α : Type} {d : Kd α} {e : Nat} {w w1 : World} {base : Nat} {ok : Nat → Prop} {v : Value} {xs : List α} (h : d.R e w base ok v xs) {g : Nat} {T : TypeId} (hk : KeepT w w1 g T) (hok : ∀ k, ok k → k ≠ g) (ht : T ∉ e :: d.E) : d.R e w1 base ok v xs :=
  Kd.R_mono (Kd.R_step (Kd.R_bound h) (fun k ho hlt => hk.2 k hlt (hok k ho.1) (by
    obtain ⟨_, _, _, q, hq, cells, hc⟩ := ho
    intro cs fr e2
    rw [hc] at e2
    injection e2 with e2
    injection e2 with _ e2 _
    exact ht (e2 ▸ hq)))) (fun _ h => h.1)
theorem Kd.Q_keepT {α : Type} {d : Kd α} {e : Nat} {w w1 : World} {base : Nat} {ok : Nat → Prop} {v : Value} {xs : List α} (h : d.Q e w base ok v xs) {g : Nat} {T : TypeId} (hk : KeepT w w1 g T) (hok : ∀ k, ok k → k ≠ g) (ht : T ∉ e :: d.E) : d.Q e w1 base ok v xs :=
  Kd.Q_mono (Kd.Q_step (Kd.Q_bound h) (fun k ho hlt => hk.2 k hlt (hok k ho.1) (by
    obtain ⟨_, _, _, q, hq, cells, hc⟩ := ho
    intro cs fr e2
    rw [hc] at e2
    injection e2 with e2
    injection e2 with _ e2 _
    exact ht (e2 ▸ hq)))) (fun _ h => h.1)

theorem Kd.V_away {k : IntKind} {e : Nat} {w : World} {base g : Nat} {ok : Nat → Prop} {v : Value} {xs : List Int} (h : (Kd.int k).V e w base ok v xs) (hok : ∀ k, ok k → k ≠ g) (hne : 0 < xs.length := by first | exact Int.natCast_pos.1 (of_decide_eq_true (by assumption)) | omega) : some g ≠ v.ownBlock := by
  obtain ⟨A, c, rfl, hle, hF⟩ := h
  intro he
  have hr := Kd.reads_of_C (d := (0 : Int)) (Kd.F_now hF)
  obtain ⟨ad, rfl, _⟩ := hr.2.2 hne
  obtain rfl : g = ad.block := by simpa [Value.ownBlock] using he
  have h1 : (Kd.int k).C { w with heap := w.heap.setIfInBounds ad.block (.map #[] 0) } (some ad) xs.length xs := by
    refine Kd.F_now (Kd.F_step hF (fun j hj hlt => ?_))
    have := hok j hj
    simp [Array.getElem?_setIfInBounds, Ne.symm this]
  have h2 := Kd.reads_of_C (d := (0 : Int)) h1
  obtain ⟨ad', e1, h3⟩ := h2.2.2 hne
  injection e1 with e1
  subst e1
  have h4 := h3 0 hne
  unfold World.cell? at h4
  simp only [add_block, Array.getElem?_setIfInBounds, if_pos rfl] at h4
  by_cases hs : ad.block < w.heap.size <;> simp [hs] at h4

/-! ### a block that is none of one type's -/
def Typed (W : World) (b : Nat) (T : TypeId) : Prop := ∃ cs t fr, W.heap[b]? = some (.cells cs t fr) ∧ t ≠ T
theorem typed_of {W : World} {b : Nat} {T : TypeId} {cs : Array Value} {t : TypeId} {fr : Nat × Nat} (h : W.heap[b]? = some (.cells cs t fr)) (ht : t ≠ T) : Typed W b T := ⟨cs, t, fr, h, ht⟩
theorem typed_alloc {W : World} {b : Nat} {T : TypeId} {o : Obj} (h : Typed W b T) : Typed (W.alloc o) b T := by
  obtain ⟨cs, t, fr, h, ht⟩ := h
  exact ⟨cs, t, fr, (Below.heap_alloc W o b (blk_lt h)).trans h, ht⟩
theorem typed_drewN {W : World} {b n : Nat} {T : TypeId} (h : Typed W b T) : Typed (W.drewN n) b T := h
theorem typed_drew {W : World} {b : Nat} {T : TypeId} (h : Typed W b T) : Typed W.drew b T := h
theorem typed_set {W : World} {b : Nat} {T : TypeId} {a : Addr} {u : Value} (h : Typed W b T) : Typed (W.setCell a u) b T := by
  obtain ⟨cs, t, fr, h, ht⟩ := h
  by_cases e : b = a.block
  · subst e
    by_cases hs : a.spot.isSome = true
    · exact ⟨cs, t, fr, by simp [World.setCell, Array.getElem?_modify, h, hs], ht⟩
    · exact ⟨cs.setIfInBounds a.off u, t, fr, by simp [World.setCell, Array.getElem?_modify, h, hs], ht⟩
  · exact ⟨cs, t, fr, (Below.heap_setCell W a u b e).trans h, ht⟩

/-! ### the counter's state -/
def IsS50 (w0 W : World) (g : Nat) (f0 : Int) (f1 : List Int) : Prop := ∃ v, W.heap[g]? = some (.cells #[.int .u16 f0, v] 50 (0, 0)) ∧ w0.heap.size ≤ g ∧ (Kd.int .u16).Q 23 W w0.heap.size (fun k => k ≠ g) v f1
section
variable {w0 W W1 : World} {g : Nat} {f0 : Int} {f1 : List Int}
theorem IsS50.made (hb : W.heap[g]? = some (.cells #[.int .u16 0, .slice none 0 0] 50 (0, 0))) (hg : w0.heap.size ≤ g) : IsS50 w0 W g 0 [] := ⟨_, hb, hg, Kd.Q_nil _ _ _ _ _⟩
theorem IsS50.below (h : IsS50 w0 W g f0 f1) (hw : Below W.heap.size W W1) : IsS50 w0 W1 g f0 f1 := by
  obtain ⟨v, hb, hg, hq⟩ := h
  exact ⟨v, blk_below hb hw, hg, Kd.Q_below hq hw⟩
theorem IsS50.alloc (h : IsS50 w0 W g f0 f1) (o : Obj) : IsS50 w0 (W.alloc o) g f0 f1 := h.below (below_alloc (Below.refl _ _) o)
theorem IsS50.drewN (h : IsS50 w0 W g f0 f1) (m : Nat) : IsS50 w0 (W.drewN m) g f0 f1 := h.below (pw_below_drewN (Below.refl _ _) m)
theorem IsS50.drew (h : IsS50 w0 W g f0 f1) : IsS50 w0 W.drew g f0 f1 := h.below (below_drew (Below.refl _ _))
theorem IsS50.at_ {w' : World} {m : Nat} (hq : W.drewN m = w') (h : IsS50 w0 W g f0 f1) : IsS50 w0 w' g f0 f1 := by subst hq; exact IsS50.drewN h m
theorem IsS50.lt (h : IsS50 w0 W g f0 f1) : g < W.heap.size := by
  obtain ⟨v, hb, _⟩ := h
  exact blk_lt hb
theorem IsS50.ge (h : IsS50 w0 W g f0 f1) : w0.heap.size ≤ g := h.choose_spec.2.1
theorem IsS50.fresh (h : IsS50 w0 W g f0 f1) : ∀ k, W.heap.size ≤ k → k ≠ g := fun k hk e => by have := h.lt; omega
theorem IsS50.ne_blk {a : Nat} {cs : Array Value} {t : TypeId} {fr : Nat × Nat} (h : IsS50 w0 W g f0 f1) (hb2 : W.heap[a]? = some (.cells cs t fr)) (ht : t ≠ 50) : g ≠ a := by
  obtain ⟨v, hb, _⟩ := h
  rintro rfl
  rw [hb] at hb2
  injection hb2 with hb2
  injection hb2 with _ ht2
  exact ht ht2.symm
theorem IsS50.far {p : Addr} (h : IsS50 w0 W g f0 f1) (hne : g ≠ p.block) (hty : Typed W p.block 23) (u : Value) : IsS50 w0 (W.setCell p u) g f0 f1 := by
  obtain ⟨v, hb, hg, hq⟩ := h
  refine ⟨v, blk_far hb hne u, hg, Kd.Q_mono (Kd.Q_far (Kd.Q_bound hq) (fun k hk => ?_) u) (fun _ h => h.1)⟩
  obtain ⟨_, _, _, q, hq, cells, hc⟩ := hk
  rintro rfl
  obtain ⟨cs, t, fr, h2, ht⟩ := hty
  rw [h2] at hc
  injection hc with hc
  injection hc with _ hc _
  rw [List.mem_singleton.1 hq] at hc
  exact ht hc
theorem IsS50.apart {α : Type} {d : Kd α} {e : Nat} {base : Nat} {ok : Nat → Prop} {v : Value} {xs : List α} (h : IsS50 w0 W g f0 f1) (ho : d.R e W base ok v xs) (ht : ∀ q, q ∈ e :: d.E → q ≠ 50) : d.R e W base (fun k => ok k ∧ k ≠ g) v xs := by
  obtain ⟨_, hb, _⟩ := h
  exact Kd.R_types ho hb ht
theorem IsS50.apartQ {α : Type} {d : Kd α} {e : Nat} {base : Nat} {ok : Nat → Prop} {v : Value} {xs : List α} (h : IsS50 w0 W g f0 f1) (ho : d.Q e W base ok v xs) (ht : ∀ q, q ∈ e :: d.E → q ≠ 50) : d.Q e W base (fun k => ok k ∧ k ≠ g) v xs := by
  obtain ⟨_, hb, _⟩ := h
  exact Kd.Q_types ho hb ht
end

/-! ### what the methods do -/
namespace Hand
def next (n : Int) (xs : List Int) : Int × Int × List Int := (n, Go.bits .and .u16 (IntKind.u16.wrap (n + 1)) 32767, (xs ++ [n]).drop ((xs.length : Int) + 1 - 64).toNat)
def got (n : Int) (xs : List Int) (a : Int) : Bool × Int × List Int := (decide (a ∈ xs), n, xs.erase a)
end Hand

attribute [local go_sem] max2_int min2_int max_two min_two max_three min_three max_four min_four
theorem hinfo23 : (Try.prog.info? 23).map (fun i => (i.zero, i.size, i.bytes)) = some (some (.int .u16 0), 1, 2) := by kernel_rfl
theorem hinfo5 : (Try.prog.info? 5).map (fun i => (i.zero, i.size, i.bytes)) = some (some (.int .u8 0), 1, 1) := by kernel_rfl

set_option maxHeartbeats 1000000 in
theorem pending_calls (g : Nat) (n : Int) (xs : List Int) (w0 w : World) (hI : IsS50 w0 w g n xs) (hB : Below w0.heap.size w0 w) :
    Calls Try.prog 23 #[.pointer (some ⟨g, 0, none⟩)] w fun e w' => e = .returned (.int .i64 xs.length) ∧ IsS50 w0 w' g n xs ∧ Below w0.heap.size w0 w' ∧ KeepT w w' g 23 := by
  have hI' := Aside0.mk hI
  have hB' := Aside0.mk hB
  obtain ⟨v, hb, hg, hq⟩ := hI
  obtain ⟨A, c, rfl, hle⟩ := Kd.Q_slice hq
  have hc : w.cell? ⟨g, 1, none⟩ = some (.slice A xs.length c) := (blk_cell hb 1).trans rfl
  have hf := blk_frozen hb 1
  clear hq hb hB
  go_enter Try.func23, Try.ntmps23
  go_wp2
  go_ret
  exact ⟨rfl, hI'.out, hB'.out, KeepT.refl _ _ _⟩

set_option maxHeartbeats 1000000 in
set_option maxRecDepth 100000 in
theorem clone_calls (A0 : Option Addr) (c0 : Nat) (l0 : List Int) (w : World) (hC0 : Kd.C (Kd.int .u8) w A0 l0.length l0) (hcl0 : l0.length ≤ c0) (hlim : l0.length ≤ 140737488355328) :
    Calls Try.prog 24 #[.slice A0 l0.length c0] w fun e w' => ∃ v0_ : Value, e = .returned (v0_) ∧ Kd.R (Kd.int .u8) 5 w' w.heap.size (fun _ => True) v0_ l0 ∧ Below w.heap.size w w' := by
  have hr := Kd.reads_of_C (d := (0 : Int)) hC0
  have HR := Aside0.mk (readsInt_of.2 hr)
  clear hC0
  by_cases hA : A0 = none
  · subst hA
    have hl : l0 = [] := by
      rcases Nat.eq_zero_or_pos l0.length with h | h
      · exact List.eq_nil_of_length_eq_zero h
      · obtain ⟨ad, h, _⟩ := HR.out.2.2 h
        cases h
    subst hl
    clear hr
    have heq := Go.Lib.run_eql_slice_nil (P := Try.prog) w 22 5 none 0 c0 0 0 Try.underlying22
    go_enter Try.func24, Try.ntmps24
    go_wp2
    go_ret
    exact ⟨_, rfl, Kd.R_nil _ _ _ _ _, Below.refl _ _⟩
  · obtain ⟨ad, rfl⟩ : ∃ ad, A0 = some ad := by cases A0 with | none => exact absurd rfl hA | some ad => exact ⟨ad, rfl⟩
    clear hr hA
    have heq := Go.Lib.run_eql_slice_nil (P := Try.prog) w 22 5 (some ad) l0.length c0 0 0 Try.underlying22
    go_enter Try.func24, Try.ntmps24
    go_wp2_with (first | (at_builtin; refine print_append_row (w0 := w) w.heap.size rfl _ _ 22 5 .u8 1 rfl Try.underlying22 hinfo5 (by decide) _ [] l0 _ _ _ rfl rfl ?aO ?aR ?aB ?aS (by simpa using hlim) ?_) | go_in)
    case aO => exact ⟨rfl, .inr ⟨_, 0, #[], rfl, Nat.le_refl _, heap_alloc_new _ _, Nat.le_refl _, by decide, rfl, rfl⟩⟩
    case aR => exact HR.out.below (below_alloc (Below.refl _ _) _)
    case aB => exact below_alloc (Below.refl _ _) _
    case aS => simp
    intro v1 w1 hown hb hg hat
    go_wp2
    go_ret
    exact ⟨_, rfl, Kd.R_of_own hown (fun _ _ => trivial), hb⟩

set_option maxHeartbeats 2000000 in
set_option maxRecDepth 100000 in
theorem next_calls (g : Nat) (n : Int) (xs : List Int) (w0 w : World) (hI : IsS50 w0 w g n xs) (hB : Below w0.heap.size w0 w) (hlim : xs.length < 100000) :
    Calls Try.prog 19 #[.pointer (some ⟨g, 0, none⟩)] w fun e w' => e = .returned (.int .u16 n) ∧ IsS50 w0 w' g (Hand.next n xs).2.1 (Hand.next n xs).2.2 ∧ Below w0.heap.size w0 w' ∧ KeepT w w' g 23 := by
  have hB' := Aside0.mk hB
  obtain ⟨v, hb, hg, hq⟩ := hI
  obtain ⟨A, c, rfl, hle⟩ := Kd.Q_slice hq
  have hc0 : w.cell? ⟨g, 0, none⟩ = some (.int .u16 n) := (blk_cell hb 0).trans rfl
  have hc1 : w.cell? ⟨g, 1, none⟩ = some (.slice A xs.length c) := (blk_cell hb 1).trans rfl
  have hf0 := blk_frozen hb 0
  have hf1 := blk_frozen hb 1
  have HQ := Aside0.mk hq
  have HBK := Aside0.mk hb
  clear hq hb hB
  go_enter Try.func19, Try.ntmps19
  have hlt := blk_lt HBK.out
  go_wp2_with (at_builtin; refine Kd.Q_append (Kd.int .u16) (w0 := w0) w0.heap.size rfl _ _ 48 23 (.int .u16 0) 2 rfl Try.underlying48 hinfo23 rfl (by decide) (by decide) (.slice A xs.length c) xs n [.int .u16 n] (fun k => k ≠ g) (fun _ => False) rfl (by first | (go_simp; done) | (go_simp; rfl)) ?hp (fun _ h => h.elim) ?hfresh ?HO ?HB ?hbase (by omega) ?_)
  case hp => rfl
  case hfresh => intro k hk; simp at hk; omega
  case HO => exact Kd.Q_far HQ.out (fun k hk => hk) _
  case HB => exact Below.setCell hB'.out hg _
  case hbase => have := hB'.out.size; simpa using this
  intro v1 w1 hq1 hb1 hg1 hat1
  obtain ⟨p, o, cap, rfl, hp0, hpl, cells, hpc⟩ := Kd.Q_form hq1 (by simp)
  obtain ⟨X, hX⟩ : ∃ X, bits BinOp.and IntKind.u16 (IntKind.u16.wrap (n + 1)) 32767 = X := ⟨_, rfl⟩
  have hle2 := (Kd.Q_reads' hq1).2.1
  rw [hX] at hg1 ⊢
  have hk1 : w1.heap[g]? = some (.cells #[.int .u16 X, .slice A xs.length c] 50 (0, 0)) := blk_grown (by simpa using blk_set HBK.out 0 (.int .u16 X)) hg1 (Kd.Q_away HQ.out (fun _ h => h))
  have hpg : p ≠ g := Kd.Q_ok hq1 p rfl
  have hc2 : w1.cell? ⟨g, 1, none⟩ = some (.slice A xs.length c) := (blk_cell hk1 1).trans rfl
  have hf2 := blk_frozen hk1 1
  have HK1 := Aside0.mk hk1
  have HQ1 := Aside0.mk hq1
  have HG1 := Aside0.mk hg1
  have HB1 := Aside0.mk hb1
  have HPC := Aside0.mk hpc
  have HXX := Aside0.mk hX
  clear hk1 hq1 hg1 hb1 hat1 hpc hX
  simp only [List.length_append, List.length_cons, List.length_nil, Nat.zero_add] at hle2 ⊢
  go_wp2
  have hk2 := blk_set HK1.out 1 (.slice (some ⟨p, o, none⟩) (xs.length + 1) cap)
  have hq2 := Kd.Q_far (p := ⟨g, 1, none⟩) HQ1.out (fun k hk => hk) (.slice (some ⟨p, o, none⟩) (xs.length + 1) cap)
  have hg2 : w1.grownBy (w1.setCell ⟨g, 1, none⟩ (.slice (some ⟨p, o, none⟩) (xs.length + 1) cap)) (some g) := ⟨rfl, rfl, rfl, by simp, fun i _ hi => Below.heap_setCell _ _ _ _ (fun e => hi (by rw [e]))⟩
  have hb2 := Below.setCell HB1.out (p := ⟨g, 1, none⟩) hg (.slice (some ⟨p, o, none⟩) (xs.length + 1) cap)
  generalize w1.setCell ⟨g, 1, none⟩ (.slice (some ⟨p, o, none⟩) (xs.length + 1) cap) = W2 at hk2 hq2 hg2 hb2 ⊢
  simp only [List.setIfInBounds_toArray, List.set_cons_zero, List.set_cons_succ] at hk2
  have hc3 : W2.cell? ⟨g, 1, none⟩ = some (.slice (some ⟨p, o, none⟩) (xs.length + 1) cap) := (blk_cell hk2 1).trans rfl
  have hf3 := blk_frozen hk2 1
  have HK2 := Aside0.mk hk2
  have HQ2 := Aside0.mk hq2
  have HG2 := Aside0.mk hg2
  have HB2 := Aside0.mk hb2
  clear hk2 hq2 hg2 hb2
  have hm : wrap64 ((xs.length : Int) + 1 - 64) = (xs.length : Int) + 1 - 64 := by unfold wrap64; omega
  obtain ⟨m, hmm⟩ : ∃ m : Nat, m = ((xs.length : Int) + 1 - 64).toNat := ⟨_, rfl⟩
  have HMM := Aside0.mk hmm
  clear hmm
  go_region
  have hmi : (if (xs.length : Int) + 1 - 64 < 0 then (0 : Int) else (xs.length : Int) + 1 - 64).toNat = m := by rw [HMM.out]; split <;> omega
  rw [hmi]
  clear hmi
  go_wp2
  all_goals
    go_ret
    have hmm := HMM.out
    have hq3 := Kd.Q_drop (k := m) HQ2.out (by simp; omega)
    rw [if_neg (show ¬ cap = m by omega)] at hq3
    simp only [Option.map_some, Addr.add_lit, Kd.int, Kd.scalar, Nat.mul_one] at hq3
    have hk3 := blk_set HK2.out 1 (.slice (some ⟨p, o + m, none⟩) (xs.length + 1 - m) (cap - m))
    simp only [List.setIfInBounds_toArray, List.set_cons_zero, List.set_cons_succ] at hk3
    refine ⟨rfl, ⟨_, by simp only [Hand.next, HXX.out]; exact hk3, hg, ?_⟩, ?_, ?_⟩
    · have h := Kd.Q_drew (Kd.Q_far (p := ⟨g, 1, none⟩) hq3 (fun k hk => hk) (.slice (some ⟨p, o + m, none⟩) (xs.length + 1 - m) (cap - m)))
      simpa [Hand.next, ← hmm, Kd.int, Kd.scalar] using h
    · exact below_drew (Below.setCell HB2.out (p := ⟨g, 1, none⟩) hg _)
    · have s1 := HG1.out.size
      have s2 := HG2.out.size
      simp at s1
      refine ⟨by simp; omega, fun i hi hig hty => ?_⟩
      have e1 : (W2.setCell ⟨g, 1, none⟩ (.slice (some ⟨p, o + m, none⟩) (xs.length + 1 - m) (cap - m))).drew.heap[i]? = W2.heap[i]? := Below.heap_setCell _ _ _ _ hig
      rw [e1, HG2.out.block i (by omega) (fun e => hig (Option.some.inj e)), HG1.out.block i (by simpa using hi) (fun e => ?_), Below.heap_setCell _ _ _ _ hig]
      obtain ⟨cells, hc⟩ := Kd.Q_typed HQ.out i e.symm
      exact hty _ _ hc

/-! ### Got -/
def ren : Go.Shelf.Ren := ⟨fun x => if x = 45 then 27 else x, fun t => if t = 22 then 48 else if t = 23 then 23 else t, id⟩
theorem lays : SlLaysE.n45 Try.prog ren where
  mixed := by kernel_rfl
  f45 := ⟨"slices.Delete[[]uint16,uint16]", by kernel_rfl, by kernel_rfl⟩
  t0 := by kernel_rfl
  a0 := fun _ => by kernel_rfl
  z0 := fun _ => by kernel_rfl
  v0 := fun _ => by kernel_rfl
  t3 := by kernel_rfl
  a3 := fun _ => by kernel_rfl
  z3 := fun _ => by kernel_rfl
  v3 := fun _ => by kernel_rfl
  t4 := by kernel_rfl
  a4 := fun _ => by kernel_rfl
  z4 := fun _ => by kernel_rfl
  v4 := fun _ => by kernel_rfl
  t22 := by kernel_rfl
  a22 := fun _ => by kernel_rfl
  z22 := fun _ => by kernel_rfl
  v22 := fun _ => by kernel_rfl
  a23 := fun _ => by kernel_rfl
  z23 := fun _ => by kernel_rfl

open Go.Sort (Holds putRow putCells mapBlock)
theorem heap_putRow_other (enc : Int → Value) (w : World) (p o : Nat) (d : Array Int) {i : Nat} (hi : i ≠ p) : (putRow enc w p o d).heap[i]? = w.heap[i]? := by
  simp [putRow, mapBlock, Array.getElem?_modify, Ne.symm hi]
theorem heap_putRow_same (enc : Int → Value) (w : World) (p o : Nat) (d : Array Int) {c : Array Value} {e : TypeId} {fr : Nat × Nat} (h : w.heap[p]? = some (.cells c e fr)) : (putRow enc w p o d).heap[p]? = some (.cells (putCells enc o d c) e fr) := by
  simp [putRow, mapBlock, Array.getElem?_modify, h, Go.Sort.onCells]
theorem delete_calls (p o cap j : Nat) (d : Array Int) (w : World) (hH : Holds (Value.int .u16) w p o d) (hcap : d.size ≤ cap) (hm : cap ≤ 9223372036854775807) (hj : j < d.size) :
    Calls Try.prog 27 #[.slice (some ⟨p, o, none⟩) d.size cap, .int .i64 j, .int .i64 ((j : Int) + 1)] w fun e w' => e = .returned (.slice (some ⟨p, o, none⟩) (d.size - 1) cap) ∧ ∃ q, w' = putRow (Value.int .u16) (Go.Sort.ahead w q) p o (d.toList.take j ++ d.toList.drop (j + 1) ++ [0]).toArray := by
  obtain ⟨i0, hi, hz0, hz1, hz2⟩ := info_parts hinfo23
  have h := AnyE.slices_Delete lays (Value.int .u16) (fun _ => rfl) 0 (fun _ => by kernel_rfl) i0 hi hz1 p o cap j (j + 1) d w hH hcap hm (by omega) (by omega)
  rw [show j + 1 - j = 1 by omega] at h
  exact h
theorem erase_first {a : Int} : ∀ (xs : List Int) (j : Nat), xs[j]? = some a → (∀ t, t < j → xs[t]? ≠ some a) → xs.take j ++ xs.drop (j + 1) = xs.erase a
  | [], _, h, _ => by simp at h
  | x :: r, 0, h, _ => by
    obtain rfl : x = a := by simpa using h
    simp
  | x :: r, j + 1, h, hn => by
    have hx : ¬ x = a := fun e => hn 0 (by omega) (by simp [e])
    have := erase_first r j (by simpa using h) (fun t ht => by simpa using hn (t + 1) (by omega))
    simp [List.erase_cons, hx, this]
theorem index_f (l : List Int) (a : Int) (hl : l.length < 100000) : ∀ (m k i : Nat), i + m = l.length → m < k → (∀ t, t < i → l[t]? ≠ some a) →
    ∃ r, A.slices_Index_uint16_uint16.l0 k l a (l.length : Int) (i : Int) = some r ∧ ((a ∉ l ∧ r = -1) ∨ ∃ j : Nat, r = j ∧ j < l.length ∧ l[j]? = some a ∧ ∀ t, t < j → l[t]? ≠ some a)
  | 0, k, i, hi, hk, hn => by
    obtain ⟨k, rfl⟩ : ∃ j, k = j + 1 := ⟨k - 1, by omega⟩
    rw [A.slices_Index_uint16_uint16.l0, if_neg (by omega)]
    refine ⟨_, rfl, .inl ⟨fun hm => ?_, rfl⟩⟩
    obtain ⟨t, ht, he⟩ := List.mem_iff_getElem.1 hm
    exact hn t (by omega) (by rw [List.getElem?_eq_getElem ht, he])
  | m + 1, k, i, hi, hk, hn => by
    obtain ⟨k, rfl⟩ : ∃ j, k = j + 1 := ⟨k - 1, by omega⟩
    rw [A.slices_Index_uint16_uint16.l0, if_pos (by omega), if_pos (by omega), if_pos (by omega)]
    have hrd : rd l (i : Int) = l[i]'(by omega) := by simp [rd, List.getD, show i < l.length by omega]
    by_cases h : a = rd l (i : Int)
    · rw [if_pos h]
      exact ⟨_, rfl, .inr ⟨i, rfl, by omega, by rw [List.getElem?_eq_getElem (by omega), h, hrd], hn⟩⟩
    · rw [if_neg h, show wrap64 ((i : Int) + 1) = ((i + 1 : Nat) : Int) by unfold wrap64; omega]
      refine index_f l a hl m k (i + 1) (by omega) (by omega) (fun t ht => ?_)
      by_cases e : t = i
      · subst e
        rw [List.getElem?_eq_getElem (by omega), ← hrd]
        intro e2
        exact h (Option.some.inj e2).symm
      · exact hn t (by omega)

theorem put_take (enc : Int → Value) (o : Nat) (l : List Int) (z : Int) (cur : Array Value) (h : o + (l.length + 1) ≤ cur.size) : ((putCells enc o (l ++ [z]).toArray cur).toList.drop o).take l.length = encs enc l := by
  apply List.ext_getElem?
  intro t
  rw [List.getElem?_take]
  by_cases ht : t < l.length
  · rw [if_pos ht, List.getElem?_drop, Array.getElem?_toList, putCells, Array.getElem?_mapIdx, Array.getElem?_eq_getElem (by omega), encs, List.getElem?_map, List.getElem?_eq_getElem ht]
    have : (l ++ [z]).toArray[o + t - o]! = l[t] := by
      rw [show o + t - o = t by omega]
      simp [ht, List.getElem?_append_left]
    simp only [Option.map_some]
    rw [if_pos (by simp; omega), this]
  · rw [if_neg ht, encs, List.getElem?_eq_none (by simp; omega)]

end Go.Proofs.Ytnhogaelhggheaa.P
