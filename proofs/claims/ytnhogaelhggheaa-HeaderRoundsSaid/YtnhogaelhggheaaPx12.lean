-- Laid by program out of the translation, some functions' texts by hand (a session's own run, not print.sh's). Lean checks it.
import Derived.Test.YtnhogaelhggheaaPx0
import Derived.Test.YtnhogaelhggheaaPx4
import Derived.Test.YtnhogaelhggheaaPx5
namespace Go.Proofs.Ytnhogaelhggheaa.P
open Go.RowKit Go.Proofs.YtnhogaelhggheaaW.PrintWords Go.Proofs.YtnhogaelhggheaaW.PrintLast Go.Proofs.YtnhogaelhggheaaW.PrintMore
attribute [local go_sem] max2_int min2_int max_two min_two max_three min_three max_four min_four   -- for this text's walks alone
set_option linter.unusedVariables false
set_option linter.unusedSimpArgs false

/-! ### greenscreenlaw09_HeaderRounds: function 6 -/
def greenscreenlaw09_HeaderRounds.l0 : Nat → Int → Int → Int → List Int → Option (Bool)
  | 0, _, _, _, _ => none
  | k + 1, x9, x10, x410000, x410001 => if x10 < x9 then ((header_Counter_Next.f x410000 x410001).bind fun bt413 => (if (wrap64 (bt413.1)) = (Int.tmod x10 32768) then (if (Int.tmod x10 1000) = 0 then ((header_Counter_Got.f bt413.2.1 bt413.2.2 bt413.1).bind fun bt416 => (if bt416.1 = true then ((header_Counter_Got.f bt416.2.1 bt416.2.2 bt413.1).bind fun bt419 => (if bt419.1 = true then (some false) else (greenscreenlaw09_HeaderRounds.l0 k x9 (wrap64 (x10 + 1)) bt419.2.1 bt419.2.2))) else (some false))) else (greenscreenlaw09_HeaderRounds.l0 k x9 (wrap64 (x10 + 1)) bt413.2.1 bt413.2.2)) else (some false))) else ((header_Counter_Pending.f x410000 x410001).bind fun bt410 => (some (decide (bt410.1 ≤ 64))))
def greenscreenlaw09_HeaderRounds.f (k : Nat) (a0 : Int) : Option (Bool) := (greenscreenlaw09_alive.f k).bind fun t408 => (if t408 = true then (greenscreenlaw09_HeaderRounds.l0 k (Go.bits .and .i64 a0 65535) 0 0 ([] : List Int)) else (some false))
theorem greenscreenlaw09_HeaderRounds.mono_l : ∀ k, (∀ y0 y1 y2 y3, LeO (greenscreenlaw09_HeaderRounds.l0 k y0 y1 y2 y3) (greenscreenlaw09_HeaderRounds.l0 (k + 1) y0 y1 y2 y3))
  | 0 => fun _ _ _ _ r h => by simp [greenscreenlaw09_HeaderRounds.l0] at h
  | k + 1 => by
    have ih0 := greenscreenlaw09_HeaderRounds.mono_l k
    · intro y0 y1 y2 y3
      unfold greenscreenlaw09_HeaderRounds.l0
      repeat' first
      | (with_reducible exact ih0 _ _ _ _)
      | (with_reducible exact greenscreenlaw09_alive.mono _)
      | (with_reducible exact LeO.refl _)
      | (with_reducible exact LeO.none _)
      | (with_reducible refine LeO.ite ?_ ?_)
      | (with_reducible refine LeO.bind ?_ (fun _ => ?_))
      | exact ih0 _ _ _ _
      | exact greenscreenlaw09_alive.mono _
      | exact LeO.none _
      | refine LeO.ite ?_ ?_
      | refine LeO.bind ?_ (fun _ => ?_)
theorem greenscreenlaw09_HeaderRounds.mono : ∀ a0 k, LeO (greenscreenlaw09_HeaderRounds.f k a0) (greenscreenlaw09_HeaderRounds.f (k + 1) a0) := by
  intro a0 k
  have ih0 := greenscreenlaw09_HeaderRounds.mono_l k
  unfold greenscreenlaw09_HeaderRounds.f
  repeat' first
      | (with_reducible exact ih0 _ _ _ _)
      | (with_reducible exact greenscreenlaw09_alive.mono _)
      | (with_reducible exact LeO.refl _)
      | (with_reducible exact LeO.none _)
      | (with_reducible refine LeO.ite ?_ ?_)
      | (with_reducible refine LeO.bind ?_ (fun _ => ?_))
      | exact ih0 _ _ _ _
      | exact greenscreenlaw09_alive.mono _
      | exact LeO.none _
      | refine LeO.ite ?_ ?_
      | refine LeO.bind ?_ (fun _ => ?_)
set_option maxHeartbeats 8000000 in
set_option maxRecDepth 100000 in
theorem greenscreenlaw09_HeaderRounds.calls (k : Nat) (a0 : Int) (r : Bool) (hr_ : r = true) (w : World) (h : greenscreenlaw09_HeaderRounds.f k a0 = some r) :
    Calls Try.prog 6 #[.int .i64 a0] w fun e w' => e = .returned (.bool r) ∧ Below w.heap.size w w' := by
  have hu50 := Try.underlying50
  have HB := Aside0.mk (Below.refl w.heap.size w)
  have H : ((greenscreenlaw09_alive.f k).bind fun t408 => (if t408 = true then (greenscreenlaw09_HeaderRounds.l0 k (Go.bits .and .i64 a0 65535) 0 0 ([] : List Int)) else (some false))) = some r := h
  clear h
  replace H := Option.bind_eq_some_iff.mp H
  obtain ⟨t408, A20, H⟩ := H
  replace H : (if t408 = true then (greenscreenlaw09_HeaderRounds.l0 k (Go.bits .and .i64 a0 65535) 0 0 ([] : List Int)) else (some false)) = some r := H
  have A2 := Aside0.mk A20
  clear A20
  by_cases c3 : t408 = true
  · subst c3
    have H1 : (greenscreenlaw09_HeaderRounds.l0 k (Go.bits .and .i64 a0 65535) 0 0 ([] : List Int)) = some r := by rw [if_pos rfl] at H; exact H
    clear H
    have H := H1
    clear H1
    have H' := Aside0.mk H
    clear H
    go_enter Try.func6, Try.ntmps6
    go_wp2_with (first | ((with_reducible refine gate_callee (f := 7) rfl ?_); refine goesL_ (some 6) rfl rfl Try.func7 (by kernel_rfl) rfl #[] rfl (by (try simp only [List.map_toArray, List.map_cons, List.map_nil]); first | done | rfl | (simp only [List.length_drop, List.length_take]; rfl)) ?_; (with_reducible refine (greenscreenlaw09_alive.calls k  true rfl _ A2.out).mono ?_); rintro e w4 ⟨rfl, hb⟩; refine ⟨_, rfl, ?_⟩; have n0_ := Aside0.mk (below_step (by repeat (first | (with_reducible first | exact HB.out | apply below_alloc | apply pw_below_drewN | apply below_drew1) | exact HB.out)) hb); clear HB; have HB := n0_; clear n0_; (try clear hb); (try clear hb2); (try clear hk); (try clear hi)) | ((with_reducible refine gate_dst (N := 3) rfl ?_); refine box_event ?hg (N := 3) ?hd (cs := #[.int .u16 0, .slice none 0 0]) (t := 50) ?hr ?_; (case hd => rfl); (case hg => rfl); (case hr => first | (go_simp; done) | (go_simp; rfl)); intro gb409 hg w5 hbox hb; have n0_ := Aside0.mk (below_step (by repeat (first | (with_reducible first | exact HB.out | apply below_alloc | apply pw_below_drewN | apply below_drew1) | exact HB.out)) hb); have n1_ := Aside0.mk ((IsS50.made hbox (by rw [hg]; exact (below_size (by repeat (first | (with_reducible first | exact HB.out | apply below_alloc | apply pw_below_drewN | apply below_drew1) | exact HB.out))) : w.heap.size ≤ gb409) : IsS50 w _ gb409 0 ([] : List Int))); clear HB; have HB := n0_; have HI409 := n1_; clear n0_ n1_; clear hb hbox hg))
    go_loopg [10] k (fun kq v10 w' => ∃ (x10_1 : Int) (x410000_1 : Int) (x410001_1 : List Int), v10 = .int .i64 x10_1 ∧ Aside0 (greenscreenlaw09_HeaderRounds.l0 kq (Go.bits .and .i64 a0 65535) x10_1 x410000_1 x410001_1 = some r) ∧ Aside0 (kq ≤ k) ∧ Aside0 (IsS50 w w' gb409 x410000_1 x410001_1) ∧ Aside0 (Below w.heap.size w w'))
    case atStart => exact ⟨(0), (0), (([] : List Int)), (by first | rfl | (simp; done) | (simp [*]; done)), H', ⟨Nat.le_refl _⟩, ⟨by repeat (first | (with_reducible first | exact HI409.out | apply IsS50.alloc | apply IsS50.drewN | apply IsS50.drew | apply IsS50.set_0 | apply IsS50.set_1) | exact HI409.out)⟩, ⟨by repeat (first | (with_reducible first | exact HB.out | apply below_alloc | apply pw_below_drewN | apply below_drew1 | refine below_set ?_ (IsS50.ge HI409.out)) | exact HB.out)⟩⟩
    case round =>
      clear H'
      try clear p2
      try clear c3
      obtain ⟨x10_1, x410000_1, x410001_1, rfl, HA, HK1, HI409, HB⟩ := hrel
      cases gk with
      | zero => exact absurd HA.out (by simp [greenscreenlaw09_HeaderRounds.l0])
      | succ k1 =>
        have H := HA.out
        clear HA
        simp only [greenscreenlaw09_HeaderRounds.l0] at H
        by_cases c6 : x10_1 < (Go.bits .and .i64 a0 65535)
        · rw [if_pos c6] at H
          have c6b0 : decide (x10_1 < (Go.bits .and .i64 a0 65535)) = true := decide_eq_true c6
          clear c6
          replace H := Option.bind_eq_some_iff.mp H
          obtain ⟨⟨t413, t414, t415⟩, A70, H⟩ := H
          replace H : (if (wrap64 (t413)) = (Int.tmod x10_1 32768) then (if (Int.tmod x10_1 1000) = 0 then ((header_Counter_Got.f t414 t415 t413).bind fun bt416 => (if bt416.1 = true then ((header_Counter_Got.f bt416.2.1 bt416.2.2 t413).bind fun bt419 => (if bt419.1 = true then (some false) else (greenscreenlaw09_HeaderRounds.l0 k1 (Go.bits .and .i64 a0 65535) (wrap64 (x10_1 + 1)) bt419.2.1 bt419.2.2))) else (some false))) else (greenscreenlaw09_HeaderRounds.l0 k1 (Go.bits .and .i64 a0 65535) (wrap64 (x10_1 + 1)) t414 t415)) else (some false)) = some r := H
          have A7 := Aside0.mk A70
          clear A70
          by_cases c8 : (wrap64 (t413)) = (Int.tmod x10_1 32768)
          · rw [if_pos c8] at H
            have c8b0 : ((wrap64 (t413)) == (Int.tmod x10_1 32768)) = true := beq_iff_eq.mpr c8
            have c8b1 : ((wrap64 (t413)) != (Int.tmod x10_1 32768)) = false := bne_eq_false_iff_eq.mpr c8
            clear c8
            by_cases c9 : (Int.tmod x10_1 1000) = 0
            · rw [if_pos c9] at H
              have c9b0 : ((Int.tmod x10_1 1000) == 0) = true := beq_iff_eq.mpr c9
              have c9b1 : ((Int.tmod x10_1 1000) != 0) = false := bne_eq_false_iff_eq.mpr c9
              clear c9
              replace H := Option.bind_eq_some_iff.mp H
              obtain ⟨⟨t416, t417, t418⟩, A100, H⟩ := H
              replace H : (if t416 = true then ((header_Counter_Got.f t417 t418 t413).bind fun bt419 => (if bt419.1 = true then (some false) else (greenscreenlaw09_HeaderRounds.l0 k1 (Go.bits .and .i64 a0 65535) (wrap64 (x10_1 + 1)) bt419.2.1 bt419.2.2))) else (some false)) = some r := H
              have A10 := Aside0.mk A100
              clear A100
              by_cases c11 : t416 = true
              · subst c11
                have H1 : ((header_Counter_Got.f t417 t418 t413).bind fun bt419 => (if bt419.1 = true then (some false) else (greenscreenlaw09_HeaderRounds.l0 k1 (Go.bits .and .i64 a0 65535) (wrap64 (x10_1 + 1)) bt419.2.1 bt419.2.2))) = some r := by rw [if_pos rfl] at H; exact H
                clear H
                have H := H1
                clear H1
                replace H := Option.bind_eq_some_iff.mp H
                obtain ⟨⟨t419, t420, t421⟩, A120, H⟩ := H
                replace H : (if t419 = true then (some false) else (greenscreenlaw09_HeaderRounds.l0 k1 (Go.bits .and .i64 a0 65535) (wrap64 (x10_1 + 1)) t420 t421)) = some r := H
                have A12 := Aside0.mk A120
                clear A120
                by_cases c13 : t419 = true
                · subst c13
                  have H1 : (some false) = some r := by rw [if_pos rfl] at H; exact H
                  clear H
                  have H := H1
                  clear H1
                  obtain rfl := Option.some.inj H
                  exact absurd hr_ (by decide)
                · replace c13 := Bool.eq_false_iff.mpr c13
                  subst c13
                  have H1 : (greenscreenlaw09_HeaderRounds.l0 k1 (Go.bits .and .i64 a0 65535) (wrap64 (x10_1 + 1)) t420 t421) = some r := by rw [if_neg (show ¬ (false = true) by decide)] at H; exact H
                  clear H
                  have H := H1
                  clear H1
                  have H' := Aside0.mk H
                  clear H
                  go_wp2_with (first | ((with_reducible refine gate_callee (f := 19) rfl ?_); refine goesL_ (some 13) rfl rfl Try.func19 (by kernel_rfl) rfl #[.pointer (some ⟨gb409, 0, none⟩)] rfl (by (try simp only [List.map_toArray, List.map_cons, List.map_nil]); first | done | rfl | (simp only [List.length_drop, List.length_take]; rfl)) ?_; (with_reducible refine (header_Counter_Next.calls gb409 x410000_1 x410001_1 t413 t414 t415 w _ ?side1 ?side2 A7.out).mono ?_); (case side1 => repeat (first | (with_reducible first | exact HI409.out | apply IsS50.alloc | apply IsS50.drewN | apply IsS50.drew | apply IsS50.set_0 | apply IsS50.set_1) | exact HI409.out)); (case side2 => repeat (first | (with_reducible first | exact HB.out | apply below_alloc | apply pw_below_drewN | apply below_drew1 | refine below_set ?_ (IsS50.ge HI409.out)) | exact HB.out)); rintro e w17 ⟨rfl, hi, hb, hk⟩; refine ⟨_, rfl, ?_⟩; have n0_ := Aside0.mk (hb); have n1_ := Aside0.mk (hi); clear HB; clear HI409; have HB := n0_; have HI409 := n1_; clear n0_ n1_; (try clear hb); (try clear hb2); (try clear hk); (try clear hi)) | (go_at_call 21; (with_reducible refine (header_Counter_Got.calls gb409 t414 t415 t413 true t417 t418 w _ ?side1 ?side2 A10.out).mono ?_); (case side1 => repeat (first | (with_reducible first | exact HI409.out | apply IsS50.alloc | apply IsS50.drewN | apply IsS50.drew | apply IsS50.set_0 | apply IsS50.set_1) | exact HI409.out)); (case side2 => repeat (first | (with_reducible first | exact HB.out | apply below_alloc | apply pw_below_drewN | apply below_drew1 | refine below_set ?_ (IsS50.ge HI409.out)) | exact HB.out)); rintro e w18 ⟨rfl, hi, hb, hk⟩; have n0_ := Aside0.mk (hb); have n1_ := Aside0.mk (hi); clear HB; clear HI409; have HB := n0_; have HI409 := n1_; clear n0_ n1_; (try clear hb); (try clear hb2); (try clear hk); (try clear hi)) | (go_at_call 21; (with_reducible refine (header_Counter_Got.calls gb409 t417 t418 t413 false t420 t421 w _ ?side1 ?side2 A12.out).mono ?_); (case side1 => repeat (first | (with_reducible first | exact HI409.out | apply IsS50.alloc | apply IsS50.drewN | apply IsS50.drew | apply IsS50.set_0 | apply IsS50.set_1) | exact HI409.out)); (case side2 => repeat (first | (with_reducible first | exact HB.out | apply below_alloc | apply pw_below_drewN | apply below_drew1 | refine below_set ?_ (IsS50.ge HI409.out)) | exact HB.out)); rintro e w19 ⟨rfl, hi, hb, hk⟩; have n0_ := Aside0.mk (hb); have n1_ := Aside0.mk (hi); clear HB; clear HI409; have HB := n0_; have HI409 := n1_; clear n0_ n1_; (try clear hb); (try clear hb2); (try clear hk); (try clear hi)))
                  go_roundg k1
                  case measure => have := HK1.out; omega
                  case rel => exact ⟨(wrap64 (x10_1 + 1)), (t420), (t421), (by first | rfl | (simp; done) | (simp [*]; done)), H', ⟨by have := HK1.out; omega⟩, ⟨by repeat (first | (with_reducible first | exact HI409.out | apply IsS50.alloc | apply IsS50.drewN | apply IsS50.drew | apply IsS50.set_0 | apply IsS50.set_1) | exact HI409.out)⟩, ⟨by repeat (first | (with_reducible first | exact HB.out | apply below_alloc | apply pw_below_drewN | apply below_drew1 | refine below_set ?_ (IsS50.ge HI409.out)) | exact HB.out)⟩⟩
              · replace c11 := Bool.eq_false_iff.mpr c11
                subst c11
                have H1 : (some false) = some r := by rw [if_neg (show ¬ (false = true) by decide)] at H; exact H
                clear H
                have H := H1
                clear H1
                obtain rfl := Option.some.inj H
                exact absurd hr_ (by decide)
            · rw [if_neg c9] at H
              have c9b0 : ((Int.tmod x10_1 1000) == 0) = false := beq_eq_false_iff_ne.mpr c9
              have c9b1 : ((Int.tmod x10_1 1000) != 0) = true := bne_iff_ne.mpr c9
              have H' := Aside0.mk H
              clear H
              go_wp2_with (first | ((with_reducible refine gate_callee (f := 19) rfl ?_); refine goesL_ (some 13) rfl rfl Try.func19 (by kernel_rfl) rfl #[.pointer (some ⟨gb409, 0, none⟩)] rfl (by (try simp only [List.map_toArray, List.map_cons, List.map_nil]); first | done | rfl | (simp only [List.length_drop, List.length_take]; rfl)) ?_; (with_reducible refine (header_Counter_Next.calls gb409 x410000_1 x410001_1 t413 t414 t415 w _ ?side1 ?side2 A7.out).mono ?_); (case side1 => repeat (first | (with_reducible first | exact HI409.out | apply IsS50.alloc | apply IsS50.drewN | apply IsS50.drew | apply IsS50.set_0 | apply IsS50.set_1) | exact HI409.out)); (case side2 => repeat (first | (with_reducible first | exact HB.out | apply below_alloc | apply pw_below_drewN | apply below_drew1 | refine below_set ?_ (IsS50.ge HI409.out)) | exact HB.out)); rintro e w22 ⟨rfl, hi, hb, hk⟩; refine ⟨_, rfl, ?_⟩; have n0_ := Aside0.mk (hb); have n1_ := Aside0.mk (hi); clear HB; clear HI409; have HB := n0_; have HI409 := n1_; clear n0_ n1_; (try clear hb); (try clear hb2); (try clear hk); (try clear hi)))
              go_roundg k1
              case measure => have := HK1.out; omega
              case rel => exact ⟨(wrap64 (x10_1 + 1)), (t414), (t415), (by first | rfl | (simp; done) | (simp [*]; done)), H', ⟨by have := HK1.out; omega⟩, ⟨by repeat (first | (with_reducible first | exact HI409.out | apply IsS50.alloc | apply IsS50.drewN | apply IsS50.drew | apply IsS50.set_0 | apply IsS50.set_1) | exact HI409.out)⟩, ⟨by repeat (first | (with_reducible first | exact HB.out | apply below_alloc | apply pw_below_drewN | apply below_drew1 | refine below_set ?_ (IsS50.ge HI409.out)) | exact HB.out)⟩⟩
          · rw [if_neg c8] at H
            have c8b0 : ((wrap64 (t413)) == (Int.tmod x10_1 32768)) = false := beq_eq_false_iff_ne.mpr c8
            have c8b1 : ((wrap64 (t413)) != (Int.tmod x10_1 32768)) = true := bne_iff_ne.mpr c8
            obtain rfl := Option.some.inj H
            exact absurd hr_ (by decide)
        · rw [if_neg c6] at H
          have c6b0 : decide (x10_1 < (Go.bits .and .i64 a0 65535)) = false := decide_eq_false c6
          clear c6
          replace H := Option.bind_eq_some_iff.mp H
          obtain ⟨⟨t410, t411, t412⟩, A240, H⟩ := H
          replace H : (some (decide (t410 ≤ 64))) = some r := H
          have A24 := Aside0.mk A240
          clear A240
          obtain rfl := Option.some.inj H
          go_wp2_with (first | ((with_reducible refine gate_callee (f := 23) rfl ?_); refine goesL_ (some 34) rfl rfl Try.func23 (by kernel_rfl) rfl #[.pointer (some ⟨gb409, 0, none⟩)] rfl (by (try simp only [List.map_toArray, List.map_cons, List.map_nil]); first | done | rfl | (simp only [List.length_drop, List.length_take]; rfl)) ?_; (with_reducible refine (header_Counter_Pending.calls gb409 x410000_1 x410001_1 t410 t411 t412 w _ ?side1 ?side2 A24.out).mono ?_); (case side1 => repeat (first | (with_reducible first | exact HI409.out | apply IsS50.alloc | apply IsS50.drewN | apply IsS50.drew | apply IsS50.set_0 | apply IsS50.set_1) | exact HI409.out)); (case side2 => repeat (first | (with_reducible first | exact HB.out | apply below_alloc | apply pw_below_drewN | apply below_drew1 | refine below_set ?_ (IsS50.ge HI409.out)) | exact HB.out)); rintro e w25 ⟨rfl, hi, hb, hk⟩; refine ⟨_, rfl, ?_⟩; have n0_ := Aside0.mk (hb); have n1_ := Aside0.mk (hi); clear HB; clear HI409; have HB := n0_; have HI409 := n1_; clear n0_ n1_; (try clear hb); (try clear hb2); (try clear hk); (try clear hi)))
          go_ret
          exact ⟨by first | rfl | (simp [errW_none, errW_some] <;> rfl) | (simp [*, errW_none, errW_some] <;> rfl), by repeat (first | (with_reducible first | exact HB.out | apply below_alloc | apply pw_below_drewN | apply below_drew1 | refine below_set ?_ (IsS50.ge HI409.out)) | exact HB.out)⟩
  · replace c3 := Bool.eq_false_iff.mpr c3
    subst c3
    have H1 : (some false) = some r := by rw [if_neg (show ¬ (false = true) by decide)] at H; exact H
    clear H
    have H := H1
    clear H1
    obtain rfl := Option.some.inj H
    exact absurd hr_ (by decide)

/-- THE ONE PURE STATEMENT of greenscreenlaw09_HeaderRounds: yours. -/
def greenscreenlaw09_HeaderRounds.Pure : Prop := ∀ (a0 : Int), (Lit.int .i64 a0).wf = true → ∃ k, greenscreenlaw09_HeaderRounds.f k a0 = some true
theorem greenscreenlaw09_HeaderRounds.walk (P : greenscreenlaw09_HeaderRounds.Pure) (a0 : Int) (w : World) (w0 : (Lit.int .i64 a0).wf = true) :
    Calls Try.prog 6 #[.int .i64 a0] w fun e w' => e = .returned (.bool true) ∧ Below w.heap.size w w' := by
  obtain ⟨k, h⟩ := P a0 w0
  refine (greenscreenlaw09_HeaderRounds.calls k a0 true rfl w h).mono ?_
  rintro e w' ⟨rfl, hd⟩
  exact ⟨rfl, hd⟩

end Go.Proofs.Ytnhogaelhggheaa.P
