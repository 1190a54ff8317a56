-- Laid by program out of the translation, some functions' texts by hand (a session's own run, not print.sh's). Lean checks it.
import Derived.Test.YthimdjdnpfaamaaPx0
import Derived.Test.YthimdjdnpfaamaaPx2
import Derived.Test.YthimdjdnpfaamaaPx3
namespace Go.Proofs.Ythimdjdnpfaamaa.P
open Go.RowKit Go.Proofs.YthimdjdnpfaamaaW.PrintWords Go.Proofs.YthimdjdnpfaamaaW.PrintLast Go.Proofs.YthimdjdnpfaamaaW.PrintMore
attribute [local go_sem] max2_int min2_int max_two min_two max_three min_three max_four min_four   -- for this text's walks alone
set_option linter.unusedVariables false
set_option linter.unusedSimpArgs false

/-! ### greenscreenref11_Text: function 21 -/
mutual
def greenscreenref11_Text.j0 : Nat → Int → ByteArray → Option (ByteArray)
  | 0, _, _ => none
  | k + 1, x0, x3 => (greenscreenref11_Bit.f x0 16).bind fun t137 => (if t137 = true then (if x3.size + 1 ≤ 9223372036854775807 then (greenscreenref11_Text.j1 k x0 (x3 ++ (⟨#[78]⟩ : ByteArray))) else (none)) else (greenscreenref11_Text.j1 k x0 x3))
def greenscreenref11_Text.j1 : Nat → Int → ByteArray → Option (ByteArray)
  | 0, _, _ => none
  | k + 1, x0, x3 => (some (([(⟨#[45]⟩ : ByteArray), (⟨#[43]⟩ : ByteArray), (⟨#[42]⟩ : ByteArray), (⟨#[33]⟩ : ByteArray)] : List ByteArray) : List ByteArray)).bind fun y138 => ((greenscreenref11_Shown.f x0).bind fun t141 => (if 0 ≤ t141 then (if t141 < (y138.length : Int) then (if x3.size + (rdOf ByteArray.empty y138 t141).size ≤ 9223372036854775807 then ((greenscreenref11_Bit.f x0 1).bind fun t143 => (if t143 = true then (if (x3 ++ (rdOf ByteArray.empty y138 t141)).size + 1 ≤ 9223372036854775807 then (some ((x3 ++ (rdOf ByteArray.empty y138 t141)) ++ (⟨#[77]⟩ : ByteArray))) else (none)) else (some (x3 ++ (rdOf ByteArray.empty y138 t141))))) else (none)) else (none)) else (none)))
end
def greenscreenref11_Text.f (k : Nat) (a0 : Int) : Option (ByteArray) := (greenscreenref11_Bit.f a0 32).bind fun t136 => (if t136 = true then (greenscreenref11_Text.j0 k a0 (⟨#[80]⟩ : ByteArray)) else (greenscreenref11_Text.j0 k a0 (⟨#[]⟩ : ByteArray)))
theorem greenscreenref11_Text.mono_l : ∀ k, (∀ y0 y1, LeO (greenscreenref11_Text.j0 k y0 y1) (greenscreenref11_Text.j0 (k + 1) y0 y1)) ∧ (∀ y0 y1, LeO (greenscreenref11_Text.j1 k y0 y1) (greenscreenref11_Text.j1 (k + 1) y0 y1))
  | 0 => ⟨fun _ _ r h => by simp [greenscreenref11_Text.j0] at h, fun _ _ r h => by simp [greenscreenref11_Text.j1] at h⟩
  | k + 1 => by
    obtain ⟨ih0, ih1⟩ := greenscreenref11_Text.mono_l k
    refine ⟨?_, ?_⟩
    · intro y0 y1
      unfold greenscreenref11_Text.j0
      repeat' first
      | (with_reducible exact ih0 _ _)
      | (with_reducible exact ih1 _ _)
      | (with_reducible exact LeO.refl _)
      | (with_reducible exact LeO.none _)
      | (with_reducible refine LeO.ite ?_ ?_)
      | (with_reducible refine LeO.bind ?_ (fun _ => ?_))
      | exact ih0 _ _
      | exact ih1 _ _
      | exact LeO.none _
      | refine LeO.ite ?_ ?_
      | refine LeO.bind ?_ (fun _ => ?_)
    · intro y0 y1
      unfold greenscreenref11_Text.j1
      repeat' first
      | (with_reducible exact ih0 _ _)
      | (with_reducible exact ih1 _ _)
      | (with_reducible exact LeO.refl _)
      | (with_reducible exact LeO.none _)
      | (with_reducible refine LeO.ite ?_ ?_)
      | (with_reducible refine LeO.bind ?_ (fun _ => ?_))
      | exact ih0 _ _
      | exact ih1 _ _
      | exact LeO.none _
      | refine LeO.ite ?_ ?_
      | refine LeO.bind ?_ (fun _ => ?_)
theorem greenscreenref11_Text.mono : ∀ a0 k, LeO (greenscreenref11_Text.f k a0) (greenscreenref11_Text.f (k + 1) a0) := by
  intro a0 k
  obtain ⟨ih0, ih1⟩ := greenscreenref11_Text.mono_l k
  unfold greenscreenref11_Text.f
  repeat' first
      | (with_reducible exact ih0 _ _)
      | (with_reducible exact ih1 _ _)
      | (with_reducible exact LeO.refl _)
      | (with_reducible exact LeO.none _)
      | (with_reducible refine LeO.ite ?_ ?_)
      | (with_reducible refine LeO.bind ?_ (fun _ => ?_))
      | exact ih0 _ _
      | exact ih1 _ _
      | exact LeO.none _
      | refine LeO.ite ?_ ?_
      | refine LeO.bind ?_ (fun _ => ?_)
set_option maxHeartbeats 8000000 in
set_option maxRecDepth 100000 in
theorem greenscreenref11_Text.calls (k : Nat) (a0 : Int) (r : ByteArray) (w : World) (h : greenscreenref11_Text.f k a0 = some r) :
    Calls Try.prog 21 #[.int .u8 a0] w fun e w' => e = .returned (.string r) ∧ Below w.heap.size w w' := by
  have HB := Aside0.mk (Below.refl w.heap.size w)
  have H : ((greenscreenref11_Bit.f a0 32).bind fun t136 => (if t136 = true then (greenscreenref11_Text.j0 k a0 (⟨#[80]⟩ : ByteArray)) else (greenscreenref11_Text.j0 k a0 (⟨#[]⟩ : ByteArray)))) = some r := h
  clear h
  replace H := Option.bind_eq_some_iff.mp H
  obtain ⟨t136, A20, H⟩ := H
  replace H : (if t136 = true then (greenscreenref11_Text.j0 k a0 (⟨#[80]⟩ : ByteArray)) else (greenscreenref11_Text.j0 k a0 (⟨#[]⟩ : ByteArray))) = some r := H
  have A2 := Aside0.mk A20
  clear A20
  have HC3 := Aside0.mk H
  clear H
  go_enter Try.func21, Try.ntmps21
  go_upto_if 6 with (first | ((with_reducible refine gate_callee (f := 8) rfl ?_); refine goesL_ (some 6) rfl rfl Try.func8 (by kernel_rfl) rfl #[.int .u8 a0, .int .i64 32] rfl (by (try simp only [List.map_toArray, List.map_cons, List.map_nil]); first | done | rfl | (simp only [List.length_drop, List.length_take]; rfl)) ?_; (with_reducible refine (greenscreenref11_Bit.calls a0 32 t136 _ A2.out).mono ?_); rintro e w' ⟨rfl, ⟨nd, rfl⟩⟩; refine ⟨_, rfl, ?_⟩))
  (try simp only [Act.put, List.setIfInBounds_toArray, List.set_cons_zero, List.set_cons_succ])
  go_cut [3] (fun v3 wc => ∃ (kq : Nat) (x3_2 : ByteArray), v3 = .string x3_2 ∧ Aside0 (greenscreenref11_Text.j0 kq a0 x3_2 = some r) ∧ Aside0 (kq ≤ k) ∧ Aside0 (Below w.heap.size w wc))
  case first =>
    have H := HC3.out
    clear HC3
    by_cases c4 : t136 = true
    · subst c4
      have H1 : (greenscreenref11_Text.j0 k a0 (⟨#[80]⟩ : ByteArray)) = some r := by rw [if_pos rfl] at H; exact H
      clear H
      have H := H1
      clear H1
      have H' := Aside0.mk H
      clear H
      go_wp2
      go_meet
      case rel => exact ⟨_, ((⟨#[80]⟩ : ByteArray)), (by first | rfl | (simp; done) | (simp [*]; done)), H', ⟨by first | omega | exact Nat.le_refl _⟩, ⟨by repeat (first | (with_reducible first | exact HB.out | apply below_alloc | apply pw_below_drewN | apply below_drew1) | exact HB.out)⟩⟩
    · replace c4 := Bool.eq_false_iff.mpr c4
      subst c4
      have H1 : (greenscreenref11_Text.j0 k a0 (⟨#[]⟩ : ByteArray)) = some r := by rw [if_neg (show ¬ (false = true) by decide)] at H; exact H
      clear H
      have H := H1
      clear H1
      have H' := Aside0.mk H
      clear H
      go_wp2
      go_meet
      case rel => exact ⟨_, ((⟨#[]⟩ : ByteArray)), (by first | rfl | (simp; done) | (simp [*]; done)), H', ⟨by first | omega | exact Nat.le_refl _⟩, ⟨by repeat (first | (with_reducible first | exact HB.out | apply below_alloc | apply pw_below_drewN | apply below_drew1) | exact HB.out)⟩⟩
  case rest =>
    clear HC3
    try clear c2
    try clear p2
    try clear c4
    obtain ⟨kq, x3_2, rfl, HA, HJ2, HB⟩ := hcut
    cases kq with
    | zero => exact absurd HA.out (by simp [greenscreenref11_Text.j0])
    | succ kj2 =>
      have H := HA.out
      clear HA
      simp only [greenscreenref11_Text.j0] at H
      replace H := Option.bind_eq_some_iff.mp H
      obtain ⟨t137, A50, H⟩ := H
      replace H : (if t137 = true then (if x3_2.size + 1 ≤ 9223372036854775807 then (greenscreenref11_Text.j1 kj2 a0 (x3_2 ++ (⟨#[78]⟩ : ByteArray))) else (none)) else (greenscreenref11_Text.j1 kj2 a0 x3_2)) = some r := H
      have A5 := Aside0.mk A50
      clear A50
      have HC6 := Aside0.mk H
      clear H
      go_upto_if 8 with (first | ((with_reducible refine gate_callee (f := 8) rfl ?_); refine goesL_ (some 8) rfl rfl Try.func8 (by kernel_rfl) rfl #[.int .u8 a0, .int .i64 16] rfl (by (try simp only [List.map_toArray, List.map_cons, List.map_nil]); first | done | rfl | (simp only [List.length_drop, List.length_take]; rfl)) ?_; (with_reducible refine (greenscreenref11_Bit.calls a0 16 t137 _ A5.out).mono ?_); rintro e w' ⟨rfl, ⟨nd, rfl⟩⟩; refine ⟨_, rfl, ?_⟩))
      (try simp only [Act.put, List.setIfInBounds_toArray, List.set_cons_zero, List.set_cons_succ])
      go_cut [3] (fun v3 wc => ∃ (kq : Nat) (x3_5 : ByteArray), v3 = .string x3_5 ∧ Aside0 (greenscreenref11_Text.j1 kq a0 x3_5 = some r) ∧ Aside0 (kq ≤ kj2) ∧ Aside0 (Below w.heap.size w wc))
      case first =>
        have H := HC6.out
        clear HC6
        by_cases c7 : t137 = true
        · subst c7
          have H1 : (if x3_2.size + 1 ≤ 9223372036854775807 then (greenscreenref11_Text.j1 kj2 a0 (x3_2 ++ (⟨#[78]⟩ : ByteArray))) else (none)) = some r := by rw [if_pos rfl] at H; exact H
          clear H
          have H := H1
          clear H1
          by_cases c8 : x3_2.size + 1 ≤ 9223372036854775807
          · rw [if_pos c8] at H
            have c8b0 := eq_true c8
            have c8b1 : decide (x3_2.size + 1 ≤ 9223372036854775807) = true := decide_eq_true c8
            try have c8b2 : (9223372036854775807 < x3_2.size + 1) = False := eq_false (Nat.not_lt.2 c8)
            have H' := Aside0.mk H
            clear H
            go_wp2
            go_meet
            case rel => exact ⟨_, (x3_2 ++ (⟨#[78]⟩ : ByteArray)), (by first | rfl | (simp; done) | (simp [*]; done)), H', ⟨by have := HJ2.out; first | omega | exact Nat.le_refl _⟩, ⟨by repeat (first | (with_reducible first | exact HB.out | apply below_alloc | apply pw_below_drewN | apply below_drew1) | exact HB.out)⟩⟩
          · rw [if_neg c8] at H
            exact absurd H (by simp)
        · replace c7 := Bool.eq_false_iff.mpr c7
          subst c7
          have H1 : (greenscreenref11_Text.j1 kj2 a0 x3_2) = some r := by rw [if_neg (show ¬ (false = true) by decide)] at H; exact H
          clear H
          have H := H1
          clear H1
          have H' := Aside0.mk H
          clear H
          go_wp2
          go_meet
          case rel => exact ⟨_, (x3_2), (by first | rfl | (simp; done) | (simp [*]; done)), H', ⟨by have := HJ2.out; first | omega | exact Nat.le_refl _⟩, ⟨by repeat (first | (with_reducible first | exact HB.out | apply below_alloc | apply pw_below_drewN | apply below_drew1) | exact HB.out)⟩⟩
      case rest =>
        clear HC6
        try clear c2
        try clear p2
        try clear c4
        try clear c7
        try clear c8
        try clear c8b0
        try clear c8b1
        try clear c8b2
        try clear p2
        obtain ⟨kq, x3_5, rfl, HA, HJ5, HB⟩ := hcut
        cases kq with
        | zero => exact absurd HA.out (by simp [greenscreenref11_Text.j1])
        | succ kj5 =>
          have H := HA.out
          clear HA
          simp only [greenscreenref11_Text.j1] at H
          obtain ⟨y138, hy138⟩ : ∃ y_ : List ByteArray, y_ = (([(⟨#[45]⟩ : ByteArray), (⟨#[43]⟩ : ByteArray), (⟨#[42]⟩ : ByteArray), (⟨#[33]⟩ : ByteArray)] : List ByteArray)) := ⟨_, rfl⟩
          replace H : ((greenscreenref11_Shown.f a0).bind fun t141 => (if 0 ≤ t141 then (if t141 < (y138.length : Int) then (if x3_5.size + (rdOf ByteArray.empty y138 t141).size ≤ 9223372036854775807 then ((greenscreenref11_Bit.f a0 1).bind fun t143 => (if t143 = true then (if (x3_5 ++ (rdOf ByteArray.empty y138 t141)).size + 1 ≤ 9223372036854775807 then (some ((x3_5 ++ (rdOf ByteArray.empty y138 t141)) ++ (⟨#[77]⟩ : ByteArray))) else (none)) else (some (x3_5 ++ (rdOf ByteArray.empty y138 t141))))) else (none)) else (none)) else (none))) = some r := by first | (rw [hy138]; with_reducible exact H) | (have H2_ := (Option.bind_some _ _).symm.trans H; rw [hy138]; with_reducible exact H2_) | (have H2_ := (Option.bind_some _ _).symm.trans H; with_reducible exact H2_) | with_reducible exact H | (rw [hy138]; exact H) | exact H
          have Ny138 := Aside0.mk hy138
          clear hy138
          replace H := Option.bind_eq_some_iff.mp H
          obtain ⟨t141, A90, H⟩ := H
          replace H : (if 0 ≤ t141 then (if t141 < (y138.length : Int) then (if x3_5.size + (rdOf ByteArray.empty y138 t141).size ≤ 9223372036854775807 then ((greenscreenref11_Bit.f a0 1).bind fun t143 => (if t143 = true then (if (x3_5 ++ (rdOf ByteArray.empty y138 t141)).size + 1 ≤ 9223372036854775807 then (some ((x3_5 ++ (rdOf ByteArray.empty y138 t141)) ++ (⟨#[77]⟩ : ByteArray))) else (none)) else (some (x3_5 ++ (rdOf ByteArray.empty y138 t141))))) else (none)) else (none)) else (none)) = some r := H
          have A9 := Aside0.mk A90
          clear A90
          by_cases c10 : 0 ≤ t141
          · rw [if_pos c10] at H
            have c10b0 : decide (0 ≤ t141) = true := decide_eq_true c10
            clear c10
            by_cases c11 : t141 < (y138.length : Int)
            · rw [if_pos c11] at H
              have c11b0 : decide (t141 < (y138.length : Int)) = true := decide_eq_true c11
              clear c11
              by_cases c12 : x3_5.size + (rdOf ByteArray.empty y138 t141).size ≤ 9223372036854775807
              · rw [if_pos c12] at H
                have c12b0 := eq_true c12
                have c12b1 : decide (x3_5.size + (rdOf ByteArray.empty y138 t141).size ≤ 9223372036854775807) = true := decide_eq_true c12
                try have c12b2 : (9223372036854775807 < x3_5.size + (rdOf ByteArray.empty y138 t141).size) = False := eq_false (Nat.not_lt.2 c12)
                replace H := Option.bind_eq_some_iff.mp H
                obtain ⟨t143, A130, H⟩ := H
                replace H : (if t143 = true then (if (x3_5 ++ (rdOf ByteArray.empty y138 t141)).size + 1 ≤ 9223372036854775807 then (some ((x3_5 ++ (rdOf ByteArray.empty y138 t141)) ++ (⟨#[77]⟩ : ByteArray))) else (none)) else (some (x3_5 ++ (rdOf ByteArray.empty y138 t141)))) = some r := H
                have A13 := Aside0.mk A130
                clear A130
                by_cases c14 : t143 = true
                · subst c14
                  have H1 : (if (x3_5 ++ (rdOf ByteArray.empty y138 t141)).size + 1 ≤ 9223372036854775807 then (some ((x3_5 ++ (rdOf ByteArray.empty y138 t141)) ++ (⟨#[77]⟩ : ByteArray))) else (none)) = some r := by rw [if_pos rfl] at H; exact H
                  clear H
                  have H := H1
                  clear H1
                  by_cases c15 : (x3_5 ++ (rdOf ByteArray.empty y138 t141)).size + 1 ≤ 9223372036854775807
                  · rw [if_pos c15] at H
                    have c15b0 := eq_true c15
                    have c15b1 : decide ((x3_5 ++ (rdOf ByteArray.empty y138 t141)).size + 1 ≤ 9223372036854775807) = true := decide_eq_true c15
                    try have c15b2 : (9223372036854775807 < (x3_5 ++ (rdOf ByteArray.empty y138 t141)).size + 1) = False := eq_false (Nat.not_lt.2 c15)
                    try have c15q : (9223372036854775807 < x3_5.size + (rdOf ByteArray.empty y138 t141).size + 1) = False := eq_false (by (have h_ := c15; rw [ByteArray.size_append] at h_; omega))
                    obtain rfl := Option.some.inj H
                    go_wp2_with (first | ((with_reducible refine gate_dst (N := 11) rfl ?_); refine Kd.R_lit Kd.string _ 9 ?hg (N := 11) ?hd (xs := ([(⟨#[45]⟩ : ByteArray), (⟨#[43]⟩ : ByteArray), (⟨#[42]⟩ : ByteArray), (⟨#[33]⟩ : ByteArray)] : List ByteArray)) (inner := [.string (⟨#[45]⟩ : ByteArray), .string (⟨#[43]⟩ : ByteArray), .string (⟨#[42]⟩ : ByteArray), .string (⟨#[33]⟩ : ByteArray)]) (ok := fun _ => True) (okp := fun _ => True) ?hr ?hp (fun _ hk => hk) trivial (Below.refl _ _) (Nat.le_refl _) (by simp) ?_; (case hd => rfl); (case hg => rfl); (case hr => first | (go_simp; done) | (go_simp; rfl)); (case hp => exact (Reps.one (show Kd.M Kd.string _ _ _ (⟨#[45]⟩ : ByteArray) [.string (⟨#[45]⟩ : ByteArray)] from rfl) (Reps.one (show Kd.M Kd.string _ _ _ (⟨#[43]⟩ : ByteArray) [.string (⟨#[43]⟩ : ByteArray)] from rfl) (Reps.one (show Kd.M Kd.string _ _ _ (⟨#[42]⟩ : ByteArray) [.string (⟨#[42]⟩ : ByteArray)] from rfl) (Reps.one (show Kd.M Kd.string _ _ _ (⟨#[33]⟩ : ByteArray) [.string (⟨#[33]⟩ : ByteArray)] from rfl) (Reps.none _ _)))))); intro v139 w16 ho17 hb hg_ hnew_; clear hg_ hnew_; (first | rw [← Ny138.out] at ho17 | (simp only [Int.reduceToNat] at ho17; rw [← Ny138.out] at ho17)); have n0_ := Aside0.mk (Kd.R_lower ho17 (below_size (by repeat (first | (with_reducible first | exact HB.out | apply below_alloc | apply pw_below_drewN | apply below_drew1) | exact HB.out)))); have n1_ := Aside0.mk (below_step (by repeat (first | (with_reducible first | exact HB.out | apply below_alloc | apply pw_below_drewN | apply below_drew1) | exact HB.out)) hb); clear HB; have HO140 := n0_; have HB := n1_; clear n0_ n1_; clear hb ho17) | ((with_reducible refine gate_callee (f := 13) rfl ?_); refine goesL_ (some 15) rfl rfl Try.func13 (by kernel_rfl) rfl #[.int .u8 a0] rfl (by (try simp only [List.map_toArray, List.map_cons, List.map_nil]); first | done | rfl | (simp only [List.length_drop, List.length_take]; rfl)) ?_; (with_reducible refine (greenscreenref11_Shown.calls a0 t141 _ A9.out).mono ?_); rintro e w' ⟨rfl, ⟨nd, rfl⟩⟩; refine ⟨_, rfl, ?_⟩; obtain ⟨Ao18, co18, eo18⟩ := Kd.R_slice HO140.out; subst eo18; have p142 : 0 ≤ (t141 : Int) := of_decide_eq_true (by first | (with_reducible assumption) | assumption); have q142 : t141 < (y138.length : Int) := of_decide_eq_true (by first | (with_reducible assumption) | assumption); obtain ⟨ad142, e142, hx142_0⟩ := Kd.at_string (Kd.R_reads' HO140.out).2.2 t141 p142 q142; cases e142; replace p142 := eq_true p142; replace q142 := eq_true q142) | ((with_reducible refine gate_callee (f := 8) rfl ?_); refine goesL_ (some 20) rfl rfl Try.func8 (by kernel_rfl) rfl #[.int .u8 a0, .int .i64 1] rfl (by (try simp only [List.map_toArray, List.map_cons, List.map_nil]); first | done | rfl | (simp only [List.length_drop, List.length_take]; rfl)) ?_; (with_reducible refine (greenscreenref11_Bit.calls a0 1 true _ A13.out).mono ?_); rintro e w' ⟨rfl, ⟨nd, rfl⟩⟩; refine ⟨_, rfl, ?_⟩) | (go_at_call 8; (with_reducible refine (greenscreenref11_Bit.calls a0 1 true _ A13.out).mono ?_); rintro e w' ⟨rfl, ⟨nd, rfl⟩⟩))
                    go_ret
                    exact ⟨by first | rfl | (simp [errW_none, errW_some] <;> rfl) | (simp [*, errW_none, errW_some] <;> rfl), by repeat (first | (with_reducible first | exact HB.out | apply below_alloc | apply pw_below_drewN | apply below_drew1) | exact HB.out)⟩
                  · rw [if_neg c15] at H
                    exact absurd H (by simp)
                · replace c14 := Bool.eq_false_iff.mpr c14
                  subst c14
                  have H1 : (some (x3_5 ++ (rdOf ByteArray.empty y138 t141))) = some r := by rw [if_neg (show ¬ (false = true) by decide)] at H; exact H
                  clear H
                  have H := H1
                  clear H1
                  obtain rfl := Option.some.inj H
                  go_wp2_with (first | ((with_reducible refine gate_dst (N := 11) rfl ?_); refine Kd.R_lit Kd.string _ 9 ?hg (N := 11) ?hd (xs := ([(⟨#[45]⟩ : ByteArray), (⟨#[43]⟩ : ByteArray), (⟨#[42]⟩ : ByteArray), (⟨#[33]⟩ : ByteArray)] : List ByteArray)) (inner := [.string (⟨#[45]⟩ : ByteArray), .string (⟨#[43]⟩ : ByteArray), .string (⟨#[42]⟩ : ByteArray), .string (⟨#[33]⟩ : ByteArray)]) (ok := fun _ => True) (okp := fun _ => True) ?hr ?hp (fun _ hk => hk) trivial (Below.refl _ _) (Nat.le_refl _) (by simp) ?_; (case hd => rfl); (case hg => rfl); (case hr => first | (go_simp; done) | (go_simp; rfl)); (case hp => exact (Reps.one (show Kd.M Kd.string _ _ _ (⟨#[45]⟩ : ByteArray) [.string (⟨#[45]⟩ : ByteArray)] from rfl) (Reps.one (show Kd.M Kd.string _ _ _ (⟨#[43]⟩ : ByteArray) [.string (⟨#[43]⟩ : ByteArray)] from rfl) (Reps.one (show Kd.M Kd.string _ _ _ (⟨#[42]⟩ : ByteArray) [.string (⟨#[42]⟩ : ByteArray)] from rfl) (Reps.one (show Kd.M Kd.string _ _ _ (⟨#[33]⟩ : ByteArray) [.string (⟨#[33]⟩ : ByteArray)] from rfl) (Reps.none _ _)))))); intro v139 w19 ho20 hb hg_ hnew_; clear hg_ hnew_; (first | rw [← Ny138.out] at ho20 | (simp only [Int.reduceToNat] at ho20; rw [← Ny138.out] at ho20)); have n0_ := Aside0.mk (Kd.R_lower ho20 (below_size (by repeat (first | (with_reducible first | exact HB.out | apply below_alloc | apply pw_below_drewN | apply below_drew1) | exact HB.out)))); have n1_ := Aside0.mk (below_step (by repeat (first | (with_reducible first | exact HB.out | apply below_alloc | apply pw_below_drewN | apply below_drew1) | exact HB.out)) hb); clear HB; have HO140 := n0_; have HB := n1_; clear n0_ n1_; clear hb ho20) | ((with_reducible refine gate_callee (f := 13) rfl ?_); refine goesL_ (some 15) rfl rfl Try.func13 (by kernel_rfl) rfl #[.int .u8 a0] rfl (by (try simp only [List.map_toArray, List.map_cons, List.map_nil]); first | done | rfl | (simp only [List.length_drop, List.length_take]; rfl)) ?_; (with_reducible refine (greenscreenref11_Shown.calls a0 t141 _ A9.out).mono ?_); rintro e w' ⟨rfl, ⟨nd, rfl⟩⟩; refine ⟨_, rfl, ?_⟩; obtain ⟨Ao21, co21, eo21⟩ := Kd.R_slice HO140.out; subst eo21; have p142 : 0 ≤ (t141 : Int) := of_decide_eq_true (by first | (with_reducible assumption) | assumption); have q142 : t141 < (y138.length : Int) := of_decide_eq_true (by first | (with_reducible assumption) | assumption); obtain ⟨ad142, e142, hx142_0⟩ := Kd.at_string (Kd.R_reads' HO140.out).2.2 t141 p142 q142; cases e142; replace p142 := eq_true p142; replace q142 := eq_true q142) | ((with_reducible refine gate_callee (f := 8) rfl ?_); refine goesL_ (some 20) rfl rfl Try.func8 (by kernel_rfl) rfl #[.int .u8 a0, .int .i64 1] rfl (by (try simp only [List.map_toArray, List.map_cons, List.map_nil]); first | done | rfl | (simp only [List.length_drop, List.length_take]; rfl)) ?_; (with_reducible refine (greenscreenref11_Bit.calls a0 1 false _ A13.out).mono ?_); rintro e w' ⟨rfl, ⟨nd, rfl⟩⟩; refine ⟨_, rfl, ?_⟩) | (go_at_call 8; (with_reducible refine (greenscreenref11_Bit.calls a0 1 false _ A13.out).mono ?_); rintro e w' ⟨rfl, ⟨nd, rfl⟩⟩))
                  go_ret
                  exact ⟨by first | rfl | (simp [errW_none, errW_some] <;> rfl) | (simp [*, errW_none, errW_some] <;> rfl), by repeat (first | (with_reducible first | exact HB.out | apply below_alloc | apply pw_below_drewN | apply below_drew1) | exact HB.out)⟩
              · rw [if_neg c12] at H
                exact absurd H (by simp)
            · rw [if_neg c11] at H
              exact absurd H (by simp)
          · rw [if_neg c10] at H
            exact absurd H (by simp)

/-! ### greenscreenlaw11_AttrBytes: function 3 -/
def greenscreenlaw11_AttrBytes.f (k : Nat) (a0 : Int) (a1 : Int) (a2 : Bool) : Option (Bool) := (greenscreenlaw11_alive.f k).bind fun t144 => (if t144 = true then ((greenscreenref11_Bit.f a0 32).bind fun t145 => ((greenscreenref11_Bit.f a0 16).bind fun t146 => ((attr_Protected.f a0).bind fun t147 => (if (t147 == t145) = true then ((attr_Numeric.f a0).bind fun t148 => (if (t148 == t146) = true then ((attr_Skip.f a0).bind fun t149 => (if t145 = true then (if (t149 == t146) = true then ((attr_Shown.f a0).bind fun t150 => ((greenscreenref11_Shown.f a0).bind fun t151 => (if t150 = t151 then ((attr_Modified.f a0).bind fun t152 => ((greenscreenref11_Bit.f a0 1).bind fun t153 => (if (t152 == t153) = true then ((attr_Modify.f a0 a2).bind fun t154 => ((greenscreenref11_Modify.f a0 a2).bind fun t155 => (if t154 = t155 then ((attr_Byte.f a0).bind fun t156 => ((greenscreenref02_Digit.f (wrap64 (Int.tmod a0 64))).bind fun t157 => (if t156 = t157 then ((attr_Same.f a0 a1).bind fun t158 => (if (t158 == ((Int.tmod a0 64) == (Int.tmod a1 64))) = true then ((attr_Text.f k a0).bind fun t159 => ((greenscreenref11_Text.f k a0).bind fun t160 => (some (t159.toList == t160.toList)))) else (some false))) else (some false)))) else (some false)))) else (some false)))) else (some false)))) else (some false)) else (if (t149 == false) = true then ((attr_Shown.f a0).bind fun t161 => ((greenscreenref11_Shown.f a0).bind fun t162 => (if t161 = t162 then ((attr_Modified.f a0).bind fun t163 => ((greenscreenref11_Bit.f a0 1).bind fun t164 => (if (t163 == t164) = true then ((attr_Modify.f a0 a2).bind fun t165 => ((greenscreenref11_Modify.f a0 a2).bind fun t166 => (if t165 = t166 then ((attr_Byte.f a0).bind fun t167 => ((greenscreenref02_Digit.f (wrap64 (Int.tmod a0 64))).bind fun t168 => (if t167 = t168 then ((attr_Same.f a0 a1).bind fun t169 => (if (t169 == ((Int.tmod a0 64) == (Int.tmod a1 64))) = true then ((attr_Text.f k a0).bind fun t170 => ((greenscreenref11_Text.f k a0).bind fun t171 => (some (t170.toList == t171.toList)))) else (some false))) else (some false)))) else (some false)))) else (some false)))) else (some false)))) else (some false)))) else (some false))) else (some false))))) else (some false))
theorem greenscreenlaw11_AttrBytes.mono : ∀ a0 a1 a2 k, LeO (greenscreenlaw11_AttrBytes.f k a0 a1 a2) (greenscreenlaw11_AttrBytes.f (k + 1) a0 a1 a2) := by
  intro a0 a1 a2 k
  unfold greenscreenlaw11_AttrBytes.f
  repeat' first
      | (with_reducible exact attr_Text.mono _ _)
      | (with_reducible exact greenscreenlaw11_alive.mono _)
      | (with_reducible exact greenscreenref11_Text.mono _ _)
      | (with_reducible exact LeO.refl _)
      | (with_reducible exact LeO.none _)
      | (with_reducible refine LeO.ite ?_ ?_)
      | (with_reducible refine LeO.bind ?_ (fun _ => ?_))
      | exact attr_Text.mono _ _
      | exact greenscreenlaw11_alive.mono _
      | exact greenscreenref11_Text.mono _ _
      | exact LeO.none _
      | refine LeO.ite ?_ ?_
      | refine LeO.bind ?_ (fun _ => ?_)
set_option maxHeartbeats 8000000 in
set_option maxRecDepth 100000 in
theorem greenscreenlaw11_AttrBytes.calls (k : Nat) (a0 : Int) (a1 : Int) (a2 : Bool) (r : Bool) (hr_ : r = true) (w : World) (h : greenscreenlaw11_AttrBytes.f k a0 a1 a2 = some r) :
    Calls Try.prog 3 #[.int .u8 a0, .int .u8 a1, .bool a2] w fun e w' => e = .returned (.bool r) ∧ Below w.heap.size w w' := by
  have HB := Aside0.mk (Below.refl w.heap.size w)
  have H : ((greenscreenlaw11_alive.f k).bind fun t144 => (if t144 = true then ((greenscreenref11_Bit.f a0 32).bind fun t145 => ((greenscreenref11_Bit.f a0 16).bind fun t146 => ((attr_Protected.f a0).bind fun t147 => (if (t147 == t145) = true then ((attr_Numeric.f a0).bind fun t148 => (if (t148 == t146) = true then ((attr_Skip.f a0).bind fun t149 => (if t145 = true then (if (t149 == t146) = true then ((attr_Shown.f a0).bind fun t150 => ((greenscreenref11_Shown.f a0).bind fun t151 => (if t150 = t151 then ((attr_Modified.f a0).bind fun t152 => ((greenscreenref11_Bit.f a0 1).bind fun t153 => (if (t152 == t153) = true then ((attr_Modify.f a0 a2).bind fun t154 => ((greenscreenref11_Modify.f a0 a2).bind fun t155 => (if t154 = t155 then ((attr_Byte.f a0).bind fun t156 => ((greenscreenref02_Digit.f (wrap64 (Int.tmod a0 64))).bind fun t157 => (if t156 = t157 then ((attr_Same.f a0 a1).bind fun t158 => (if (t158 == ((Int.tmod a0 64) == (Int.tmod a1 64))) = true then ((attr_Text.f k a0).bind fun t159 => ((greenscreenref11_Text.f k a0).bind fun t160 => (some (t159.toList == t160.toList)))) else (some false))) else (some false)))) else (some false)))) else (some false)))) else (some false)))) else (some false)) else (if (t149 == false) = true then ((attr_Shown.f a0).bind fun t161 => ((greenscreenref11_Shown.f a0).bind fun t162 => (if t161 = t162 then ((attr_Modified.f a0).bind fun t163 => ((greenscreenref11_Bit.f a0 1).bind fun t164 => (if (t163 == t164) = true then ((attr_Modify.f a0 a2).bind fun t165 => ((greenscreenref11_Modify.f a0 a2).bind fun t166 => (if t165 = t166 then ((attr_Byte.f a0).bind fun t167 => ((greenscreenref02_Digit.f (wrap64 (Int.tmod a0 64))).bind fun t168 => (if t167 = t168 then ((attr_Same.f a0 a1).bind fun t169 => (if (t169 == ((Int.tmod a0 64) == (Int.tmod a1 64))) = true then ((attr_Text.f k a0).bind fun t170 => ((greenscreenref11_Text.f k a0).bind fun t171 => (some (t170.toList == t171.toList)))) else (some false))) else (some false)))) else (some false)))) else (some false)))) else (some false)))) else (some false)))) else (some false))) else (some false))))) else (some false))) = some r := h
  clear h
  replace H := Option.bind_eq_some_iff.mp H
  obtain ⟨t144, A40, H⟩ := H
  replace H : (if t144 = true then ((greenscreenref11_Bit.f a0 32).bind fun t145 => ((greenscreenref11_Bit.f a0 16).bind fun t146 => ((attr_Protected.f a0).bind fun t147 => (if (t147 == t145) = true then ((attr_Numeric.f a0).bind fun t148 => (if (t148 == t146) = true then ((attr_Skip.f a0).bind fun t149 => (if t145 = true then (if (t149 == t146) = true then ((attr_Shown.f a0).bind fun t150 => ((greenscreenref11_Shown.f a0).bind fun t151 => (if t150 = t151 then ((attr_Modified.f a0).bind fun t152 => ((greenscreenref11_Bit.f a0 1).bind fun t153 => (if (t152 == t153) = true then ((attr_Modify.f a0 a2).bind fun t154 => ((greenscreenref11_Modify.f a0 a2).bind fun t155 => (if t154 = t155 then ((attr_Byte.f a0).bind fun t156 => ((greenscreenref02_Digit.f (wrap64 (Int.tmod a0 64))).bind fun t157 => (if t156 = t157 then ((attr_Same.f a0 a1).bind fun t158 => (if (t158 == ((Int.tmod a0 64) == (Int.tmod a1 64))) = true then ((attr_Text.f k a0).bind fun t159 => ((greenscreenref11_Text.f k a0).bind fun t160 => (some (t159.toList == t160.toList)))) else (some false))) else (some false)))) else (some false)))) else (some false)))) else (some false)))) else (some false)) else (if (t149 == false) = true then ((attr_Shown.f a0).bind fun t161 => ((greenscreenref11_Shown.f a0).bind fun t162 => (if t161 = t162 then ((attr_Modified.f a0).bind fun t163 => ((greenscreenref11_Bit.f a0 1).bind fun t164 => (if (t163 == t164) = true then ((attr_Modify.f a0 a2).bind fun t165 => ((greenscreenref11_Modify.f a0 a2).bind fun t166 => (if t165 = t166 then ((attr_Byte.f a0).bind fun t167 => ((greenscreenref02_Digit.f (wrap64 (Int.tmod a0 64))).bind fun t168 => (if t167 = t168 then ((attr_Same.f a0 a1).bind fun t169 => (if (t169 == ((Int.tmod a0 64) == (Int.tmod a1 64))) = true then ((attr_Text.f k a0).bind fun t170 => ((greenscreenref11_Text.f k a0).bind fun t171 => (some (t170.toList == t171.toList)))) else (some false))) else (some false)))) else (some false)))) else (some false)))) else (some false)))) else (some false)))) else (some false))) else (some false))))) else (some false)) = some r := H
  have A4 := Aside0.mk A40
  clear A40
  by_cases c5 : t144 = true
  · subst c5
    have H1 : ((greenscreenref11_Bit.f a0 32).bind fun t145 => ((greenscreenref11_Bit.f a0 16).bind fun t146 => ((attr_Protected.f a0).bind fun t147 => (if (t147 == t145) = true then ((attr_Numeric.f a0).bind fun t148 => (if (t148 == t146) = true then ((attr_Skip.f a0).bind fun t149 => (if t145 = true then (if (t149 == t146) = true then ((attr_Shown.f a0).bind fun t150 => ((greenscreenref11_Shown.f a0).bind fun t151 => (if t150 = t151 then ((attr_Modified.f a0).bind fun t152 => ((greenscreenref11_Bit.f a0 1).bind fun t153 => (if (t152 == t153) = true then ((attr_Modify.f a0 a2).bind fun t154 => ((greenscreenref11_Modify.f a0 a2).bind fun t155 => (if t154 = t155 then ((attr_Byte.f a0).bind fun t156 => ((greenscreenref02_Digit.f (wrap64 (Int.tmod a0 64))).bind fun t157 => (if t156 = t157 then ((attr_Same.f a0 a1).bind fun t158 => (if (t158 == ((Int.tmod a0 64) == (Int.tmod a1 64))) = true then ((attr_Text.f k a0).bind fun t159 => ((greenscreenref11_Text.f k a0).bind fun t160 => (some (t159.toList == t160.toList)))) else (some false))) else (some false)))) else (some false)))) else (some false)))) else (some false)))) else (some false)) else (if (t149 == false) = true then ((attr_Shown.f a0).bind fun t161 => ((greenscreenref11_Shown.f a0).bind fun t162 => (if t161 = t162 then ((attr_Modified.f a0).bind fun t163 => ((greenscreenref11_Bit.f a0 1).bind fun t164 => (if (t163 == t164) = true then ((attr_Modify.f a0 a2).bind fun t165 => ((greenscreenref11_Modify.f a0 a2).bind fun t166 => (if t165 = t166 then ((attr_Byte.f a0).bind fun t167 => ((greenscreenref02_Digit.f (wrap64 (Int.tmod a0 64))).bind fun t168 => (if t167 = t168 then ((attr_Same.f a0 a1).bind fun t169 => (if (t169 == ((Int.tmod a0 64) == (Int.tmod a1 64))) = true then ((attr_Text.f k a0).bind fun t170 => ((greenscreenref11_Text.f k a0).bind fun t171 => (some (t170.toList == t171.toList)))) else (some false))) else (some false)))) else (some false)))) else (some false)))) else (some false)))) else (some false)))) else (some false))) else (some false))))) = some r := by rw [if_pos rfl] at H; exact H
    clear H
    have H := H1
    clear H1
    replace H := Option.bind_eq_some_iff.mp H
    obtain ⟨t145, A60, H⟩ := H
    replace H : ((greenscreenref11_Bit.f a0 16).bind fun t146 => ((attr_Protected.f a0).bind fun t147 => (if (t147 == t145) = true then ((attr_Numeric.f a0).bind fun t148 => (if (t148 == t146) = true then ((attr_Skip.f a0).bind fun t149 => (if t145 = true then (if (t149 == t146) = true then ((attr_Shown.f a0).bind fun t150 => ((greenscreenref11_Shown.f a0).bind fun t151 => (if t150 = t151 then ((attr_Modified.f a0).bind fun t152 => ((greenscreenref11_Bit.f a0 1).bind fun t153 => (if (t152 == t153) = true then ((attr_Modify.f a0 a2).bind fun t154 => ((greenscreenref11_Modify.f a0 a2).bind fun t155 => (if t154 = t155 then ((attr_Byte.f a0).bind fun t156 => ((greenscreenref02_Digit.f (wrap64 (Int.tmod a0 64))).bind fun t157 => (if t156 = t157 then ((attr_Same.f a0 a1).bind fun t158 => (if (t158 == ((Int.tmod a0 64) == (Int.tmod a1 64))) = true then ((attr_Text.f k a0).bind fun t159 => ((greenscreenref11_Text.f k a0).bind fun t160 => (some (t159.toList == t160.toList)))) else (some false))) else (some false)))) else (some false)))) else (some false)))) else (some false)))) else (some false)) else (if (t149 == false) = true then ((attr_Shown.f a0).bind fun t161 => ((greenscreenref11_Shown.f a0).bind fun t162 => (if t161 = t162 then ((attr_Modified.f a0).bind fun t163 => ((greenscreenref11_Bit.f a0 1).bind fun t164 => (if (t163 == t164) = true then ((attr_Modify.f a0 a2).bind fun t165 => ((greenscreenref11_Modify.f a0 a2).bind fun t166 => (if t165 = t166 then ((attr_Byte.f a0).bind fun t167 => ((greenscreenref02_Digit.f (wrap64 (Int.tmod a0 64))).bind fun t168 => (if t167 = t168 then ((attr_Same.f a0 a1).bind fun t169 => (if (t169 == ((Int.tmod a0 64) == (Int.tmod a1 64))) = true then ((attr_Text.f k a0).bind fun t170 => ((greenscreenref11_Text.f k a0).bind fun t171 => (some (t170.toList == t171.toList)))) else (some false))) else (some false)))) else (some false)))) else (some false)))) else (some false)))) else (some false)))) else (some false))) else (some false)))) = some r := H
    have A6 := Aside0.mk A60
    clear A60
    replace H := Option.bind_eq_some_iff.mp H
    obtain ⟨t146, A70, H⟩ := H
    replace H : ((attr_Protected.f a0).bind fun t147 => (if (t147 == t145) = true then ((attr_Numeric.f a0).bind fun t148 => (if (t148 == t146) = true then ((attr_Skip.f a0).bind fun t149 => (if t145 = true then (if (t149 == t146) = true then ((attr_Shown.f a0).bind fun t150 => ((greenscreenref11_Shown.f a0).bind fun t151 => (if t150 = t151 then ((attr_Modified.f a0).bind fun t152 => ((greenscreenref11_Bit.f a0 1).bind fun t153 => (if (t152 == t153) = true then ((attr_Modify.f a0 a2).bind fun t154 => ((greenscreenref11_Modify.f a0 a2).bind fun t155 => (if t154 = t155 then ((attr_Byte.f a0).bind fun t156 => ((greenscreenref02_Digit.f (wrap64 (Int.tmod a0 64))).bind fun t157 => (if t156 = t157 then ((attr_Same.f a0 a1).bind fun t158 => (if (t158 == ((Int.tmod a0 64) == (Int.tmod a1 64))) = true then ((attr_Text.f k a0).bind fun t159 => ((greenscreenref11_Text.f k a0).bind fun t160 => (some (t159.toList == t160.toList)))) else (some false))) else (some false)))) else (some false)))) else (some false)))) else (some false)))) else (some false)) else (if (t149 == false) = true then ((attr_Shown.f a0).bind fun t161 => ((greenscreenref11_Shown.f a0).bind fun t162 => (if t161 = t162 then ((attr_Modified.f a0).bind fun t163 => ((greenscreenref11_Bit.f a0 1).bind fun t164 => (if (t163 == t164) = true then ((attr_Modify.f a0 a2).bind fun t165 => ((greenscreenref11_Modify.f a0 a2).bind fun t166 => (if t165 = t166 then ((attr_Byte.f a0).bind fun t167 => ((greenscreenref02_Digit.f (wrap64 (Int.tmod a0 64))).bind fun t168 => (if t167 = t168 then ((attr_Same.f a0 a1).bind fun t169 => (if (t169 == ((Int.tmod a0 64) == (Int.tmod a1 64))) = true then ((attr_Text.f k a0).bind fun t170 => ((greenscreenref11_Text.f k a0).bind fun t171 => (some (t170.toList == t171.toList)))) else (some false))) else (some false)))) else (some false)))) else (some false)))) else (some false)))) else (some false)))) else (some false))) else (some false))) = some r := H
    have A7 := Aside0.mk A70
    clear A70
    replace H := Option.bind_eq_some_iff.mp H
    obtain ⟨t147, A80, H⟩ := H
    replace H : (if (t147 == t145) = true then ((attr_Numeric.f a0).bind fun t148 => (if (t148 == t146) = true then ((attr_Skip.f a0).bind fun t149 => (if t145 = true then (if (t149 == t146) = true then ((attr_Shown.f a0).bind fun t150 => ((greenscreenref11_Shown.f a0).bind fun t151 => (if t150 = t151 then ((attr_Modified.f a0).bind fun t152 => ((greenscreenref11_Bit.f a0 1).bind fun t153 => (if (t152 == t153) = true then ((attr_Modify.f a0 a2).bind fun t154 => ((greenscreenref11_Modify.f a0 a2).bind fun t155 => (if t154 = t155 then ((attr_Byte.f a0).bind fun t156 => ((greenscreenref02_Digit.f (wrap64 (Int.tmod a0 64))).bind fun t157 => (if t156 = t157 then ((attr_Same.f a0 a1).bind fun t158 => (if (t158 == ((Int.tmod a0 64) == (Int.tmod a1 64))) = true then ((attr_Text.f k a0).bind fun t159 => ((greenscreenref11_Text.f k a0).bind fun t160 => (some (t159.toList == t160.toList)))) else (some false))) else (some false)))) else (some false)))) else (some false)))) else (some false)))) else (some false)) else (if (t149 == false) = true then ((attr_Shown.f a0).bind fun t161 => ((greenscreenref11_Shown.f a0).bind fun t162 => (if t161 = t162 then ((attr_Modified.f a0).bind fun t163 => ((greenscreenref11_Bit.f a0 1).bind fun t164 => (if (t163 == t164) = true then ((attr_Modify.f a0 a2).bind fun t165 => ((greenscreenref11_Modify.f a0 a2).bind fun t166 => (if t165 = t166 then ((attr_Byte.f a0).bind fun t167 => ((greenscreenref02_Digit.f (wrap64 (Int.tmod a0 64))).bind fun t168 => (if t167 = t168 then ((attr_Same.f a0 a1).bind fun t169 => (if (t169 == ((Int.tmod a0 64) == (Int.tmod a1 64))) = true then ((attr_Text.f k a0).bind fun t170 => ((greenscreenref11_Text.f k a0).bind fun t171 => (some (t170.toList == t171.toList)))) else (some false))) else (some false)))) else (some false)))) else (some false)))) else (some false)))) else (some false)))) else (some false))) else (some false)) = some r := H
    have A8 := Aside0.mk A80
    clear A80
    by_cases c9 : (t147 == t145) = true
    · rw [if_pos c9] at H
      have c9b0 : (t147 == t145) = true := c9
      (try (have c9b1 : decide (t147 = t145) = true := by simpa using c9))
      (try (have c9b2 : (t147 == t145) = true := by simpa using c9))
      clear c9
      replace H := Option.bind_eq_some_iff.mp H
      obtain ⟨t148, A100, H⟩ := H
      replace H : (if (t148 == t146) = true then ((attr_Skip.f a0).bind fun t149 => (if t145 = true then (if (t149 == t146) = true then ((attr_Shown.f a0).bind fun t150 => ((greenscreenref11_Shown.f a0).bind fun t151 => (if t150 = t151 then ((attr_Modified.f a0).bind fun t152 => ((greenscreenref11_Bit.f a0 1).bind fun t153 => (if (t152 == t153) = true then ((attr_Modify.f a0 a2).bind fun t154 => ((greenscreenref11_Modify.f a0 a2).bind fun t155 => (if t154 = t155 then ((attr_Byte.f a0).bind fun t156 => ((greenscreenref02_Digit.f (wrap64 (Int.tmod a0 64))).bind fun t157 => (if t156 = t157 then ((attr_Same.f a0 a1).bind fun t158 => (if (t158 == ((Int.tmod a0 64) == (Int.tmod a1 64))) = true then ((attr_Text.f k a0).bind fun t159 => ((greenscreenref11_Text.f k a0).bind fun t160 => (some (t159.toList == t160.toList)))) else (some false))) else (some false)))) else (some false)))) else (some false)))) else (some false)))) else (some false)) else (if (t149 == false) = true then ((attr_Shown.f a0).bind fun t161 => ((greenscreenref11_Shown.f a0).bind fun t162 => (if t161 = t162 then ((attr_Modified.f a0).bind fun t163 => ((greenscreenref11_Bit.f a0 1).bind fun t164 => (if (t163 == t164) = true then ((attr_Modify.f a0 a2).bind fun t165 => ((greenscreenref11_Modify.f a0 a2).bind fun t166 => (if t165 = t166 then ((attr_Byte.f a0).bind fun t167 => ((greenscreenref02_Digit.f (wrap64 (Int.tmod a0 64))).bind fun t168 => (if t167 = t168 then ((attr_Same.f a0 a1).bind fun t169 => (if (t169 == ((Int.tmod a0 64) == (Int.tmod a1 64))) = true then ((attr_Text.f k a0).bind fun t170 => ((greenscreenref11_Text.f k a0).bind fun t171 => (some (t170.toList == t171.toList)))) else (some false))) else (some false)))) else (some false)))) else (some false)))) else (some false)))) else (some false)))) else (some false)) = some r := H
      have A10 := Aside0.mk A100
      clear A100
      by_cases c11 : (t148 == t146) = true
      · rw [if_pos c11] at H
        have c11b0 : (t148 == t146) = true := c11
        (try (have c11b1 : decide (t148 = t146) = true := by simpa using c11))
        (try (have c11b2 : (t148 == t146) = true := by simpa using c11))
        clear c11
        replace H := Option.bind_eq_some_iff.mp H
        obtain ⟨t149, A120, H⟩ := H
        replace H : (if t145 = true then (if (t149 == t146) = true then ((attr_Shown.f a0).bind fun t150 => ((greenscreenref11_Shown.f a0).bind fun t151 => (if t150 = t151 then ((attr_Modified.f a0).bind fun t152 => ((greenscreenref11_Bit.f a0 1).bind fun t153 => (if (t152 == t153) = true then ((attr_Modify.f a0 a2).bind fun t154 => ((greenscreenref11_Modify.f a0 a2).bind fun t155 => (if t154 = t155 then ((attr_Byte.f a0).bind fun t156 => ((greenscreenref02_Digit.f (wrap64 (Int.tmod a0 64))).bind fun t157 => (if t156 = t157 then ((attr_Same.f a0 a1).bind fun t158 => (if (t158 == ((Int.tmod a0 64) == (Int.tmod a1 64))) = true then ((attr_Text.f k a0).bind fun t159 => ((greenscreenref11_Text.f k a0).bind fun t160 => (some (t159.toList == t160.toList)))) else (some false))) else (some false)))) else (some false)))) else (some false)))) else (some false)))) else (some false)) else (if (t149 == false) = true then ((attr_Shown.f a0).bind fun t161 => ((greenscreenref11_Shown.f a0).bind fun t162 => (if t161 = t162 then ((attr_Modified.f a0).bind fun t163 => ((greenscreenref11_Bit.f a0 1).bind fun t164 => (if (t163 == t164) = true then ((attr_Modify.f a0 a2).bind fun t165 => ((greenscreenref11_Modify.f a0 a2).bind fun t166 => (if t165 = t166 then ((attr_Byte.f a0).bind fun t167 => ((greenscreenref02_Digit.f (wrap64 (Int.tmod a0 64))).bind fun t168 => (if t167 = t168 then ((attr_Same.f a0 a1).bind fun t169 => (if (t169 == ((Int.tmod a0 64) == (Int.tmod a1 64))) = true then ((attr_Text.f k a0).bind fun t170 => ((greenscreenref11_Text.f k a0).bind fun t171 => (some (t170.toList == t171.toList)))) else (some false))) else (some false)))) else (some false)))) else (some false)))) else (some false)))) else (some false))) = some r := H
        have A12 := Aside0.mk A120
        clear A120
        by_cases c13 : t145 = true
        · subst c13
          have H1 : (if (t149 == t146) = true then ((attr_Shown.f a0).bind fun t150 => ((greenscreenref11_Shown.f a0).bind fun t151 => (if t150 = t151 then ((attr_Modified.f a0).bind fun t152 => ((greenscreenref11_Bit.f a0 1).bind fun t153 => (if (t152 == t153) = true then ((attr_Modify.f a0 a2).bind fun t154 => ((greenscreenref11_Modify.f a0 a2).bind fun t155 => (if t154 = t155 then ((attr_Byte.f a0).bind fun t156 => ((greenscreenref02_Digit.f (wrap64 (Int.tmod a0 64))).bind fun t157 => (if t156 = t157 then ((attr_Same.f a0 a1).bind fun t158 => (if (t158 == ((Int.tmod a0 64) == (Int.tmod a1 64))) = true then ((attr_Text.f k a0).bind fun t159 => ((greenscreenref11_Text.f k a0).bind fun t160 => (some (t159.toList == t160.toList)))) else (some false))) else (some false)))) else (some false)))) else (some false)))) else (some false)))) else (some false)) = some r := by rw [if_pos rfl] at H; exact H
          clear H
          have H := H1
          clear H1
          by_cases c14 : (t149 == t146) = true
          · rw [if_pos c14] at H
            have c14b0 : (t149 == t146) = true := c14
            (try (have c14b1 : decide (t149 = t146) = true := by simpa using c14))
            (try (have c14b2 : (t149 == t146) = true := by simpa using c14))
            clear c14
            replace H := Option.bind_eq_some_iff.mp H
            obtain ⟨t150, A150, H⟩ := H
            replace H : ((greenscreenref11_Shown.f a0).bind fun t151 => (if t150 = t151 then ((attr_Modified.f a0).bind fun t152 => ((greenscreenref11_Bit.f a0 1).bind fun t153 => (if (t152 == t153) = true then ((attr_Modify.f a0 a2).bind fun t154 => ((greenscreenref11_Modify.f a0 a2).bind fun t155 => (if t154 = t155 then ((attr_Byte.f a0).bind fun t156 => ((greenscreenref02_Digit.f (wrap64 (Int.tmod a0 64))).bind fun t157 => (if t156 = t157 then ((attr_Same.f a0 a1).bind fun t158 => (if (t158 == ((Int.tmod a0 64) == (Int.tmod a1 64))) = true then ((attr_Text.f k a0).bind fun t159 => ((greenscreenref11_Text.f k a0).bind fun t160 => (some (t159.toList == t160.toList)))) else (some false))) else (some false)))) else (some false)))) else (some false)))) else (some false))) = some r := H
            have A15 := Aside0.mk A150
            clear A150
            replace H := Option.bind_eq_some_iff.mp H
            obtain ⟨t151, A160, H⟩ := H
            replace H : (if t150 = t151 then ((attr_Modified.f a0).bind fun t152 => ((greenscreenref11_Bit.f a0 1).bind fun t153 => (if (t152 == t153) = true then ((attr_Modify.f a0 a2).bind fun t154 => ((greenscreenref11_Modify.f a0 a2).bind fun t155 => (if t154 = t155 then ((attr_Byte.f a0).bind fun t156 => ((greenscreenref02_Digit.f (wrap64 (Int.tmod a0 64))).bind fun t157 => (if t156 = t157 then ((attr_Same.f a0 a1).bind fun t158 => (if (t158 == ((Int.tmod a0 64) == (Int.tmod a1 64))) = true then ((attr_Text.f k a0).bind fun t159 => ((greenscreenref11_Text.f k a0).bind fun t160 => (some (t159.toList == t160.toList)))) else (some false))) else (some false)))) else (some false)))) else (some false)))) else (some false)) = some r := H
            have A16 := Aside0.mk A160
            clear A160
            by_cases c17 : t150 = t151
            · rw [if_pos c17] at H
              have c17b0 : (t150 == t151) = true := beq_iff_eq.mpr c17
              have c17b1 : (t150 != t151) = false := bne_eq_false_iff_eq.mpr c17
              clear c17
              replace H := Option.bind_eq_some_iff.mp H
              obtain ⟨t152, A180, H⟩ := H
              replace H : ((greenscreenref11_Bit.f a0 1).bind fun t153 => (if (t152 == t153) = true then ((attr_Modify.f a0 a2).bind fun t154 => ((greenscreenref11_Modify.f a0 a2).bind fun t155 => (if t154 = t155 then ((attr_Byte.f a0).bind fun t156 => ((greenscreenref02_Digit.f (wrap64 (Int.tmod a0 64))).bind fun t157 => (if t156 = t157 then ((attr_Same.f a0 a1).bind fun t158 => (if (t158 == ((Int.tmod a0 64) == (Int.tmod a1 64))) = true then ((attr_Text.f k a0).bind fun t159 => ((greenscreenref11_Text.f k a0).bind fun t160 => (some (t159.toList == t160.toList)))) else (some false))) else (some false)))) else (some false)))) else (some false))) = some r := H
              have A18 := Aside0.mk A180
              clear A180
              replace H := Option.bind_eq_some_iff.mp H
              obtain ⟨t153, A190, H⟩ := H
              replace H : (if (t152 == t153) = true then ((attr_Modify.f a0 a2).bind fun t154 => ((greenscreenref11_Modify.f a0 a2).bind fun t155 => (if t154 = t155 then ((attr_Byte.f a0).bind fun t156 => ((greenscreenref02_Digit.f (wrap64 (Int.tmod a0 64))).bind fun t157 => (if t156 = t157 then ((attr_Same.f a0 a1).bind fun t158 => (if (t158 == ((Int.tmod a0 64) == (Int.tmod a1 64))) = true then ((attr_Text.f k a0).bind fun t159 => ((greenscreenref11_Text.f k a0).bind fun t160 => (some (t159.toList == t160.toList)))) else (some false))) else (some false)))) else (some false)))) else (some false)) = some r := H
              have A19 := Aside0.mk A190
              clear A190
              by_cases c20 : (t152 == t153) = true
              · rw [if_pos c20] at H
                have c20b0 : (t152 == t153) = true := c20
                (try (have c20b1 : decide (t152 = t153) = true := by simpa using c20))
                (try (have c20b2 : (t152 == t153) = true := by simpa using c20))
                clear c20
                replace H := Option.bind_eq_some_iff.mp H
                obtain ⟨t154, A210, H⟩ := H
                replace H : ((greenscreenref11_Modify.f a0 a2).bind fun t155 => (if t154 = t155 then ((attr_Byte.f a0).bind fun t156 => ((greenscreenref02_Digit.f (wrap64 (Int.tmod a0 64))).bind fun t157 => (if t156 = t157 then ((attr_Same.f a0 a1).bind fun t158 => (if (t158 == ((Int.tmod a0 64) == (Int.tmod a1 64))) = true then ((attr_Text.f k a0).bind fun t159 => ((greenscreenref11_Text.f k a0).bind fun t160 => (some (t159.toList == t160.toList)))) else (some false))) else (some false)))) else (some false))) = some r := H
                have A21 := Aside0.mk A210
                clear A210
                replace H := Option.bind_eq_some_iff.mp H
                obtain ⟨t155, A220, H⟩ := H
                replace H : (if t154 = t155 then ((attr_Byte.f a0).bind fun t156 => ((greenscreenref02_Digit.f (wrap64 (Int.tmod a0 64))).bind fun t157 => (if t156 = t157 then ((attr_Same.f a0 a1).bind fun t158 => (if (t158 == ((Int.tmod a0 64) == (Int.tmod a1 64))) = true then ((attr_Text.f k a0).bind fun t159 => ((greenscreenref11_Text.f k a0).bind fun t160 => (some (t159.toList == t160.toList)))) else (some false))) else (some false)))) else (some false)) = some r := H
                have A22 := Aside0.mk A220
                clear A220
                by_cases c23 : t154 = t155
                · rw [if_pos c23] at H
                  have c23b0 : (t154 == t155) = true := beq_iff_eq.mpr c23
                  have c23b1 : (t154 != t155) = false := bne_eq_false_iff_eq.mpr c23
                  clear c23
                  replace H := Option.bind_eq_some_iff.mp H
                  obtain ⟨t156, A240, H⟩ := H
                  replace H : ((greenscreenref02_Digit.f (wrap64 (Int.tmod a0 64))).bind fun t157 => (if t156 = t157 then ((attr_Same.f a0 a1).bind fun t158 => (if (t158 == ((Int.tmod a0 64) == (Int.tmod a1 64))) = true then ((attr_Text.f k a0).bind fun t159 => ((greenscreenref11_Text.f k a0).bind fun t160 => (some (t159.toList == t160.toList)))) else (some false))) else (some false))) = some r := H
                  have A24 := Aside0.mk A240
                  clear A240
                  replace H := Option.bind_eq_some_iff.mp H
                  obtain ⟨t157, A250, H⟩ := H
                  replace H : (if t156 = t157 then ((attr_Same.f a0 a1).bind fun t158 => (if (t158 == ((Int.tmod a0 64) == (Int.tmod a1 64))) = true then ((attr_Text.f k a0).bind fun t159 => ((greenscreenref11_Text.f k a0).bind fun t160 => (some (t159.toList == t160.toList)))) else (some false))) else (some false)) = some r := H
                  have A25 := Aside0.mk A250
                  clear A250
                  by_cases c26 : t156 = t157
                  · rw [if_pos c26] at H
                    have c26b0 : (t156 == t157) = true := beq_iff_eq.mpr c26
                    have c26b1 : (t156 != t157) = false := bne_eq_false_iff_eq.mpr c26
                    clear c26
                    replace H := Option.bind_eq_some_iff.mp H
                    obtain ⟨t158, A270, H⟩ := H
                    replace H : (if (t158 == ((Int.tmod a0 64) == (Int.tmod a1 64))) = true then ((attr_Text.f k a0).bind fun t159 => ((greenscreenref11_Text.f k a0).bind fun t160 => (some (t159.toList == t160.toList)))) else (some false)) = some r := H
                    have A27 := Aside0.mk A270
                    clear A270
                    by_cases c28 : (t158 == ((Int.tmod a0 64) == (Int.tmod a1 64))) = true
                    · rw [if_pos c28] at H
                      have c28b0 : (t158 == ((Int.tmod a0 64) == (Int.tmod a1 64))) = true := c28
                      (try (have c28e0 : (t158 = ((Int.tmod a0 64) == (Int.tmod a1 64))) = True := by (have he_ := c28b0; revert he_; cases (t158) <;> cases (((Int.tmod a0 64) == (Int.tmod a1 64))) <;> simp)))
                      (try (have c28e1 : (t158 == ((Int.tmod a0 64) == (Int.tmod a1 64))) = true := by (have he_ := c28b0; revert he_; cases (t158) <;> cases (((Int.tmod a0 64) == (Int.tmod a1 64))) <;> simp)))
                      (try (have c28b1 : decide (t158 = ((Int.tmod a0 64) == (Int.tmod a1 64))) = true := by simpa using c28))
                      (try (have c28b2 : (t158 == ((Int.tmod a0 64) == (Int.tmod a1 64))) = true := by simpa using c28))
                      clear c28
                      replace H := Option.bind_eq_some_iff.mp H
                      obtain ⟨t159, A290, H⟩ := H
                      replace H : ((greenscreenref11_Text.f k a0).bind fun t160 => (some (t159.toList == t160.toList))) = some r := H
                      have A29 := Aside0.mk A290
                      clear A290
                      replace H := Option.bind_eq_some_iff.mp H
                      obtain ⟨t160, A300, H⟩ := H
                      replace H : (some (t159.toList == t160.toList)) = some r := H
                      have A30 := Aside0.mk A300
                      clear A300
                      obtain rfl := Option.some.inj H
                      go_enter Try.func3, Try.ntmps3
                      go_wp2_with (first | ((with_reducible refine gate_callee (f := 7) rfl ?_); refine goesL_ (some 9) rfl rfl Try.func7 (by kernel_rfl) rfl #[] rfl (by (try simp only [List.map_toArray, List.map_cons, List.map_nil]); first | done | rfl | (simp only [List.length_drop, List.length_take]; rfl)) ?_; (with_reducible refine (greenscreenlaw11_alive.calls k  true rfl _ A4.out).mono ?_); rintro e w31 ⟨rfl, hb⟩; refine ⟨_, rfl, ?_⟩; have n0_ := Aside0.mk (below_step (by repeat (first | (with_reducible first | exact HB.out | apply below_alloc | apply pw_below_drewN | apply below_drew1) | exact HB.out)) hb); clear HB; have HB := n0_; clear n0_; (try clear hb); (try clear hb2); (try clear hk); (try clear hi)) | ((with_reducible refine gate_callee (f := 8) rfl ?_); refine goesL_ (some 12) rfl rfl Try.func8 (by kernel_rfl) rfl #[.int .u8 a0, .int .i64 32] rfl (by (try simp only [List.map_toArray, List.map_cons, List.map_nil]); first | done | rfl | (simp only [List.length_drop, List.length_take]; rfl)) ?_; (with_reducible refine (greenscreenref11_Bit.calls a0 32 true _ A6.out).mono ?_); rintro e w' ⟨rfl, ⟨nd, rfl⟩⟩; refine ⟨_, rfl, ?_⟩) | ((with_reducible refine gate_callee (f := 8) rfl ?_); refine goesL_ (some 14) rfl rfl Try.func8 (by kernel_rfl) rfl #[.int .u8 a0, .int .i64 16] rfl (by (try simp only [List.map_toArray, List.map_cons, List.map_nil]); first | done | rfl | (simp only [List.length_drop, List.length_take]; rfl)) ?_; (with_reducible refine (greenscreenref11_Bit.calls a0 16 t146 _ A7.out).mono ?_); rintro e w' ⟨rfl, ⟨nd, rfl⟩⟩; refine ⟨_, rfl, ?_⟩) | ((with_reducible refine gate_callee (f := 9) rfl ?_); refine goesL_ (some 16) rfl rfl Try.func9 (by kernel_rfl) rfl #[.int .u8 a0] rfl (by (try simp only [List.map_toArray, List.map_cons, List.map_nil]); first | done | rfl | (simp only [List.length_drop, List.length_take]; rfl)) ?_; (with_reducible refine (attr_Protected.calls a0 t147 _ A8.out).mono ?_); rintro e w' ⟨rfl, ⟨nd, rfl⟩⟩; refine ⟨_, rfl, ?_⟩) | (go_at_call 10; (with_reducible refine (attr_Numeric.calls a0 t148 _ A10.out).mono ?_); rintro e w' ⟨rfl, ⟨nd, rfl⟩⟩) | (go_at_call 11; (with_reducible refine (attr_Skip.calls a0 t149 _ A12.out).mono ?_); rintro e w' ⟨rfl, ⟨nd, rfl⟩⟩) | (go_at_call 12; (with_reducible refine (attr_Shown.calls a0 t150 _ A15.out).mono ?_); rintro e w' ⟨rfl, ⟨nd, rfl⟩⟩) | (go_at_call 13; (with_reducible refine (greenscreenref11_Shown.calls a0 t151 _ A16.out).mono ?_); rintro e w' ⟨rfl, ⟨nd, rfl⟩⟩) | (go_at_call 14; (with_reducible refine (attr_Modified.calls a0 t152 _ A18.out).mono ?_); rintro e w' ⟨rfl, ⟨nd, rfl⟩⟩) | (go_at_call 8; (with_reducible refine (greenscreenref11_Bit.calls a0 1 t153 _ A19.out).mono ?_); rintro e w' ⟨rfl, ⟨nd, rfl⟩⟩) | (go_at_call 15; (with_reducible refine (attr_Modify.calls a0 a2 t154 _ A21.out).mono ?_); rintro e w' ⟨rfl, ⟨nd, rfl⟩⟩) | (go_at_call 16; (with_reducible refine (greenscreenref11_Modify.calls a0 a2 t155 _ A22.out).mono ?_); rintro e w' ⟨rfl, ⟨nd, rfl⟩⟩) | (go_at_call 17; (with_reducible refine (attr_Byte.calls a0 t156 _ A24.out).mono ?_); rintro e w' ⟨rfl, ⟨nd, rfl⟩⟩) | (go_at_call 18; (with_reducible refine (greenscreenref02_Digit.calls (wrap64 (Int.tmod a0 64)) t157 _ A25.out).mono ?_); rintro e w' ⟨rfl, ⟨nd, rfl⟩⟩) | (go_at_call 19; (with_reducible refine (attr_Same.calls a0 a1 t158 _ A27.out).mono ?_); rintro e w' ⟨rfl, ⟨nd, rfl⟩⟩) | (go_at_call 20; (with_reducible refine (attr_Text.calls k a0 t159 _ A29.out).mono ?_); rintro e w' ⟨rfl, ⟨nd, rfl⟩⟩) | (go_at_call 21; (with_reducible refine (greenscreenref11_Text.calls k a0 t160 _ A30.out).mono ?_); rintro e w32 ⟨rfl, hb⟩; have n0_ := Aside0.mk (below_step (by repeat (first | (with_reducible first | exact HB.out | apply below_alloc | apply pw_below_drewN | apply below_drew1) | exact HB.out)) hb); clear HB; have HB := n0_; clear n0_; (try clear hb); (try clear hb2); (try clear hk); (try clear hi)) | (go_at_call 8; (with_reducible refine (greenscreenref11_Bit.calls a0 32 true _ A6.out).mono ?_); rintro e w' ⟨rfl, ⟨nd, rfl⟩⟩) | (go_at_call 8; (with_reducible refine (greenscreenref11_Bit.calls a0 16 t146 _ A7.out).mono ?_); rintro e w' ⟨rfl, ⟨nd, rfl⟩⟩) | (go_at_call 9; (with_reducible refine (attr_Protected.calls a0 t147 _ A8.out).mono ?_); rintro e w' ⟨rfl, ⟨nd, rfl⟩⟩))
                      go_ret
                      exact ⟨by first | rfl | (simp [errW_none, errW_some] <;> rfl) | (simp [*, errW_none, errW_some] <;> rfl), by repeat (first | (with_reducible first | exact HB.out | apply below_alloc | apply pw_below_drewN | apply below_drew1) | exact HB.out)⟩
                    · rw [if_neg c28] at H
                      have c28b0 : (t158 == ((Int.tmod a0 64) == (Int.tmod a1 64))) = false := by simpa using c28
                      (try (have c28e0 : (t158 = ((Int.tmod a0 64) == (Int.tmod a1 64))) = False := by (have he_ := c28b0; revert he_; cases (t158) <;> cases (((Int.tmod a0 64) == (Int.tmod a1 64))) <;> simp)))
                      (try (have c28e1 : (t158 == ((Int.tmod a0 64) == (Int.tmod a1 64))) = false := by (have he_ := c28b0; revert he_; cases (t158) <;> cases (((Int.tmod a0 64) == (Int.tmod a1 64))) <;> simp)))
                      (try (have c28b1 : decide (t158 = ((Int.tmod a0 64) == (Int.tmod a1 64))) = false := by simpa using c28))
                      (try (have c28b2 : (t158 == ((Int.tmod a0 64) == (Int.tmod a1 64))) = false := by simpa using c28))
                      (try (have c28b3 : ¬ (t158 = ((Int.tmod a0 64) == (Int.tmod a1 64))) := by simpa using c28))
                      clear c28
                      obtain rfl := Option.some.inj H
                      exact absurd hr_ (by decide)
                  · rw [if_neg c26] at H
                    have c26b0 : (t156 == t157) = false := beq_eq_false_iff_ne.mpr c26
                    have c26b1 : (t156 != t157) = true := bne_iff_ne.mpr c26
                    obtain rfl := Option.some.inj H
                    exact absurd hr_ (by decide)
                · rw [if_neg c23] at H
                  have c23b0 : (t154 == t155) = false := beq_eq_false_iff_ne.mpr c23
                  have c23b1 : (t154 != t155) = true := bne_iff_ne.mpr c23
                  obtain rfl := Option.some.inj H
                  exact absurd hr_ (by decide)
              · rw [if_neg c20] at H
                have c20b0 : (t152 == t153) = false := by simpa using c20
                (try (have c20b1 : decide (t152 = t153) = false := by simpa using c20))
                (try (have c20b2 : (t152 == t153) = false := by simpa using c20))
                (try (have c20b3 : ¬ (t152 = t153) := by simpa using c20))
                clear c20
                obtain rfl := Option.some.inj H
                exact absurd hr_ (by decide)
            · rw [if_neg c17] at H
              have c17b0 : (t150 == t151) = false := beq_eq_false_iff_ne.mpr c17
              have c17b1 : (t150 != t151) = true := bne_iff_ne.mpr c17
              obtain rfl := Option.some.inj H
              exact absurd hr_ (by decide)
          · rw [if_neg c14] at H
            have c14b0 : (t149 == t146) = false := by simpa using c14
            (try (have c14b1 : decide (t149 = t146) = false := by simpa using c14))
            (try (have c14b2 : (t149 == t146) = false := by simpa using c14))
            (try (have c14b3 : ¬ (t149 = t146) := by simpa using c14))
            clear c14
            obtain rfl := Option.some.inj H
            exact absurd hr_ (by decide)
        · replace c13 := Bool.eq_false_iff.mpr c13
          subst c13
          have H1 : (if (t149 == false) = true then ((attr_Shown.f a0).bind fun t161 => ((greenscreenref11_Shown.f a0).bind fun t162 => (if t161 = t162 then ((attr_Modified.f a0).bind fun t163 => ((greenscreenref11_Bit.f a0 1).bind fun t164 => (if (t163 == t164) = true then ((attr_Modify.f a0 a2).bind fun t165 => ((greenscreenref11_Modify.f a0 a2).bind fun t166 => (if t165 = t166 then ((attr_Byte.f a0).bind fun t167 => ((greenscreenref02_Digit.f (wrap64 (Int.tmod a0 64))).bind fun t168 => (if t167 = t168 then ((attr_Same.f a0 a1).bind fun t169 => (if (t169 == ((Int.tmod a0 64) == (Int.tmod a1 64))) = true then ((attr_Text.f k a0).bind fun t170 => ((greenscreenref11_Text.f k a0).bind fun t171 => (some (t170.toList == t171.toList)))) else (some false))) else (some false)))) else (some false)))) else (some false)))) else (some false)))) else (some false)) = some r := by rw [if_neg (show ¬ (false = true) by decide)] at H; exact H
          clear H
          have H := H1
          clear H1
          by_cases c39 : (t149 == false) = true
          · rw [if_pos c39] at H
            have c39b0 : (t149 == false) = true := c39
            (try (have c39b1 : decide (t149 = false) = true := by simpa using c39))
            (try (have c39b2 : (t149 == false) = true := by simpa using c39))
            clear c39
            replace H := Option.bind_eq_some_iff.mp H
            obtain ⟨t161, A400, H⟩ := H
            replace H : ((greenscreenref11_Shown.f a0).bind fun t162 => (if t161 = t162 then ((attr_Modified.f a0).bind fun t163 => ((greenscreenref11_Bit.f a0 1).bind fun t164 => (if (t163 == t164) = true then ((attr_Modify.f a0 a2).bind fun t165 => ((greenscreenref11_Modify.f a0 a2).bind fun t166 => (if t165 = t166 then ((attr_Byte.f a0).bind fun t167 => ((greenscreenref02_Digit.f (wrap64 (Int.tmod a0 64))).bind fun t168 => (if t167 = t168 then ((attr_Same.f a0 a1).bind fun t169 => (if (t169 == ((Int.tmod a0 64) == (Int.tmod a1 64))) = true then ((attr_Text.f k a0).bind fun t170 => ((greenscreenref11_Text.f k a0).bind fun t171 => (some (t170.toList == t171.toList)))) else (some false))) else (some false)))) else (some false)))) else (some false)))) else (some false))) = some r := H
            have A40 := Aside0.mk A400
            clear A400
            replace H := Option.bind_eq_some_iff.mp H
            obtain ⟨t162, A410, H⟩ := H
            replace H : (if t161 = t162 then ((attr_Modified.f a0).bind fun t163 => ((greenscreenref11_Bit.f a0 1).bind fun t164 => (if (t163 == t164) = true then ((attr_Modify.f a0 a2).bind fun t165 => ((greenscreenref11_Modify.f a0 a2).bind fun t166 => (if t165 = t166 then ((attr_Byte.f a0).bind fun t167 => ((greenscreenref02_Digit.f (wrap64 (Int.tmod a0 64))).bind fun t168 => (if t167 = t168 then ((attr_Same.f a0 a1).bind fun t169 => (if (t169 == ((Int.tmod a0 64) == (Int.tmod a1 64))) = true then ((attr_Text.f k a0).bind fun t170 => ((greenscreenref11_Text.f k a0).bind fun t171 => (some (t170.toList == t171.toList)))) else (some false))) else (some false)))) else (some false)))) else (some false)))) else (some false)) = some r := H
            have A41 := Aside0.mk A410
            clear A410
            by_cases c42 : t161 = t162
            · rw [if_pos c42] at H
              have c42b0 : (t161 == t162) = true := beq_iff_eq.mpr c42
              have c42b1 : (t161 != t162) = false := bne_eq_false_iff_eq.mpr c42
              clear c42
              replace H := Option.bind_eq_some_iff.mp H
              obtain ⟨t163, A430, H⟩ := H
              replace H : ((greenscreenref11_Bit.f a0 1).bind fun t164 => (if (t163 == t164) = true then ((attr_Modify.f a0 a2).bind fun t165 => ((greenscreenref11_Modify.f a0 a2).bind fun t166 => (if t165 = t166 then ((attr_Byte.f a0).bind fun t167 => ((greenscreenref02_Digit.f (wrap64 (Int.tmod a0 64))).bind fun t168 => (if t167 = t168 then ((attr_Same.f a0 a1).bind fun t169 => (if (t169 == ((Int.tmod a0 64) == (Int.tmod a1 64))) = true then ((attr_Text.f k a0).bind fun t170 => ((greenscreenref11_Text.f k a0).bind fun t171 => (some (t170.toList == t171.toList)))) else (some false))) else (some false)))) else (some false)))) else (some false))) = some r := H
              have A43 := Aside0.mk A430
              clear A430
              replace H := Option.bind_eq_some_iff.mp H
              obtain ⟨t164, A440, H⟩ := H
              replace H : (if (t163 == t164) = true then ((attr_Modify.f a0 a2).bind fun t165 => ((greenscreenref11_Modify.f a0 a2).bind fun t166 => (if t165 = t166 then ((attr_Byte.f a0).bind fun t167 => ((greenscreenref02_Digit.f (wrap64 (Int.tmod a0 64))).bind fun t168 => (if t167 = t168 then ((attr_Same.f a0 a1).bind fun t169 => (if (t169 == ((Int.tmod a0 64) == (Int.tmod a1 64))) = true then ((attr_Text.f k a0).bind fun t170 => ((greenscreenref11_Text.f k a0).bind fun t171 => (some (t170.toList == t171.toList)))) else (some false))) else (some false)))) else (some false)))) else (some false)) = some r := H
              have A44 := Aside0.mk A440
              clear A440
              by_cases c45 : (t163 == t164) = true
              · rw [if_pos c45] at H
                have c45b0 : (t163 == t164) = true := c45
                (try (have c45b1 : decide (t163 = t164) = true := by simpa using c45))
                (try (have c45b2 : (t163 == t164) = true := by simpa using c45))
                clear c45
                replace H := Option.bind_eq_some_iff.mp H
                obtain ⟨t165, A460, H⟩ := H
                replace H : ((greenscreenref11_Modify.f a0 a2).bind fun t166 => (if t165 = t166 then ((attr_Byte.f a0).bind fun t167 => ((greenscreenref02_Digit.f (wrap64 (Int.tmod a0 64))).bind fun t168 => (if t167 = t168 then ((attr_Same.f a0 a1).bind fun t169 => (if (t169 == ((Int.tmod a0 64) == (Int.tmod a1 64))) = true then ((attr_Text.f k a0).bind fun t170 => ((greenscreenref11_Text.f k a0).bind fun t171 => (some (t170.toList == t171.toList)))) else (some false))) else (some false)))) else (some false))) = some r := H
                have A46 := Aside0.mk A460
                clear A460
                replace H := Option.bind_eq_some_iff.mp H
                obtain ⟨t166, A470, H⟩ := H
                replace H : (if t165 = t166 then ((attr_Byte.f a0).bind fun t167 => ((greenscreenref02_Digit.f (wrap64 (Int.tmod a0 64))).bind fun t168 => (if t167 = t168 then ((attr_Same.f a0 a1).bind fun t169 => (if (t169 == ((Int.tmod a0 64) == (Int.tmod a1 64))) = true then ((attr_Text.f k a0).bind fun t170 => ((greenscreenref11_Text.f k a0).bind fun t171 => (some (t170.toList == t171.toList)))) else (some false))) else (some false)))) else (some false)) = some r := H
                have A47 := Aside0.mk A470
                clear A470
                by_cases c48 : t165 = t166
                · rw [if_pos c48] at H
                  have c48b0 : (t165 == t166) = true := beq_iff_eq.mpr c48
                  have c48b1 : (t165 != t166) = false := bne_eq_false_iff_eq.mpr c48
                  clear c48
                  replace H := Option.bind_eq_some_iff.mp H
                  obtain ⟨t167, A490, H⟩ := H
                  replace H : ((greenscreenref02_Digit.f (wrap64 (Int.tmod a0 64))).bind fun t168 => (if t167 = t168 then ((attr_Same.f a0 a1).bind fun t169 => (if (t169 == ((Int.tmod a0 64) == (Int.tmod a1 64))) = true then ((attr_Text.f k a0).bind fun t170 => ((greenscreenref11_Text.f k a0).bind fun t171 => (some (t170.toList == t171.toList)))) else (some false))) else (some false))) = some r := H
                  have A49 := Aside0.mk A490
                  clear A490
                  replace H := Option.bind_eq_some_iff.mp H
                  obtain ⟨t168, A500, H⟩ := H
                  replace H : (if t167 = t168 then ((attr_Same.f a0 a1).bind fun t169 => (if (t169 == ((Int.tmod a0 64) == (Int.tmod a1 64))) = true then ((attr_Text.f k a0).bind fun t170 => ((greenscreenref11_Text.f k a0).bind fun t171 => (some (t170.toList == t171.toList)))) else (some false))) else (some false)) = some r := H
                  have A50 := Aside0.mk A500
                  clear A500
                  by_cases c51 : t167 = t168
                  · rw [if_pos c51] at H
                    have c51b0 : (t167 == t168) = true := beq_iff_eq.mpr c51
                    have c51b1 : (t167 != t168) = false := bne_eq_false_iff_eq.mpr c51
                    clear c51
                    replace H := Option.bind_eq_some_iff.mp H
                    obtain ⟨t169, A520, H⟩ := H
                    replace H : (if (t169 == ((Int.tmod a0 64) == (Int.tmod a1 64))) = true then ((attr_Text.f k a0).bind fun t170 => ((greenscreenref11_Text.f k a0).bind fun t171 => (some (t170.toList == t171.toList)))) else (some false)) = some r := H
                    have A52 := Aside0.mk A520
                    clear A520
                    by_cases c53 : (t169 == ((Int.tmod a0 64) == (Int.tmod a1 64))) = true
                    · rw [if_pos c53] at H
                      have c53b0 : (t169 == ((Int.tmod a0 64) == (Int.tmod a1 64))) = true := c53
                      (try (have c53e0 : (t169 = ((Int.tmod a0 64) == (Int.tmod a1 64))) = True := by (have he_ := c53b0; revert he_; cases (t169) <;> cases (((Int.tmod a0 64) == (Int.tmod a1 64))) <;> simp)))
                      (try (have c53e1 : (t169 == ((Int.tmod a0 64) == (Int.tmod a1 64))) = true := by (have he_ := c53b0; revert he_; cases (t169) <;> cases (((Int.tmod a0 64) == (Int.tmod a1 64))) <;> simp)))
                      (try (have c53b1 : decide (t169 = ((Int.tmod a0 64) == (Int.tmod a1 64))) = true := by simpa using c53))
                      (try (have c53b2 : (t169 == ((Int.tmod a0 64) == (Int.tmod a1 64))) = true := by simpa using c53))
                      clear c53
                      replace H := Option.bind_eq_some_iff.mp H
                      obtain ⟨t170, A540, H⟩ := H
                      replace H : ((greenscreenref11_Text.f k a0).bind fun t171 => (some (t170.toList == t171.toList))) = some r := H
                      have A54 := Aside0.mk A540
                      clear A540
                      replace H := Option.bind_eq_some_iff.mp H
                      obtain ⟨t171, A550, H⟩ := H
                      replace H : (some (t170.toList == t171.toList)) = some r := H
                      have A55 := Aside0.mk A550
                      clear A550
                      obtain rfl := Option.some.inj H
                      go_enter Try.func3, Try.ntmps3
                      go_wp2_with (first | ((with_reducible refine gate_callee (f := 7) rfl ?_); refine goesL_ (some 9) rfl rfl Try.func7 (by kernel_rfl) rfl #[] rfl (by (try simp only [List.map_toArray, List.map_cons, List.map_nil]); first | done | rfl | (simp only [List.length_drop, List.length_take]; rfl)) ?_; (with_reducible refine (greenscreenlaw11_alive.calls k  true rfl _ A4.out).mono ?_); rintro e w56 ⟨rfl, hb⟩; refine ⟨_, rfl, ?_⟩; have n0_ := Aside0.mk (below_step (by repeat (first | (with_reducible first | exact HB.out | apply below_alloc | apply pw_below_drewN | apply below_drew1) | exact HB.out)) hb); clear HB; have HB := n0_; clear n0_; (try clear hb); (try clear hb2); (try clear hk); (try clear hi)) | ((with_reducible refine gate_callee (f := 8) rfl ?_); refine goesL_ (some 12) rfl rfl Try.func8 (by kernel_rfl) rfl #[.int .u8 a0, .int .i64 32] rfl (by (try simp only [List.map_toArray, List.map_cons, List.map_nil]); first | done | rfl | (simp only [List.length_drop, List.length_take]; rfl)) ?_; (with_reducible refine (greenscreenref11_Bit.calls a0 32 false _ A6.out).mono ?_); rintro e w' ⟨rfl, ⟨nd, rfl⟩⟩; refine ⟨_, rfl, ?_⟩) | ((with_reducible refine gate_callee (f := 8) rfl ?_); refine goesL_ (some 14) rfl rfl Try.func8 (by kernel_rfl) rfl #[.int .u8 a0, .int .i64 16] rfl (by (try simp only [List.map_toArray, List.map_cons, List.map_nil]); first | done | rfl | (simp only [List.length_drop, List.length_take]; rfl)) ?_; (with_reducible refine (greenscreenref11_Bit.calls a0 16 t146 _ A7.out).mono ?_); rintro e w' ⟨rfl, ⟨nd, rfl⟩⟩; refine ⟨_, rfl, ?_⟩) | ((with_reducible refine gate_callee (f := 9) rfl ?_); refine goesL_ (some 16) rfl rfl Try.func9 (by kernel_rfl) rfl #[.int .u8 a0] rfl (by (try simp only [List.map_toArray, List.map_cons, List.map_nil]); first | done | rfl | (simp only [List.length_drop, List.length_take]; rfl)) ?_; (with_reducible refine (attr_Protected.calls a0 t147 _ A8.out).mono ?_); rintro e w' ⟨rfl, ⟨nd, rfl⟩⟩; refine ⟨_, rfl, ?_⟩) | (go_at_call 10; (with_reducible refine (attr_Numeric.calls a0 t148 _ A10.out).mono ?_); rintro e w' ⟨rfl, ⟨nd, rfl⟩⟩) | (go_at_call 11; (with_reducible refine (attr_Skip.calls a0 t149 _ A12.out).mono ?_); rintro e w' ⟨rfl, ⟨nd, rfl⟩⟩) | (go_at_call 12; (with_reducible refine (attr_Shown.calls a0 t161 _ A40.out).mono ?_); rintro e w' ⟨rfl, ⟨nd, rfl⟩⟩) | (go_at_call 13; (with_reducible refine (greenscreenref11_Shown.calls a0 t162 _ A41.out).mono ?_); rintro e w' ⟨rfl, ⟨nd, rfl⟩⟩) | (go_at_call 14; (with_reducible refine (attr_Modified.calls a0 t163 _ A43.out).mono ?_); rintro e w' ⟨rfl, ⟨nd, rfl⟩⟩) | (go_at_call 8; (with_reducible refine (greenscreenref11_Bit.calls a0 1 t164 _ A44.out).mono ?_); rintro e w' ⟨rfl, ⟨nd, rfl⟩⟩) | (go_at_call 15; (with_reducible refine (attr_Modify.calls a0 a2 t165 _ A46.out).mono ?_); rintro e w' ⟨rfl, ⟨nd, rfl⟩⟩) | (go_at_call 16; (with_reducible refine (greenscreenref11_Modify.calls a0 a2 t166 _ A47.out).mono ?_); rintro e w' ⟨rfl, ⟨nd, rfl⟩⟩) | (go_at_call 17; (with_reducible refine (attr_Byte.calls a0 t167 _ A49.out).mono ?_); rintro e w' ⟨rfl, ⟨nd, rfl⟩⟩) | (go_at_call 18; (with_reducible refine (greenscreenref02_Digit.calls (wrap64 (Int.tmod a0 64)) t168 _ A50.out).mono ?_); rintro e w' ⟨rfl, ⟨nd, rfl⟩⟩) | (go_at_call 19; (with_reducible refine (attr_Same.calls a0 a1 t169 _ A52.out).mono ?_); rintro e w' ⟨rfl, ⟨nd, rfl⟩⟩) | (go_at_call 20; (with_reducible refine (attr_Text.calls k a0 t170 _ A54.out).mono ?_); rintro e w' ⟨rfl, ⟨nd, rfl⟩⟩) | (go_at_call 21; (with_reducible refine (greenscreenref11_Text.calls k a0 t171 _ A55.out).mono ?_); rintro e w57 ⟨rfl, hb⟩; have n0_ := Aside0.mk (below_step (by repeat (first | (with_reducible first | exact HB.out | apply below_alloc | apply pw_below_drewN | apply below_drew1) | exact HB.out)) hb); clear HB; have HB := n0_; clear n0_; (try clear hb); (try clear hb2); (try clear hk); (try clear hi)) | (go_at_call 8; (with_reducible refine (greenscreenref11_Bit.calls a0 32 false _ A6.out).mono ?_); rintro e w' ⟨rfl, ⟨nd, rfl⟩⟩) | (go_at_call 8; (with_reducible refine (greenscreenref11_Bit.calls a0 16 t146 _ A7.out).mono ?_); rintro e w' ⟨rfl, ⟨nd, rfl⟩⟩) | (go_at_call 9; (with_reducible refine (attr_Protected.calls a0 t147 _ A8.out).mono ?_); rintro e w' ⟨rfl, ⟨nd, rfl⟩⟩))
                      go_ret
                      exact ⟨by first | rfl | (simp [errW_none, errW_some] <;> rfl) | (simp [*, errW_none, errW_some] <;> rfl), by repeat (first | (with_reducible first | exact HB.out | apply below_alloc | apply pw_below_drewN | apply below_drew1) | exact HB.out)⟩
                    · rw [if_neg c53] at H
                      have c53b0 : (t169 == ((Int.tmod a0 64) == (Int.tmod a1 64))) = false := by simpa using c53
                      (try (have c53e0 : (t169 = ((Int.tmod a0 64) == (Int.tmod a1 64))) = False := by (have he_ := c53b0; revert he_; cases (t169) <;> cases (((Int.tmod a0 64) == (Int.tmod a1 64))) <;> simp)))
                      (try (have c53e1 : (t169 == ((Int.tmod a0 64) == (Int.tmod a1 64))) = false := by (have he_ := c53b0; revert he_; cases (t169) <;> cases (((Int.tmod a0 64) == (Int.tmod a1 64))) <;> simp)))
                      (try (have c53b1 : decide (t169 = ((Int.tmod a0 64) == (Int.tmod a1 64))) = false := by simpa using c53))
                      (try (have c53b2 : (t169 == ((Int.tmod a0 64) == (Int.tmod a1 64))) = false := by simpa using c53))
                      (try (have c53b3 : ¬ (t169 = ((Int.tmod a0 64) == (Int.tmod a1 64))) := by simpa using c53))
                      clear c53
                      obtain rfl := Option.some.inj H
                      exact absurd hr_ (by decide)
                  · rw [if_neg c51] at H
                    have c51b0 : (t167 == t168) = false := beq_eq_false_iff_ne.mpr c51
                    have c51b1 : (t167 != t168) = true := bne_iff_ne.mpr c51
                    obtain rfl := Option.some.inj H
                    exact absurd hr_ (by decide)
                · rw [if_neg c48] at H
                  have c48b0 : (t165 == t166) = false := beq_eq_false_iff_ne.mpr c48
                  have c48b1 : (t165 != t166) = true := bne_iff_ne.mpr c48
                  obtain rfl := Option.some.inj H
                  exact absurd hr_ (by decide)
              · rw [if_neg c45] at H
                have c45b0 : (t163 == t164) = false := by simpa using c45
                (try (have c45b1 : decide (t163 = t164) = false := by simpa using c45))
                (try (have c45b2 : (t163 == t164) = false := by simpa using c45))
                (try (have c45b3 : ¬ (t163 = t164) := by simpa using c45))
                clear c45
                obtain rfl := Option.some.inj H
                exact absurd hr_ (by decide)
            · rw [if_neg c42] at H
              have c42b0 : (t161 == t162) = false := beq_eq_false_iff_ne.mpr c42
              have c42b1 : (t161 != t162) = true := bne_iff_ne.mpr c42
              obtain rfl := Option.some.inj H
              exact absurd hr_ (by decide)
          · rw [if_neg c39] at H
            have c39b0 : (t149 == false) = false := by simpa using c39
            (try (have c39b1 : decide (t149 = false) = false := by simpa using c39))
            (try (have c39b2 : (t149 == false) = false := by simpa using c39))
            (try (have c39b3 : ¬ (t149 = false) := by simpa using c39))
            clear c39
            obtain rfl := Option.some.inj H
            exact absurd hr_ (by decide)
      · rw [if_neg c11] at H
        have c11b0 : (t148 == t146) = false := by simpa using c11
        (try (have c11b1 : decide (t148 = t146) = false := by simpa using c11))
        (try (have c11b2 : (t148 == t146) = false := by simpa using c11))
        (try (have c11b3 : ¬ (t148 = t146) := by simpa using c11))
        clear c11
        obtain rfl := Option.some.inj H
        exact absurd hr_ (by decide)
    · rw [if_neg c9] at H
      have c9b0 : (t147 == t145) = false := by simpa using c9
      (try (have c9b1 : decide (t147 = t145) = false := by simpa using c9))
      (try (have c9b2 : (t147 == t145) = false := by simpa using c9))
      (try (have c9b3 : ¬ (t147 = t145) := by simpa using c9))
      clear c9
      obtain rfl := Option.some.inj H
      exact absurd hr_ (by decide)
  · replace c5 := Bool.eq_false_iff.mpr c5
    subst c5
    have H1 : (some false) = some r := by rw [if_neg (show ¬ (false = true) by decide)] at H; exact H
    clear H
    have H := H1
    clear H1
    obtain rfl := Option.some.inj H
    exact absurd hr_ (by decide)

/-- THE ONE PURE STATEMENT of greenscreenlaw11_AttrBytes: yours. -/
def greenscreenlaw11_AttrBytes.Pure : Prop := ∀ (a0 : Int) (a1 : Int) (a2 : Bool), (Lit.int .u8 a0).wf = true → (Lit.int .u8 a1).wf = true → ∃ k, greenscreenlaw11_AttrBytes.f k a0 a1 a2 = some true
theorem greenscreenlaw11_AttrBytes.walk (P : greenscreenlaw11_AttrBytes.Pure) (a0 : Int) (a1 : Int) (a2 : Bool) (w : World) (w0 : (Lit.int .u8 a0).wf = true) (w1 : (Lit.int .u8 a1).wf = true) :
    Calls Try.prog 3 #[.int .u8 a0, .int .u8 a1, .bool a2] w fun e w' => e = .returned (.bool true) ∧ Below w.heap.size w w' := by
  obtain ⟨k, h⟩ := P a0 a1 a2 w0 w1
  refine (greenscreenlaw11_AttrBytes.calls k a0 a1 a2 true rfl w h).mono ?_
  rintro e w' ⟨rfl, hd⟩
  exact ⟨rfl, hd⟩

/-! ### greenscreenref11_Check: function 23 -/
def greenscreenref11_Check.f (a0 : Int) (a1_0 : Int) (a1_1 : Int) : Option (Bool) := if a0 = 41 then (if a1_0 = 192 then (some true) else (if a1_0 = 65 then (some true) else (some (a1_0 == 66)))) else (if a0 = 44 then (if a1_0 = 192 then (some true) else (if a1_0 = 65 then (some true) else (some (a1_0 == 66)))) else (if a0 = 40 then (if a1_0 = 65 then (some true) else (if a1_0 = 66 then (some true) else (if a1_0 = 0 then (some (a1_1 == 0)) else (some false)))) else (some false)))
set_option maxHeartbeats 8000000 in
set_option maxRecDepth 100000 in
theorem greenscreenref11_Check.calls (a0 : Int) (a1_0 : Int) (a1_1 : Int) (r : Bool) (w : World) (h : greenscreenref11_Check.f a0 a1_0 a1_1 = some r) :
    Calls Try.prog 23 #[.int .u8 a0, .agg #[.int .u8 a1_0, .int .u8 a1_1]] w fun e w' => e = .returned (.bool r) ∧ Below w.heap.size w w' := by
  have hu36 := Try.underlying36
  have HB := Aside0.mk (Below.refl w.heap.size w)
  have H : (if a0 = 41 then (if a1_0 = 192 then (some true) else (if a1_0 = 65 then (some true) else (some (a1_0 == 66)))) else (if a0 = 44 then (if a1_0 = 192 then (some true) else (if a1_0 = 65 then (some true) else (some (a1_0 == 66)))) else (if a0 = 40 then (if a1_0 = 65 then (some true) else (if a1_0 = 66 then (some true) else (if a1_0 = 0 then (some (a1_1 == 0)) else (some false)))) else (some false)))) = some r := h
  clear h
  by_cases c3 : a0 = 41
  · rw [if_pos c3] at H
    have c3b0 : (a0 == 41) = true := beq_iff_eq.mpr c3
    have c3b1 : (a0 != 41) = false := bne_eq_false_iff_eq.mpr c3
    clear c3
    by_cases c4 : a1_0 = 192
    · rw [if_pos c4] at H
      have c4b0 : (a1_0 == 192) = true := beq_iff_eq.mpr c4
      have c4b1 : (a1_0 != 192) = false := bne_eq_false_iff_eq.mpr c4
      clear c4
      obtain rfl := Option.some.inj H
      go_enter Try.func23, Try.ntmps23
      go_wp2_with (first | ((with_reducible refine gate_dst (N := 3) rfl ?_); refine box_event ?hg (N := 3) ?hd (cs := #[.int .u8 a1_0, .int .u8 a1_1]) (t := 36) ?hr ?_; (case hd => rfl); (case hg => rfl); (case hr => first | (go_simp; done) | (go_simp; rfl)); intro gb172 hg w5 hbox hb; have n0_ := Aside0.mk (below_step (by repeat (first | (with_reducible first | exact HB.out | apply below_alloc | apply pw_below_drewN | apply below_drew1) | exact HB.out)) hb); have n1_ := Aside0.mk (hbox); have n2_ := Aside0.mk ((by rw [hg]; exact (below_size (by repeat (first | (with_reducible first | exact HB.out | apply below_alloc | apply pw_below_drewN | apply below_drew1) | exact HB.out))) : w.heap.size ≤ gb172)); have n3_ := Aside0.mk ((by rw [hg]; exact (below_size (by repeat (first | (with_reducible first | exact HB.out | apply below_alloc | apply pw_below_drewN | apply below_drew1) | exact HB.out))) : w.heap.size ≤ gb172)); clear HB; have HB := n0_; have BK172 := n1_; have GW172 := n2_; have GE172 := n3_; clear n0_ n1_ n2_ n3_; clear hb hbox hg; have hcz6_0 : w5.cell? ⟨gb172, 0, none⟩ = some (.int .u8 a1_0) := (blk_cell BK172.out 0).trans rfl; have hcz6_1 : w5.cell? ⟨gb172, 1, none⟩ = some (.int .u8 a1_1) := (blk_cell BK172.out 1).trans rfl; have hfz6_0 := blk_frozen BK172.out 0; have hfz6_1 := blk_frozen BK172.out 1))
      go_ret
      exact ⟨by first | rfl | (simp [errW_none, errW_some] <;> rfl) | (simp [*, errW_none, errW_some] <;> rfl), by repeat (first | (with_reducible first | exact HB.out | apply below_alloc | apply pw_below_drewN | apply below_drew1 | refine below_set ?_ GE172.out) | exact HB.out)⟩
    · rw [if_neg c4] at H
      have c4b0 : (a1_0 == 192) = false := beq_eq_false_iff_ne.mpr c4
      have c4b1 : (a1_0 != 192) = true := bne_iff_ne.mpr c4
      by_cases c7 : a1_0 = 65
      · rw [if_pos c7] at H
        have c7b0 : (a1_0 == 65) = true := beq_iff_eq.mpr c7
        have c7b1 : (a1_0 != 65) = false := bne_eq_false_iff_eq.mpr c7
        clear c7
        obtain rfl := Option.some.inj H
        go_enter Try.func23, Try.ntmps23
        go_wp2_with (first | ((with_reducible refine gate_dst (N := 3) rfl ?_); refine box_event ?hg (N := 3) ?hd (cs := #[.int .u8 a1_0, .int .u8 a1_1]) (t := 36) ?hr ?_; (case hd => rfl); (case hg => rfl); (case hr => first | (go_simp; done) | (go_simp; rfl)); intro gb172 hg w8 hbox hb; have n0_ := Aside0.mk (below_step (by repeat (first | (with_reducible first | exact HB.out | apply below_alloc | apply pw_below_drewN | apply below_drew1) | exact HB.out)) hb); have n1_ := Aside0.mk (hbox); have n2_ := Aside0.mk ((by rw [hg]; exact (below_size (by repeat (first | (with_reducible first | exact HB.out | apply below_alloc | apply pw_below_drewN | apply below_drew1) | exact HB.out))) : w.heap.size ≤ gb172)); have n3_ := Aside0.mk ((by rw [hg]; exact (below_size (by repeat (first | (with_reducible first | exact HB.out | apply below_alloc | apply pw_below_drewN | apply below_drew1) | exact HB.out))) : w.heap.size ≤ gb172)); clear HB; have HB := n0_; have BK172 := n1_; have GW172 := n2_; have GE172 := n3_; clear n0_ n1_ n2_ n3_; clear hb hbox hg; have hcz9_0 : w8.cell? ⟨gb172, 0, none⟩ = some (.int .u8 a1_0) := (blk_cell BK172.out 0).trans rfl; have hcz9_1 : w8.cell? ⟨gb172, 1, none⟩ = some (.int .u8 a1_1) := (blk_cell BK172.out 1).trans rfl; have hfz9_0 := blk_frozen BK172.out 0; have hfz9_1 := blk_frozen BK172.out 1))
        go_ret
        exact ⟨by first | rfl | (simp [errW_none, errW_some] <;> rfl) | (simp [*, errW_none, errW_some] <;> rfl), by repeat (first | (with_reducible first | exact HB.out | apply below_alloc | apply pw_below_drewN | apply below_drew1 | refine below_set ?_ GE172.out) | exact HB.out)⟩
      · rw [if_neg c7] at H
        have c7b0 : (a1_0 == 65) = false := beq_eq_false_iff_ne.mpr c7
        have c7b1 : (a1_0 != 65) = true := bne_iff_ne.mpr c7
        obtain rfl := Option.some.inj H
        go_enter Try.func23, Try.ntmps23
        go_wp2_with (first | ((with_reducible refine gate_dst (N := 3) rfl ?_); refine box_event ?hg (N := 3) ?hd (cs := #[.int .u8 a1_0, .int .u8 a1_1]) (t := 36) ?hr ?_; (case hd => rfl); (case hg => rfl); (case hr => first | (go_simp; done) | (go_simp; rfl)); intro gb172 hg w10 hbox hb; have n0_ := Aside0.mk (below_step (by repeat (first | (with_reducible first | exact HB.out | apply below_alloc | apply pw_below_drewN | apply below_drew1) | exact HB.out)) hb); have n1_ := Aside0.mk (hbox); have n2_ := Aside0.mk ((by rw [hg]; exact (below_size (by repeat (first | (with_reducible first | exact HB.out | apply below_alloc | apply pw_below_drewN | apply below_drew1) | exact HB.out))) : w.heap.size ≤ gb172)); have n3_ := Aside0.mk ((by rw [hg]; exact (below_size (by repeat (first | (with_reducible first | exact HB.out | apply below_alloc | apply pw_below_drewN | apply below_drew1) | exact HB.out))) : w.heap.size ≤ gb172)); clear HB; have HB := n0_; have BK172 := n1_; have GW172 := n2_; have GE172 := n3_; clear n0_ n1_ n2_ n3_; clear hb hbox hg; have hcz11_0 : w10.cell? ⟨gb172, 0, none⟩ = some (.int .u8 a1_0) := (blk_cell BK172.out 0).trans rfl; have hcz11_1 : w10.cell? ⟨gb172, 1, none⟩ = some (.int .u8 a1_1) := (blk_cell BK172.out 1).trans rfl; have hfz11_0 := blk_frozen BK172.out 0; have hfz11_1 := blk_frozen BK172.out 1))
        go_ret
        exact ⟨by first | rfl | (simp [errW_none, errW_some] <;> rfl) | (simp [*, errW_none, errW_some] <;> rfl), by repeat (first | (with_reducible first | exact HB.out | apply below_alloc | apply pw_below_drewN | apply below_drew1 | refine below_set ?_ GE172.out) | exact HB.out)⟩
  · rw [if_neg c3] at H
    have c3b0 : (a0 == 41) = false := beq_eq_false_iff_ne.mpr c3
    have c3b1 : (a0 != 41) = true := bne_iff_ne.mpr c3
    by_cases c12 : a0 = 44
    · rw [if_pos c12] at H
      have c12b0 : (a0 == 44) = true := beq_iff_eq.mpr c12
      have c12b1 : (a0 != 44) = false := bne_eq_false_iff_eq.mpr c12
      clear c12
      by_cases c13 : a1_0 = 192
      · rw [if_pos c13] at H
        have c13b0 : (a1_0 == 192) = true := beq_iff_eq.mpr c13
        have c13b1 : (a1_0 != 192) = false := bne_eq_false_iff_eq.mpr c13
        clear c13
        obtain rfl := Option.some.inj H
        go_enter Try.func23, Try.ntmps23
        go_wp2_with (first | ((with_reducible refine gate_dst (N := 3) rfl ?_); refine box_event ?hg (N := 3) ?hd (cs := #[.int .u8 a1_0, .int .u8 a1_1]) (t := 36) ?hr ?_; (case hd => rfl); (case hg => rfl); (case hr => first | (go_simp; done) | (go_simp; rfl)); intro gb172 hg w14 hbox hb; have n0_ := Aside0.mk (below_step (by repeat (first | (with_reducible first | exact HB.out | apply below_alloc | apply pw_below_drewN | apply below_drew1) | exact HB.out)) hb); have n1_ := Aside0.mk (hbox); have n2_ := Aside0.mk ((by rw [hg]; exact (below_size (by repeat (first | (with_reducible first | exact HB.out | apply below_alloc | apply pw_below_drewN | apply below_drew1) | exact HB.out))) : w.heap.size ≤ gb172)); have n3_ := Aside0.mk ((by rw [hg]; exact (below_size (by repeat (first | (with_reducible first | exact HB.out | apply below_alloc | apply pw_below_drewN | apply below_drew1) | exact HB.out))) : w.heap.size ≤ gb172)); clear HB; have HB := n0_; have BK172 := n1_; have GW172 := n2_; have GE172 := n3_; clear n0_ n1_ n2_ n3_; clear hb hbox hg; have hcz15_0 : w14.cell? ⟨gb172, 0, none⟩ = some (.int .u8 a1_0) := (blk_cell BK172.out 0).trans rfl; have hcz15_1 : w14.cell? ⟨gb172, 1, none⟩ = some (.int .u8 a1_1) := (blk_cell BK172.out 1).trans rfl; have hfz15_0 := blk_frozen BK172.out 0; have hfz15_1 := blk_frozen BK172.out 1))
        go_ret
        exact ⟨by first | rfl | (simp [errW_none, errW_some] <;> rfl) | (simp [*, errW_none, errW_some] <;> rfl), by repeat (first | (with_reducible first | exact HB.out | apply below_alloc | apply pw_below_drewN | apply below_drew1 | refine below_set ?_ GE172.out) | exact HB.out)⟩
      · rw [if_neg c13] at H
        have c13b0 : (a1_0 == 192) = false := beq_eq_false_iff_ne.mpr c13
        have c13b1 : (a1_0 != 192) = true := bne_iff_ne.mpr c13
        by_cases c16 : a1_0 = 65
        · rw [if_pos c16] at H
          have c16b0 : (a1_0 == 65) = true := beq_iff_eq.mpr c16
          have c16b1 : (a1_0 != 65) = false := bne_eq_false_iff_eq.mpr c16
          clear c16
          obtain rfl := Option.some.inj H
          go_enter Try.func23, Try.ntmps23
          go_wp2_with (first | ((with_reducible refine gate_dst (N := 3) rfl ?_); refine box_event ?hg (N := 3) ?hd (cs := #[.int .u8 a1_0, .int .u8 a1_1]) (t := 36) ?hr ?_; (case hd => rfl); (case hg => rfl); (case hr => first | (go_simp; done) | (go_simp; rfl)); intro gb172 hg w17 hbox hb; have n0_ := Aside0.mk (below_step (by repeat (first | (with_reducible first | exact HB.out | apply below_alloc | apply pw_below_drewN | apply below_drew1) | exact HB.out)) hb); have n1_ := Aside0.mk (hbox); have n2_ := Aside0.mk ((by rw [hg]; exact (below_size (by repeat (first | (with_reducible first | exact HB.out | apply below_alloc | apply pw_below_drewN | apply below_drew1) | exact HB.out))) : w.heap.size ≤ gb172)); have n3_ := Aside0.mk ((by rw [hg]; exact (below_size (by repeat (first | (with_reducible first | exact HB.out | apply below_alloc | apply pw_below_drewN | apply below_drew1) | exact HB.out))) : w.heap.size ≤ gb172)); clear HB; have HB := n0_; have BK172 := n1_; have GW172 := n2_; have GE172 := n3_; clear n0_ n1_ n2_ n3_; clear hb hbox hg; have hcz18_0 : w17.cell? ⟨gb172, 0, none⟩ = some (.int .u8 a1_0) := (blk_cell BK172.out 0).trans rfl; have hcz18_1 : w17.cell? ⟨gb172, 1, none⟩ = some (.int .u8 a1_1) := (blk_cell BK172.out 1).trans rfl; have hfz18_0 := blk_frozen BK172.out 0; have hfz18_1 := blk_frozen BK172.out 1))
          go_ret
          exact ⟨by first | rfl | (simp [errW_none, errW_some] <;> rfl) | (simp [*, errW_none, errW_some] <;> rfl), by repeat (first | (with_reducible first | exact HB.out | apply below_alloc | apply pw_below_drewN | apply below_drew1 | refine below_set ?_ GE172.out) | exact HB.out)⟩
        · rw [if_neg c16] at H
          have c16b0 : (a1_0 == 65) = false := beq_eq_false_iff_ne.mpr c16
          have c16b1 : (a1_0 != 65) = true := bne_iff_ne.mpr c16
          obtain rfl := Option.some.inj H
          go_enter Try.func23, Try.ntmps23
          go_wp2_with (first | ((with_reducible refine gate_dst (N := 3) rfl ?_); refine box_event ?hg (N := 3) ?hd (cs := #[.int .u8 a1_0, .int .u8 a1_1]) (t := 36) ?hr ?_; (case hd => rfl); (case hg => rfl); (case hr => first | (go_simp; done) | (go_simp; rfl)); intro gb172 hg w19 hbox hb; have n0_ := Aside0.mk (below_step (by repeat (first | (with_reducible first | exact HB.out | apply below_alloc | apply pw_below_drewN | apply below_drew1) | exact HB.out)) hb); have n1_ := Aside0.mk (hbox); have n2_ := Aside0.mk ((by rw [hg]; exact (below_size (by repeat (first | (with_reducible first | exact HB.out | apply below_alloc | apply pw_below_drewN | apply below_drew1) | exact HB.out))) : w.heap.size ≤ gb172)); have n3_ := Aside0.mk ((by rw [hg]; exact (below_size (by repeat (first | (with_reducible first | exact HB.out | apply below_alloc | apply pw_below_drewN | apply below_drew1) | exact HB.out))) : w.heap.size ≤ gb172)); clear HB; have HB := n0_; have BK172 := n1_; have GW172 := n2_; have GE172 := n3_; clear n0_ n1_ n2_ n3_; clear hb hbox hg; have hcz20_0 : w19.cell? ⟨gb172, 0, none⟩ = some (.int .u8 a1_0) := (blk_cell BK172.out 0).trans rfl; have hcz20_1 : w19.cell? ⟨gb172, 1, none⟩ = some (.int .u8 a1_1) := (blk_cell BK172.out 1).trans rfl; have hfz20_0 := blk_frozen BK172.out 0; have hfz20_1 := blk_frozen BK172.out 1))
          go_ret
          exact ⟨by first | rfl | (simp [errW_none, errW_some] <;> rfl) | (simp [*, errW_none, errW_some] <;> rfl), by repeat (first | (with_reducible first | exact HB.out | apply below_alloc | apply pw_below_drewN | apply below_drew1 | refine below_set ?_ GE172.out) | exact HB.out)⟩
    · rw [if_neg c12] at H
      have c12b0 : (a0 == 44) = false := beq_eq_false_iff_ne.mpr c12
      have c12b1 : (a0 != 44) = true := bne_iff_ne.mpr c12
      by_cases c21 : a0 = 40
      · rw [if_pos c21] at H
        have c21b0 : (a0 == 40) = true := beq_iff_eq.mpr c21
        have c21b1 : (a0 != 40) = false := bne_eq_false_iff_eq.mpr c21
        clear c21
        by_cases c22 : a1_0 = 65
        · rw [if_pos c22] at H
          have c22b0 : (a1_0 == 65) = true := beq_iff_eq.mpr c22
          have c22b1 : (a1_0 != 65) = false := bne_eq_false_iff_eq.mpr c22
          clear c22
          obtain rfl := Option.some.inj H
          go_enter Try.func23, Try.ntmps23
          go_wp2_with (first | ((with_reducible refine gate_dst (N := 3) rfl ?_); refine box_event ?hg (N := 3) ?hd (cs := #[.int .u8 a1_0, .int .u8 a1_1]) (t := 36) ?hr ?_; (case hd => rfl); (case hg => rfl); (case hr => first | (go_simp; done) | (go_simp; rfl)); intro gb172 hg w23 hbox hb; have n0_ := Aside0.mk (below_step (by repeat (first | (with_reducible first | exact HB.out | apply below_alloc | apply pw_below_drewN | apply below_drew1) | exact HB.out)) hb); have n1_ := Aside0.mk (hbox); have n2_ := Aside0.mk ((by rw [hg]; exact (below_size (by repeat (first | (with_reducible first | exact HB.out | apply below_alloc | apply pw_below_drewN | apply below_drew1) | exact HB.out))) : w.heap.size ≤ gb172)); have n3_ := Aside0.mk ((by rw [hg]; exact (below_size (by repeat (first | (with_reducible first | exact HB.out | apply below_alloc | apply pw_below_drewN | apply below_drew1) | exact HB.out))) : w.heap.size ≤ gb172)); clear HB; have HB := n0_; have BK172 := n1_; have GW172 := n2_; have GE172 := n3_; clear n0_ n1_ n2_ n3_; clear hb hbox hg; have hcz24_0 : w23.cell? ⟨gb172, 0, none⟩ = some (.int .u8 a1_0) := (blk_cell BK172.out 0).trans rfl; have hcz24_1 : w23.cell? ⟨gb172, 1, none⟩ = some (.int .u8 a1_1) := (blk_cell BK172.out 1).trans rfl; have hfz24_0 := blk_frozen BK172.out 0; have hfz24_1 := blk_frozen BK172.out 1))
          go_ret
          exact ⟨by first | rfl | (simp [errW_none, errW_some] <;> rfl) | (simp [*, errW_none, errW_some] <;> rfl), by repeat (first | (with_reducible first | exact HB.out | apply below_alloc | apply pw_below_drewN | apply below_drew1 | refine below_set ?_ GE172.out) | exact HB.out)⟩
        · rw [if_neg c22] at H
          have c22b0 : (a1_0 == 65) = false := beq_eq_false_iff_ne.mpr c22
          have c22b1 : (a1_0 != 65) = true := bne_iff_ne.mpr c22
          by_cases c25 : a1_0 = 66
          · rw [if_pos c25] at H
            have c25b0 : (a1_0 == 66) = true := beq_iff_eq.mpr c25
            have c25b1 : (a1_0 != 66) = false := bne_eq_false_iff_eq.mpr c25
            clear c25
            obtain rfl := Option.some.inj H
            go_enter Try.func23, Try.ntmps23
            go_wp2_with (first | ((with_reducible refine gate_dst (N := 3) rfl ?_); refine box_event ?hg (N := 3) ?hd (cs := #[.int .u8 a1_0, .int .u8 a1_1]) (t := 36) ?hr ?_; (case hd => rfl); (case hg => rfl); (case hr => first | (go_simp; done) | (go_simp; rfl)); intro gb172 hg w26 hbox hb; have n0_ := Aside0.mk (below_step (by repeat (first | (with_reducible first | exact HB.out | apply below_alloc | apply pw_below_drewN | apply below_drew1) | exact HB.out)) hb); have n1_ := Aside0.mk (hbox); have n2_ := Aside0.mk ((by rw [hg]; exact (below_size (by repeat (first | (with_reducible first | exact HB.out | apply below_alloc | apply pw_below_drewN | apply below_drew1) | exact HB.out))) : w.heap.size ≤ gb172)); have n3_ := Aside0.mk ((by rw [hg]; exact (below_size (by repeat (first | (with_reducible first | exact HB.out | apply below_alloc | apply pw_below_drewN | apply below_drew1) | exact HB.out))) : w.heap.size ≤ gb172)); clear HB; have HB := n0_; have BK172 := n1_; have GW172 := n2_; have GE172 := n3_; clear n0_ n1_ n2_ n3_; clear hb hbox hg; have hcz27_0 : w26.cell? ⟨gb172, 0, none⟩ = some (.int .u8 a1_0) := (blk_cell BK172.out 0).trans rfl; have hcz27_1 : w26.cell? ⟨gb172, 1, none⟩ = some (.int .u8 a1_1) := (blk_cell BK172.out 1).trans rfl; have hfz27_0 := blk_frozen BK172.out 0; have hfz27_1 := blk_frozen BK172.out 1))
            go_ret
            exact ⟨by first | rfl | (simp [errW_none, errW_some] <;> rfl) | (simp [*, errW_none, errW_some] <;> rfl), by repeat (first | (with_reducible first | exact HB.out | apply below_alloc | apply pw_below_drewN | apply below_drew1 | refine below_set ?_ GE172.out) | exact HB.out)⟩
          · rw [if_neg c25] at H
            have c25b0 : (a1_0 == 66) = false := beq_eq_false_iff_ne.mpr c25
            have c25b1 : (a1_0 != 66) = true := bne_iff_ne.mpr c25
            by_cases c28 : a1_0 = 0
            · rw [if_pos c28] at H
              have c28b0 : (a1_0 == 0) = true := beq_iff_eq.mpr c28
              have c28b1 : (a1_0 != 0) = false := bne_eq_false_iff_eq.mpr c28
              clear c28
              obtain rfl := Option.some.inj H
              go_enter Try.func23, Try.ntmps23
              go_wp2_with (first | ((with_reducible refine gate_dst (N := 3) rfl ?_); refine box_event ?hg (N := 3) ?hd (cs := #[.int .u8 a1_0, .int .u8 a1_1]) (t := 36) ?hr ?_; (case hd => rfl); (case hg => rfl); (case hr => first | (go_simp; done) | (go_simp; rfl)); intro gb172 hg w29 hbox hb; have n0_ := Aside0.mk (below_step (by repeat (first | (with_reducible first | exact HB.out | apply below_alloc | apply pw_below_drewN | apply below_drew1) | exact HB.out)) hb); have n1_ := Aside0.mk (hbox); have n2_ := Aside0.mk ((by rw [hg]; exact (below_size (by repeat (first | (with_reducible first | exact HB.out | apply below_alloc | apply pw_below_drewN | apply below_drew1) | exact HB.out))) : w.heap.size ≤ gb172)); have n3_ := Aside0.mk ((by rw [hg]; exact (below_size (by repeat (first | (with_reducible first | exact HB.out | apply below_alloc | apply pw_below_drewN | apply below_drew1) | exact HB.out))) : w.heap.size ≤ gb172)); clear HB; have HB := n0_; have BK172 := n1_; have GW172 := n2_; have GE172 := n3_; clear n0_ n1_ n2_ n3_; clear hb hbox hg; have hcz30_0 : w29.cell? ⟨gb172, 0, none⟩ = some (.int .u8 a1_0) := (blk_cell BK172.out 0).trans rfl; have hcz30_1 : w29.cell? ⟨gb172, 1, none⟩ = some (.int .u8 a1_1) := (blk_cell BK172.out 1).trans rfl; have hfz30_0 := blk_frozen BK172.out 0; have hfz30_1 := blk_frozen BK172.out 1))
              go_ret
              exact ⟨by first | rfl | (simp [errW_none, errW_some] <;> rfl) | (simp [*, errW_none, errW_some] <;> rfl), by repeat (first | (with_reducible first | exact HB.out | apply below_alloc | apply pw_below_drewN | apply below_drew1 | refine below_set ?_ GE172.out) | exact HB.out)⟩
            · rw [if_neg c28] at H
              have c28b0 : (a1_0 == 0) = false := beq_eq_false_iff_ne.mpr c28
              have c28b1 : (a1_0 != 0) = true := bne_iff_ne.mpr c28
              obtain rfl := Option.some.inj H
              go_enter Try.func23, Try.ntmps23
              go_wp2_with (first | ((with_reducible refine gate_dst (N := 3) rfl ?_); refine box_event ?hg (N := 3) ?hd (cs := #[.int .u8 a1_0, .int .u8 a1_1]) (t := 36) ?hr ?_; (case hd => rfl); (case hg => rfl); (case hr => first | (go_simp; done) | (go_simp; rfl)); intro gb172 hg w31 hbox hb; have n0_ := Aside0.mk (below_step (by repeat (first | (with_reducible first | exact HB.out | apply below_alloc | apply pw_below_drewN | apply below_drew1) | exact HB.out)) hb); have n1_ := Aside0.mk (hbox); have n2_ := Aside0.mk ((by rw [hg]; exact (below_size (by repeat (first | (with_reducible first | exact HB.out | apply below_alloc | apply pw_below_drewN | apply below_drew1) | exact HB.out))) : w.heap.size ≤ gb172)); have n3_ := Aside0.mk ((by rw [hg]; exact (below_size (by repeat (first | (with_reducible first | exact HB.out | apply below_alloc | apply pw_below_drewN | apply below_drew1) | exact HB.out))) : w.heap.size ≤ gb172)); clear HB; have HB := n0_; have BK172 := n1_; have GW172 := n2_; have GE172 := n3_; clear n0_ n1_ n2_ n3_; clear hb hbox hg; have hcz32_0 : w31.cell? ⟨gb172, 0, none⟩ = some (.int .u8 a1_0) := (blk_cell BK172.out 0).trans rfl; have hcz32_1 : w31.cell? ⟨gb172, 1, none⟩ = some (.int .u8 a1_1) := (blk_cell BK172.out 1).trans rfl; have hfz32_0 := blk_frozen BK172.out 0; have hfz32_1 := blk_frozen BK172.out 1))
              go_ret
              exact ⟨by first | rfl | (simp [errW_none, errW_some] <;> rfl) | (simp [*, errW_none, errW_some] <;> rfl), by repeat (first | (with_reducible first | exact HB.out | apply below_alloc | apply pw_below_drewN | apply below_drew1 | refine below_set ?_ GE172.out) | exact HB.out)⟩
      · rw [if_neg c21] at H
        have c21b0 : (a0 == 40) = false := beq_eq_false_iff_ne.mpr c21
        have c21b1 : (a0 != 40) = true := bne_iff_ne.mpr c21
        obtain rfl := Option.some.inj H
        go_enter Try.func23, Try.ntmps23
        go_wp2_with (first | ((with_reducible refine gate_dst (N := 3) rfl ?_); refine box_event ?hg (N := 3) ?hd (cs := #[.int .u8 a1_0, .int .u8 a1_1]) (t := 36) ?hr ?_; (case hd => rfl); (case hg => rfl); (case hr => first | (go_simp; done) | (go_simp; rfl)); intro gb172 hg w33 hbox hb; have n0_ := Aside0.mk (below_step (by repeat (first | (with_reducible first | exact HB.out | apply below_alloc | apply pw_below_drewN | apply below_drew1) | exact HB.out)) hb); have n1_ := Aside0.mk (hbox); have n2_ := Aside0.mk ((by rw [hg]; exact (below_size (by repeat (first | (with_reducible first | exact HB.out | apply below_alloc | apply pw_below_drewN | apply below_drew1) | exact HB.out))) : w.heap.size ≤ gb172)); have n3_ := Aside0.mk ((by rw [hg]; exact (below_size (by repeat (first | (with_reducible first | exact HB.out | apply below_alloc | apply pw_below_drewN | apply below_drew1) | exact HB.out))) : w.heap.size ≤ gb172)); clear HB; have HB := n0_; have BK172 := n1_; have GW172 := n2_; have GE172 := n3_; clear n0_ n1_ n2_ n3_; clear hb hbox hg))
        go_ret
        exact ⟨by first | rfl | (simp [errW_none, errW_some] <;> rfl) | (simp [*, errW_none, errW_some] <;> rfl), by repeat (first | (with_reducible first | exact HB.out | apply below_alloc | apply pw_below_drewN | apply below_drew1 | refine below_set ?_ GE172.out) | exact HB.out)⟩

end Go.Proofs.Ythimdjdnpfaamaa.P
