-- Laid by program out of the translation, some functions' texts by hand (a session's own run, not print.sh's). Lean checks it.
import Derived.Test.YthimdjdnpfaamaaPx0
namespace Go.Proofs.Ythimdjdnpfaamaa.P
open Go.RowKit Go.Proofs.YthimdjdnpfaamaaW.PrintWords Go.Proofs.YthimdjdnpfaamaaW.PrintLast Go.Proofs.YthimdjdnpfaamaaW.PrintMore
attribute [local go_sem] max2_int min2_int max_two min_two max_three min_three max_four min_four   -- for this text's walks alone
set_option linter.unusedVariables false
set_option linter.unusedSimpArgs false

/-! ### attr_Protected: function 9 -/
def attr_Protected.f (a0 : Int) : Option (Bool) := some ((Go.bits .and .u8 a0 32) != 0)
set_option maxHeartbeats 8000000 in
set_option maxRecDepth 100000 in
theorem attr_Protected.calls (a0 : Int) (r : Bool) (w : World) (h : attr_Protected.f a0 = some r) :
    Calls Try.prog 9 #[.int .u8 a0] w fun e w' => e = .returned (.bool r) ∧ Drawn0 w w' := by
  have H : (some ((Go.bits .and .u8 a0 32) != 0)) = some r := h
  clear h
  obtain rfl := Option.some.inj H
  go_enter Try.func9, Try.ntmps9
  go_wp2
  go_ret
  exact ⟨by first | rfl | (simp; done) | (simp [*]; done), by repeat (first | exact Drawn0.refl _ | apply Drawn0.step)⟩

/-! ### attr_Numeric: function 10 -/
def attr_Numeric.f (a0 : Int) : Option (Bool) := some ((Go.bits .and .u8 a0 16) != 0)
set_option maxHeartbeats 8000000 in
set_option maxRecDepth 100000 in
theorem attr_Numeric.calls (a0 : Int) (r : Bool) (w : World) (h : attr_Numeric.f a0 = some r) :
    Calls Try.prog 10 #[.int .u8 a0] w fun e w' => e = .returned (.bool r) ∧ Drawn0 w w' := by
  have H : (some ((Go.bits .and .u8 a0 16) != 0)) = some r := h
  clear h
  obtain rfl := Option.some.inj H
  go_enter Try.func10, Try.ntmps10
  go_wp2
  go_ret
  exact ⟨by first | rfl | (simp; done) | (simp [*]; done), by repeat (first | exact Drawn0.refl _ | apply Drawn0.step)⟩

/-! ### attr_Skip: function 11 -/
def attr_Skip.f (a0 : Int) : Option (Bool) := (attr_Protected.f a0).bind fun t101 => (if t101 = true then ((attr_Numeric.f a0).bind fun t102 => (some t102)) else (some false))
set_option maxHeartbeats 8000000 in
set_option maxRecDepth 100000 in
theorem attr_Skip.calls (a0 : Int) (r : Bool) (w : World) (h : attr_Skip.f a0 = some r) :
    Calls Try.prog 11 #[.int .u8 a0] w fun e w' => e = .returned (.bool r) ∧ Drawn0 w w' := by
  have H : ((attr_Protected.f a0).bind fun t101 => (if t101 = true then ((attr_Numeric.f a0).bind fun t102 => (some t102)) else (some false))) = some r := h
  clear h
  replace H := Option.bind_eq_some_iff.mp H
  obtain ⟨t101, A20, H⟩ := H
  replace H : (if t101 = true then ((attr_Numeric.f a0).bind fun t102 => (some t102)) else (some false)) = some r := H
  have A2 := Aside0.mk A20
  clear A20
  by_cases c3 : t101 = true
  · subst c3
    have H1 : ((attr_Numeric.f a0).bind fun t102 => (some t102)) = some r := by rw [if_pos rfl] at H; exact H
    clear H
    have H := H1
    clear H1
    replace H := Option.bind_eq_some_iff.mp H
    obtain ⟨t102, A40, H⟩ := H
    replace H : (some t102) = some r := H
    have A4 := Aside0.mk A40
    clear A40
    obtain rfl := Option.some.inj H
    go_enter Try.func11, Try.ntmps11
    go_wp2_with (first | ((with_reducible refine gate_callee (f := 9) rfl ?_); refine goesL_ (some 4) rfl rfl Try.func9 (by kernel_rfl) rfl #[.int .u8 a0] rfl (by (try simp only [List.map_toArray, List.map_cons, List.map_nil]); first | done | rfl | (simp only [List.length_drop, List.length_take]; rfl)) ?_; (with_reducible refine (attr_Protected.calls a0 true _ A2.out).mono ?_); rintro e w' ⟨rfl, ⟨nd, rfl⟩⟩; refine ⟨_, rfl, ?_⟩) | (go_at_call 10; (with_reducible refine (attr_Numeric.calls a0 t102 _ A4.out).mono ?_); rintro e w' ⟨rfl, ⟨nd, rfl⟩⟩) | (go_at_call 9; (with_reducible refine (attr_Protected.calls a0 true _ A2.out).mono ?_); rintro e w' ⟨rfl, ⟨nd, rfl⟩⟩))
    go_ret
    exact ⟨by first | rfl | (simp; done) | (simp [*]; done), by repeat (first | exact Drawn0.refl _ | apply Drawn0.step)⟩
  · replace c3 := Bool.eq_false_iff.mpr c3
    subst c3
    have H1 : (some false) = some r := by rw [if_neg (show ¬ (false = true) by decide)] at H; exact H
    clear H
    have H := H1
    clear H1
    obtain rfl := Option.some.inj H
    go_enter Try.func11, Try.ntmps11
    go_wp2_with (first | ((with_reducible refine gate_callee (f := 9) rfl ?_); refine goesL_ (some 4) rfl rfl Try.func9 (by kernel_rfl) rfl #[.int .u8 a0] rfl (by (try simp only [List.map_toArray, List.map_cons, List.map_nil]); first | done | rfl | (simp only [List.length_drop, List.length_take]; rfl)) ?_; (with_reducible refine (attr_Protected.calls a0 false _ A2.out).mono ?_); rintro e w' ⟨rfl, ⟨nd, rfl⟩⟩; refine ⟨_, rfl, ?_⟩) | (go_at_call 9; (with_reducible refine (attr_Protected.calls a0 false _ A2.out).mono ?_); rintro e w' ⟨rfl, ⟨nd, rfl⟩⟩))
    go_ret
    exact ⟨by first | rfl | (simp; done) | (simp [*]; done), by repeat (first | exact Drawn0.refl _ | apply Drawn0.step)⟩

/-! ### attr_Shown: function 12 -/
def attr_Shown.f (a0 : Int) : Option (Int) := some ((wrap64 (Go.bits .and .u8 a0 12)) / 4)
set_option maxHeartbeats 8000000 in
set_option maxRecDepth 100000 in
theorem attr_Shown.calls (a0 : Int) (r : Int) (w : World) (h : attr_Shown.f a0 = some r) :
    Calls Try.prog 12 #[.int .u8 a0] w fun e w' => e = .returned (.int .i64 r) ∧ Drawn0 w w' := by
  have H : (some ((wrap64 (Go.bits .and .u8 a0 12)) / 4)) = some r := h
  clear h
  obtain rfl := Option.some.inj H
  go_enter Try.func12, Try.ntmps12
  go_wp2
  go_ret
  exact ⟨by first | rfl | (simp; done) | (simp [*]; done), by repeat (first | exact Drawn0.refl _ | apply Drawn0.step)⟩

/-! ### attr_Modified: function 14 -/
def attr_Modified.f (a0 : Int) : Option (Bool) := some ((Go.bits .and .u8 a0 1) != 0)
set_option maxHeartbeats 8000000 in
set_option maxRecDepth 100000 in
theorem attr_Modified.calls (a0 : Int) (r : Bool) (w : World) (h : attr_Modified.f a0 = some r) :
    Calls Try.prog 14 #[.int .u8 a0] w fun e w' => e = .returned (.bool r) ∧ Drawn0 w w' := by
  have H : (some ((Go.bits .and .u8 a0 1) != 0)) = some r := h
  clear h
  obtain rfl := Option.some.inj H
  go_enter Try.func14, Try.ntmps14
  go_wp2
  go_ret
  exact ⟨by first | rfl | (simp; done) | (simp [*]; done), by repeat (first | exact Drawn0.refl _ | apply Drawn0.step)⟩

/-! ### attr_Modify: function 15 -/
def attr_Modify.f (a0 : Int) (a1 : Bool) : Option (Int) := if a1 = true then (some (Go.bits .or .u8 a0 1)) else (some (Go.bits .andNot .u8 a0 1))
set_option maxHeartbeats 8000000 in
set_option maxRecDepth 100000 in
theorem attr_Modify.calls (a0 : Int) (a1 : Bool) (r : Int) (w : World) (h : attr_Modify.f a0 a1 = some r) :
    Calls Try.prog 15 #[.int .u8 a0, .bool a1] w fun e w' => e = .returned (.int .u8 r) ∧ Drawn0 w w' := by
  have H : (if a1 = true then (some (Go.bits .or .u8 a0 1)) else (some (Go.bits .andNot .u8 a0 1))) = some r := h
  clear h
  by_cases c3 : a1 = true
  · subst c3
    have H1 : (some (Go.bits .or .u8 a0 1)) = some r := by rw [if_pos rfl] at H; exact H
    clear H
    have H := H1
    clear H1
    obtain rfl := Option.some.inj H
    go_enter Try.func15, Try.ntmps15
    go_wp2
    go_ret
    exact ⟨by first | rfl | (simp; done) | (simp [*]; done), by repeat (first | exact Drawn0.refl _ | apply Drawn0.step)⟩
  · replace c3 := Bool.eq_false_iff.mpr c3
    subst c3
    have H1 : (some (Go.bits .andNot .u8 a0 1)) = some r := by rw [if_neg (show ¬ (false = true) by decide)] at H; exact H
    clear H
    have H := H1
    clear H1
    obtain rfl := Option.some.inj H
    go_enter Try.func15, Try.ntmps15
    go_wp2
    go_ret
    exact ⟨by first | rfl | (simp; done) | (simp [*]; done), by repeat (first | exact Drawn0.refl _ | apply Drawn0.step)⟩

/-! ### addr_Digit: function 26 -/
def addr_Digit.f (a0 : Int) : Option (Int) := if (Int.tmod (Go.bits .and .i64 a0 63) 16) ≥ 1 then (if (Int.tmod (Go.bits .and .i64 a0 63) 16) ≤ 9 then (if (Go.bits .and .i64 a0 63) = 33 then (if (Go.bits .and .i64 a0 63) = 48 then (some ((Go.bits .or .i64 192 (Go.bits .and .i64 a0 63)) % 256)) else (some ((Go.bits .or .i64 64 (Go.bits .and .i64 a0 63)) % 256))) else (some ((Go.bits .or .i64 192 (Go.bits .and .i64 a0 63)) % 256))) else (if (Go.bits .and .i64 a0 63) = 48 then (some ((Go.bits .or .i64 192 (Go.bits .and .i64 a0 63)) % 256)) else (some ((Go.bits .or .i64 64 (Go.bits .and .i64 a0 63)) % 256)))) else (if (Go.bits .and .i64 a0 63) = 48 then (some ((Go.bits .or .i64 192 (Go.bits .and .i64 a0 63)) % 256)) else (some ((Go.bits .or .i64 64 (Go.bits .and .i64 a0 63)) % 256)))
set_option maxHeartbeats 8000000 in
set_option maxRecDepth 100000 in
theorem addr_Digit.calls (a0 : Int) (r : Int) (w : World) (h : addr_Digit.f a0 = some r) :
    Calls Try.prog 26 #[.int .i64 a0] w fun e w' => e = .returned (.int .u8 r) ∧ Drawn0 w w' := by
  have H : (if (Int.tmod (Go.bits .and .i64 a0 63) 16) ≥ 1 then (if (Int.tmod (Go.bits .and .i64 a0 63) 16) ≤ 9 then (if (Go.bits .and .i64 a0 63) = 33 then (if (Go.bits .and .i64 a0 63) = 48 then (some ((Go.bits .or .i64 192 (Go.bits .and .i64 a0 63)) % 256)) else (some ((Go.bits .or .i64 64 (Go.bits .and .i64 a0 63)) % 256))) else (some ((Go.bits .or .i64 192 (Go.bits .and .i64 a0 63)) % 256))) else (if (Go.bits .and .i64 a0 63) = 48 then (some ((Go.bits .or .i64 192 (Go.bits .and .i64 a0 63)) % 256)) else (some ((Go.bits .or .i64 64 (Go.bits .and .i64 a0 63)) % 256)))) else (if (Go.bits .and .i64 a0 63) = 48 then (some ((Go.bits .or .i64 192 (Go.bits .and .i64 a0 63)) % 256)) else (some ((Go.bits .or .i64 64 (Go.bits .and .i64 a0 63)) % 256)))) = some r := h
  clear h
  by_cases c2 : (Int.tmod (Go.bits .and .i64 a0 63) 16) ≥ 1
  · rw [if_pos c2] at H
    have c2b0 : decide (1 ≤ (Int.tmod (Go.bits .and .i64 a0 63) 16)) = true := decide_eq_true c2
    clear c2
    by_cases c3 : (Int.tmod (Go.bits .and .i64 a0 63) 16) ≤ 9
    · rw [if_pos c3] at H
      have c3b0 : decide ((Int.tmod (Go.bits .and .i64 a0 63) 16) ≤ 9) = true := decide_eq_true c3
      clear c3
      by_cases c4 : (Go.bits .and .i64 a0 63) = 33
      · rw [if_pos c4] at H
        have c4b0 : ((Go.bits .and .i64 a0 63) == 33) = true := beq_iff_eq.mpr c4
        have c4b1 : ((Go.bits .and .i64 a0 63) != 33) = false := bne_eq_false_iff_eq.mpr c4
        clear c4
        by_cases c5 : (Go.bits .and .i64 a0 63) = 48
        · rw [if_pos c5] at H
          have c5b0 : ((Go.bits .and .i64 a0 63) == 48) = true := beq_iff_eq.mpr c5
          have c5b1 : ((Go.bits .and .i64 a0 63) != 48) = false := bne_eq_false_iff_eq.mpr c5
          clear c5
          obtain rfl := Option.some.inj H
          go_enter Try.func26, Try.ntmps26
          go_wp2
          go_ret
          exact ⟨by first | rfl | (simp; done) | (simp [*]; done), by repeat (first | exact Drawn0.refl _ | apply Drawn0.step)⟩
        · rw [if_neg c5] at H
          have c5b0 : ((Go.bits .and .i64 a0 63) == 48) = false := beq_eq_false_iff_ne.mpr c5
          have c5b1 : ((Go.bits .and .i64 a0 63) != 48) = true := bne_iff_ne.mpr c5
          obtain rfl := Option.some.inj H
          go_enter Try.func26, Try.ntmps26
          go_wp2
          go_ret
          exact ⟨by first | rfl | (simp; done) | (simp [*]; done), by repeat (first | exact Drawn0.refl _ | apply Drawn0.step)⟩
      · rw [if_neg c4] at H
        have c4b0 : ((Go.bits .and .i64 a0 63) == 33) = false := beq_eq_false_iff_ne.mpr c4
        have c4b1 : ((Go.bits .and .i64 a0 63) != 33) = true := bne_iff_ne.mpr c4
        obtain rfl := Option.some.inj H
        go_enter Try.func26, Try.ntmps26
        go_wp2
        go_ret
        exact ⟨by first | rfl | (simp; done) | (simp [*]; done), by repeat (first | exact Drawn0.refl _ | apply Drawn0.step)⟩
    · rw [if_neg c3] at H
      have c3b0 : decide ((Int.tmod (Go.bits .and .i64 a0 63) 16) ≤ 9) = false := decide_eq_false c3
      clear c3
      by_cases c6 : (Go.bits .and .i64 a0 63) = 48
      · rw [if_pos c6] at H
        have c6b0 : ((Go.bits .and .i64 a0 63) == 48) = true := beq_iff_eq.mpr c6
        have c6b1 : ((Go.bits .and .i64 a0 63) != 48) = false := bne_eq_false_iff_eq.mpr c6
        clear c6
        obtain rfl := Option.some.inj H
        go_enter Try.func26, Try.ntmps26
        go_wp2
        go_ret
        exact ⟨by first | rfl | (simp; done) | (simp [*]; done), by repeat (first | exact Drawn0.refl _ | apply Drawn0.step)⟩
      · rw [if_neg c6] at H
        have c6b0 : ((Go.bits .and .i64 a0 63) == 48) = false := beq_eq_false_iff_ne.mpr c6
        have c6b1 : ((Go.bits .and .i64 a0 63) != 48) = true := bne_iff_ne.mpr c6
        obtain rfl := Option.some.inj H
        go_enter Try.func26, Try.ntmps26
        go_wp2
        go_ret
        exact ⟨by first | rfl | (simp; done) | (simp [*]; done), by repeat (first | exact Drawn0.refl _ | apply Drawn0.step)⟩
  · rw [if_neg c2] at H
    have c2b0 : decide (1 ≤ (Int.tmod (Go.bits .and .i64 a0 63) 16)) = false := decide_eq_false c2
    clear c2
    by_cases c7 : (Go.bits .and .i64 a0 63) = 48
    · rw [if_pos c7] at H
      have c7b0 : ((Go.bits .and .i64 a0 63) == 48) = true := beq_iff_eq.mpr c7
      have c7b1 : ((Go.bits .and .i64 a0 63) != 48) = false := bne_eq_false_iff_eq.mpr c7
      clear c7
      obtain rfl := Option.some.inj H
      go_enter Try.func26, Try.ntmps26
      go_wp2
      go_ret
      exact ⟨by first | rfl | (simp; done) | (simp [*]; done), by repeat (first | exact Drawn0.refl _ | apply Drawn0.step)⟩
    · rw [if_neg c7] at H
      have c7b0 : ((Go.bits .and .i64 a0 63) == 48) = false := beq_eq_false_iff_ne.mpr c7
      have c7b1 : ((Go.bits .and .i64 a0 63) != 48) = true := bne_iff_ne.mpr c7
      obtain rfl := Option.some.inj H
      go_enter Try.func26, Try.ntmps26
      go_wp2
      go_ret
      exact ⟨by first | rfl | (simp; done) | (simp [*]; done), by repeat (first | exact Drawn0.refl _ | apply Drawn0.step)⟩

/-! ### attr_Byte: function 17 -/
def attr_Byte.f (a0 : Int) : Option (Int) := (addr_Digit.f (wrap64 (a0))).bind fun t103 => (some t103)
set_option maxHeartbeats 8000000 in
set_option maxRecDepth 100000 in
theorem attr_Byte.calls (a0 : Int) (r : Int) (w : World) (h : attr_Byte.f a0 = some r) :
    Calls Try.prog 17 #[.int .u8 a0] w fun e w' => e = .returned (.int .u8 r) ∧ Drawn0 w w' := by
  have H : ((addr_Digit.f (wrap64 (a0))).bind fun t103 => (some t103)) = some r := h
  clear h
  replace H := Option.bind_eq_some_iff.mp H
  obtain ⟨t103, A20, H⟩ := H
  replace H : (some t103) = some r := H
  have A2 := Aside0.mk A20
  clear A20
  obtain rfl := Option.some.inj H
  go_enter Try.func17, Try.ntmps17
  go_wp2_with (first | ((with_reducible refine gate_callee (f := 26) rfl ?_); refine goesL_ (some 5) rfl rfl Try.func26 (by kernel_rfl) rfl #[.int .i64 (wrap64 (a0))] rfl (by (try simp only [List.map_toArray, List.map_cons, List.map_nil]); first | done | rfl | (simp only [List.length_drop, List.length_take]; rfl)) ?_; (with_reducible refine (addr_Digit.calls (wrap64 (a0)) t103 _ A2.out).mono ?_); rintro e w' ⟨rfl, ⟨nd, rfl⟩⟩; refine ⟨_, rfl, ?_⟩) | (go_at_call 26; (with_reducible refine (addr_Digit.calls (wrap64 (a0)) t103 _ A2.out).mono ?_); rintro e w' ⟨rfl, ⟨nd, rfl⟩⟩))
  go_ret
  exact ⟨by first | rfl | (simp; done) | (simp [*]; done), by repeat (first | exact Drawn0.refl _ | apply Drawn0.step)⟩

/-! ### attr_Same: function 19 -/
def attr_Same.f (a0 : Int) (a1 : Int) : Option (Bool) := some ((Go.bits .and .u8 (Go.bits .xor .u8 a0 a1) 63) == 0)
set_option maxHeartbeats 8000000 in
set_option maxRecDepth 100000 in
theorem attr_Same.calls (a0 : Int) (a1 : Int) (r : Bool) (w : World) (h : attr_Same.f a0 a1 = some r) :
    Calls Try.prog 19 #[.int .u8 a0, .int .u8 a1] w fun e w' => e = .returned (.bool r) ∧ Drawn0 w w' := by
  have H : (some ((Go.bits .and .u8 (Go.bits .xor .u8 a0 a1) 63) == 0)) = some r := h
  clear h
  obtain rfl := Option.some.inj H
  go_enter Try.func19, Try.ntmps19
  go_wp2
  go_ret
  exact ⟨by first | rfl | (simp; done) | (simp [*]; done), by repeat (first | exact Drawn0.refl _ | apply Drawn0.step)⟩

/-! ### attr_Text: function 20 -/
mutual
def attr_Text.j0 : Nat → Int → ByteArray → Option (ByteArray)
  | 0, _, _ => none
  | k + 1, x0, x3 => (attr_Numeric.f x0).bind fun t105 => (if t105 = true then (if x3.size + 1 ≤ 9223372036854775807 then (attr_Text.j1 k x0 (x3 ++ (⟨#[78]⟩ : ByteArray))) else (none)) else (attr_Text.j1 k x0 x3))
def attr_Text.j1 : Nat → Int → ByteArray → Option (ByteArray)
  | 0, _, _ => none
  | k + 1, x0, x3 => (attr_Shown.f x0).bind fun t106 => ((attr_Shown.f x0).bind fun t107 => (if 0 ≤ t106 then (if t106 ≤ (wrap64 (t107 + 1)) then (if (wrap64 (t107 + 1)) ≤ 4 then (if x3.size + ((⟨#[45, 43, 42, 33]⟩ : ByteArray).extract (t106 : Int).toNat ((wrap64 (t107 + 1)) : Int).toNat).size ≤ 9223372036854775807 then ((attr_Modified.f x0).bind fun t108 => (if t108 = true then (if (x3 ++ ((⟨#[45, 43, 42, 33]⟩ : ByteArray).extract (t106 : Int).toNat ((wrap64 (t107 + 1)) : Int).toNat)).size + 1 ≤ 9223372036854775807 then (some ((x3 ++ ((⟨#[45, 43, 42, 33]⟩ : ByteArray).extract (t106 : Int).toNat ((wrap64 (t107 + 1)) : Int).toNat)) ++ (⟨#[77]⟩ : ByteArray))) else (none)) else (some (x3 ++ ((⟨#[45, 43, 42, 33]⟩ : ByteArray).extract (t106 : Int).toNat ((wrap64 (t107 + 1)) : Int).toNat))))) else (none)) else (none)) else (none)) else (none)))
end
def attr_Text.f (k : Nat) (a0 : Int) : Option (ByteArray) := (attr_Protected.f a0).bind fun t104 => (if t104 = true then (if 0 + 1 ≤ 9223372036854775807 then (attr_Text.j0 k a0 ((⟨#[]⟩ : ByteArray) ++ (⟨#[80]⟩ : ByteArray))) else (none)) else (attr_Text.j0 k a0 (⟨#[]⟩ : ByteArray)))
theorem attr_Text.mono_l : ∀ k, (∀ y0 y1, LeO (attr_Text.j0 k y0 y1) (attr_Text.j0 (k + 1) y0 y1)) ∧ (∀ y0 y1, LeO (attr_Text.j1 k y0 y1) (attr_Text.j1 (k + 1) y0 y1))
  | 0 => ⟨fun _ _ r h => by simp [attr_Text.j0] at h, fun _ _ r h => by simp [attr_Text.j1] at h⟩
  | k + 1 => by
    obtain ⟨ih0, ih1⟩ := attr_Text.mono_l k
    refine ⟨?_, ?_⟩
    · intro y0 y1
      unfold attr_Text.j0
      repeat' first
      | (with_reducible exact ih0 _ _)
      | (with_reducible exact ih1 _ _)
      | (with_reducible exact LeO.refl _)
      | (with_reducible exact LeO.none _)
      | (with_reducible refine LeO.ite ?_ ?_)
      | (with_reducible refine LeO.bind ?_ (fun _ => ?_))
      | exact ih0 _ _
      | exact ih1 _ _
      | exact LeO.none _
      | refine LeO.ite ?_ ?_
      | refine LeO.bind ?_ (fun _ => ?_)
    · intro y0 y1
      unfold attr_Text.j1
      repeat' first
      | (with_reducible exact ih0 _ _)
      | (with_reducible exact ih1 _ _)
      | (with_reducible exact LeO.refl _)
      | (with_reducible exact LeO.none _)
      | (with_reducible refine LeO.ite ?_ ?_)
      | (with_reducible refine LeO.bind ?_ (fun _ => ?_))
      | exact ih0 _ _
      | exact ih1 _ _
      | exact LeO.none _
      | refine LeO.ite ?_ ?_
      | refine LeO.bind ?_ (fun _ => ?_)
theorem attr_Text.mono : ∀ a0 k, LeO (attr_Text.f k a0) (attr_Text.f (k + 1) a0) := by
  intro a0 k
  obtain ⟨ih0, ih1⟩ := attr_Text.mono_l k
  unfold attr_Text.f
  repeat' first
      | (with_reducible exact ih0 _ _)
      | (with_reducible exact ih1 _ _)
      | (with_reducible exact LeO.refl _)
      | (with_reducible exact LeO.none _)
      | (with_reducible refine LeO.ite ?_ ?_)
      | (with_reducible refine LeO.bind ?_ (fun _ => ?_))
      | exact ih0 _ _
      | exact ih1 _ _
      | exact LeO.none _
      | refine LeO.ite ?_ ?_
      | refine LeO.bind ?_ (fun _ => ?_)
set_option maxHeartbeats 8000000 in
set_option maxRecDepth 100000 in
theorem attr_Text.calls (k : Nat) (a0 : Int) (r : ByteArray) (w : World) (h : attr_Text.f k a0 = some r) :
    Calls Try.prog 20 #[.int .u8 a0] w fun e w' => e = .returned (.string r) ∧ Drawn0 w w' := by
  have H : ((attr_Protected.f a0).bind fun t104 => (if t104 = true then (if 0 + 1 ≤ 9223372036854775807 then (attr_Text.j0 k a0 ((⟨#[]⟩ : ByteArray) ++ (⟨#[80]⟩ : ByteArray))) else (none)) else (attr_Text.j0 k a0 (⟨#[]⟩ : ByteArray)))) = some r := h
  clear h
  replace H := Option.bind_eq_some_iff.mp H
  obtain ⟨t104, A20, H⟩ := H
  replace H : (if t104 = true then (if 0 + 1 ≤ 9223372036854775807 then (attr_Text.j0 k a0 ((⟨#[]⟩ : ByteArray) ++ (⟨#[80]⟩ : ByteArray))) else (none)) else (attr_Text.j0 k a0 (⟨#[]⟩ : ByteArray))) = some r := H
  have A2 := Aside0.mk A20
  clear A20
  have HC3 := Aside0.mk H
  clear H
  go_enter Try.func20, Try.ntmps20
  go_upto_if 5 with (first | ((with_reducible refine gate_callee (f := 9) rfl ?_); refine goesL_ (some 5) rfl rfl Try.func9 (by kernel_rfl) rfl #[.int .u8 a0] rfl (by (try simp only [List.map_toArray, List.map_cons, List.map_nil]); first | done | rfl | (simp only [List.length_drop, List.length_take]; rfl)) ?_; (with_reducible refine (attr_Protected.calls a0 t104 _ A2.out).mono ?_); rintro e w' ⟨rfl, ⟨nd, rfl⟩⟩; refine ⟨_, rfl, ?_⟩))
  (try simp only [Act.put, List.setIfInBounds_toArray, List.set_cons_zero, List.set_cons_succ])
  go_cut [3] (fun v3 wc => ∃ (kq : Nat) (x3_2 : ByteArray), v3 = .string x3_2 ∧ Aside0 (attr_Text.j0 kq a0 x3_2 = some r) ∧ Aside0 (kq ≤ k) ∧ Drawn0 w wc)
  case first =>
    have H := HC3.out
    clear HC3
    by_cases c4 : t104 = true
    · subst c4
      have H1 : (if 0 + 1 ≤ 9223372036854775807 then (attr_Text.j0 k a0 ((⟨#[]⟩ : ByteArray) ++ (⟨#[80]⟩ : ByteArray))) else (none)) = some r := by rw [if_pos rfl] at H; exact H
      clear H
      have H := H1
      clear H1
      by_cases c5 : 0 + 1 ≤ 9223372036854775807
      · rw [if_pos c5] at H
        have c5b0 := eq_true c5
        have c5b1 : decide (0 + 1 ≤ 9223372036854775807) = true := decide_eq_true c5
        try have c5b2 : (9223372036854775807 < 0 + 1) = False := eq_false (Nat.not_lt.2 c5)
        have H' := Aside0.mk H
        clear H
        go_wp2
        go_meet
        case rel => exact ⟨_, ((⟨#[]⟩ : ByteArray) ++ (⟨#[80]⟩ : ByteArray)), (by first | rfl | (simp; done) | (simp [*]; done)), H', ⟨by first | omega | exact Nat.le_refl _⟩, by repeat (first | exact Drawn0.refl _ | apply Drawn0.step)⟩
      · rw [if_neg c5] at H
        exact absurd H (by simp)
    · replace c4 := Bool.eq_false_iff.mpr c4
      subst c4
      have H1 : (attr_Text.j0 k a0 (⟨#[]⟩ : ByteArray)) = some r := by rw [if_neg (show ¬ (false = true) by decide)] at H; exact H
      clear H
      have H := H1
      clear H1
      have H' := Aside0.mk H
      clear H
      go_wp2
      go_meet
      case rel => exact ⟨_, ((⟨#[]⟩ : ByteArray)), (by first | rfl | (simp; done) | (simp [*]; done)), H', ⟨by first | omega | exact Nat.le_refl _⟩, by repeat (first | exact Drawn0.refl _ | apply Drawn0.step)⟩
  case rest =>
    clear HC3
    try clear c2
    try clear p2
    try clear c4
    try clear c5
    try clear c5b0
    try clear c5b1
    try clear c5b2
    obtain ⟨kq, x3_2, rfl, HA, HJ2, ⟨mc2, rfl⟩⟩ := hcut
    cases kq with
    | zero => exact absurd HA.out (by simp [attr_Text.j0])
    | succ kj2 =>
      have H := HA.out
      clear HA
      simp only [attr_Text.j0] at H
      replace H := Option.bind_eq_some_iff.mp H
      obtain ⟨t105, A60, H⟩ := H
      replace H : (if t105 = true then (if x3_2.size + 1 ≤ 9223372036854775807 then (attr_Text.j1 kj2 a0 (x3_2 ++ (⟨#[78]⟩ : ByteArray))) else (none)) else (attr_Text.j1 kj2 a0 x3_2)) = some r := H
      have A6 := Aside0.mk A60
      clear A60
      have HC7 := Aside0.mk H
      clear H
      go_upto_if 9 with (first | ((with_reducible refine gate_callee (f := 10) rfl ?_); refine goesL_ (some 9) rfl rfl Try.func10 (by kernel_rfl) rfl #[.int .u8 a0] rfl (by (try simp only [List.map_toArray, List.map_cons, List.map_nil]); first | done | rfl | (simp only [List.length_drop, List.length_take]; rfl)) ?_; (with_reducible refine (attr_Numeric.calls a0 t105 _ A6.out).mono ?_); rintro e w' ⟨rfl, ⟨nd, rfl⟩⟩; refine ⟨_, rfl, ?_⟩))
      (try simp only [Act.put, List.setIfInBounds_toArray, List.set_cons_zero, List.set_cons_succ])
      go_cut [3] (fun v3 wc => ∃ (kq : Nat) (x3_6 : ByteArray), v3 = .string x3_6 ∧ Aside0 (attr_Text.j1 kq a0 x3_6 = some r) ∧ Aside0 (kq ≤ kj2) ∧ Drawn0 w wc)
      case first =>
        have H := HC7.out
        clear HC7
        by_cases c8 : t105 = true
        · subst c8
          have H1 : (if x3_2.size + 1 ≤ 9223372036854775807 then (attr_Text.j1 kj2 a0 (x3_2 ++ (⟨#[78]⟩ : ByteArray))) else (none)) = some r := by rw [if_pos rfl] at H; exact H
          clear H
          have H := H1
          clear H1
          by_cases c9 : x3_2.size + 1 ≤ 9223372036854775807
          · rw [if_pos c9] at H
            have c9b0 := eq_true c9
            have c9b1 : decide (x3_2.size + 1 ≤ 9223372036854775807) = true := decide_eq_true c9
            try have c9b2 : (9223372036854775807 < x3_2.size + 1) = False := eq_false (Nat.not_lt.2 c9)
            have H' := Aside0.mk H
            clear H
            go_wp2
            go_meet
            case rel => exact ⟨_, (x3_2 ++ (⟨#[78]⟩ : ByteArray)), (by first | rfl | (simp; done) | (simp [*]; done)), H', ⟨by have := HJ2.out; first | omega | exact Nat.le_refl _⟩, by repeat (first | exact Drawn0.refl _ | apply Drawn0.step)⟩
          · rw [if_neg c9] at H
            exact absurd H (by simp)
        · replace c8 := Bool.eq_false_iff.mpr c8
          subst c8
          have H1 : (attr_Text.j1 kj2 a0 x3_2) = some r := by rw [if_neg (show ¬ (false = true) by decide)] at H; exact H
          clear H
          have H := H1
          clear H1
          have H' := Aside0.mk H
          clear H
          go_wp2
          go_meet
          case rel => exact ⟨_, (x3_2), (by first | rfl | (simp; done) | (simp [*]; done)), H', ⟨by have := HJ2.out; first | omega | exact Nat.le_refl _⟩, by repeat (first | exact Drawn0.refl _ | apply Drawn0.step)⟩
      case rest =>
        clear HC7
        try clear c1
        try clear c2
        try clear p2
        try clear c4
        try clear c5
        try clear c5b0
        try clear c5b1
        try clear c5b2
        try clear c8
        try clear c9
        try clear c9b0
        try clear c9b1
        try clear c9b2
        try clear p2
        obtain ⟨kq, x3_6, rfl, HA, HJ6, ⟨mc6, rfl⟩⟩ := hcut
        cases kq with
        | zero => exact absurd HA.out (by simp [attr_Text.j1])
        | succ kj6 =>
          have H := HA.out
          clear HA
          simp only [attr_Text.j1] at H
          replace H := Option.bind_eq_some_iff.mp H
          obtain ⟨t106, A100, H⟩ := H
          replace H : ((attr_Shown.f a0).bind fun t107 => (if 0 ≤ t106 then (if t106 ≤ (wrap64 (t107 + 1)) then (if (wrap64 (t107 + 1)) ≤ 4 then (if x3_6.size + ((⟨#[45, 43, 42, 33]⟩ : ByteArray).extract (t106 : Int).toNat ((wrap64 (t107 + 1)) : Int).toNat).size ≤ 9223372036854775807 then ((attr_Modified.f a0).bind fun t108 => (if t108 = true then (if (x3_6 ++ ((⟨#[45, 43, 42, 33]⟩ : ByteArray).extract (t106 : Int).toNat ((wrap64 (t107 + 1)) : Int).toNat)).size + 1 ≤ 9223372036854775807 then (some ((x3_6 ++ ((⟨#[45, 43, 42, 33]⟩ : ByteArray).extract (t106 : Int).toNat ((wrap64 (t107 + 1)) : Int).toNat)) ++ (⟨#[77]⟩ : ByteArray))) else (none)) else (some (x3_6 ++ ((⟨#[45, 43, 42, 33]⟩ : ByteArray).extract (t106 : Int).toNat ((wrap64 (t107 + 1)) : Int).toNat))))) else (none)) else (none)) else (none)) else (none))) = some r := H
          have A10 := Aside0.mk A100
          clear A100
          replace H := Option.bind_eq_some_iff.mp H
          obtain ⟨t107, A110, H⟩ := H
          replace H : (if 0 ≤ t106 then (if t106 ≤ (wrap64 (t107 + 1)) then (if (wrap64 (t107 + 1)) ≤ 4 then (if x3_6.size + ((⟨#[45, 43, 42, 33]⟩ : ByteArray).extract (t106 : Int).toNat ((wrap64 (t107 + 1)) : Int).toNat).size ≤ 9223372036854775807 then ((attr_Modified.f a0).bind fun t108 => (if t108 = true then (if (x3_6 ++ ((⟨#[45, 43, 42, 33]⟩ : ByteArray).extract (t106 : Int).toNat ((wrap64 (t107 + 1)) : Int).toNat)).size + 1 ≤ 9223372036854775807 then (some ((x3_6 ++ ((⟨#[45, 43, 42, 33]⟩ : ByteArray).extract (t106 : Int).toNat ((wrap64 (t107 + 1)) : Int).toNat)) ++ (⟨#[77]⟩ : ByteArray))) else (none)) else (some (x3_6 ++ ((⟨#[45, 43, 42, 33]⟩ : ByteArray).extract (t106 : Int).toNat ((wrap64 (t107 + 1)) : Int).toNat))))) else (none)) else (none)) else (none)) else (none)) = some r := H
          have A11 := Aside0.mk A110
          clear A110
          by_cases c12 : 0 ≤ t106
          · rw [if_pos c12] at H
            have c12b0 := eq_true c12
            have c12b1 : decide (0 ≤ t106) = true := decide_eq_true c12
            clear c12
            by_cases c13 : t106 ≤ (wrap64 (t107 + 1))
            · rw [if_pos c13] at H
              have c13b0 := eq_true c13
              have c13b1 : decide (t106 ≤ (wrap64 (t107 + 1))) = true := decide_eq_true c13
              by_cases c14 : (wrap64 (t107 + 1)) ≤ 4
              · rw [if_pos c14] at H
                have c14b0 := eq_true c14
                have c14b1 : decide ((wrap64 (t107 + 1)) ≤ 4) = true := decide_eq_true c14
                by_cases c15 : x3_6.size + ((⟨#[45, 43, 42, 33]⟩ : ByteArray).extract (t106 : Int).toNat ((wrap64 (t107 + 1)) : Int).toNat).size ≤ 9223372036854775807
                · rw [if_pos c15] at H
                  have c15b0 := eq_true c15
                  have c15b1 : decide (x3_6.size + ((⟨#[45, 43, 42, 33]⟩ : ByteArray).extract (t106 : Int).toNat ((wrap64 (t107 + 1)) : Int).toNat).size ≤ 9223372036854775807) = true := decide_eq_true c15
                  try have c15b2 : (9223372036854775807 < x3_6.size + ((⟨#[45, 43, 42, 33]⟩ : ByteArray).extract (t106 : Int).toNat ((wrap64 (t107 + 1)) : Int).toNat).size) = False := eq_false (Nat.not_lt.2 c15)
                  replace H := Option.bind_eq_some_iff.mp H
                  obtain ⟨t108, A160, H⟩ := H
                  replace H : (if t108 = true then (if (x3_6 ++ ((⟨#[45, 43, 42, 33]⟩ : ByteArray).extract (t106 : Int).toNat ((wrap64 (t107 + 1)) : Int).toNat)).size + 1 ≤ 9223372036854775807 then (some ((x3_6 ++ ((⟨#[45, 43, 42, 33]⟩ : ByteArray).extract (t106 : Int).toNat ((wrap64 (t107 + 1)) : Int).toNat)) ++ (⟨#[77]⟩ : ByteArray))) else (none)) else (some (x3_6 ++ ((⟨#[45, 43, 42, 33]⟩ : ByteArray).extract (t106 : Int).toNat ((wrap64 (t107 + 1)) : Int).toNat)))) = some r := H
                  have A16 := Aside0.mk A160
                  clear A160
                  by_cases c17 : t108 = true
                  · subst c17
                    have H1 : (if (x3_6 ++ ((⟨#[45, 43, 42, 33]⟩ : ByteArray).extract (t106 : Int).toNat ((wrap64 (t107 + 1)) : Int).toNat)).size + 1 ≤ 9223372036854775807 then (some ((x3_6 ++ ((⟨#[45, 43, 42, 33]⟩ : ByteArray).extract (t106 : Int).toNat ((wrap64 (t107 + 1)) : Int).toNat)) ++ (⟨#[77]⟩ : ByteArray))) else (none)) = some r := by rw [if_pos rfl] at H; exact H
                    clear H
                    have H := H1
                    clear H1
                    by_cases c18 : (x3_6 ++ ((⟨#[45, 43, 42, 33]⟩ : ByteArray).extract (t106 : Int).toNat ((wrap64 (t107 + 1)) : Int).toNat)).size + 1 ≤ 9223372036854775807
                    · rw [if_pos c18] at H
                      have c18b0 := eq_true c18
                      have c18b1 : decide ((x3_6 ++ ((⟨#[45, 43, 42, 33]⟩ : ByteArray).extract (t106 : Int).toNat ((wrap64 (t107 + 1)) : Int).toNat)).size + 1 ≤ 9223372036854775807) = true := decide_eq_true c18
                      try (have c18q : (9223372036854775807 < x3_6.size + (((wrap64 (t107 + 1))).toNat - t106.toNat) + 1) = False := eq_false (by (have h_ := c18; simp only [ByteArray.size_append, ByteArray.size_extract] at h_; have hz_ : (⟨#[45, 43, 42, 33]⟩ : ByteArray).size = 4 := rfl; rw [hz_] at h_; omega)))
                      try have c18b2 : (9223372036854775807 < (x3_6 ++ ((⟨#[45, 43, 42, 33]⟩ : ByteArray).extract (t106 : Int).toNat ((wrap64 (t107 + 1)) : Int).toNat)).size + 1) = False := eq_false (Nat.not_lt.2 c18)
                      try have c18q : (9223372036854775807 < x3_6.size + ((⟨#[45, 43, 42, 33]⟩ : ByteArray).extract (t106 : Int).toNat ((wrap64 (t107 + 1)) : Int).toNat).size + 1) = False := eq_false (by (have h_ := c18; rw [ByteArray.size_append] at h_; omega))
                      obtain rfl := Option.some.inj H
                      go_wp2_with (first | ((with_reducible refine gate_callee (f := 12) rfl ?_); refine goesL_ (some 14) rfl rfl Try.func12 (by kernel_rfl) rfl #[.int .u8 a0] rfl (by (try simp only [List.map_toArray, List.map_cons, List.map_nil]); first | done | rfl | (simp only [List.length_drop, List.length_take]; rfl)) ?_; (with_reducible refine (attr_Shown.calls a0 t106 _ A10.out).mono ?_); rintro e w' ⟨rfl, ⟨nd, rfl⟩⟩; refine ⟨_, rfl, ?_⟩) | ((with_reducible refine gate_callee (f := 12) rfl ?_); refine goesL_ (some 16) rfl rfl Try.func12 (by kernel_rfl) rfl #[.int .u8 a0] rfl (by (try simp only [List.map_toArray, List.map_cons, List.map_nil]); first | done | rfl | (simp only [List.length_drop, List.length_take]; rfl)) ?_; (with_reducible refine (attr_Shown.calls a0 t107 _ A11.out).mono ?_); rintro e w' ⟨rfl, ⟨nd, rfl⟩⟩; refine ⟨_, rfl, ?_⟩) | ((with_reducible refine gate_callee (f := 14) rfl ?_); refine goesL_ (some 21) rfl rfl Try.func14 (by kernel_rfl) rfl #[.int .u8 a0] rfl (by (try simp only [List.map_toArray, List.map_cons, List.map_nil]); first | done | rfl | (simp only [List.length_drop, List.length_take]; rfl)) ?_; (with_reducible refine (attr_Modified.calls a0 true _ A16.out).mono ?_); rintro e w' ⟨rfl, ⟨nd, rfl⟩⟩; refine ⟨_, rfl, ?_⟩) | (go_at_call 12; (with_reducible refine (attr_Shown.calls a0 t106 _ A10.out).mono ?_); rintro e w' ⟨rfl, ⟨nd, rfl⟩⟩) | (go_at_call 12; (with_reducible refine (attr_Shown.calls a0 t107 _ A11.out).mono ?_); rintro e w' ⟨rfl, ⟨nd, rfl⟩⟩) | (go_at_call 14; (with_reducible refine (attr_Modified.calls a0 true _ A16.out).mono ?_); rintro e w' ⟨rfl, ⟨nd, rfl⟩⟩))
                      go_ret
                      exact ⟨by first | rfl | (simp; done) | (simp [*]; done), by repeat (first | exact Drawn0.refl _ | apply Drawn0.step)⟩
                    · rw [if_neg c18] at H
                      exact absurd H (by simp)
                  · replace c17 := Bool.eq_false_iff.mpr c17
                    subst c17
                    have H1 : (some (x3_6 ++ ((⟨#[45, 43, 42, 33]⟩ : ByteArray).extract (t106 : Int).toNat ((wrap64 (t107 + 1)) : Int).toNat))) = some r := by rw [if_neg (show ¬ (false = true) by decide)] at H; exact H
                    clear H
                    have H := H1
                    clear H1
                    obtain rfl := Option.some.inj H
                    go_wp2_with (first | ((with_reducible refine gate_callee (f := 12) rfl ?_); refine goesL_ (some 14) rfl rfl Try.func12 (by kernel_rfl) rfl #[.int .u8 a0] rfl (by (try simp only [List.map_toArray, List.map_cons, List.map_nil]); first | done | rfl | (simp only [List.length_drop, List.length_take]; rfl)) ?_; (with_reducible refine (attr_Shown.calls a0 t106 _ A10.out).mono ?_); rintro e w' ⟨rfl, ⟨nd, rfl⟩⟩; refine ⟨_, rfl, ?_⟩) | ((with_reducible refine gate_callee (f := 12) rfl ?_); refine goesL_ (some 16) rfl rfl Try.func12 (by kernel_rfl) rfl #[.int .u8 a0] rfl (by (try simp only [List.map_toArray, List.map_cons, List.map_nil]); first | done | rfl | (simp only [List.length_drop, List.length_take]; rfl)) ?_; (with_reducible refine (attr_Shown.calls a0 t107 _ A11.out).mono ?_); rintro e w' ⟨rfl, ⟨nd, rfl⟩⟩; refine ⟨_, rfl, ?_⟩) | ((with_reducible refine gate_callee (f := 14) rfl ?_); refine goesL_ (some 21) rfl rfl Try.func14 (by kernel_rfl) rfl #[.int .u8 a0] rfl (by (try simp only [List.map_toArray, List.map_cons, List.map_nil]); first | done | rfl | (simp only [List.length_drop, List.length_take]; rfl)) ?_; (with_reducible refine (attr_Modified.calls a0 false _ A16.out).mono ?_); rintro e w' ⟨rfl, ⟨nd, rfl⟩⟩; refine ⟨_, rfl, ?_⟩) | (go_at_call 12; (with_reducible refine (attr_Shown.calls a0 t106 _ A10.out).mono ?_); rintro e w' ⟨rfl, ⟨nd, rfl⟩⟩) | (go_at_call 12; (with_reducible refine (attr_Shown.calls a0 t107 _ A11.out).mono ?_); rintro e w' ⟨rfl, ⟨nd, rfl⟩⟩) | (go_at_call 14; (with_reducible refine (attr_Modified.calls a0 false _ A16.out).mono ?_); rintro e w' ⟨rfl, ⟨nd, rfl⟩⟩))
                    go_ret
                    exact ⟨by first | rfl | (simp; done) | (simp [*]; done), by repeat (first | exact Drawn0.refl _ | apply Drawn0.step)⟩
                · rw [if_neg c15] at H
                  exact absurd H (by simp)
              · rw [if_neg c14] at H
                exact absurd H (by simp)
            · rw [if_neg c13] at H
              exact absurd H (by simp)
          · rw [if_neg c12] at H
            exact absurd H (by simp)

/-! ### attr_Check: function 22 -/
mutual
def attr_Check.j0 : Nat → Int → Bool → Int → Int → Option (Int)
  | 0, _, _, _, _ => none
  | k + 1, x0, x5, x110000, x110001 => if x0 = 41 then (attr_Check.j1 k x5 x0 (x0 == 41) x110000 x110001) else (attr_Check.j1 k x5 x0 (x0 == 44) x110000 x110001)
def attr_Check.j1 : Nat → Bool → Int → Bool → Int → Int → Option (Int)
  | 0, _, _, _, _, _ => none
  | k + 1, x5, x14, x15, x110000, x110001 => if x15 = true then (if x5 = true then (some 0) else (if x110000 = 192 then (some 0) else (some 33))) else (if x14 = 40 then (if x5 = true then (some 0) else (if x110000 = 0 then (if x110001 = 0 then (some 0) else (some 33)) else (some 33))) else (some 33))
end
def attr_Check.f (k : Nat) (a0 : Int) (a1_0 : Int) (a1_1 : Int) : Option (Int) := if a1_0 = 65 then (attr_Check.j0 k a0 true a1_0 a1_1) else (attr_Check.j0 k a0 (a1_0 == 66) a1_0 a1_1)
theorem attr_Check.mono_l : ∀ k, (∀ y0 y1 y2 y3, LeO (attr_Check.j0 k y0 y1 y2 y3) (attr_Check.j0 (k + 1) y0 y1 y2 y3)) ∧ (∀ y0 y1 y2 y3 y4, LeO (attr_Check.j1 k y0 y1 y2 y3 y4) (attr_Check.j1 (k + 1) y0 y1 y2 y3 y4))
  | 0 => ⟨fun _ _ _ _ r h => by simp [attr_Check.j0] at h, fun _ _ _ _ _ r h => by simp [attr_Check.j1] at h⟩
  | k + 1 => by
    obtain ⟨ih0, ih1⟩ := attr_Check.mono_l k
    refine ⟨?_, ?_⟩
    · intro y0 y1 y2 y3
      unfold attr_Check.j0
      repeat' first
      | (with_reducible exact ih0 _ _ _ _)
      | (with_reducible exact ih1 _ _ _ _ _)
      | (with_reducible exact LeO.refl _)
      | (with_reducible exact LeO.none _)
      | (with_reducible refine LeO.ite ?_ ?_)
      | (with_reducible refine LeO.bind ?_ (fun _ => ?_))
      | exact ih0 _ _ _ _
      | exact ih1 _ _ _ _ _
      | exact LeO.none _
      | refine LeO.ite ?_ ?_
      | refine LeO.bind ?_ (fun _ => ?_)
    · intro y0 y1 y2 y3 y4
      unfold attr_Check.j1
      repeat' first
      | (with_reducible exact ih0 _ _ _ _)
      | (with_reducible exact ih1 _ _ _ _ _)
      | (with_reducible exact LeO.refl _)
      | (with_reducible exact LeO.none _)
      | (with_reducible refine LeO.ite ?_ ?_)
      | (with_reducible refine LeO.bind ?_ (fun _ => ?_))
      | exact ih0 _ _ _ _
      | exact ih1 _ _ _ _ _
      | exact LeO.none _
      | refine LeO.ite ?_ ?_
      | refine LeO.bind ?_ (fun _ => ?_)
theorem attr_Check.mono : ∀ a0 a1 a2 k, LeO (attr_Check.f k a0 a1 a2) (attr_Check.f (k + 1) a0 a1 a2) := by
  intro a0 a1 a2 k
  obtain ⟨ih0, ih1⟩ := attr_Check.mono_l k
  unfold attr_Check.f
  repeat' first
      | (with_reducible exact ih0 _ _ _ _)
      | (with_reducible exact ih1 _ _ _ _ _)
      | (with_reducible exact LeO.refl _)
      | (with_reducible exact LeO.none _)
      | (with_reducible refine LeO.ite ?_ ?_)
      | (with_reducible refine LeO.bind ?_ (fun _ => ?_))
      | exact ih0 _ _ _ _
      | exact ih1 _ _ _ _ _
      | exact LeO.none _
      | refine LeO.ite ?_ ?_
      | refine LeO.bind ?_ (fun _ => ?_)
set_option maxHeartbeats 8000000 in
set_option maxRecDepth 100000 in
theorem attr_Check.calls (k : Nat) (a0 : Int) (a1_0 : Int) (a1_1 : Int) (r : Int) (w : World) (h : attr_Check.f k a0 a1_0 a1_1 = some r) :
    Calls Try.prog 22 #[.int .u8 a0, .agg #[.int .u8 a1_0, .int .u8 a1_1]] w fun e w' => e = .returned (.int .i64 r) ∧ Below w.heap.size w w' := by
  have hu36 := Try.underlying36
  have HB := Aside0.mk (Below.refl w.heap.size w)
  have H : (if a1_0 = 65 then (attr_Check.j0 k a0 true a1_0 a1_1) else (attr_Check.j0 k a0 (a1_0 == 66) a1_0 a1_1)) = some r := h
  clear h
  have HC3 := Aside0.mk H
  clear H
  go_enter Try.func22, Try.ntmps22
  go_upto_region 1 with (first | ((with_reducible refine gate_dst (N := 3) rfl ?_); refine box_event ?hg (N := 3) ?hd (cs := #[.int .u8 a1_0, .int .u8 a1_1]) (t := 36) ?hr ?_; (case hd => rfl); (case hg => rfl); (case hr => first | (go_simp; done) | (go_simp; rfl)); intro gb109 hg w4 hbox hb; have n0_ := Aside0.mk (below_step (by repeat (first | (with_reducible first | exact HB.out | apply below_alloc | apply pw_below_drewN | apply below_drew1) | exact HB.out)) hb); have n1_ := Aside0.mk (hbox); have n2_ := Aside0.mk ((by rw [hg]; exact (below_size (by repeat (first | (with_reducible first | exact HB.out | apply below_alloc | apply pw_below_drewN | apply below_drew1) | exact HB.out))) : w.heap.size ≤ gb109)); have n3_ := Aside0.mk ((by rw [hg]; exact (below_size (by repeat (first | (with_reducible first | exact HB.out | apply below_alloc | apply pw_below_drewN | apply below_drew1) | exact HB.out))) : w.heap.size ≤ gb109)); clear HB; have HB := n0_; have BK109 := n1_; have GW109 := n2_; have GE109 := n3_; clear n0_ n1_ n2_ n3_; clear hb hbox hg))
  (try simp only [Act.put, List.setIfInBounds_toArray, List.set_cons_zero, List.set_cons_succ])
  go_cut [5] (fun v5 wc => ∃ (kq : Nat) (x5_2 : Bool), v5 = .bool x5_2 ∧ Aside0 (attr_Check.j0 kq a0 x5_2 a1_0 a1_1 = some r) ∧ Aside0 (kq ≤ k) ∧ Aside0 (wc.heap[gb109]? = some (.cells #[.int .u8 a1_0, .int .u8 a1_1] 36 (0, 0))) ∧ Aside0 (Below w.heap.size w wc))
  case first =>
    have H := HC3.out
    clear HC3
    by_cases c5 : a1_0 = 65
    · rw [if_pos c5] at H
      have c5b0 : (a1_0 == 65) = true := beq_iff_eq.mpr c5
      have c5b1 : (a1_0 != 65) = false := bne_eq_false_iff_eq.mpr c5
      clear c5
      (first | rw [c5b0] | (simp only [i64_w, i32_w]; rw [c5b0]) | skip)
      have H' := Aside0.mk H
      clear H
      have hcz6_0 : w4.cell? ⟨gb109, 0, none⟩ = some (.int .u8 a1_0) := (blk_cell BK109.out 0).trans rfl
      have hcz6_1 : w4.cell? ⟨gb109, 1, none⟩ = some (.int .u8 a1_1) := (blk_cell BK109.out 1).trans rfl
      have hfz6_0 := blk_frozen BK109.out 0
      have hfz6_1 := blk_frozen BK109.out 1
      go_wp2
      go_meet
      case rel => exact ⟨_, (true), (by first | rfl | (simp; done) | (simp [*]; done)), H', ⟨by first | omega | exact Nat.le_refl _⟩, ⟨by (with_reducible repeat (first | refine blk_drewN ?_ _ | refine blk_drew ?_ | refine blk_alloc ?_ _)); exact BK109.out⟩, ⟨by repeat (first | (with_reducible first | exact HB.out | apply below_alloc | apply pw_below_drewN | apply below_drew1 | refine below_set ?_ GE109.out) | exact HB.out)⟩⟩
    · rw [if_neg c5] at H
      have c5b0 : (a1_0 == 65) = false := beq_eq_false_iff_ne.mpr c5
      have c5b1 : (a1_0 != 65) = true := bne_iff_ne.mpr c5
      (first | rw [c5b0] | (simp only [i64_w, i32_w]; rw [c5b0]) | skip)
      have H' := Aside0.mk H
      clear H
      have hcz7_0 : w4.cell? ⟨gb109, 0, none⟩ = some (.int .u8 a1_0) := (blk_cell BK109.out 0).trans rfl
      have hcz7_1 : w4.cell? ⟨gb109, 1, none⟩ = some (.int .u8 a1_1) := (blk_cell BK109.out 1).trans rfl
      have hfz7_0 := blk_frozen BK109.out 0
      have hfz7_1 := blk_frozen BK109.out 1
      go_wp2
      go_meet
      case rel => exact ⟨_, ((a1_0 == 66)), (by first | rfl | (simp; done) | (simp [*]; done)), H', ⟨by first | omega | exact Nat.le_refl _⟩, ⟨by (with_reducible repeat (first | refine blk_drewN ?_ _ | refine blk_drew ?_ | refine blk_alloc ?_ _)); exact BK109.out⟩, ⟨by repeat (first | (with_reducible first | exact HB.out | apply below_alloc | apply pw_below_drewN | apply below_drew1 | refine below_set ?_ GE109.out) | exact HB.out)⟩⟩
  case rest =>
    clear HC3
    try clear c2
    try clear p2
    try clear c5
    try clear c5b0
    try clear c5b1
    try clear hcz6_0
    try clear hcz6_1
    try clear hcz7_0
    try clear hcz7_1
    try clear hfz6_0
    try clear hfz6_1
    try clear hfz7_0
    try clear hfz7_1
    obtain ⟨kq, x5_2, rfl, HA, HJ2, BK109, HB⟩ := hcut
    cases kq with
    | zero => exact absurd HA.out (by simp [attr_Check.j0])
    | succ kj2 =>
      have H := HA.out
      clear HA
      simp only [attr_Check.j0] at H
      have HC8 := Aside0.mk H
      clear H
      go_upto_if 15 with (fail)
      go_cut [15] (fun v15 wc => ∃ (kq : Nat) (x15_7 : Bool), v15 = .bool x15_7 ∧ Aside0 (attr_Check.j1 kq x5_2 a0 x15_7 a1_0 a1_1 = some r) ∧ Aside0 (kq ≤ kj2) ∧ Aside0 (wc.heap[gb109]? = some (.cells #[.int .u8 a1_0, .int .u8 a1_1] 36 (0, 0))) ∧ Aside0 (Below w.heap.size w wc))
      case first =>
        have H := HC8.out
        clear HC8
        by_cases c9 : a0 = 41
        · rw [if_pos c9] at H
          have c9b0 : (a0 == 41) = true := beq_iff_eq.mpr c9
          have c9b1 : (a0 != 41) = false := bne_eq_false_iff_eq.mpr c9
          clear c9
          (first | rw [c9b0] | (simp only [i64_w, i32_w]; rw [c9b0]) | skip)
          have H' := Aside0.mk H
          clear H
          go_wp2
          go_meet
          case rel => exact ⟨_, ((a0 == 41)), (by first | rfl | (simp; done) | (simp [*]; done)), H', ⟨by have := HJ2.out; first | omega | exact Nat.le_refl _⟩, ⟨by (with_reducible repeat (first | refine blk_drewN ?_ _ | refine blk_drew ?_ | refine blk_alloc ?_ _)); exact BK109.out⟩, ⟨by repeat (first | (with_reducible first | exact HB.out | apply below_alloc | apply pw_below_drewN | apply below_drew1 | refine below_set ?_ GE109.out) | exact HB.out)⟩⟩
        · rw [if_neg c9] at H
          have c9b0 : (a0 == 41) = false := beq_eq_false_iff_ne.mpr c9
          have c9b1 : (a0 != 41) = true := bne_iff_ne.mpr c9
          (first | rw [c9b0] | (simp only [i64_w, i32_w]; rw [c9b0]) | skip)
          have H' := Aside0.mk H
          clear H
          go_wp2
          go_meet
          case rel => exact ⟨_, ((a0 == 44)), (by first | rfl | (simp; done) | (simp [*]; done)), H', ⟨by have := HJ2.out; first | omega | exact Nat.le_refl _⟩, ⟨by (with_reducible repeat (first | refine blk_drewN ?_ _ | refine blk_drew ?_ | refine blk_alloc ?_ _)); exact BK109.out⟩, ⟨by repeat (first | (with_reducible first | exact HB.out | apply below_alloc | apply pw_below_drewN | apply below_drew1 | refine below_set ?_ GE109.out) | exact HB.out)⟩⟩
      case rest =>
        clear HC8
        try clear c2
        try clear p2
        try clear c5
        try clear c5b0
        try clear c5b1
        try clear c9
        try clear c9b0
        try clear c9b1
        try clear hcz6_0
        try clear hcz6_1
        try clear hcz7_0
        try clear hcz7_1
        try clear hfz6_0
        try clear hfz6_1
        try clear hfz7_0
        try clear hfz7_1
        try clear p2
        obtain ⟨kq, x15_7, rfl, HA, HJ7, BK109, HB⟩ := hcut
        cases kq with
        | zero => exact absurd HA.out (by simp [attr_Check.j1])
        | succ kj7 =>
          have H := HA.out
          clear HA
          simp only [attr_Check.j1] at H
          by_cases c10 : x15_7 = true
          · subst c10
            have H1 : (if x5_2 = true then (some 0) else (if a1_0 = 192 then (some 0) else (some 33))) = some r := by rw [if_pos rfl] at H; exact H
            clear H
            have H := H1
            clear H1
            by_cases c11 : x5_2 = true
            · subst c11
              have H1 : (some 0) = some r := by rw [if_pos rfl] at H; exact H
              clear H
              have H := H1
              clear H1
              obtain rfl := Option.some.inj H
              go_wp2
              go_ret
              exact ⟨by first | rfl | (simp [errW_none, errW_some] <;> rfl) | (simp [*, errW_none, errW_some] <;> rfl), by repeat (first | (with_reducible first | exact HB.out | apply below_alloc | apply pw_below_drewN | apply below_drew1 | refine below_set ?_ GE109.out) | exact HB.out)⟩
            · replace c11 := Bool.eq_false_iff.mpr c11
              subst c11
              have H1 : (if a1_0 = 192 then (some 0) else (some 33)) = some r := by rw [if_neg (show ¬ (false = true) by decide)] at H; exact H
              clear H
              have H := H1
              clear H1
              by_cases c12 : a1_0 = 192
              · rw [if_pos c12] at H
                have c12b0 : (a1_0 == 192) = true := beq_iff_eq.mpr c12
                have c12b1 : (a1_0 != 192) = false := bne_eq_false_iff_eq.mpr c12
                clear c12
                obtain rfl := Option.some.inj H
                have hcz13_0 : wc.cell? ⟨gb109, 0, none⟩ = some (.int .u8 a1_0) := (blk_cell BK109.out 0).trans rfl
                have hcz13_1 : wc.cell? ⟨gb109, 1, none⟩ = some (.int .u8 a1_1) := (blk_cell BK109.out 1).trans rfl
                have hfz13_0 := blk_frozen BK109.out 0
                have hfz13_1 := blk_frozen BK109.out 1
                go_wp2
                go_ret
                exact ⟨by first | rfl | (simp [errW_none, errW_some] <;> rfl) | (simp [*, errW_none, errW_some] <;> rfl), by repeat (first | (with_reducible first | exact HB.out | apply below_alloc | apply pw_below_drewN | apply below_drew1 | refine below_set ?_ GE109.out) | exact HB.out)⟩
              · rw [if_neg c12] at H
                have c12b0 : (a1_0 == 192) = false := beq_eq_false_iff_ne.mpr c12
                have c12b1 : (a1_0 != 192) = true := bne_iff_ne.mpr c12
                obtain rfl := Option.some.inj H
                have hcz14_0 : wc.cell? ⟨gb109, 0, none⟩ = some (.int .u8 a1_0) := (blk_cell BK109.out 0).trans rfl
                have hcz14_1 : wc.cell? ⟨gb109, 1, none⟩ = some (.int .u8 a1_1) := (blk_cell BK109.out 1).trans rfl
                have hfz14_0 := blk_frozen BK109.out 0
                have hfz14_1 := blk_frozen BK109.out 1
                go_wp2
                go_ret
                exact ⟨by first | rfl | (simp [errW_none, errW_some] <;> rfl) | (simp [*, errW_none, errW_some] <;> rfl), by repeat (first | (with_reducible first | exact HB.out | apply below_alloc | apply pw_below_drewN | apply below_drew1 | refine below_set ?_ GE109.out) | exact HB.out)⟩
          · replace c10 := Bool.eq_false_iff.mpr c10
            subst c10
            have H1 : (if a0 = 40 then (if x5_2 = true then (some 0) else (if a1_0 = 0 then (if a1_1 = 0 then (some 0) else (some 33)) else (some 33))) else (some 33)) = some r := by rw [if_neg (show ¬ (false = true) by decide)] at H; exact H
            clear H
            have H := H1
            clear H1
            by_cases c15 : a0 = 40
            · rw [if_pos c15] at H
              have c15b0 : (a0 == 40) = true := beq_iff_eq.mpr c15
              have c15b1 : (a0 != 40) = false := bne_eq_false_iff_eq.mpr c15
              clear c15
              by_cases c16 : x5_2 = true
              · subst c16
                have H1 : (some 0) = some r := by rw [if_pos rfl] at H; exact H
                clear H
                have H := H1
                clear H1
                obtain rfl := Option.some.inj H
                go_wp2
                go_ret
                exact ⟨by first | rfl | (simp [errW_none, errW_some] <;> rfl) | (simp [*, errW_none, errW_some] <;> rfl), by repeat (first | (with_reducible first | exact HB.out | apply below_alloc | apply pw_below_drewN | apply below_drew1 | refine below_set ?_ GE109.out) | exact HB.out)⟩
              · replace c16 := Bool.eq_false_iff.mpr c16
                subst c16
                have H1 : (if a1_0 = 0 then (if a1_1 = 0 then (some 0) else (some 33)) else (some 33)) = some r := by rw [if_neg (show ¬ (false = true) by decide)] at H; exact H
                clear H
                have H := H1
                clear H1
                by_cases c17 : a1_0 = 0
                · rw [if_pos c17] at H
                  have c17b0 : (a1_0 == 0) = true := beq_iff_eq.mpr c17
                  have c17b1 : (a1_0 != 0) = false := bne_eq_false_iff_eq.mpr c17
                  clear c17
                  by_cases c18 : a1_1 = 0
                  · rw [if_pos c18] at H
                    have c18b0 : (a1_1 == 0) = true := beq_iff_eq.mpr c18
                    have c18b1 : (a1_1 != 0) = false := bne_eq_false_iff_eq.mpr c18
                    clear c18
                    obtain rfl := Option.some.inj H
                    have hcz19_0 : wc.cell? ⟨gb109, 0, none⟩ = some (.int .u8 a1_0) := (blk_cell BK109.out 0).trans rfl
                    have hcz19_1 : wc.cell? ⟨gb109, 1, none⟩ = some (.int .u8 a1_1) := (blk_cell BK109.out 1).trans rfl
                    have hfz19_0 := blk_frozen BK109.out 0
                    have hfz19_1 := blk_frozen BK109.out 1
                    go_wp2
                    go_ret
                    exact ⟨by first | rfl | (simp [errW_none, errW_some] <;> rfl) | (simp [*, errW_none, errW_some] <;> rfl), by repeat (first | (with_reducible first | exact HB.out | apply below_alloc | apply pw_below_drewN | apply below_drew1 | refine below_set ?_ GE109.out) | exact HB.out)⟩
                  · rw [if_neg c18] at H
                    have c18b0 : (a1_1 == 0) = false := beq_eq_false_iff_ne.mpr c18
                    have c18b1 : (a1_1 != 0) = true := bne_iff_ne.mpr c18
                    obtain rfl := Option.some.inj H
                    have hcz20_0 : wc.cell? ⟨gb109, 0, none⟩ = some (.int .u8 a1_0) := (blk_cell BK109.out 0).trans rfl
                    have hcz20_1 : wc.cell? ⟨gb109, 1, none⟩ = some (.int .u8 a1_1) := (blk_cell BK109.out 1).trans rfl
                    have hfz20_0 := blk_frozen BK109.out 0
                    have hfz20_1 := blk_frozen BK109.out 1
                    go_wp2
                    go_ret
                    exact ⟨by first | rfl | (simp [errW_none, errW_some] <;> rfl) | (simp [*, errW_none, errW_some] <;> rfl), by repeat (first | (with_reducible first | exact HB.out | apply below_alloc | apply pw_below_drewN | apply below_drew1 | refine below_set ?_ GE109.out) | exact HB.out)⟩
                · rw [if_neg c17] at H
                  have c17b0 : (a1_0 == 0) = false := beq_eq_false_iff_ne.mpr c17
                  have c17b1 : (a1_0 != 0) = true := bne_iff_ne.mpr c17
                  obtain rfl := Option.some.inj H
                  have hcz21_0 : wc.cell? ⟨gb109, 0, none⟩ = some (.int .u8 a1_0) := (blk_cell BK109.out 0).trans rfl
                  have hcz21_1 : wc.cell? ⟨gb109, 1, none⟩ = some (.int .u8 a1_1) := (blk_cell BK109.out 1).trans rfl
                  have hfz21_0 := blk_frozen BK109.out 0
                  have hfz21_1 := blk_frozen BK109.out 1
                  go_wp2
                  go_ret
                  exact ⟨by first | rfl | (simp [errW_none, errW_some] <;> rfl) | (simp [*, errW_none, errW_some] <;> rfl), by repeat (first | (with_reducible first | exact HB.out | apply below_alloc | apply pw_below_drewN | apply below_drew1 | refine below_set ?_ GE109.out) | exact HB.out)⟩
            · rw [if_neg c15] at H
              have c15b0 : (a0 == 40) = false := beq_eq_false_iff_ne.mpr c15
              have c15b1 : (a0 != 40) = true := bne_iff_ne.mpr c15
              obtain rfl := Option.some.inj H
              go_wp2
              go_ret
              exact ⟨by first | rfl | (simp [errW_none, errW_some] <;> rfl) | (simp [*, errW_none, errW_some] <;> rfl), by repeat (first | (with_reducible first | exact HB.out | apply below_alloc | apply pw_below_drewN | apply below_drew1 | refine below_set ?_ GE109.out) | exact HB.out)⟩

end Go.Proofs.Ythimdjdnpfaamaa.P
