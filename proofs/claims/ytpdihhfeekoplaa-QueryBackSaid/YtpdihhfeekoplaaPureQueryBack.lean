/- -/
import Derived.Test.YtpdihhfeekoplaaGoalQueryBack
import Derived.Test.YtpdihhfeekoplaaPlainP
namespace Go.Proofs.Ytpdihhfeekoplaa.Pure
open Go.RowKit Go.Proofs.Ytpdihhfeekoplaa.P Go.Proofs.YtpdihhfeekoplaaW.PrintWords Go.Proofs.YtpdihhfeekoplaaW.PrintLast Go.Proofs.YtpdihhfeekoplaaW.PrintMore Go.Proofs.YtpdihhfeekoplaaO
open Go.Proofs.Ytpdihhfeekoplaa.Plain
open Go.Proofs.Ytpdihhfeekoplaa.A
set_option linter.unusedVariables false
set_option linter.unusedSimpArgs false
/- YOURS -/
theorem writes (k : Nat) (a b c d : Int) (l m : List Int) : query_Write.f k a b c d l m = Go.Proofs.Ytpdihhfeekoplaa.A.query_Write.f k a b c d l m := rfl
theorem alive_more (m : Nat) : greenscreenlaw24_alive.f (m + 30) = some true := by
  refine at_rounds greenscreenlaw24_alive.mono (Nat.le_add_left 30 m) ?_
  kernel_rfl
theorem alive_ok {k : Nat} (hk : 30 ≤ k) : greenscreenlaw24_alive.f k = some true := by
  obtain ⟨m, rfl⟩ : ∃ m, k = m + 30 := ⟨k - 30, by omega⟩
  exact alive_more m
theorem byte_of {a : Int} (h : (Lit.int .u8 a).wf = true) : okB a := by
  have h1 : IntKind.u8.min = 0 := rfl
  have h2 : IntKind.u8.max = 255 := rfl
  have h3 : IntKind.u8.min ≤ a ∧ a ≤ IntKind.u8.max := by simpa [Lit.wf] using h
  unfold okB
  omega
theorem same_loop (l : List Int) (hl : l.length < 9223372036854775807) : ∀ (m k i : Nat), i + m = l.length → m < k → greenscreenref01_Same.l0 k l l (i : Int) = some true := by
  intro m
  induction m with
  | zero =>
    intro k i hi hk
    obtain ⟨k, rfl⟩ : ∃ j, k = j + 1 := ⟨k - 1, by omega⟩
    rw [greenscreenref01_Same.l0, if_neg (by omega)]
  | succ m ih =>
    intro k i hi hk
    obtain ⟨k, rfl⟩ : ∃ j, k = j + 1 := ⟨k - 1, by omega⟩
    rw [greenscreenref01_Same.l0, if_pos (by omega), if_pos (by omega), if_pos (by omega), if_pos rfl, wrap_id (by omega) (by omega)]
    exact ih k (i + 1) (by omega) (by omega)
theorem same_self (l : List Int) (hl : l.length < 9223372036854775807) {k : Nat} (hk : l.length < k) : greenscreenref01_Same.f k l l = some true := by
  rw [greenscreenref01_Same.f, if_pos rfl]
  exact same_loop l hl l.length k 0 (by omega) hk
theorem copy_loop (l : List Int) (hl : l.length < 100000) : ∀ (m k i : Nat), i + m = l.length → m < k → greenscreenref01_Copy.l0 k l (l.take i) (i : Int) = some l := by
  intro m
  induction m with
  | zero =>
    intro k i hi hk
    obtain ⟨k, rfl⟩ : ∃ j, k = j + 1 := ⟨k - 1, by omega⟩
    rw [greenscreenref01_Copy.l0, if_neg (by omega), List.take_of_length_le (by omega)]
  | succ m ih =>
    intro k i hi hk
    obtain ⟨k, rfl⟩ : ∃ j, k = j + 1 := ⟨k - 1, by omega⟩
    have e : l.take i ++ [rd l (i : Int)] = l.take (i + 1) := by
      rw [List.take_add_one]
      simp [rd, List.getD, List.getElem?_eq_getElem (show i < l.length by omega)]
    rw [greenscreenref01_Copy.l0, if_pos (by omega), if_pos (by omega), if_pos (by rw [List.length_take]; omega), wrap_id (by omega) (by omega), e]
    exact ih k (i + 1) (by omega) (by omega)
theorem copy_self (l : List Int) (hl : l.length < 100000) {k : Nat} (hk : l.length < k) : greenscreenref01_Copy.f k l = some l := by
  rw [greenscreenref01_Copy.f]
  exact copy_loop l hl l.length k 0 (by omega) hk
theorem i64_and1023 (n : Int) : bits .and .i64 n 1023 = n % 1024 := by
  have h1023 : (BitVec.ofInt 64 1023).toNat = 2 ^ 10 - 1 := by decide
  have key : (BitVec.ofInt 64 n &&& BitVec.ofInt 64 1023).toNat = (n % ((2 ^ 64 : Nat) : Int)).toNat % 2 ^ 10 := by
    rw [BitVec.toNat_and, BitVec.toNat_ofInt, h1023, Nat.and_two_pow_sub_one_eq_mod]
  show IntKind.i64.wrap ((BitVec.ofInt 64 n &&& BitVec.ofInt 64 1023).toNat : Nat) = n % 1024
  rw [key, IntKind.wrap_i64]
  omega
theorem ok_write (t : Ter) (h : okT t) (hf : few t) (k : Nat) (hk : 9 ≤ k) : query_Write.f k t.1 t.2.1 t.2.2.1 t.2.2.2.1 t.2.2.2.2.1 t.2.2.2.2.2 = some (writeL t, 0) := by
  obtain ⟨m, rfl⟩ : ∃ m, k = m + 9 := ⟨k - 9, by omega⟩
  rw [writes]
  exact write_ok t h hf m
theorem not_write (t : Ter) (h : ¬ (okT t ∧ few t)) (k : Nat) (hk : 9 ≤ k) : ∃ e, e ≠ 0 ∧ query_Write.f k t.1 t.2.1 t.2.2.1 t.2.2.2.1 t.2.2.2.2.1 t.2.2.2.2.2 = some ([], e) := by
  obtain ⟨m, rfl⟩ : ∃ m, k = m + 9 := ⟨k - 9, by omega⟩
  rw [writes]
  by_cases h1 : okT t
  · exact ⟨3, by decide, write_many t h1 (fun h2 => h ⟨h1, h2⟩) m⟩
  · exact ⟨1, by decide, write_arg t h1 m⟩
theorem j2_ok (l : List Int) (ho : okL l) (hl : l.length ≤ 400) (k : Nat) (hk : 500 ≤ k) : greenscreenlaw24_QueryBack.j2 (k + 1) l = some true := by
  rw [greenscreenlaw24_QueryBack.j2]
  rcases parse_all l ho (by omega) with ⟨e, he, eq⟩ | ⟨t, h1, h2, h3, h4, h5⟩
  · rw [show query_Parse.f l = some (none_f e) from eq, Option.bind_some, if_neg (show ¬ (none_f e).2.2.2.2.2.2 = 0 from he)]
    rfl
  · rw [show query_Parse.f l = _ from h5, Option.bind_some]
    simp only []
    rw [if_pos trivial, ok_write t h1 h2 k (by omega), Option.bind_some, if_pos rfl]
    simp only []
    rw [h4, same_self l (by omega) (by omega)]
    rfl
theorem j1_ok (l : List Int) (ho : okL l) (hl : l.length ≤ 400) (x : Int) (t : Ter) (h1 : okT t) (h2 : few t) (h3 : okBytes t) (k : Nat) (hk : 501 ≤ k) : greenscreenlaw24_QueryBack.j1 (k + 1) l x (writeL t) false = some true := by
  have hw := write_len t h2
  have hp : 0 < (writeL t).length := by simp [writeL]
  have m0 : 0 ≤ Int.tmod (x % 1024) ((writeL t).length : Int) := Int.tmod_nonneg _ (by omega)
  have m1 : Int.tmod (x % 1024) ((writeL t).length : Int) < ((writeL t).length : Int) := Int.tmod_lt_of_pos _ (by omega)
  have o0 : okL [0] := by intro y hy; simp at hy; subst hy; exact ⟨by omega, by omega⟩
  obtain ⟨k, rfl⟩ : ∃ m, k = m + 1 := ⟨k - 1, by omega⟩
  rw [greenscreenlaw24_QueryBack.j1, if_neg Bool.false_ne_true, i64_and1023, if_neg (by omega), if_pos m0, if_pos (by omega)]
  rw [show query_Parse.f _ = _ from parse_cut t h1 h2 h3 _ (by omega), Option.bind_some, if_pos (show (none_f 20).2.2.2.2.2.2 = 20 from rfl), copy_self _ (by omega) (by omega), Option.bind_some, if_pos (Nat.lt_of_le_of_lt (show (writeL t).length ≤ 346 from hw) (by decide))]
  have e := parse_write t h1 h2 h3 [0] o0
  rw [if_neg (by simp)] at e
  rw [show query_Parse.f _ = _ from e, Option.bind_some, if_pos (show (none_f 21).2.2.2.2.2.2 = 21 from rfl)]
  exact j2_ok l ho hl k (by omega)
theorem same_ter (t : Ter) (h : few t) (k : Nat) (hk : 100 ≤ k) : greenscreenref24_Same.f k t.1 t.2.1 t.2.2.1 t.2.2.2.1 t.2.2.2.2.1 t.2.2.2.2.2 t.1 t.2.1 t.2.2.1 t.2.2.2.1 t.2.2.2.2.1 t.2.2.2.2.2 = some true := by
  unfold greenscreenref24_Same.f
  have := h.1
  have := h.2
  rw [if_pos (by simp), if_pos (by simp), same_self _ (by omega) (by omega), Option.bind_some, if_pos rfl, same_self _ (by omega) (by omega), Option.bind_some]
theorem j0_ok (l : List Int) (ho : okL l) (x : Int) (t : Ter) (hb : okBytes t) (far : Bool) (hl : far = false → l.length ≤ 400) (k : Nat) (hk : 600 ≤ k) :
    greenscreenlaw24_QueryBack.j0 (k + 1) l x far t.1 t.2.1 t.2.2.1 t.2.2.2.1 t.2.2.2.2.1 t.2.2.2.2.2 = some true := by
  rw [greenscreenlaw24_QueryBack.j0]
  cases far with
  | true => rfl
  | false =>
    have hl := hl rfl
    obtain ⟨k, rfl⟩ : ∃ m, k = m + 1 := ⟨k - 1, by omega⟩
    rw [if_neg Bool.false_ne_true]
    by_cases h : okT t ∧ few t
    · have e := parse_write t h.1 h.2 hb [] (fun y hy => by simp at hy)
      rw [List.append_nil, if_pos rfl] at e
      rw [ok_write t h.1 h.2 _ (by omega), Option.bind_some, if_pos rfl]
      simp only []
      rw [show query_Parse.f _ = _ from e, Option.bind_some, if_pos rfl]
      simp only [greenscreenlaw24_as.f, Option.bind_some]
      rw [same_ter t h.2 _ (by omega), Option.bind_some]
      exact j1_ok l ho hl x t h.1 h.2 hb k (by omega)
    · obtain ⟨e, he, eq⟩ := not_write t h (k + 1) (by omega)
      rw [eq, Option.bind_some, if_neg he]
      exact j2_ok l ho hl k (by omega)
theorem QueryBack : Go.Proofs.Ytpdihhfeekoplaa.GQueryBack.Pure := by
  intro y0 l1 a2 g0 g1 g2 g3
  obtain ⟨_, _, g4, g5⟩ := g0
  refine ⟨1000, ?_⟩
  have ho : okL l1 := fun y hy => byte_of (g1.2 y hy)
  have hb : okBytes (y0.f0.f0, y0.f0.f1, y0.f1.f0, y0.f1.f1, y0.f2, y0.f3) := ⟨fun y hy => byte_of (g4.2 y hy), fun y hy => byte_of (g5.2 y hy)⟩
  unfold greenscreenlaw24_QueryBack.f
  rw [alive_ok (by omega), Option.bind_some, if_pos rfl]
  have h := fun far => j0_ok l1 ho a2 (y0.f0.f0, y0.f0.f1, y0.f1.f0, y0.f1.f1, y0.f2, y0.f3) hb far
  unfold greenscreenlaw24_few.f
  split
  · rw [Option.bind_some]
    split
    · exact h _ (fun e => by have := of_decide_eq_false e; omega) 999 (by omega)
    · exact h true (fun e => by cases e) 999 (by omega)
  · rw [Option.bind_some, if_neg Bool.false_ne_true]
    exact h true (fun e => by cases e) 999 (by omega)
end Go.Proofs.Ytpdihhfeekoplaa.Pure
