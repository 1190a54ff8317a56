/- AddrRounds: the places between two, both ways, are all places; the walk over the law's text, with its set of those seen. -/
import Derived.Test.YtddccpgbjlejhaaHand
import Derived.Maps.OwnSet
import Derived.Maps.OwnOps
import Derived.Maps.OwnRows
import Derived.Maps.Views
namespace Go.Proofs.Ytddccpgbjlejhaa.Rounds
open Go.RowKit Go.Shelf Go.Maps Go.Proofs.YtddccpgbjlejhaaW.PrintWords Go.Proofs.YtddccpgbjlejhaaW.PrintLast Go.Proofs.YtddccpgbjlejhaaW.PrintMore
open Go.Proofs.Ytddccpgbjlejhaa.Hand

set_option linter.unusedVariables false
set_option linter.unusedSimpArgs false

/-! ### plain -/
theorem tmod_emod' (s n : Int) : Int.tmod s n % n = s % n := by
  rw [Int.tmod_def, show s - n * s.tdiv n = s + n * (- s.tdiv n) from by rw [Int.mul_neg]; omega, Int.add_mul_emod_self_left]
theorem tmod_range (a : Int) {n : Int} (hn : 0 < n) : -n < Int.tmod a n ∧ Int.tmod a n < n := by
  by_cases h : 0 ≤ a
  · rw [Int.tmod_eq_emod_of_nonneg h]
    have := Int.emod_nonneg a (Int.ne_of_gt hn)
    have := Int.emod_lt_of_pos a hn
    omega
  · have e := Int.neg_tmod (-a) n
    rw [Int.neg_neg] at e
    rw [e, Int.tmod_eq_emod_of_nonneg (by omega)]
    have := Int.emod_nonneg (-a) (Int.ne_of_gt hn)
    have := Int.emod_lt_of_pos (-a) hn
    omega
theorem wrap_of {a : Int} (h1 : -9223372036854775808 ≤ a) (h2 : a < 9223372036854775808) : wrap64 a = a := by unfold wrap64; omega
theorem move_mod (s0 s1 a b : Int) (h : 0 < cells s0 s1) : A.addr_Move.f s0 s1 a b = some ((a + b) % cells s0 s1) := by
  have hr := cells_range s0 s1
  rw [A.addr_Move.f, cells_f, Option.bind_some]
  generalize cells s0 s1 = n at *
  rw [if_neg (by omega)]
  obtain ⟨a1, a2⟩ := tmod_range a h
  obtain ⟨b1, b2⟩ := tmod_range b h
  have e1 := tmod_emod' a n
  have e2 := tmod_emod' b n
  generalize Int.tmod a n = x at *
  generalize Int.tmod b n = y at *
  rw [wrap_of (a := x + y) (by omega) (by omega)]
  obtain ⟨c1, c2⟩ := tmod_range (x + y) h
  have e3 := tmod_emod' (x + y) n
  generalize Int.tmod (x + y) n = z at *
  rw [wrap_of (by omega) (by omega), Int.tmod_eq_emod_of_nonneg (by omega), Int.add_emod_right, e3, Int.add_emod, e1, e2, ← Int.add_emod]

theorem place_mod {n f : Int} {i : Nat} (h0 : 0 ≤ f) (h1 : f < n) (hi : (i : Int) < n) : (f + i) % n = place n f i := by
  unfold place
  split
  · exact Int.emod_eq_of_lt (by omega) (by omega)
  · rw [← Int.sub_emod_right, Int.emod_eq_of_lt (by omega) (by omega)]
theorem place_inj {n f : Int} {i j : Nat} (h0 : 0 ≤ f) (h1 : f < n) (hi : (i : Int) < n) (hj : (j : Int) < n) (h : place n f i = place n f j) : i = j := by
  unfold place at h
  split at h <;> split at h <;> omega
theorem places_ok {n f t : Int} (h0 : 0 ≤ f) (h1 : f < n) (h2 : 0 ≤ t) (h3 : t < n) : places n f t = (List.range (many n f t)).map (place n f) := by
  unfold places
  rw [if_neg]
  simp [bad]
  omega
theorem listed_of {s0 s1 f t : Int} (h0 : 0 ≤ f) (h1 : f < cells s0 s1) (h2 : 0 ≤ t) (h3 : t < cells s0 s1) (hn : cells s0 s1 ≤ 300) :
    listed s0 s1 f t 400 = (List.range (many (cells s0 s1) f t)).map (place (cells s0 s1) f) := by
  have hm := many_le h0 h1 h2 h3
  rw [listed_all (.inr _), places_ok h0 h1 h2 h3]
  rw [places_ok h0 h1 h2 h3, List.length_map, List.length_range]
  omega
theorem both {n f t : Int} (h0 : 0 ≤ f) (h1 : f < n) (h2 : 0 ≤ t) (h3 : t < n) (hne : f ≠ t) :
    (List.range (many n f t)).map (place n f) ++ (List.range (many n t f)).map (place n t) = (List.range n.toNat).map (place n f) := by
  have e : n.toNat = many n f t + many n t f := by unfold many; split <;> split <;> omega
  rw [e, List.range_add, List.map_append, List.map_map]
  congr 1
  refine List.map_congr_left ?_
  intro j hj
  have hj := List.mem_range.1 hj
  show place n t j = place n f (many n f t + j)
  unfold place many at *
  split at hj <;> split <;> split <;> split <;> omega
theorem round_all {n f : Int} (h0 : 0 ≤ f) (h1 : f < n) : many n f f = n.toNat := by
  unfold many
  rw [if_neg (by omega)]
  omega

/-! ### the set -/
def Dk (n f : Int) : Nat → DataW Unit
  | 0 => .map []
  | k + 1 => (Dk n f k).put (.int .i64 (place n f k)) (.lit (.bool true))
theorem Dk_at {n f : Int} (h0 : 0 ≤ f) (h1 : f < n) : ∀ (k j : Nat), k ≤ j → (j : Int) < n → (Dk n f k).atKey (.int .i64 (place n f j)) (.lit (.bool false)) = .lit (.bool false)
  | 0, _, _, _ => rfl
  | k + 1, j, hk, hj => by
    rw [Dk, atKey_put_other]
    · exact Dk_at h0 h1 k j (by omega) hj
    · intro e
      injection e with _ e
      have := place_inj h0 h1 hj (by omega) e
      omega
theorem plainElem_bool_inv {H : Type} {P : Program} {e : TypeId} (he : P.underlying e = some .bool) {v : Value} {z : DataW H × List MemPlace} (h : plainElem P e v = some z) : ∃ a, v = .bool a ∧ z = (.lit (.bool a), []) := by
  unfold plainElem at h
  rw [he] at h
  cases v <;> simp at h
  subst h
  exact ⟨_, rfl, rfl⟩
theorem wpList_lookup_bool {H : Type} {P : Program} (w : World) {ops : Array Oper} {rest : List Oper} {o : Oper} {a : Act} {Q : Exit → Act → World → Prop}
    (hg : o.guard = none) (m x : Operand) (t : TypeId) (hop : o.op = Op.lookup t m x false)
    (k e : TypeId) (K : Keyed P k) (ht : P.underlying t = some (.map k e)) (he : P.underlying e = some .bool) (hz : (zeroValue e).run P w = .ok (.bool false) w) (b n : Nat) (D : DataW H)
    (hm : a.eval m = .map (some b)) (hown : w.ownsMap P k (plainElem P e) b n D) (key : Value) (kl : Lit) (hx : a.eval x = key) (hkey : keyOf P k key = some kl) (c : Bool)
    (hat : D.atKey kl (.lit (.bool false)) = .lit (.bool c))
    (hK : wpList P ops Q rest (a.put o.dst (.bool c)) w) :
    wpList P ops Q (o :: rest) a w := by
  refine wpList_plain hg fun K' hK' => ?_
  obtain ⟨v, ps, hrun, hv⟩ := hown.lookup K ht hz (plainElem_bool he false) hkey
  obtain ⟨c', rfl, hc⟩ := plainElem_bool_inv he hv
  rw [hat] at hc
  injection hc with hc _
  injection hc with hc
  injection hc with hc
  subst hc
  unfold Oper.wp
  simp [execOp, hop, hm, hx, hrun, Result.andThen]
  exact hK' _ _ hK
end Go.Proofs.Ytddccpgbjlejhaa.Rounds
