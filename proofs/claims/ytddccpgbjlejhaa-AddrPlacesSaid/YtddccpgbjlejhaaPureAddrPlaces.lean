/- -/
import Derived.Test.YtddccpgbjlejhaaGoalAddrPlaces
import Derived.Test.YtddccpgbjlejhaaPlain
namespace Go.Proofs.Ytddccpgbjlejhaa.Pure
open Go.RowKit Go.Proofs.Ytddccpgbjlejhaa.P Go.Proofs.YtddccpgbjlejhaaW.PrintWords Go.Proofs.YtddccpgbjlejhaaW.PrintLast Go.Proofs.YtddccpgbjlejhaaW.PrintMore Go.Proofs.YtddccpgbjlejhaaO

open Go.Proofs.Ytddccpgbjlejhaa.Plain
/- YOURS -/
set_option linter.unusedVariables false
theorem cells_p (r c : Int) : addr_Cells.f r c = some (Hand.cells r c) := Hand.cells_f r c
theorem cells_r (r c : Int) : greenscreenref02_Cells.f r c = some (Hand.cells r c) := Hand.cells_f r c
theorem cells_is (r c : Int) : Hand.cells r c = 0 ∨ (1 ≤ r ∧ r ≤ 43 ∧ 1 ≤ c ∧ c ≤ 132 ∧ Hand.cells r c = r * c ∧ Hand.cells r c ≤ 4096 ∧ 1 ≤ Hand.cells r c) := by
  unfold Hand.cells
  split
  · exact Or.inl rfl
  · have : 1 * 1 ≤ r * c := Int.mul_le_mul (by omega) (by omega) (by omega) (by omega)
    exact Or.inr ⟨by omega, by omega, by omega, by omega, rfl, by omega, by omega⟩

theorem same_loop (l : List Int) (hl : l.length < 9223372036854775807) : ∀ (m k : Nat) (i : Nat), i + m = l.length → m < k → greenscreenref01_SameInts.l0 k l l (i : Int) = some true := by
  intro m
  induction m with
  | zero =>
    intro k i hi hk
    obtain ⟨k, rfl⟩ : ∃ j, k = j + 1 := ⟨k - 1, by omega⟩
    rw [greenscreenref01_SameInts.l0, if_neg (by omega)]
  | succ m ih =>
    intro k i hi hk
    obtain ⟨k, rfl⟩ : ∃ j, k = j + 1 := ⟨k - 1, by omega⟩
    rw [greenscreenref01_SameInts.l0, if_pos (by omega), if_pos (by omega), if_pos (by omega), if_pos rfl, wrap_id (by omega) (by omega)]
    exact ih k (i + 1) (by omega) (by omega)
theorem same_self (l : List Int) (hl : l.length < 9223372036854775807) {k : Nat} (hk : l.length < k) : greenscreenref01_SameInts.f k l l = some true := by
  rw [greenscreenref01_SameInts.f, if_pos rfl]
  exact same_loop l hl l.length k 0 (by omega) hk

theorem btw_loop {n x1 : Int} (h0 : 0 ≤ x1) (h1 : x1 < n) (hn : n ≤ 4096) (M : Nat) (hM : (M : Int) ≤ n) : ∀ (m k i : Nat) (acc : List Int), i + m = M → acc.length = i → m < k →
    greenscreenref02_Between.l0 k x1 acc n (M : Int) (i : Int) = some (acc ++ (List.range' i m).map (Hand.place n x1)) := by
  intro m
  induction m with
  | zero =>
    intro k i acc hi _ hk
    obtain ⟨k, rfl⟩ : ∃ j, k = j + 1 := ⟨k - 1, by omega⟩
    rw [greenscreenref02_Between.l0, if_neg (by omega)]
    simp
  | succ m ih =>
    intro k i acc hi ha hk
    obtain ⟨k, rfl⟩ : ∃ j, k = j + 1 := ⟨k - 1, by omega⟩
    rw [greenscreenref02_Between.l0, if_pos (by omega), if_neg (by omega), if_pos (by omega), wrap_id (a := x1 + (i : Int)) (by omega) (by omega), wrap_id (by omega) (by omega)]
    have hp : Int.tmod (x1 + (i : Int)) n = Hand.place n x1 i := by
      rw [Int.tmod_eq_emod_of_nonneg (by omega)]
      unfold Hand.place
      split
      · exact Int.emod_eq_of_lt (by omega) (by omega)
      · rw [← Int.sub_emod_right, Int.emod_eq_of_lt (by omega) (by omega)]
    rw [hp]
    have := ih k (i + 1) (acc ++ [Hand.place n x1 i]) (by omega) (by simp [ha]) (by omega)
    rw [show ((i + 1 : Nat) : Int) = (i : Int) + 1 from by omega] at this
    rw [this, List.range'_succ]
    simp
theorem btw_of (r c x1 x2 : Int) {k : Nat} (hk : 5000 ≤ k) : greenscreenref02_Between.f k r c x1 x2 = some (Hand.places (Hand.cells r c) x1 x2) := by
  have hc := cells_is r c
  obtain ⟨k, rfl⟩ : ∃ j, k = j + 2 := ⟨k - 2, by omega⟩
  rw [greenscreenref02_Between.f, Option.bind_some, cells_r, Option.bind_some]
  generalize Hand.cells r c = n at *
  have hb : Hand.bad n x1 x2 = decide (x1 < 0 ∨ x1 ≥ n ∨ x2 < 0 ∨ x2 ≥ n) := rfl
  unfold Hand.places
  by_cases h1 : x1 < 0
  · rw [if_pos h1, hb, decide_eq_true (by omega), if_pos rfl, greenscreenref02_Between.j0, if_pos rfl]
  rw [if_neg h1]
  by_cases h2 : x1 ≥ n
  · rw [if_pos h2, hb, decide_eq_true (by omega), if_pos rfl, greenscreenref02_Between.j0, if_pos rfl]
  rw [if_neg h2]
  by_cases h3 : x2 < 0
  · rw [if_pos h3, hb, decide_eq_true (by omega), if_pos rfl, greenscreenref02_Between.j0, if_pos rfl]
  rw [if_neg h3]
  by_cases h4 : x2 ≥ n
  · rw [decide_eq_true h4, hb, decide_eq_true (by omega), if_pos rfl, greenscreenref02_Between.j0, if_pos rfl]
  rw [decide_eq_false h4, hb, decide_eq_false (by omega), if_neg (by decide), greenscreenref02_Between.j0, if_neg (by decide)]
  rw [wrap_id (a := x2 - x1) (by omega) (by omega)]
  have key : ∀ M : Int, ((Hand.many n x1 x2 : Nat) : Int) = M → M ≤ n → greenscreenref02_Between.j1 (k + 1) x1 [] n M = some (List.map (Hand.place n x1) (List.range (Hand.many n x1 x2))) := by
    intro M hM hn
    rw [greenscreenref02_Between.j1, ← hM]
    have := btw_loop (n := n) (x1 := x1) (by omega) (by omega) (by omega) (Hand.many n x1 x2) (by omega) (Hand.many n x1 x2) k 0 [] (by omega) rfl (by omega)
    rw [List.range_eq_range']
    simpa using this
  by_cases h5 : x2 - x1 ≤ 0
  · rw [if_pos h5, wrap_id (by omega) (by omega)]
    exact key _ (by unfold Hand.many; rw [if_neg (by omega)]; omega) (by omega)
  · rw [if_neg h5]
    exact key _ (by unfold Hand.many; rw [if_pos (by omega)]; omega) (by omega)

theorem tmod_bound (a : Int) {n : Int} (hn : 0 < n) : -n < Int.tmod a n ∧ Int.tmod a n < n := by
  by_cases h : 0 ≤ a
  · rw [Int.tmod_eq_emod_of_nonneg h]
    have := Int.emod_nonneg a (Int.ne_of_gt hn)
    have := Int.emod_lt_of_pos a hn
    omega
  · have e := Int.neg_tmod (-a) n
    rw [Int.neg_neg] at e
    rw [e, Int.tmod_eq_emod_of_nonneg (by omega)]
    have := Int.emod_nonneg (-a) (Int.ne_of_gt hn)
    have := Int.emod_lt_of_pos (-a) hn
    omega
theorem tmod_up (s n : Int) : (Int.tmod s n + n) % n = s % n := by
  rw [Int.tmod_def, show s - n * s.tdiv n + n = s + n * (1 - s.tdiv n) from by rw [Int.mul_sub]; omega, Int.add_mul_emod_self_left]
theorem move_loop {n : Int} (h0 : 1 ≤ n) (hn : n ≤ 4096) : ∀ (m k : Nat) (s : Int), -(n * m) ≤ s → s < 2 * n → m ≤ 2 → m < k → greenscreenref02_Move.l0 k s n = some (s % n) := by
  intro m
  induction m with
  | zero =>
    intro k s h1 h2 _ hk
    obtain ⟨k, rfl⟩ : ∃ j, k = j + 1 := ⟨k - 1, by omega⟩
    rw [greenscreenref02_Move.l0, if_neg (by simp at h1; omega), if_neg (by omega), Int.tmod_eq_emod_of_nonneg (by simp at h1; omega)]
  | succ m ih =>
    intro k s h1 h2 h3 hk
    obtain ⟨k, rfl⟩ : ∃ j, k = j + 1 := ⟨k - 1, by omega⟩
    have e : n * ((m + 1 : Nat) : Int) = n * m + n := by rw [Int.natCast_add, Int.mul_add]; simp
    have b : n * (m : Int) ≤ 2 * n := by
      have : n * (m : Int) ≤ n * 2 := Int.mul_le_mul_of_nonneg_left (by omega) (by omega)
      omega
    rw [greenscreenref02_Move.l0]
    by_cases h : s < 0
    · rw [if_pos h, wrap_id (by omega) (by omega), ih k (s + n) (by omega) (by omega) (by omega) (by omega), Int.add_emod_right]
    · rw [if_neg h, if_neg (by omega), Int.tmod_eq_emod_of_nonneg (by omega)]
theorem moves_eq (r c a b : Int) {k : Nat} (hk : 5 ≤ k) : ∃ z, addr_Move.f r c a b = some z ∧ greenscreenref02_Move.f k r c a b = some z := by
  have hc := cells_is r c
  rw [addr_Move.f, greenscreenref02_Move.f, cells_p, cells_r, Option.bind_some, Option.bind_some]
  generalize Hand.cells r c = n at *
  by_cases h : n = 0
  · rw [if_pos h, if_pos h]; exact ⟨_, rfl, rfl⟩
  rw [if_neg h, if_neg h]
  have h0 : 1 ≤ n := by omega
  have hn : n ≤ 4096 := by omega
  obtain ⟨a1, a2⟩ := tmod_bound a (n := n) (by omega)
  obtain ⟨b1, b2⟩ := tmod_bound b (n := n) (by omega)
  generalize Int.tmod a n = x at *
  generalize Int.tmod b n = y at *
  rw [wrap_id (a := x + y) (by omega) (by omega), move_loop h0 hn 2 k (x + y) (by simp; omega) (by omega) (by omega) (by omega)]
  obtain ⟨c1, c2⟩ := tmod_bound (x + y) (n := n) (by omega)
  refine ⟨_, ?_, rfl⟩
  rw [wrap_id (by omega) (by omega), Int.tmod_eq_emod_of_nonneg (by omega), tmod_up]

theorem listed_take (r c x1 x2 m : Int) (h : 1 ≤ m) : Hand.listed r c x1 x2 m = (Hand.places (Hand.cells r c) x1 x2).take m.toNat := by
  unfold Hand.listed
  rw [if_neg (by omega)]
theorem places_len (r c x1 x2 : Int) : (Hand.places (Hand.cells r c) x1 x2).length ≤ 4096 := by
  have hc := cells_is r c
  unfold Hand.places
  split
  · simp
  · rename_i hb
    have hb2 : Hand.bad (Hand.cells r c) x1 x2 = decide (x1 < 0 ∨ x1 ≥ Hand.cells r c ∨ x2 < 0 ∨ x2 ≥ Hand.cells r c) := rfl
    rw [hb2] at hb
    simp only [decide_eq_true_eq] at hb
    rw [List.length_map, List.length_range]
    unfold Hand.many
    split <;> omega
theorem take_min (l : List Int) (m : Int) (h : 1 ≤ m) : l.take (mn m (l.length : Int)).toNat = l.take m.toNat := by
  unfold mn
  split
  · rw [show ((l.length : Int)).toNat = l.length from by omega, List.take_length, List.take_of_length_le (by omega)]
  · rfl
theorem j2_ok (r c x3 x4 x5 : Int) {k : Nat} (hk : 5000 ≤ k) : greenscreenlaw02_AddrPlaces.j2 (k + 1) x3 x4 x5 false r c = some true := by
  obtain ⟨z, z1, z2⟩ := moves_eq r c x3 x4 (k := k) (by omega)
  have hl := places_len r c x3 x4
  have hm : wrap64 (1 + x5 % 4096) = 1 + x5 % 4096 := wrap_id (by omega) (by omega)
  rw [greenscreenlaw02_AddrPlaces.j2, if_neg (by decide), btw_of r c x3 x4 hk, Option.bind_some, greenscreenlaw02_list.f, Option.bind_some, z1, Option.bind_some, z2, Option.bind_some, if_pos rfl, i64_and4095, hm]
  have hm1 : 1 ≤ 1 + x5 % 4096 := by omega
  generalize 1 + x5 % 4096 = m at *
  rw [listed_take r c x3 x4 m hm1]
  generalize Hand.places (Hand.cells r c) x3 x4 = l at *
  rw [take_min l m hm1]
  have q : 0 ≤ mn m (l.length : Int) ∧ mn m (l.length : Int) ≤ (l.length : Int) := by unfold mn; split <;> omega
  have hlt : (l.take m.toNat).length ≤ 4096 := by rw [List.length_take]; omega
  rw [if_pos q.1, if_pos q.2, same_self _ (by omega) (by omega), Option.bind_some]
theorem j1_ok (r c x3 x4 x5 : Int) {k : Nat} (hk : 5000 ≤ k) : greenscreenlaw02_AddrPlaces.j1 (k + 2) x3 x4 x5 (Hand.cells r c) false r c = some true := by
  have J := j2_ok r c x3 x4 x5 hk
  have hc := cells_is r c
  rw [greenscreenlaw02_AddrPlaces.j1, if_neg (by decide), addr_Split.f, cells_p, Option.bind_some]
  generalize Hand.cells r c = n at *
  by_cases h1 : x3 < 0
  · rw [if_pos h1, Option.bind_some, if_neg (by omega), if_neg (by decide), if_neg (by decide), if_pos rfl, if_pos rfl, J]
  rw [if_neg h1]
  by_cases h2 : x3 ≥ n
  · rw [if_pos h2, Option.bind_some, if_pos (by omega), decide_eq_false (by omega), if_neg (by decide), if_neg (by decide), if_pos rfl, if_pos rfl, J]
  rw [if_neg h2]
  obtain h3 | ⟨r1, r2, c1, c2, hn, h4, h5⟩ := hc
  · omega
  have q0 : Int.tdiv x3 c = x3 / c := Int.tdiv_eq_ediv_of_nonneg (by omega)
  have q1 : Int.tmod x3 c = x3 % c := Int.tmod_eq_emod_of_nonneg (by omega)
  have q2 : 0 ≤ x3 / c := Int.ediv_nonneg (by omega) (by omega)
  have q4 := Int.emod_nonneg x3 (by omega : c ≠ 0)
  have q5 := Int.emod_lt_of_pos x3 (by omega : 0 < c)
  have q6 := Int.mul_ediv_add_emod x3 c
  have q3 : x3 / c ≤ x3 := Int.ediv_le_self _ (by omega)
  have q7 : x3 / c * c + x3 % c = x3 := by rw [Int.mul_comm]; exact q6
  have q8 : 0 ≤ x3 / c * c := Int.mul_nonneg q2 (by omega)
  rw [if_neg (by omega), Option.bind_some, if_pos (by omega), decide_eq_true (by omega), q0, q1, wrap_id (a := x3 / c) (by omega) (by omega)]
  rw [if_neg (by simp), if_pos rfl]
  simp only
  rw [wrap_id (a := x3 / c * c) (by omega) (by omega), wrap_id (by omega) (by omega), if_pos q7, if_neg (by omega), decide_eq_false (by omega), J]
theorem j0_ok (r c x1 x2 x3 x4 x5 p : Int) (ok : Bool) {k : Nat} (hk : 5000 ≤ k) (hp : p = if ok = true then wrap64 (wrap64 (x1 * c) + x2) else 0) :
    greenscreenlaw02_AddrPlaces.j0 (k + 3) x1 x2 x3 x4 x5 (Hand.cells r c) p ok ok r c = some true := by
  have J := j1_ok r c x3 x4 x5 hk
  rw [greenscreenlaw02_AddrPlaces.j0, cells_p, Option.bind_some, if_pos rfl, bne_self_eq_false, if_neg (by decide)]
  cases ok
  · simp only [Bool.false_eq_true, if_false] at hp
    subst hp
    rw [if_neg (by decide), bne_self_eq_false, J]
  · simp only [if_true] at hp
    rw [if_pos rfl, if_pos hp, J]
theorem AddrPlaces : Go.Proofs.Ytddccpgbjlejhaa.GAddrPlaces.Pure := by
  intro s x1 x2 x3 x4 x5 _ _ _ _ _ _
  suffices key : ∀ k, 5000 ≤ k → greenscreenlaw02_AddrPlaces.f (k + 3) s.f0 s.f1 x1 x2 x3 x4 x5 = some true from ⟨_, key 5000 (by omega)⟩
  intro k hk
  generalize s.f0 = r at *
  generalize s.f1 = c at *
  have J := j0_ok r c x1 x2 x3 x4 x5
  have hc := cells_is r c
  rw [greenscreenlaw02_AddrPlaces.f, alive_ok (by omega), Option.bind_some, if_pos rfl, cells_r, Option.bind_some, addr_At.f, cells_p, Option.bind_some]
  generalize Hand.cells r c = n at *
  by_cases h1 : n = 0
  · rw [if_pos h1, Option.bind_some, if_neg (by omega)]
    exact J 0 false hk rfl
  rw [if_neg h1]
  by_cases h2 : x1 < 0
  · rw [if_pos h2, Option.bind_some, if_pos (by omega), if_neg (by omega)]
    exact J 0 false hk rfl
  rw [if_neg h2]
  by_cases h3 : x1 ≥ r
  · rw [if_pos h3, Option.bind_some, if_pos (by omega), if_pos (by omega), if_neg (by omega)]
    exact J 0 false hk rfl
  rw [if_neg h3]
  by_cases h4 : x2 < 0
  · rw [if_pos h4, Option.bind_some, if_pos (by omega), if_pos (by omega), if_pos (by omega), if_neg (by omega)]
    exact J 0 false hk rfl
  rw [if_neg h4]
  by_cases h5 : x2 ≥ c
  · rw [if_pos h5, Option.bind_some, if_pos (by omega), if_pos (by omega), if_pos (by omega), if_pos (by omega), decide_eq_false (by omega)]
    exact J 0 false hk rfl
  rw [if_neg h5, Option.bind_some, if_pos (by omega), if_pos (by omega), if_pos (by omega), if_pos (by omega), decide_eq_true (by omega)]
  exact J _ true hk rfl
end Go.Proofs.Ytddccpgbjlejhaa.Pure
