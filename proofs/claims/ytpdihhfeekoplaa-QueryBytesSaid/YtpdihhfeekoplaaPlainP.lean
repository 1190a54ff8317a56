/- What query's functions compute, in plain Lean: cutting and parsing. -/
import Derived.Test.YtpdihhfeekoplaaPlain
set_option linter.unusedVariables false
set_option linter.unusedSimpArgs false
namespace Go.Proofs.Ytpdihhfeekoplaa.Plain
open Go.RowKit Go.Proofs.YtpdihhfeekoplaaW.PrintWords Go.Proofs.YtpdihhfeekoplaaW.PrintLast Go.Proofs.YtpdihhfeekoplaaW.PrintMore
open Go.Proofs.Ytpdihhfeekoplaa.A Go.Proofs.Ytpdihhfeekoplaa.P

def okL (l : List Int) : Prop := ∀ y, y ∈ l → okB y
theorem okL_rd {l : List Int} (h : okL l) (i : Int) (hi : i.toNat < l.length) : okB (rd l i) := by
  have : rd l i = l[i.toNat] := by simp [rd, List.getD, List.getElem?_eq_getElem hi]
  rw [this]
  exact h _ (List.getElem_mem _)
theorem okL_drop {l : List Int} (h : okL l) (n : Nat) : okL (l.drop n) := fun y hy => h y (List.mem_of_mem_drop hy)
theorem okL_take {l : List Int} (h : okL l) (n : Nat) : okL (l.take n) := fun y hy => h y (List.mem_of_mem_take hy)
theorem okL_app {l r : List Int} (h : okL l) (g : okL r) : okL (l ++ r) := fun y hy => (List.mem_append.mp hy).elim (h y) (g y)
theorem okL_word (n : Int) : okL (wordL n) := by
  intro y hy
  simp only [wordL, List.mem_cons, List.not_mem_nil, or_false] at hy
  unfold okB
  omega
theorem okL_size (r c : Int) : okL (sizeL r c) := okL_app (okL_word c) (okL_word r)
theorem okL_list {l : List Int} (h : okL l) : okL (listL l) := by
  intro y hy
  rcases List.mem_cons.mp hy with e | e
  · unfold okB; omega
  · exact h y e
theorem okL_K5 : okL K5 := by intro y hy; simp only [K5, List.mem_cons, List.not_mem_nil, or_false] at hy; unfold okB; omega
def okBytes (t : Ter) : Prop := okL t.2.2.2.2.1 ∧ okL t.2.2.2.2.2
theorem okL_body {t : Ter} (h : okBytes t) (k : Int) : okL (bodyL t k) := by
  unfold bodyL
  split
  · exact okL_K5
  split
  · unfold greatL
    split <;> exact okL_size _ _
  split
  · exact okL_list h.1
  split
  · exact okL_list h.2
  · exact okL_app (okL_size _ _) (okL_size _ _)
theorem okL_fld {k : Int} (hk : okB k) {b : List Int} (h : okL b) : okL (fld k b) := by
  refine okL_app (okL_app (okL_word _) ?_) h
  intro y hy
  simp only [List.mem_cons, List.not_mem_nil, or_false] at hy
  rcases hy with e | e <;> subst e
  · exact ⟨by omega, by omega⟩
  · exact hk
theorem okL_flds {t : Ter} (h : okBytes t) : ∀ ks : List Int, okL ks → okL (flds t ks)
  | [], _ => fun y hy => by simp [flds] at hy
  | k :: ks, hk => okL_app (okL_fld (hk k List.mem_cons_self) (okL_body h k)) (okL_flds h ks fun y hy => hk y (List.mem_cons_of_mem _ hy))
theorem okL_write {t : Ter} (h : okBytes t) : okL (writeL t) := by
  intro y hy
  rcases List.mem_cons.mp hy with e | e
  · subst e; exact ⟨by omega, by omega⟩
  · exact okL_flds h K5 okL_K5 y e

/-! ### Cutting -/
def cutN (l : List Int) : Int := rd l 0 * 256 + rd l 1
def cutL (l : List Int) (k : Int) : List Int × List Int × Int :=
  if (l.length : Int) < 4 then ([], [], 20)
  else if cutN l < 4 ∨ rd l 2 ≠ 129 ∨ rd l 3 ≠ k then ([], [], 21)
  else if cutN l > (l.length : Int) then ([], [], 20)
  else ((l.take (cutN l).toNat).drop 4, l.drop (cutN l).toNat, 0)
theorem cut_f (l : List Int) (kind : Int) (h : okL l) (m : Nat) : query_cut.f (m + 1) l kind = some (cutL l kind) := by
  unfold query_cut.f cutL
  by_cases h4 : (l.length : Int) < 4
  · rw [if_pos h4, if_pos h4]
  · have e := or_bytes (okL_rd h 0 (by simp; omega)) (okL_rd h 1 (by simp; omega))
    rw [if_neg h4, if_neg h4, if_pos (by omega), if_pos (by omega), e, show rd l 0 * 256 + rd l 1 = cutN l from rfl]
    by_cases hn : cutN l < 4
    · rw [if_pos hn, if_pos (Or.inl hn), query_cut.j0, if_pos rfl]
    rw [if_neg hn, if_pos (by omega)]
    by_cases h2 : rd l 2 = 129
    · rw [if_pos h2, if_pos (by omega), query_cut.j0]
      by_cases h3 : rd l 3 = kind
      · rw [if_neg (show ¬ ((rd l 3 != kind) = true) by simp [h3]), if_neg (show ¬ (cutN l < 4 ∨ rd l 2 ≠ 129 ∨ rd l 3 ≠ kind) by simp [h2, h3]; omega)]
        by_cases hl : cutN l > (l.length : Int)
        · rw [if_pos hl, if_pos hl]
        · rw [if_neg hl, if_neg hl, if_pos (by omega), if_pos (by omega), if_pos (by omega)]
      · rw [if_pos (by simp [h3]), if_pos (Or.inr (Or.inr h3))]
    · rw [if_neg h2, query_cut.j0, if_pos rfl, if_pos (Or.inr (Or.inl h2))]
theorem word_val (n : Int) (h0 : 0 ≤ n) (h1 : n < 65536) : ((n / 256) % 256) * 256 + n % 256 = n := by omega
theorem rd_app_left (a b : List Int) (i : Int) (h : i.toNat < a.length) : rd (a ++ b) i = rd a i := by
  simp [rd, List.getD, List.getElem?_append_left h]
theorem rd_take (a : List Int) (m : Nat) (i : Int) (h : i.toNat < m) : rd (a.take m) i = rd a i := by
  simp [rd, List.getD, List.getElem?_take, h]
theorem fld_rd (k : Int) (b z : List Int) : rd (fld k b ++ z) 0 = (((b.length : Int) + 4) / 256) % 256 ∧ rd (fld k b ++ z) 1 = ((b.length : Int) + 4) % 256 ∧ rd (fld k b ++ z) 2 = 129 ∧ rd (fld k b ++ z) 3 = k := by
  simp [fld, wordL, rd]
theorem fld_cutN (k : Int) (b z : List Int) (hb : b.length < 60000) : cutN (fld k b ++ z) = (b.length : Int) + 4 := by
  obtain ⟨e0, e1, _, _⟩ := fld_rd k b z
  unfold cutN
  rw [e0, e1]
  exact word_val _ (by omega) (by omega)
theorem fld_drop4 (k : Int) (b : List Int) : (fld k b).drop 4 = b := by simp [fld, wordL]
theorem cut_fld (k : Int) (b z : List Int) (hb : b.length < 60000) : cutL (fld k b ++ z) k = (b, z, 0) := by
  obtain ⟨e0, e1, e2, e3⟩ := fld_rd k b z
  have hn := fld_cutN k b z hb
  have hl : (fld k b ++ z).length = b.length + 4 + z.length := by rw [List.length_append, fld_len]
  unfold cutL
  rw [hn, e2, e3, if_neg (by omega), if_neg (by simp; omega), if_neg (by omega)]
  rw [show ((b.length : Int) + 4).toNat = (fld k b).length from by rw [fld_len]; omega]
  rw [List.take_left, List.drop_left, fld_drop4]
theorem cut_pre (k : Int) (b z : List Int) (hb : b.length < 60000) (m : Nat) (hm : m < (fld k b).length) : cutL ((fld k b ++ z).take m) k = ([], [], 20) := by
  obtain ⟨e0, e1, e2, e3⟩ := fld_rd k b z
  have hn := fld_cutN k b z hb
  have hl : ((fld k b ++ z).take m).length = m := by rw [List.length_take, List.length_append]; omega
  unfold cutL
  by_cases h4 : m < 4
  · rw [if_pos (by omega)]
  · have hn' : cutN ((fld k b ++ z).take m) = (b.length : Int) + 4 := by
      rw [← hn]
      unfold cutN
      rw [rd_take _ _ _ (by simp; omega), rd_take _ _ _ (by simp; omega)]
    rw [if_neg (by omega), rd_take _ _ _ (by simp; omega), rd_take _ _ _ (by simp; omega), hn', e2, e3, if_neg (by simp; omega), if_pos (by rw [fld_len] at hm; omega)]

/-! ### Laying -/
theorem read_size (r c : Int) (hr : 0 ≤ r ∧ r < 65536) (hc : 0 ≤ c ∧ c < 65536) (z : List Int) : query_read.f (sizeL r c ++ z) = some (r, c) := by
  unfold query_read.f
  have e : ∀ n : Int, 0 ≤ n ∧ n < 65536 → Go.bits .or .i64 (wrap64 ((wrap64 ((n / 256) % 256)) * 256)) (wrap64 (n % 256)) = n := by
    intro n hn
    rw [or_bytes (a := (n / 256) % 256) (b := n % 256) ⟨by omega, by omega⟩ ⟨by omega, by omega⟩]
    omega
  have e0 : rd (sizeL r c ++ z) 0 = (c / 256) % 256 := rfl
  have e1 : rd (sizeL r c ++ z) 1 = c % 256 := rfl
  have e2 : rd (sizeL r c ++ z) 2 = (r / 256) % 256 := rfl
  have e3 : rd (sizeL r c ++ z) 3 = r % 256 := rfl
  have hl : ((sizeL r c ++ z).length : Int) = (z.length : Int) + 4 := by simp [sizeL, wordL]; omega
  rw [if_pos (by omega), if_pos (by omega), if_pos (by omega), if_pos (by omega), e0, e1, e2, e3, e r hr, e c hc]
theorem okS_small {r c : Int} (h : okS r c) : (0 ≤ r ∧ r < 65536) ∧ (0 ≤ c ∧ c < 65536) := ⟨⟨by have := h.1; omega, by have := h.1; omega⟩, ⟨by have := h.2.1; omega, by have := h.2.1; omega⟩⟩
/-- What lay makes of a terminal. -/
def layT (t s : Ter) (k : Int) : Ter :=
  if k = 134 then (s.1, s.2.1, s.2.2.1, s.2.2.2.1, t.2.2.2.2.1, s.2.2.2.2.2) else if k = 135 then (s.1, s.2.1, s.2.2.1, s.2.2.2.1, s.2.2.2.2.1, t.2.2.2.2.2)
  else if k = 166 then (t.1, t.2.1, t.2.2.1, t.2.2.2.1, s.2.2.2.2.1, s.2.2.2.2.2) else s
theorem lay_body (t s : Ter) (h : okT t) (hf : few t) (k : Int) (hk : k ∈ K5) : layf k (bodyL t k) s = some (true, layT t s k) := by
  have hb := body_len t hf k
  simp only [K5, List.mem_cons, List.not_mem_nil, or_false] at hk
  unfold layf
  rw [if_neg (by omega)]
  unfold layT
  rcases hk with rfl | rfl | rfl | rfl | rfl
  · rfl
  · rfl
  · rw [if_pos rfl, if_pos rfl]
    rfl
  · have n4 : ¬ (135 : Int) = 134 := by decide
    have y5 : (135 : Int) = 135 := rfl
    rw [if_neg n4, if_pos y5, if_neg n4, if_pos y5]
    rfl
  · have n4 : ¬ (166 : Int) = 134 := by decide
    have n5 : ¬ (166 : Int) = 135 := by decide
    have y6 : (166 : Int) = 166 := rfl
    rw [if_neg n4, if_neg n5, if_pos y6, if_neg n4, if_neg n5, if_pos y6]
    have e : bodyL t 166 = sizeL t.1 t.2.1 ++ sizeL t.2.2.1 t.2.2.2.1 := rfl
    have s1 := okS_small h.1
    have s2 := okS_small h.2
    rw [e, if_pos (by simp [sizeL, wordL]), read_size _ _ s1.1 s1.2, Option.bind_some, show (sizeL t.1 t.2.1 ++ sizeL t.2.2.1 t.2.2.2.1).drop 4 = sizeL t.2.2.1 t.2.2.2.1 ++ [] from by simp [sizeL, wordL], read_size _ _ s2.1 s2.2, Option.bind_some]
theorem fld_step (t s : Ter) (h : okT t) (hf : few t) (hb : okBytes t) (k : Int) (hk : k ∈ K5) (ks z : List Int) (hz : okL z) : parse_l (k :: ks) (fld k (bodyL t k) ++ z) s = parse_l ks z (layT t s k) := by
  have hl := body_len t hf k
  rw [parse_l, cut_f _ _ (okL_app (okL_fld (okL_K5 k hk) (okL_body hb k)) hz) 4, Option.bind_some, cut_fld _ _ _ (by omega)]
  simp only [if_pos rfl]
  rw [lay_body t s h hf k hk, Option.bind_some]
  simp
theorem parse_flds (t : Ter) (h : okT t) (hf : few t) (hb : okBytes t) (z : List Int) (hz : okL z) : parse_l K5 (flds t K5 ++ z) (0, 0, 0, 0, [], []) = some (.inr t) := by
  have hk : ∀ k, k ∈ K5 → k ∈ K5 := fun _ h => h
  have hx : ∀ ks : List Int, okL ks → okL (flds t ks ++ z) := fun ks h => okL_app (okL_flds hb ks h) hz
  have o := okL_K5
  unfold okL K5 at o
  simp only [List.forall_mem_cons] at o
  obtain ⟨o1, o2, o3, o4, o5, _⟩ := o
  have oN : okL ([] : List Int) := fun y hy => by simp at hy
  have oc : ∀ {k : Int} {ks : List Int}, okB k → okL ks → okL (k :: ks) := fun h g y hy => (List.mem_cons.mp hy).elim (fun e => e ▸ h) (g y)
  simp only [K5, flds, List.append_assoc]
  rw [show (128 : Int) :: [129, 134, 135, 166] = 128 :: [129, 134, 135, 166] from rfl]
  rw [fld_step t _ h hf hb 128 (by decide) _ _ (by have := hx [129, 134, 135, 166] (oc o2 (oc o3 (oc o4 (oc o5 oN)))); simpa only [flds, List.append_assoc] using this)]
  rw [fld_step t _ h hf hb 129 (by decide) _ _ (by have := hx [134, 135, 166] (oc o3 (oc o4 (oc o5 oN))); simpa only [flds, List.append_assoc] using this)]
  rw [fld_step t _ h hf hb 134 (by decide) _ _ (by have := hx [135, 166] (oc o4 (oc o5 oN)); simpa only [flds, List.append_assoc] using this)]
  rw [fld_step t _ h hf hb 135 (by decide) _ _ (by have := hx [166] (oc o5 oN); simpa only [flds, List.append_assoc] using this)]
  rw [fld_step t _ h hf hb 166 (by decide) _ _ (by have := hx [] oN; simpa only [flds, List.append_assoc] using this)]
  rfl
theorem parse_pre (t : Ter) (h : okT t) (hf : few t) (hb : okBytes t) : ∀ (ks : List Int) (hk : ∀ k, k ∈ ks → k ∈ K5) (s : Ter) (m : Nat) (hm : m < (flds t ks).length), parse_l ks ((flds t ks).take m) s = some (.inl 20)
  | [], _, _, m, hm => by simp [flds] at hm
  | k :: ks, hk, s, m, hm => by
    have hl := body_len t hf k
    have hK := hk k List.mem_cons_self
    have hks : okL ks := fun y hy => okL_K5 y (hk y (List.mem_cons_of_mem _ hy))
    have ho : okL (flds t (k :: ks)) := okL_flds hb _ fun y hy => okL_K5 y (hk y hy)
    by_cases hq : m < (fld k (bodyL t k)).length
    · rw [parse_l, cut_f _ _ (okL_take ho _) 4, Option.bind_some, flds, cut_pre _ _ _ (by omega) m hq]
      rfl
    · rw [flds, List.take_append, List.take_of_length_le (by omega), fld_step t s h hf hb k hK ks _ (okL_take (okL_flds hb ks hks) _)]
      exact parse_pre t h hf hb ks (fun y hy => hk y (List.mem_cons_of_mem _ hy)) _ _ (by rw [flds, List.length_append] at hm; omega)

/-! ### Parsing -/
theorem equal_loop (a b : List Int) (hl : a.length = b.length) (hs : a.length < 9223372036854775807) : ∀ (j k i : Nat), a.length - i ≤ j → i ≤ a.length → j < k →
    slices_Equal_byte_byte.l0 k a b (a.length : Int) (i : Int) = some (decide (a.drop i = b.drop i)) := by
  intro j
  induction j with
  | zero =>
    intro k i h1 h2 h3
    obtain ⟨k, rfl⟩ : ∃ m, k = m + 1 := ⟨k - 1, by omega⟩
    rw [slices_Equal_byte_byte.l0, if_neg (by omega), List.drop_of_length_le (by omega), List.drop_of_length_le (by omega)]
    simp
  | succ j ih =>
    intro k i h1 h2 h3
    obtain ⟨k, rfl⟩ : ∃ m, k = m + 1 := ⟨k - 1, by omega⟩
    by_cases hi : i < a.length
    · rw [slices_Equal_byte_byte.l0, if_pos (by omega), if_pos (by omega), if_pos (by omega), if_pos (by omega)]
      have ea : a.drop i = rd a (i : Int) :: a.drop (i + 1) := by
        rw [List.drop_eq_getElem_cons hi]; simp [rd, List.getD, List.getElem?_eq_getElem hi]
      have eb : b.drop i = rd b (i : Int) :: b.drop (i + 1) := by
        rw [List.drop_eq_getElem_cons (show i < b.length by omega)]; simp [rd, List.getD, List.getElem?_eq_getElem (show i < b.length by omega)]
      rw [ea, eb]
      by_cases he : rd a (i : Int) = rd b (i : Int)
      · rw [if_pos he, wrap_id (by omega) (by omega), show (i : Int) + 1 = ((i + 1 : Nat) : Int) from by omega, ih k (i + 1) (by omega) (by omega) (by omega), he]
        simp
      · rw [if_neg he]
        simp [he]
    · rw [slices_Equal_byte_byte.l0, if_neg (by omega), List.drop_of_length_le (by omega), List.drop_of_length_le (by omega)]
      simp
theorem equal_f (a b : List Int) (hs : a.length < 100000) (k : Nat) (hk : a.length < k) : slices_Equal_byte_byte.f k a b = some (decide (a = b)) := by
  unfold slices_Equal_byte_byte.f
  by_cases hl : a.length = b.length
  · rw [if_pos (by omega)]
    have := equal_loop a b hl (by omega) a.length k 0 (by omega) (by omega) hk
    simpa using this
  · rw [if_neg (by omega), decide_eq_false (fun e => hl (by rw [e]))]
theorem write_len (t : Ter) (hf : few t) : (writeL t).length ≤ 346 := by
  have := flds_len t hf K5
  simp only [writeL, List.length_cons]
  have e : K5.length = 5 := rfl
  omega
theorem end_ok (l : List Int) (t : Ter) (h : okT t) (hf : few t) : parse_end l t = some (if writeL t = l then (t.1, t.2.1, t.2.2.1, t.2.2.2.1, t.2.2.2.2.1, t.2.2.2.2.2, 0) else none_f 21) := by
  have hl := write_len t hf
  unfold parse_end
  rw [write_ok t h hf 21, Option.bind_some, if_pos rfl, equal_f _ _ (by simp only; omega) _ (by simp only; omega), Option.bind_some]
  by_cases e : writeL t = l
  · simp [e]
  · simp [e]
theorem end_any (l : List Int) (t : Ter) : parse_end l t = some (none_f 21) ∨ (okT t ∧ few t ∧ writeL t = l ∧ parse_end l t = some (t.1, t.2.1, t.2.2.1, t.2.2.2.1, t.2.2.2.2.1, t.2.2.2.2.2, 0)) := by
  by_cases h : okT t
  · by_cases hf : few t
    · rw [end_ok l t h hf]
      by_cases e : writeL t = l
      · exact Or.inr ⟨h, hf, e, by rw [if_pos e]⟩
      · exact Or.inl (by rw [if_neg e])
    · left
      unfold parse_end
      rw [write_many t h hf 21]
      rfl
  · left
    unfold parse_end
    rw [write_arg t h 21]
    rfl
theorem parse_write (t : Ter) (h : okT t) (hf : few t) (hb : okBytes t) (z : List Int) (hz : okL z) :
    parse_f (writeL t ++ z) = some (if z = [] then (t.1, t.2.1, t.2.2.1, t.2.2.2.1, t.2.2.2.2.1, t.2.2.2.2.2, 0) else none_f 21) := by
  unfold parse_f
  have e0 : writeL t ++ z = 136 :: (flds t K5 ++ z) := rfl
  rw [if_neg (by rw [e0]; simp), if_pos (by rw [e0]; rfl), show (writeL t ++ z).drop 1 = flds t K5 ++ z from rfl, show ([128, 129, 134, 135, 166] : List Int) = K5 from rfl, parse_flds t h hf hb z hz, Option.bind_some, parse_out, end_ok _ t h hf]
  by_cases e : z = []
  · subst e
    rw [if_pos rfl, if_pos (by simp)]
  · rw [if_neg e, if_neg (fun q => e (List.append_right_eq_self.mp q.symm))]
theorem parse_cut (t : Ter) (h : okT t) (hf : few t) (hb : okBytes t) (m : Nat) (hm : m < (writeL t).length) : parse_f ((writeL t).take m) = some (none_f 20) := by
  unfold parse_f
  cases m with
  | zero => rfl
  | succ m =>
    have e0 : (writeL t).take (m + 1) = 136 :: (flds t K5).take m := rfl
    rw [if_neg (by rw [e0]; simp), if_pos (by rw [e0]; rfl), e0, List.drop_one, List.tail_cons, show ([128, 129, 134, 135, 166] : List Int) = K5 from rfl, parse_pre t h hf hb K5 (fun _ h => h) _ m (by simpa [writeL] using hm)]
    rfl
theorem read_any (l : List Int) (hl : 4 ≤ l.length) : ∃ r, query_read.f l = some r := by
  unfold query_read.f
  rw [if_pos (by omega), if_pos (by omega), if_pos (by omega), if_pos (by omega)]
  exact ⟨_, rfl⟩
theorem lay_any (k : Int) (hk : k ∈ K5) (l : List Int) (hl : l.length < 100000) (ho : okL l) (t : Ter) (ht : okBytes t) : ∃ b s, layf k l t = some (b, s) ∧ okBytes s := by
  unfold layf
  rw [if_neg (by omega)]
  simp only [K5, List.mem_cons, List.not_mem_nil, or_false] at hk
  rcases hk with rfl | rfl | rfl | rfl | rfl
  · exact ⟨_, _, rfl, ht⟩
  · exact ⟨_, _, rfl, ht⟩
  · rw [if_pos rfl]
    split
    · exact ⟨_, _, rfl, ht⟩
    · exact ⟨_, _, rfl, okL_drop ho 1, ht.2⟩
  · rw [if_neg (by decide), if_pos rfl]
    split
    · exact ⟨_, _, rfl, ht⟩
    · exact ⟨_, _, rfl, ht.1, okL_drop ho 1⟩
  · rw [if_neg (by decide), if_neg (by decide), if_pos rfl]
    split
    · rename_i h8
      obtain ⟨r, hr⟩ := read_any l (by omega)
      obtain ⟨q, hq⟩ := read_any (l.drop 4) (by rw [List.length_drop]; omega)
      rw [hr, Option.bind_some, hq, Option.bind_some]
      exact ⟨_, _, rfl, ht⟩
    · exact ⟨_, _, rfl, ht⟩
theorem cutL_ok (l : List Int) (k : Int) (h : okL l) (hl : l.length < 100000) : okL (cutL l k).1 ∧ (cutL l k).1.length < 100000 ∧ okL (cutL l k).2.1 ∧ (cutL l k).2.1.length < 100000 := by
  have oN : okL ([] : List Int) := fun y hy => by simp at hy
  unfold cutL
  split
  · exact ⟨oN, by simp, oN, by simp⟩
  split
  · exact ⟨oN, by simp, oN, by simp⟩
  split
  · exact ⟨oN, by simp, oN, by simp⟩
  · refine ⟨okL_drop (okL_take h _) _, ?_, okL_drop h _, ?_⟩
    · simp only [List.length_drop, List.length_take]; omega
    · simp only [List.length_drop]; omega
theorem parse_l_any : ∀ (ks : List Int) (hk : ∀ k, k ∈ ks → k ∈ K5) (l : List Int) (ho : okL l) (hl : l.length < 100000) (t : Ter) (ht : okBytes t),
    (∃ e, e ≠ 0 ∧ parse_l ks l t = some (.inl e)) ∨ ∃ s, okBytes s ∧ parse_l ks l t = some (.inr s)
  | [], _, l, ho, hl, t, ht => Or.inr ⟨t, ht, rfl⟩
  | k :: ks, hk, l, ho, hl, t, ht => by
    obtain ⟨c1, c2, c3, c4⟩ := cutL_ok l k ho hl
    rw [parse_l, cut_f _ _ ho 4, Option.bind_some]
    by_cases h0 : (cutL l k).2.2 = 0
    · rw [if_pos h0]
      obtain ⟨b, s, e, hs⟩ := lay_any k (hk k List.mem_cons_self) _ c2 c1 t ht
      rw [e, Option.bind_some]
      by_cases hb : b = true
      · rw [if_pos hb]
        exact parse_l_any ks (fun y hy => hk y (List.mem_cons_of_mem _ hy)) _ c3 c4 s hs
      · rw [if_neg hb]
        exact Or.inl ⟨21, by decide, rfl⟩
    · rw [if_neg h0]
      exact Or.inl ⟨_, h0, rfl⟩
theorem parse_all (l : List Int) (ho : okL l) (hl : l.length < 100000) :
    (∃ e, e ≠ 0 ∧ parse_f l = some (none_f e)) ∨ ∃ t, okT t ∧ few t ∧ okBytes t ∧ writeL t = l ∧ parse_f l = some (t.1, t.2.1, t.2.2.1, t.2.2.2.1, t.2.2.2.2.1, t.2.2.2.2.2, 0) := by
  unfold parse_f
  split
  · exact Or.inl ⟨20, by decide, rfl⟩
  split
  · have oN : okL ([] : List Int) := fun y hy => by simp at hy
    rcases parse_l_any K5 (fun _ h => h) (l.drop 1) (okL_drop ho 1) (by rw [List.length_drop]; omega) (0, 0, 0, 0, [], []) ⟨oN, oN⟩ with ⟨e, he, eq⟩ | ⟨s, hs, eq⟩
    · left
      refine ⟨e, he, ?_⟩
      rw [show ([128, 129, 134, 135, 166] : List Int) = K5 from rfl, eq]
      rfl
    · rw [show ([128, 129, 134, 135, 166] : List Int) = K5 from rfl, eq, Option.bind_some, parse_out]
      rcases end_any l s with h | ⟨h1, h2, h3, h4⟩
      · exact Or.inl ⟨21, by decide, h⟩
      · exact Or.inr ⟨s, h1, h2, hs, h3, h4⟩
  · exact Or.inl ⟨21, by decide, rfl⟩
end Go.Proofs.Ytpdihhfeekoplaa.Plain
