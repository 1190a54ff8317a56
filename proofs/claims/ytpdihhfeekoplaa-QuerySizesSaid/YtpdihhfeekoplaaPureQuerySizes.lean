/- -/
import Derived.Test.YtpdihhfeekoplaaGoalQuerySizes
import Derived.Test.YtpdihhfeekoplaaPlainP
import Derived.Lib.Bytes
namespace Go.Proofs.Ytpdihhfeekoplaa.Pure
open Go.RowKit Go.Proofs.Ytpdihhfeekoplaa.P Go.Proofs.YtpdihhfeekoplaaW.PrintWords Go.Proofs.YtpdihhfeekoplaaW.PrintLast Go.Proofs.YtpdihhfeekoplaaW.PrintMore Go.Proofs.YtpdihhfeekoplaaO
open Go.Proofs.Ytpdihhfeekoplaa.Plain
open Go.Proofs.Ytpdihhfeekoplaa.A
set_option linter.unusedVariables false
set_option linter.unusedSimpArgs false
/- YOURS -/
theorem alive_more (m : Nat) : greenscreenlaw24_alive.f (m + 30) = some true := by
  refine at_rounds greenscreenlaw24_alive.mono (Nat.le_add_left 30 m) ?_
  kernel_rfl
theorem byte_of {a : Int} (h : (Lit.int .u8 a).wf = true) : okB a := by
  have h1 : IntKind.u8.min = 0 := rfl
  have h2 : IntKind.u8.max = 255 := rfl
  have h3 : IntKind.u8.min ≤ a ∧ a ≤ IntKind.u8.max := by simpa [Lit.wf] using h
  unfold okB
  omega
def dT (a b c d e : Int) : Ter := (a, b, c, d, [e, 242, 243, 244, 245, 246, 247], [241, 242, 244])
theorem dT_few (a b c d e : Int) : few (dT a b c d e) := ⟨by simp [dT], by simp [dT]⟩
def hd : List Int := [136, 0, 9, 129, 128, 128, 129, 134, 135, 166, 0, 8, 129, 129]
def tl (a b c d : Int) : List Int := [242, 243, 244, 245, 246, 247] ++ (fld 135 (listL [241, 242, 244]) ++ fld 166 (sizeL a b ++ sizeL c d))
theorem wl (a b c d e : Int) : writeL (dT a b c d e) = hd ++ (greatL (dT a b c d e) ++ ([0, 12, 129, 134, 7, e] ++ tl a b c d)) := by
  have h := great_len (dT a b c d e)
  have e1 : bodyL (dT a b c d e) 129 = greatL (dT a b c d e) := rfl
  have e2 : fld 129 (greatL (dT a b c d e)) = [0, 8, 129, 129] ++ greatL (dT a b c d e) := by unfold fld; rw [h]; rfl
  show 136 :: (fld 128 K5 ++ (fld 129 (greatL (dT a b c d e)) ++ (fld 134 (listL [e, 242, 243, 244, 245, 246, 247]) ++ (fld 135 (listL [241, 242, 244]) ++ (fld 166 (sizeL a b ++ sizeL c d) ++ []))))) = _
  rw [e2]
  simp [hd, tl, fld, wordL, listL, K5]
theorem great_same (a b c d e f : Int) : greatL (dT a b c d e) = greatL (dT a b c d f) := rfl
theorem area (g z : List Int) (h : g.length = 4) : ((hd ++ (g ++ z)).take 18).drop 14 = g := by
  rw [List.drop_take, show 18 - 14 = g.length from by omega, show (hd ++ (g ++ z)).drop 14 = g ++ z from rfl, List.take_left]
theorem other (e : Int) (he : okB e) (g z : List Int) : ((strOfNums (hd ++ (g ++ ([0, 12, 129, 134, 7, e] ++ z)))).toList == (strOfNums (hd ++ (g ++ ([0, 12, 129, 134, 7, 241] ++ z)))).toList) = (e == 241) := by
  rw [Lib.strOfNums_toList, Lib.strOfNums_toList]
  by_cases h : e = 241
  · subst h; simp
  · rw [beq_eq_false_iff_ne.mpr h, beq_eq_false_iff_ne]
    intro q
    unfold Lib.bytesOf at q
    simp only [List.map_append, List.map_cons, List.append_cancel_left_eq, List.cons_append, List.cons.injEq, List.nil_append, List.map_nil] at q
    have q1 := q.2.2.2.2.2.1
    have := congrArg UInt8.toNat q1
    unfold okB at he
    simp at this
    omega
theorem ends (a b c d e : Int) (h : okT (dT a b c d 241)) (he : okB e) (x : List Int) (hx : greatL (dT a b c d 241) = x) (back : Int × Int × Int × Int × List Int × List Int × Int) (hb : back = (a, b, c, d, [241, 242, 243, 244, 245, 246, 247], [241, 242, 244], 0)) :
    (if back.2.2.2.2.2.2 = 0 then (if (back.1 == a && (back.2.1 == b)) = true then (if (back.2.2.1 == c && (back.2.2.2.1 == d)) = true then (if 14 ≤ 18 then (if 18 ≤ ((writeL (dT a b c d 241)).length : Int) then (if (strOfNums (((writeL (dT a b c d 241)).take 18).drop 14)).toList = (strOfNums x).toList then (if ((writeL (dT a b c d e)).length : Int) = ((writeL (dT a b c d 241)).length : Int) then (some (((strOfNums (writeL (dT a b c d e))).toList == (strOfNums (writeL (dT a b c d 241))).toList) == (e == 241))) else (some false)) else (some false)) else (none)) else (none)) else (some false)) else (some false)) else (some false)) = some true := by
  subst hb hx
  have h1 := great_len (dT a b c d 241)
  rw [if_pos rfl, if_pos (by simp), if_pos (by simp), if_pos (by decide), wl, wl, great_same a b c d e 241, area _ _ h1, if_pos (by simp [hd]; omega), if_pos rfl, if_pos (by simp), other e he]
  simp
theorem QuerySizes : Go.Proofs.Ytpdihhfeekoplaa.GQuerySizes.Pure := by
  intro y0 y1 a2 g0 g1 g2
  obtain ⟨a, b⟩ := y0
  obtain ⟨c, d⟩ := y1
  refine ⟨100, ?_⟩
  have he := byte_of g2
  unfold greenscreenlaw24_QuerySizes.f
  rw [alive_more 70, Option.bind_some, if_pos rfl]
  simp only [query_Default.f, Option.bind_some]
  by_cases h : okT (dT a b c d 241)
  · have w := write_ok (dT a b c d 241) h (dT_few a b c d 241) 91
    have w2 := write_ok (dT a b c d a2) h (dT_few a b c d a2) 91
    have hb : okBytes (dT a b c d 241) := by
      constructor
      · intro y hy
        simp only [dT, List.mem_cons, List.not_mem_nil, or_false] at hy
        unfold okB
        omega
      · intro y hy
        simp only [dT, List.mem_cons, List.not_mem_nil, or_false] at hy
        unfold okB
        omega
    have p := parse_write (dT a b c d 241) h (dT_few a b c d 241) hb [] (fun y hy => by simp at hy)
    rw [List.append_nil, if_pos rfl] at p
    rw [show query_Write.f 100 a b c d [241, 242, 243, 244, 245, 246, 247] [241, 242, 244] = some (writeL (dT a b c d 241), 0) from w, Option.bind_some, if_pos rfl]
    simp only []
    rw [show query_Parse.f _ = some (a, b, c, d, [241, 242, 243, 244, 245, 246, 247], [241, 242, 244], 0) from p, Option.bind_some]
    have e1 : wrap64 (a * b) = a * b := (cells_wrap (r := a) (c := b) h.1.1 h.1.2.1).2.2
    have e2 : wrap64 (c * d) = c * d := (cells_wrap (r := c) (c := d) h.2.1 h.2.2.1).2.2
    rw [e1, e2]
    by_cases hc : c * d > a * b
    · rw [if_pos hc, if_pos (by decide), if_pos (by decide)]
      rw [show query_Write.f 100 a b c d (([] ++ [241, 242, 243, 244, 245, 246, 247] : List Int).set (0 : Int).toNat a2) [241, 242, 244] = some (writeL (dT a b c d a2), 0) from w2, Option.bind_some]
      exact ends a b c d a2 h he _ (by unfold greatL; exact if_pos hc) _ rfl
    · rw [if_neg hc, if_pos (by decide), if_pos (by decide)]
      rw [show query_Write.f 100 a b c d (([] ++ [241, 242, 243, 244, 245, 246, 247] : List Int).set (0 : Int).toNat a2) [241, 242, 244] = some (writeL (dT a b c d a2), 0) from w2, Option.bind_some]
      exact ends a b c d a2 h he _ (by unfold greatL; exact if_neg hc) _ rfl
  · have w := write_arg (dT a b c d 241) h 91
    rw [show query_Write.f 100 a b c d [241, 242, 243, 244, 245, 246, 247] [241, 242, 244] = some ([], 1) from w, Option.bind_some]
    rfl
end Go.Proofs.Ytpdihhfeekoplaa.Pure
