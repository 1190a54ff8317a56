/- -/
import Derived.Test.YtpdihhfeekoplaaGoalQueryBytes
import Derived.Test.YtpdihhfeekoplaaRefP
namespace Go.Proofs.Ytpdihhfeekoplaa.Pure
open Go.RowKit Go.Proofs.Ytpdihhfeekoplaa.P Go.Proofs.YtpdihhfeekoplaaW.PrintWords Go.Proofs.YtpdihhfeekoplaaW.PrintLast Go.Proofs.YtpdihhfeekoplaaW.PrintMore Go.Proofs.YtpdihhfeekoplaaO
open Go.Proofs.Ytpdihhfeekoplaa.Plain
set_option linter.unusedVariables false
set_option linter.unusedSimpArgs false
/- YOURS -/
theorem alive_more (m : Nat) : greenscreenlaw24_alive.f (m + 30) = some true := by
  refine at_rounds greenscreenlaw24_alive.mono (Nat.le_add_left 30 m) ?_
  kernel_rfl
theorem byte_of {a : Int} (h : (Lit.int .u8 a).wf = true) : okB a := by
  have h1 : IntKind.u8.min = 0 := rfl
  have h2 : IntKind.u8.max = 255 := rfl
  have h3 : IntKind.u8.min ≤ a ∧ a ≤ IntKind.u8.max := by simpa [Lit.wf] using h
  unfold okB
  omega
theorem both_write (t : Ter) (k : Nat) (hk : 2100 ≤ k) : ∃ b e, A.query_Write.f k t.1 t.2.1 t.2.2.1 t.2.2.2.1 t.2.2.2.2.1 t.2.2.2.2.2 = some (b, e) ∧ B.greenscreenref24_Write.f k t.1 t.2.1 t.2.2.1 t.2.2.2.1 t.2.2.2.2.1 t.2.2.2.2.2 = some (b, e) ∧ b.length ≤ 346 := by
  obtain ⟨m, rfl⟩ : ∃ m, k = m + 9 := ⟨k - 9, by omega⟩
  by_cases h : okT t
  · by_cases hf : few t
    · exact ⟨_, _, write_ok t h hf m, refW_ok t h hf _ (by omega), write_len t hf⟩
    · exact ⟨_, _, write_many t h hf m, refW_many t h hf _ (by omega), by simp⟩
  · exact ⟨_, _, write_arg t h m, refW_arg t h _ (by omega), by simp⟩
theorem same_ter (p0 p1 o0 o1 : Int) (cs ls : List Int) (k : Nat) (h1 : cs.length ≤ 64) (h2 : ls.length ≤ 64) (hk : 100 ≤ k) : greenscreenref24_Same.f k p0 p1 o0 o1 cs ls p0 p1 o0 o1 cs ls = some true := by
  unfold greenscreenref24_Same.f
  rw [if_pos (by simp), if_pos (by simp), refSame_f cs cs (by omega) k (by omega), Option.bind_some, if_pos (by simp), refSame_f ls ls (by omega) k (by omega), Option.bind_some]
  simp
theorem parse_some (l : List Int) (ho : okL l) (hl : l.length < 100000) : ∃ r, parse_f l = some r ∧ r.2.2.2.2.1.length ≤ 64 ∧ r.2.2.2.2.2.1.length ≤ 64 := by
  rcases parse_all l ho hl with ⟨e, _, h⟩ | ⟨t, _, h2, _, _, h⟩
  · exact ⟨_, h, by simp [none_f], by simp [none_f]⟩
  · exact ⟨_, h, h2.1, h2.2⟩
theorem j0_ok (l : List Int) (ho : okL l) (t : Ter) (far : Bool) (hl : far = false → l.length ≤ 400) (k : Nat) (hk : 2100 ≤ k) :
    greenscreenlaw24_QueryBytes.j0 (k + 1) l far t.1 t.2.1 t.2.2.1 t.2.2.2.1 t.2.2.2.2.1 t.2.2.2.2.2 = some true := by
  rw [greenscreenlaw24_QueryBytes.j0]
  cases far with
  | true => rfl
  | false =>
    have hl := hl rfl
    obtain ⟨b, e, w1, w2, hb⟩ := both_write t k hk
    obtain ⟨⟨p0, p1, o0, o1, cs, ls, e2⟩, hp, c1, c2⟩ := parse_some l ho (by omega)
    have hr : rparse_f l = some (p0, p1, o0, o1, cs, ls, e2) := by unfold rparse_f; rw [if_pos (ok_okb ho), if_pos (by omega), hp]
    rw [if_neg Bool.false_ne_true, w1, Option.bind_some]
    simp only [greenscreenlaw24_as.f, Option.bind_some]
    rw [w2, Option.bind_some, show query_Parse.f l = _ from hp, Option.bind_some, show greenscreenref24_Parse.f l = _ from hr, Option.bind_some, if_pos rfl, refSame_f b b (by omega) k (by omega), Option.bind_some, if_pos (by simp), if_pos rfl]
    exact (congrArg (fun o => o.bind fun t => some t) (same_ter p0 p1 o0 o1 cs ls k c1 c2 (by omega))).trans rfl
theorem QueryBytes : Go.Proofs.Ytpdihhfeekoplaa.GQueryBytes.Pure := by
  intro y0 l1 g0 g1 g2
  refine ⟨3000, ?_⟩
  have ho : okL l1 := fun y hy => byte_of (g1.2 y hy)
  unfold greenscreenlaw24_QueryBytes.f
  rw [alive_more 2970, Option.bind_some, if_pos rfl]
  have h := fun far => j0_ok l1 ho (y0.f0.f0, y0.f0.f1, y0.f1.f0, y0.f1.f1, y0.f2, y0.f3) far
  unfold greenscreenlaw24_few.f
  split
  · rw [Option.bind_some]
    split
    · exact h _ (fun e => by have := of_decide_eq_false e; omega) 2999 (by omega)
    · exact h true (fun e => by cases e) 2999 (by omega)
  · rw [Option.bind_some, if_neg Bool.false_ne_true]
    exact h true (fun e => by cases e) 2999 (by omega)
end Go.Proofs.Ytpdihhfeekoplaa.Pure
