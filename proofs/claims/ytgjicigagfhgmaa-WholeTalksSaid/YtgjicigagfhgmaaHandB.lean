/- slices.Clone of bytes. -/
import Derived.Test.YtgjicigagfhgmaaAx
import Derived.Lib.SliceRun
namespace Go.Proofs.Ytgjicigagfhgmaa.B
open Go.RowKit Go.Proofs.YtgjicigagfhgmaaW.PrintWords Go.Proofs.YtgjicigagfhgmaaW.PrintLast Go.Proofs.YtgjicigagfhgmaaW.PrintMore
set_option linter.unusedVariables false
set_option linter.unusedSimpArgs false
theorem hinfo5 : (Try.prog.info? 5).map (fun i => (i.zero, i.size, i.bytes)) = some (some (.int .u8 0), 1, 1) := by kernel_rfl
set_option maxHeartbeats 1000000 in
set_option maxRecDepth 100000 in
theorem clone_calls (A0 : Option Addr) (c0 : Nat) (l0 : List Int) (w : World) (hC0 : Kd.C (Kd.int .u8) w A0 l0.length l0) (hcl0 : l0.length ≤ c0) (hlim : l0.length ≤ 140737488355328) :
    Calls Try.prog 28 #[.slice A0 l0.length c0] w fun e w' => ∃ v0_ : Value, e = .returned (v0_) ∧ Kd.R (Kd.int .u8) 5 w' w.heap.size (fun _ => True) v0_ l0 ∧ Below w.heap.size w w' := by
  have hr := Kd.reads_of_C (d := (0 : Int)) hC0
  have HR := Aside0.mk (readsInt_of.2 hr)
  clear hC0
  by_cases hA : A0 = none
  · subst hA
    have hl : l0 = [] := by
      rcases Nat.eq_zero_or_pos l0.length with h | h
      · exact List.eq_nil_of_length_eq_zero h
      · obtain ⟨ad, h, _⟩ := HR.out.2.2 h
        cases h
    subst hl
    clear hr
    have heq := Go.Lib.run_eql_slice_nil (P := Try.prog) w 25 5 none 0 c0 0 0 Try.underlying25
    go_enter Try.func28, Try.ntmps28
    go_wp2
    go_ret
    exact ⟨_, rfl, Kd.R_nil _ _ _ _ _, Below.refl _ _⟩
  · obtain ⟨ad, rfl⟩ : ∃ ad, A0 = some ad := by cases A0 with | none => exact absurd rfl hA | some ad => exact ⟨ad, rfl⟩
    clear hr hA
    have heq := Go.Lib.run_eql_slice_nil (P := Try.prog) w 25 5 (some ad) l0.length c0 0 0 Try.underlying25
    go_enter Try.func28, Try.ntmps28
    go_wp2_with (first | (at_builtin; refine print_append_row (w0 := w) w.heap.size rfl _ _ 25 5 .u8 1 rfl Try.underlying25 hinfo5 (by decide) _ [] l0 _ _ _ rfl rfl ?aO ?aR ?aB ?aS (by simpa using hlim) ?_) | go_in)
    case aO => exact ⟨rfl, .inr ⟨_, 0, #[], rfl, Nat.le_refl _, heap_alloc_new _ _, Nat.le_refl _, by decide, rfl, rfl⟩⟩
    case aR => exact HR.out.below (below_alloc (Below.refl _ _) _)
    case aB => exact below_alloc (Below.refl _ _) _
    case aS => simp
    intro v1 w1 hown hb hg hat
    go_wp2
    go_ret
    exact ⟨_, rfl, Kd.R_of_own hown (fun _ _ => trivial), hb⟩
end Go.Proofs.Ytgjicigagfhgmaa.B
