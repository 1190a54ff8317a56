/- slices.Clone of bytes; a slice that came in is read at no other block. -/
import Derived.Test.YtpdihhfeekoplaaProg
import Derived.Below
import Derived.Deep.Draws
import Derived.Deep.AppendLies
import Derived.Maps.AppendAt
import Derived.OwnWalk
import Derived.Laws.BytesArg
import Derived.Laws.MakeOwn
import Derived.Laws.OwnMore
import Derived.Deep.OwnRows
import Derived.Tactics
import Derived.Lib.ConvBytes
import Derived.Laws.Slices
import Derived.WalkKit
import Derived.KernelRfl
import Derived.RowKit3
import Derived.Deep.LoopGhost
import Derived.Deep.QuietTactic
import Derived.BigQuiet
import Derived.WideLaws
import Derived.Deep.DeepCutAuto
import Derived.Deep.CutBlock
import Derived.Deep.RegionHeld3
import Derived.Laws.Rows
import Derived.Lib.AppendStr
import Derived.ArgAppend
import Derived.Laws.IdiomCopy
import Derived.OrdersHeld
import Derived.Laws.BitsLemmas
import Derived.RowKit
import Derived.Test.YtpdihhfeekoplaaWWords
import Derived.Test.YtpdihhfeekoplaaWLast
import Derived.Test.YtpdihhfeekoplaaWTab
import Derived.Test.YtpdihhfeekoplaaWFour
import Derived.Test.YtpdihhfeekoplaaWQPut
import Derived.Test.YtpdihhfeekoplaaWApart
import Derived.Test.YtpdihhfeekoplaaWArr
import Derived.Test.YtpdihhfeekoplaaWZeros
import Derived.Test.YtpdihhfeekoplaaWFoot
import Derived.Test.YtpdihhfeekoplaaWKept
import Derived.Test.YtpdihhfeekoplaaWShare
import Derived.Test.YtpdihhfeekoplaaWN
import Derived.Test.YtpdihhfeekoplaaWFootNe
import Derived.Test.YtpdihhfeekoplaaWAt
import Derived.Test.YtpdihhfeekoplaaWEqStruct
import Derived.Test.YtpdihhfeekoplaaWRepsOne
import Derived.Test.YtpdihhfeekoplaaWInv
import Derived.Test.YtpdihhfeekoplaaWInvWords
import Derived.Test.YtpdihhfeekoplaaWGuard
import Derived.Test.YtpdihhfeekoplaaWNEv
import Derived.Test.YtpdihhfeekoplaaWMore
import Derived.Lib.SliceRun
namespace Go.Proofs.Ytpdihhfeekoplaa.P
open Go.RowKit Go.Proofs.YtpdihhfeekoplaaW.PrintWords Go.Proofs.YtpdihhfeekoplaaW.PrintLast Go.Proofs.YtpdihhfeekoplaaW.PrintMore
set_option linter.unusedVariables false
set_option linter.unusedSimpArgs false
theorem Kd.V_away {k : IntKind} {e : Nat} {w : World} {base g : Nat} {ok : Nat → Prop} {v : Value} {xs : List Int} (h : (Kd.int k).V e w base ok v xs) (hok : ∀ k, ok k → k ≠ g) (hne : 0 < xs.length := by first | exact Int.natCast_pos.1 (of_decide_eq_true (by assumption)) | omega) : some g ≠ v.ownBlock := by
  obtain ⟨A, c, rfl, hle, hF⟩ := h
  intro he
  have hr := Kd.reads_of_C (d := (0 : Int)) (Kd.F_now hF)
  obtain ⟨ad, rfl, _⟩ := hr.2.2 hne
  obtain rfl : g = ad.block := by simpa [Value.ownBlock] using he
  have h1 : (Kd.int k).C { w with heap := w.heap.setIfInBounds ad.block (.map #[] 0) } (some ad) xs.length xs := by
    refine Kd.F_now (Kd.F_step hF (fun j hj hlt => ?_))
    have := hok j hj
    simp [Array.getElem?_setIfInBounds, Ne.symm this]
  have h2 := Kd.reads_of_C (d := (0 : Int)) h1
  obtain ⟨ad', e1, h3⟩ := h2.2.2 hne
  injection e1 with e1
  subst e1
  have h4 := h3 0 hne
  unfold World.cell? at h4
  simp only [add_block, Array.getElem?_setIfInBounds, if_pos rfl] at h4
  by_cases hs : ad.block < w.heap.size <;> simp [hs] at h4


theorem hinfo5 : (Try.prog.info? 5).map (fun i => (i.zero, i.size, i.bytes)) = some (some (.int .u8 0), 1, 1) := by kernel_rfl
set_option maxHeartbeats 1000000 in
set_option maxRecDepth 100000 in
theorem clone_calls (A0 : Option Addr) (c0 : Nat) (l0 : List Int) (w : World) (hC0 : Kd.C (Kd.int .u8) w A0 l0.length l0) (hcl0 : l0.length ≤ c0) (hlim : l0.length ≤ 140737488355328) :
    Calls Try.prog 32 #[.slice A0 l0.length c0] w fun e w' => ∃ v0_ : Value, e = .returned (v0_) ∧ Kd.R (Kd.int .u8) 5 w' w.heap.size (fun _ => True) v0_ l0 ∧ Below w.heap.size w w' := by
  have hr := Kd.reads_of_C (d := (0 : Int)) hC0
  have HR := Aside0.mk (readsInt_of.2 hr)
  clear hC0
  by_cases hA : A0 = none
  · subst hA
    have hl : l0 = [] := by
      rcases Nat.eq_zero_or_pos l0.length with h | h
      · exact List.eq_nil_of_length_eq_zero h
      · obtain ⟨ad, h, _⟩ := HR.out.2.2 h
        cases h
    subst hl
    clear hr
    have heq := Go.Lib.run_eql_slice_nil (P := Try.prog) w 24 5 none 0 c0 0 0 Try.underlying24
    go_enter Try.func32, Try.ntmps32
    go_wp2
    go_ret
    exact ⟨_, rfl, Kd.R_nil _ _ _ _ _, Below.refl _ _⟩
  · obtain ⟨ad, rfl⟩ : ∃ ad, A0 = some ad := by cases A0 with | none => exact absurd rfl hA | some ad => exact ⟨ad, rfl⟩
    clear hr hA
    have heq := Go.Lib.run_eql_slice_nil (P := Try.prog) w 24 5 (some ad) l0.length c0 0 0 Try.underlying24
    go_enter Try.func32, Try.ntmps32
    go_wp2_with (first | (at_builtin; refine print_append_row (w0 := w) w.heap.size rfl _ _ 24 5 .u8 1 rfl Try.underlying24 hinfo5 (by decide) _ [] l0 _ _ _ rfl rfl ?aO ?aR ?aB ?aS (by simpa using hlim) ?_) | go_in)
    case aO => exact ⟨rfl, .inr ⟨_, 0, #[], rfl, Nat.le_refl _, heap_alloc_new _ _, Nat.le_refl _, by decide, rfl, rfl⟩⟩
    case aR => exact HR.out.below (below_alloc (Below.refl _ _) _)
    case aB => exact below_alloc (Below.refl _ _) _
    case aS => simp
    intro v1 w1 hown hb hg hat
    go_wp2
    go_ret
    exact ⟨_, rfl, Kd.R_of_own hown (fun _ _ => trivial), hb⟩


end Go.Proofs.Ytpdihhfeekoplaa.P
