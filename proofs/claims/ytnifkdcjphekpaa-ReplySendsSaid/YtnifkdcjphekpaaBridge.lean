/- A region that draws its order, in a round of a loop over a function: by the law that holds outside of rounds. -/
import Derived.OrdersHeld
import Derived.Deep.RegionHeld3
import Derived.OrdersIn
import Derived.RangeFuncCalls
import Derived.Test.YtnifkdcjphekpaaExact
namespace Go.Proofs.Ytnifkdcjphekpaa.H
open Go.RowKit
set_option linter.unusedVariables false
set_option linter.unusedSimpArgs false
section
variable {P : Program} {ops : Array Oper} {Q : Exit → Act → World → Prop} {K : Act → World → Prop} {o : Oper} {a : Act} {w : World} {l n : Nat} {md : Region.Mode}
theorem rows_in {row : String} {args : Array Value} {R : Value → World → Prop} (h : Rows P row args w R) : RowsIn (Fence.wide.inRound l) n P row args w R := fun c cs _ => by
  obtain ⟨v, w', r, s⟩ := h c cs
  exact ⟨v, w', r, stepsIn_wide.2 s⟩
theorem upon_in : ∀ r, o.upon P a K Q r → o.uponIn (Fence.wide.inRound l) n P a K Q r := by
  intro r h
  match r, h with
  | .ok (.value v) w', h => exact h
  | .ok .skip w', h => exact h
  | .ok (.defer d) w', h => exact h
  | .ok (.enter f args) w', h => exact ⟨fun h => (by cases h), CallsIn.inRound l (callsIn_wide.2 h)⟩
  | .ok (.row row args) w', h => exact ⟨fun h => (by cases h), rows_in h⟩
  | .halt (.panic v) w', h => exact h
theorem wp_in (hd : ∀ c, o.op ≠ .defer c) (h : o.wp P a w K Q) : o.wpIn (Fence.wide.inRound l) n P a w K Q :=
  ⟨fun _ _ => trivial, by rw [Oper.semAt_eq _ _ _ hd]; exact upon_in _ h⟩
theorem op_in (hd : ∀ (j : Nat) (o : Oper), ops[j]? = some o → ∀ c, o.op ≠ .defer c) (hO : ¬ LetsOut Q) {i : Nat} (h : wpOp P ops Q i K a w) : wpOpIn (Fence.wide.inRound l) n P ops Q i K a w := by
  unfold wpOp at h
  unfold wpOpIn
  cases hi : ops[i]? with
  | none => simp only [hi] at h ⊢; exact h
  | some o =>
    simp only [hi] at h ⊢
    split at h
    · rename_i hw
      rw [if_pos hw]
      rcases h with h | ⟨_, h⟩
      · exact wp_in (hd _ _ hi) h
      · exact (hO h).elim
    · rename_i hw
      rw [if_neg hw]
      exact ⟨fun _ _ => trivial, h⟩
theorem any_in (hd : ∀ (j : Nat) (o : Oper), ops[j]? = some o → ∀ c, o.op ≠ .defer c) (hO : ¬ LetsOut Q) : ∀ (fuel : Nat) (listed : Array Bool) (a : Act) (w : World), wpAny P md ops Q fuel listed a w → wpAnyIn (Fence.wide.inRound l) n P md ops Q fuel listed a w
  | 0, _, _, _, h => h
  | fuel + 1, _, _, _, h => ⟨h.1, fun i hi => wpOpIn_mono (fun a' w' h' => any_in hd hO fuel _ a' w' h') (op_in hd hO (h.2 i hi))⟩
def isDefer (o : Oper) : Bool := match o.op with | .defer _ => true | _ => false
theorem no_defer {l : List Oper} (h : l.all (fun o => !isDefer o) = true) : ∀ (j : Nat) (o : Oper), l.toArray[j]? = some o → ∀ c, o.op ≠ .defer c := by
  intro j o hj c he
  have hm : o ∈ l := List.mem_of_getElem? (by simpa using hj)
  have := List.all_eq_true.1 h o hm
  simp [isDefer, he] at this
theorem region_in {id : Nat} {lo : List Oper} {S : World → Prop} (hm : P.follows .mixedOrders = true) (hd : lo.all (fun o => !isDefer o) = true) (hO : ¬ LetsOut Q) (hS : S w.drew)
    (h : S w.drew → wpAnyH P .any lo.toArray Q S lo.toArray.size (Array.replicate lo.toArray.size false) a w.drew) : (Code.region id lo.toArray true).wpIn (Fence.wide.inRound l) n P Q a w :=
  wpIn_region_any hm (any_in (no_defer hd) hO _ _ _ _ (wpAny_of_held _ _ _ _ (h hS)))
end
end Go.Proofs.Ytnifkdcjphekpaa.H
