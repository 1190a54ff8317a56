/- Regions with orders that only read: a predicate on worlds that all operations keep. -/
import Derived.Test.YtpdihhfeekoplaaHand
namespace Go.Proofs.Ytpdihhfeekoplaa.P
open Go.RowKit Go.Proofs.YtpdihhfeekoplaaW.PrintWords Go.Proofs.YtpdihhfeekoplaaW.PrintLast Go.Proofs.YtpdihhfeekoplaaW.PrintMore
set_option linter.unusedVariables false
set_option linter.unusedSimpArgs false
section
variable {P : Program} {ops : Array Oper} {C : World → Prop} {Q : Act → Prop} {a : Act} {o : Oper} {rest : List Oper}
theorem wp_region_class (C : World → Prop) {id : Nat} {Q : Exit → Act → World → Prop} {a : Act} {w : World} {l : List Oper} (hm : P.follows .mixedOrders = true) (hB : Region.lexB .any l.toArray = true) (hC : C { w with drawn := w.drawn + 1 })
    (h : wpQuiet P l.toArray C (fun a' => ∀ w', C w' → Q .normal a' w') l a) : (Code.region id l.toArray true).wp P Q a w :=
  wp_region_quiet hm hB hC (by simpa using h)
theorem quiet_mv {K : Act → Prop} (x : Operand) (v : Value) (h : o.op = .move x) (hv : a.eval x = v) (hk : K (a.put o.dst v)) : o.quiet P a C K :=
  BigFrame.quiet_move x h (by rw [hv]; exact hk)
theorem quiet_asg {K : Act → Prop} (x : Operand) (v : Value) (h : o.op = .assign x) (hv : a.eval x = v) (hk : K (a.put o.dst v)) : o.quiet P a C K :=
  BigFrame.quiet_assign x h (by rw [hv]; exact hk)
theorem quiet_run {K : Act → Prop} (v : Value) (h : ∀ W, C W → (execOp a.eval o).run P W = .ok (.value v) W) (hk : K (a.put o.dst v)) : o.quiet P a C K :=
  ⟨v, fun w hw => by unfold Oper.quietAt; rw [h w hw]; exact ⟨rfl, rfl⟩, hk⟩
theorem quiet_call {K : Act → Prop} {f : FuncId} {fn : Func} {os_ : Array Operand} {ts : Array TypeId} (v : Value) (hf : P.funcs[f]? = some fn) (hname : (fn.name == "runtime.NumGoroutine") = false) (hb : fn.body.isSome = true) (args : Array Value)
    (hop : o.op = .call { callee := .value (.func f), args := os_, argTypes := ts }) (hargs : os_.map a.eval = args)
    (h : ∀ W, C W → Calls P f args W fun e w'' => e = .returned v ∧ C w'') (hk : K (a.put o.dst v)) : o.quiet P a C K := by
  refine ⟨v, fun w hw => ?_, hk⟩
  have he := enters_ hf hname hb args w
  unfold Oper.quietAt execOp
  simp [hop, resolve, Deferred.ofValue, invoke, Act.eval, hargs, he]
  exact ⟨rfl, h w hw⟩
theorem q_mv {Q : Act → Prop} (x : Operand) (v : Value) (hw : Region.wanted o (yielded ops a.tmps) = true) (h : o.op = .move x) (hv : a.eval x = v) (hk : wpQuiet P ops C Q rest (a.put o.dst v)) : wpQuiet P ops C Q (o :: rest) a :=
  BigFrame.wpQuiet_want hw (fun _ hK => quiet_mv x v h hv (hK _ hk))
theorem q_asg {Q : Act → Prop} (x : Operand) (v : Value) (hw : Region.wanted o (yielded ops a.tmps) = true) (h : o.op = .assign x) (hv : a.eval x = v) (hk : wpQuiet P ops C Q rest (a.put o.dst v)) : wpQuiet P ops C Q (o :: rest) a :=
  BigFrame.wpQuiet_want hw (fun _ hK => quiet_asg x v h hv (hK _ hk))
theorem q_run {Q : Act → Prop} (v : Value) (hw : Region.wanted o (yielded ops a.tmps) = true) (h : ∀ W, C W → (execOp a.eval o).run P W = .ok (.value v) W) (hk : wpQuiet P ops C Q rest (a.put o.dst v)) : wpQuiet P ops C Q (o :: rest) a :=
  BigFrame.wpQuiet_want hw (fun _ hK => quiet_run v h (hK _ hk))
end
end Go.Proofs.Ytpdihhfeekoplaa.P
