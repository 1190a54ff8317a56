import Derived.Test.YtpdihhfeekoplaaPx8
import Derived.Test.YtpdihhfeekoplaaPx8b
namespace Go.Proofs.Ytpdihhfeekoplaa.P
open Go.Proofs.Ytpdihhfeekoplaa.A
open Go.RowKit Go.Proofs.YtpdihhfeekoplaaW.PrintWords Go.Proofs.YtpdihhfeekoplaaW.PrintLast Go.Proofs.YtpdihhfeekoplaaW.PrintMore
attribute [local go_sem] max2_int min2_int max_two min_two max_three min_three max_four min_four   -- for this text's walks alone
set_option linter.unusedVariables false
set_option linter.unusedSimpArgs false
attribute [local go_sem high] eqA23
set_option maxHeartbeats 8000000 in
set_option maxRecDepth 100000 in
theorem greenscreenlaw24_QuerySizes.calls (k : Nat) (a0_0 : Int) (a0_1 : Int) (a1_0 : Int) (a1_1 : Int) (a2 : Int) (r : Bool) (hr_ : r = true) (w : World) (h : greenscreenlaw24_QuerySizes.f k a0_0 a0_1 a1_0 a1_1 a2 = some r) :
  Calls Try.prog 5 #[.agg #[.int .i64 a0_0, .int .i64 a0_1], .agg #[.int .i64 a1_0, .int .i64 a1_1], .int .u8 a2] w fun e w' => e = .returned (.bool r) ∧ Below w.heap.size w w' := by
  by_cases c_ : (wrap64 (a1_0 * a1_1)) > (wrap64 (a0_0 * a0_1))
  · exact greenscreenlaw24_QuerySizes.calls_p k a0_0 a0_1 a1_0 a1_1 a2 r hr_ ⟨c_⟩ w h
  · exact greenscreenlaw24_QuerySizes.calls_n k a0_0 a0_1 a1_0 a1_1 a2 r hr_ ⟨c_⟩ w h

end Go.Proofs.Ytpdihhfeekoplaa.P

