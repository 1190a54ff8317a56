-- Laid by program out of the translation, some functions' texts by hand (a session's own run, not print.sh's). Lean checks it.
import Derived.Test.YtddccpgbjlejhaaProg
import Derived.Below
import Derived.Deep.Draws
import Derived.Deep.AppendLies
import Derived.Maps.AppendAt
import Derived.OwnWalk
import Derived.Laws.BytesArg
import Derived.Laws.MakeOwn
import Derived.Laws.OwnMore
import Derived.Deep.OwnRows
import Derived.Tactics
import Derived.Lib.ConvBytes
import Derived.Laws.Slices
import Derived.WalkKit
import Derived.KernelRfl
import Derived.RowKit3
import Derived.Deep.LoopGhost
import Derived.Deep.QuietTactic
import Derived.BigQuiet
import Derived.WideLaws
import Derived.Deep.DeepCutAuto
import Derived.Deep.CutBlock
import Derived.Deep.RegionHeld3
import Derived.Laws.Rows
import Derived.Lib.AppendStr
import Derived.ArgAppend
import Derived.Laws.IdiomCopy
import Derived.OrdersHeld
import Derived.Laws.BitsLemmas
import Derived.RowKit
import Derived.Test.YtddccpgbjlejhaaWWords
import Derived.Test.YtddccpgbjlejhaaWLast
import Derived.Test.YtddccpgbjlejhaaWTab
import Derived.Test.YtddccpgbjlejhaaWFour
import Derived.Test.YtddccpgbjlejhaaWQPut
import Derived.Test.YtddccpgbjlejhaaWApart
import Derived.Test.YtddccpgbjlejhaaWArr
import Derived.Test.YtddccpgbjlejhaaWZeros
import Derived.Test.YtddccpgbjlejhaaWFoot
import Derived.Test.YtddccpgbjlejhaaWKept
import Derived.Test.YtddccpgbjlejhaaWShare
import Derived.Test.YtddccpgbjlejhaaWN
import Derived.Test.YtddccpgbjlejhaaWFootNe
import Derived.Test.YtddccpgbjlejhaaWAt
import Derived.Test.YtddccpgbjlejhaaWEqStruct
import Derived.Test.YtddccpgbjlejhaaWRepsOne
import Derived.Test.YtddccpgbjlejhaaWInv
import Derived.Test.YtddccpgbjlejhaaWInvWords
import Derived.Test.YtddccpgbjlejhaaWGuard
import Derived.Test.YtddccpgbjlejhaaWNEv
import Derived.Test.YtddccpgbjlejhaaWMore
namespace Go.Proofs.Ytddccpgbjlejhaa.A
open Go.RowKit Go.Proofs.YtddccpgbjlejhaaW.PrintWords Go.Proofs.YtddccpgbjlejhaaW.PrintLast Go.Proofs.YtddccpgbjlejhaaW.PrintMore
attribute [local go_sem] max2_int min2_int max_two min_two max_three min_three max_four min_four   -- for this text's walks alone
set_option linter.unusedVariables false
set_option linter.unusedSimpArgs false



def errW : Option Int → Value
  | none => .nilIface
  | some c => .iface 0 (.int .i64 c)
theorem errW_none : errW none = .nilIface := rfl
theorem errW_some (c : Int) : errW (some c) = .iface 0 (.int .i64 c) := rfl

-- the values' own types

end Go.Proofs.Ytddccpgbjlejhaa.A
