-- Laid by program out of the translation, some functions' texts by hand (a session's own run, not print.sh's). Lean checks it.
import Derived.Test.YtccmelpnmjdclaaAx0
import Derived.Test.YtccmelpnmjdclaaAx1
import Derived.Test.YtccmelpnmjdclaaAx2
namespace Go.Proofs.Ytccmelpnmjdclaa.A
open Go.RowKit Go.Proofs.YtccmelpnmjdclaaW.PrintWords Go.Proofs.YtccmelpnmjdclaaW.PrintLast Go.Proofs.YtccmelpnmjdclaaW.PrintMore
attribute [local go_sem] max2_int min2_int max_two min_two max_three min_three max_four min_four   -- for this text's walks alone
set_option linter.unusedVariables false
set_option linter.unusedSimpArgs false

end Go.Proofs.Ytccmelpnmjdclaa.A
