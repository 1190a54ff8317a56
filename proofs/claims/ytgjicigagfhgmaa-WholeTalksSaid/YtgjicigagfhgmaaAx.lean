-- Laid by program out of the translation, some functions' texts by hand (a session's own run, not print.sh's). Lean checks it.
import Derived.Test.YtgjicigagfhgmaaAx0
import Derived.Test.YtgjicigagfhgmaaAx1
namespace Go.Proofs.Ytgjicigagfhgmaa.A
open Go.RowKit Go.Proofs.YtgjicigagfhgmaaW.PrintWords Go.Proofs.YtgjicigagfhgmaaW.PrintLast Go.Proofs.YtgjicigagfhgmaaW.PrintMore
attribute [local go_sem] max2_int min2_int max_two min_two max_three min_three max_four min_four   -- for this text's walks alone
set_option linter.unusedVariables false
set_option linter.unusedSimpArgs false

end Go.Proofs.Ytgjicigagfhgmaa.A
