-- Laid by program out of the translation, some functions' texts by hand (a session's own run, not print.sh's). Lean checks it.
import Derived.Test.YtnifkdcjphekpaaAx0
import Derived.Test.YtnifkdcjphekpaaAx1
import Derived.Test.YtnifkdcjphekpaaAx2
import Derived.Test.YtnifkdcjphekpaaAx3
import Derived.Test.YtnifkdcjphekpaaAx4
import Derived.Test.YtnifkdcjphekpaaAx5
import Derived.Test.YtnifkdcjphekpaaAx6
import Derived.Test.YtnifkdcjphekpaaAx7
namespace Go.Proofs.Ytnifkdcjphekpaa.A
open Go.RowKit Go.Proofs.YtnifkdcjphekpaaW.PrintWords Go.Proofs.YtnifkdcjphekpaaW.PrintLast Go.Proofs.YtnifkdcjphekpaaW.PrintMore
attribute [local go_sem] max2_int min2_int max_two min_two max_three min_three max_four min_four   -- for this text's walks alone
set_option linter.unusedVariables false
set_option linter.unusedSimpArgs false

end Go.Proofs.Ytnifkdcjphekpaa.A
