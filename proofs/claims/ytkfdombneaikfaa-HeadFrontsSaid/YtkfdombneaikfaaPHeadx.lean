-- written by a program of this session (wip/pp) over the kit's print.py; Lean checks it
import Derived.Test.YtkfdombneaikfaaPHeadx0
import Derived.Test.YtkfdombneaikfaaPHeadx1
import Derived.Test.YtkfdombneaikfaaPHeadx2
import Derived.Test.YtkfdombneaikfaaPHeadx3
import Derived.Test.YtkfdombneaikfaaPHeadx4
import Derived.Test.YtkfdombneaikfaaPHeadx5
namespace Go.Proofs.Ytkfdombneaikfaa.PHead
open Go.RowKit Go.Proofs.YtkfdombneaikfaaW.PrintWords Go.Proofs.YtkfdombneaikfaaW.PrintLast Go.Proofs.YtkfdombneaikfaaW.PrintMore
attribute [local go_sem] max2_int min2_int max_two min_two max_three min_three max_four min_four   -- for this text's walks alone
set_option linter.unusedVariables false
set_option linter.unusedSimpArgs false

end Go.Proofs.Ytkfdombneaikfaa.PHead
