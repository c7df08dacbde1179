-- written by a program of this session (wip/pp) over the kit's print.py; Lean checks it
import Derived.Test.YtkfdombneaikfaaPWordx0
import Derived.Test.YtkfdombneaikfaaPWordx1
import Derived.Test.YtkfdombneaikfaaPWordx2
import Derived.Test.YtkfdombneaikfaaPWordx3
import Derived.Test.YtkfdombneaikfaaPWordx4
namespace Go.Proofs.Ytkfdombneaikfaa.PWord
open Go.RowKit Go.Proofs.YtkfdombneaikfaaW.PrintWords Go.Proofs.YtkfdombneaikfaaW.PrintLast Go.Proofs.YtkfdombneaikfaaW.PrintMore
attribute [local go_sem] max2_int min2_int max_two min_two max_three min_three max_four min_four   -- for this text's walks alone
set_option linter.unusedVariables false
set_option linter.unusedSimpArgs false

end Go.Proofs.Ytkfdombneaikfaa.PWord
