/- The chapter's example holds (group WordL). -/
import Derived.Test.YtkfdombneaikfaaPWordLx0
import Derived.Test.YtkfdombneaikfaaPWordLx2
set_option linter.unusedVariables false
namespace Go.Proofs.Ytkfdombneaikfaa.LemAwakeWordL
open Go.RowKit Go.Proofs.Ytkfdombneaikfaa.PWordL Go.Proofs.YtkfdombneaikfaaW.PrintWords Go.Proofs.YtkfdombneaikfaaW.PrintLast Go.Proofs.YtkfdombneaikfaaW.PrintMore
theorem awake_20 : busbarlaw1_awake.f 20 = some true := by decide +kernel
theorem awake_ev {k : Nat} (h : 20 ≤ k) : busbarlaw1_awake.f k = some true := at_rounds busbarlaw1_awake.mono h awake_20
end Go.Proofs.Ytkfdombneaikfaa.LemAwakeWordL
