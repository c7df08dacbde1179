/- The chapter's example holds (group Ctrl). -/
import Derived.Test.YtkioalfallhegaaPCtrlx0
import Derived.Test.YtkioalfallhegaaPCtrlx6
set_option linter.unusedVariables false
namespace Go.Proofs.Ytkioalfallhegaa.LemAwakeCtrl
open Go.RowKit Go.Proofs.Ytkioalfallhegaa.PCtrl Go.Proofs.YtkioalfallhegaaW.PrintWords Go.Proofs.YtkioalfallhegaaW.PrintLast Go.Proofs.YtkioalfallhegaaW.PrintMore
theorem awake_20 : busbarlaw23_awake.f 20 = some true := by decide +kernel
theorem awake_ev {k : Nat} (h : 20 ≤ k) : busbarlaw23_awake.f k = some true := at_rounds busbarlaw23_awake.mono h awake_20
end Go.Proofs.Ytkioalfallhegaa.LemAwakeCtrl
