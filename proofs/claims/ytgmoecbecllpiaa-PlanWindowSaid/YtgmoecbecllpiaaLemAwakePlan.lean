/- The chapter's example holds (group Plan). -/
import Derived.Test.YtgmoecbecllpiaaPPlanx0
import Derived.Test.YtgmoecbecllpiaaPPlanx11
set_option linter.unusedVariables false
namespace Go.Proofs.Ytgmoecbecllpiaa.LemAwakePlan
open Go.RowKit Go.Proofs.Ytgmoecbecllpiaa.PPlan Go.Proofs.YtgmoecbecllpiaaW.PrintWords Go.Proofs.YtgmoecbecllpiaaW.PrintLast Go.Proofs.YtgmoecbecllpiaaW.PrintMore
theorem awake_20 : busbarlaw13_awake.f 20 = some true := by decide +kernel
theorem awake_ev {k : Nat} (h : 20 ≤ k) : busbarlaw13_awake.f k = some true := at_rounds busbarlaw13_awake.mono h awake_20
end Go.Proofs.Ytgmoecbecllpiaa.LemAwakePlan
