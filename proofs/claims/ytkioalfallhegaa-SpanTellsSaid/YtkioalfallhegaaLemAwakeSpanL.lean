/- The chapter's example holds (group SpanL). -/
import Derived.Test.YtkioalfallhegaaPSpanLx0
import Derived.Test.YtkioalfallhegaaPSpanLx6
set_option linter.unusedVariables false
namespace Go.Proofs.Ytkioalfallhegaa.LemAwakeSpanL
open Go.RowKit Go.Proofs.Ytkioalfallhegaa.PSpanL Go.Proofs.YtkioalfallhegaaW.PrintWords Go.Proofs.YtkioalfallhegaaW.PrintLast Go.Proofs.YtkioalfallhegaaW.PrintMore
theorem awake_20 : busbarlaw12_awake.f 20 = some true := by decide +kernel
theorem awake_ev {k : Nat} (h : 20 ≤ k) : busbarlaw12_awake.f k = some true := at_rounds busbarlaw12_awake.mono h awake_20
end Go.Proofs.Ytkioalfallhegaa.LemAwakeSpanL
