/- The chapter's example holds (group GroupA). -/
import Derived.Test.YtmbkbpaoiilicaaPGroupAx0
import Derived.Test.YtmbkbpaoiilicaaPGroupAx13
set_option linter.unusedVariables false
namespace Go.Proofs.Ytmbkbpaoiilicaa.LemAwakeGroupA
open Go.RowKit Go.Proofs.Ytmbkbpaoiilicaa.PGroupA Go.Proofs.YtmbkbpaoiilicaaW.PrintWords Go.Proofs.YtmbkbpaoiilicaaW.PrintLast Go.Proofs.YtmbkbpaoiilicaaW.PrintMore
theorem awake_20 : busbarlaw14_awake.f 20 = some true := by decide +kernel
theorem awake_ev {k : Nat} (h : 20 ≤ k) : busbarlaw14_awake.f k = some true := at_rounds busbarlaw14_awake.mono h awake_20
end Go.Proofs.Ytmbkbpaoiilicaa.LemAwakeGroupA
