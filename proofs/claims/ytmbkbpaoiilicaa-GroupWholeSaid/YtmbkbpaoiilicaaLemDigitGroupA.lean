/- What Digit answers (group GroupA). -/
import Derived.Test.YtmbkbpaoiilicaaPGroupAx0
import Derived.Test.YtmbkbpaoiilicaaPGroupAx15
import Derived.Test.YtmbkbpaoiilicaaLemWithinGroupA
set_option linter.unusedVariables false
namespace Go.Proofs.Ytmbkbpaoiilicaa.LemDigitGroupA
open Go.RowKit Go.Proofs.Ytmbkbpaoiilicaa.PGroupA Go.Proofs.YtmbkbpaoiilicaaW.PrintWords Go.Proofs.YtmbkbpaoiilicaaW.PrintLast Go.Proofs.YtmbkbpaoiilicaaW.PrintMore Go.Proofs.Ytmbkbpaoiilicaa.Num Go.Proofs.Ytmbkbpaoiilicaa.LemWithinGroupA

theorem digit_eq (n d m : Int) (hn : -9223372036854775808 ≤ n ∧ n < 9223372036854775808) (hd : 2 ≤ d) (hm : 0 < m) (hm2 : m < 4611686018427387904) : busbarlaw0_Digit.f n d m = some (Int.tdiv n d % m) := by
  unfold busbarlaw0_Digit.f
  have h : -9223372036854775808 ≤ Int.tdiv n d ∧ Int.tdiv n d < 9223372036854775808 := by
    have h3 : (Int.natAbs (Int.tdiv n d)) ≤ Int.natAbs n / 2 := by rw [Int.natAbs_tdiv]; exact Nat.div_le_div_left (by omega) (by omega)
    omega
  rw [if_neg (by omega), wrap64_id h.1 h.2, within_eq _ m hm hm2]
  rfl
end Go.Proofs.Ytmbkbpaoiilicaa.LemDigitGroupA
