/- What Digit answers (group Ctrl). -/
import Derived.Test.YtkioalfallhegaaPCtrlx0
import Derived.Test.YtkioalfallhegaaPCtrlx10
import Derived.Test.YtkioalfallhegaaLemWithinCtrl
set_option linter.unusedVariables false
namespace Go.Proofs.Ytkioalfallhegaa.LemDigitCtrl
open Go.RowKit Go.Proofs.Ytkioalfallhegaa.PCtrl Go.Proofs.YtkioalfallhegaaW.PrintWords Go.Proofs.YtkioalfallhegaaW.PrintLast Go.Proofs.YtkioalfallhegaaW.PrintMore Go.Proofs.Ytkioalfallhegaa.Num Go.Proofs.Ytkioalfallhegaa.LemWithinCtrl

theorem digit_eq (n d m : Int) (hn : -9223372036854775808 ≤ n ∧ n < 9223372036854775808) (hd : 2 ≤ d) (hm : 0 < m) (hm2 : m < 4611686018427387904) : busbarlaw0_Digit.f n d m = some (Int.tdiv n d % m) := by
  unfold busbarlaw0_Digit.f
  have h : -9223372036854775808 ≤ Int.tdiv n d ∧ Int.tdiv n d < 9223372036854775808 := by
    have h3 : (Int.natAbs (Int.tdiv n d)) ≤ Int.natAbs n / 2 := by rw [Int.natAbs_tdiv]; exact Nat.div_le_div_left (by omega) (by omega)
    omega
  rw [if_neg (by omega), wrap64_id h.1 h.2, within_eq _ m hm hm2]
  rfl
end Go.Proofs.Ytkioalfallhegaa.LemDigitCtrl
