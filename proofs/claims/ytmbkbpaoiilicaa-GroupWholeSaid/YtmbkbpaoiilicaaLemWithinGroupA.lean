/- What Within answers: the remainder that is not below nought (group GroupA). -/
import Derived.Test.YtmbkbpaoiilicaaPGroupAx0
import Derived.Test.YtmbkbpaoiilicaaPGroupAx14
import Derived.Test.YtmbkbpaoiilicaaNum
set_option linter.unusedVariables false
namespace Go.Proofs.Ytmbkbpaoiilicaa.LemWithinGroupA
open Go.RowKit Go.Proofs.Ytmbkbpaoiilicaa.PGroupA Go.Proofs.YtmbkbpaoiilicaaW.PrintWords Go.Proofs.YtmbkbpaoiilicaaW.PrintLast Go.Proofs.YtmbkbpaoiilicaaW.PrintMore Go.Proofs.Ytmbkbpaoiilicaa.Num

theorem within_eq (x n : Int) (hn : 0 < n) (hn2 : n < 4611686018427387904) : busbarlaw0_Within.f x n = some (x % n) := by
  have h0 := Int.emod_nonneg x (show n ≠ 0 by omega)
  have h1 := Int.emod_lt_of_pos x hn
  have ht := Int.tmod_eq_emod (a := x) (b := n)
  have hna : (n.natAbs : Int) = n := by omega
  unfold busbarlaw0_Within.f
  rw [if_neg (by omega)]
  by_cases hc : 0 ≤ x ∨ n ∣ x
  · rw [if_pos hc] at ht
    rw [if_neg (by omega)]
    congr 1
    omega
  · rw [if_neg hc, hna] at ht
    have hne : x % n ≠ 0 := fun h => hc (.inr (Int.dvd_of_emod_eq_zero h))
    rw [if_pos (by omega), wrap64_id (by omega) (by omega)]
    congr 1
    omega
end Go.Proofs.Ytmbkbpaoiilicaa.LemWithinGroupA
