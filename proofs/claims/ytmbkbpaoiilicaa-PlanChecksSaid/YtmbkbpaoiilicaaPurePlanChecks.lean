/- Any map and window may be or not, as the document says; so do maps by numbers with any window: for all spans, numbers and windows. -/
import Derived.Test.YtmbkbpaoiilicaaSayPlanChecks
import Derived.Test.YtmbkbpaoiilicaaLemPlanAll
import Derived.Test.YtmbkbpaoiilicaaPPlanLx0
import Derived.Test.YtmbkbpaoiilicaaPPlanLx18
namespace Go.Proofs.Ytmbkbpaoiilicaa.Pure
open Go.RowKit Go.Proofs.Ytmbkbpaoiilicaa.PPlanL Go.Proofs.YtmbkbpaoiilicaaW.PrintWords Go.Proofs.YtmbkbpaoiilicaaW.PrintLast Go.Proofs.Ytmbkbpaoiilicaa.Num Go.Proofs.Ytmbkbpaoiilicaa.LemSpanPlanL Go.Proofs.Ytmbkbpaoiilicaa.LemSpanFnPlanL Go.Proofs.Ytmbkbpaoiilicaa.LemSpanFmPlanL Go.Proofs.Ytmbkbpaoiilicaa.LemSpanFoPlanL Go.Proofs.Ytmbkbpaoiilicaa.LemCheckPlanL Go.Proofs.Ytmbkbpaoiilicaa.LemLentSPlanL Go.Proofs.Ytmbkbpaoiilicaa.LemWithinPlanL

theorem checks_j1 (l : List S) (hl : l.length ≤ 40) (ks : List Int) (hks : ∀ x ∈ ks, -9223372036854775808 ≤ x ∧ x < 9223372036854775808) (hm : ks.length ≤ 9223372036854775807) (w : Int) (k : Nat) (hk : 200 ≤ k) :
    busbarlaw13_PlanChecks.j1 (k + 1) l ks w = some true := by
  have hs := spans_len ks
  rw [busbarlaw13_PlanChecks.j1, lent_eq l (by omega) (by omega), Option.bind_some, spans_eq ks hks hm (by omega), Option.bind_some, check_any l w (by omega) (by omega), Option.bind_some, refplan_any l w (by omega) (by omega), Option.bind_some, if_pos rfl,
    check_any _ w (by omega) (by omega), Option.bind_some, refplan_any _ w (by omega) (by omega), Option.bind_some, if_pos rfl, stays_eq l (by omega) (by omega)]
  rfl
theorem PlanChecks : busbarlaw13_PlanChecks.Pure := by
  intro l ks w near _ hk hw
  have hks : ∀ x ∈ ks, -9223372036854775808 ≤ x ∧ x < 9223372036854775808 := fun x hx => wf_i64 (hk.2 x hx)
  have hm : ks.length ≤ 9223372036854775807 := by have := hk.1; unfold maxLen at this; omega
  have hw := wf_i64 hw
  refine ⟨1000, ?_⟩
  unfold busbarlaw13_PlanChecks.f
  by_cases h : (l.length : Int) > 40
  · rw [if_pos h, busbarlaw13_PlanChecks.j0, if_pos rfl, LemAwakePlanL.awake_ev (by omega)]
    rfl
  · rw [if_neg h, LemAwakePlanL.awake_ev (by omega), Option.bind_some, busbarlaw13_PlanChecks.j0, if_neg (by decide)]
    cases near
    · rw [if_neg (by decide)]
      exact checks_j1 l (by omega) ks hks hm w 998 (by omega)
    · have d1 := Int.emod_nonneg (Int.tdiv w 60) (show (4 : Int) ≠ 0 by omega)
      have d2 := Int.emod_lt_of_pos (Int.tdiv w 60) (show (0 : Int) < 4 by omega)
      rw [if_pos rfl, within_eq w 60 (by omega) (by omega), Option.bind_some, Option.bind_some, within_eq w 9 (by omega) (by omega), Option.bind_some, Option.bind_some, digit_eq w 60 4 hw (by omega) (by omega) (by omega), Option.bind_some, if_pos d1, if_pos d2]
      exact checks_j1 l (by omega) ks hks hm _ 998 (by omega)
end Go.Proofs.Ytmbkbpaoiilicaa.Pure
