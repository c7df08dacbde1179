/- Where a span is: the program and the document say the same: for all numbers and all spans. -/
import Derived.Test.YtgmoecbecllpiaaPPlanx0
import Derived.Test.YtgmoecbecllpiaaPPlanx13
import Derived.Test.YtgmoecbecllpiaaPPlanx16
import Derived.Test.YtgmoecbecllpiaaPPlanx17
import Derived.Test.YtgmoecbecllpiaaPPlanx18
import Derived.Test.YtgmoecbecllpiaaLemPlanAll
set_option linter.unusedVariables false
namespace Go.Proofs.Ytgmoecbecllpiaa.Pure
open Go.RowKit Go.Proofs.Ytgmoecbecllpiaa.PPlan Go.Proofs.YtgmoecbecllpiaaW.PrintWords Go.Proofs.YtgmoecbecllpiaaW.PrintLast Go.Proofs.YtgmoecbecllpiaaW.PrintMore Go.Proofs.Ytgmoecbecllpiaa.Num Go.Proofs.Ytgmoecbecllpiaa.LemAwakePlan Go.Proofs.Ytgmoecbecllpiaa.LemSpanPlan Go.Proofs.Ytgmoecbecllpiaa.LemWithinPlan Go.Proofs.Ytgmoecbecllpiaa.LemSpanFnPlan Go.Proofs.Ytgmoecbecllpiaa.LemSpanFmPlan Go.Proofs.Ytgmoecbecllpiaa.LemSpanFoPlan Go.Proofs.Ytgmoecbecllpiaa.LemSpanFpPlan Go.Proofs.Ytgmoecbecllpiaa.LemPlanPlan Go.Proofs.Ytgmoecbecllpiaa.LemSpanFqPlan

theorem refright_eq (s : S) : busbarref12_Right.f s.f0 s.f1 s.f2 = some (decide (Rt s)) := by
  unfold busbarref12_Right.f
  by_cases h : Rt s
  · have h' := h
    unfold Rt at h'
    rw [if_pos (by omega), if_pos (by omega), if_pos (by omega), if_pos (by omega), decide_eq_true h, decide_eq_true h'.2.2.2.2]
  · rw [decide_eq_false h]
    by_cases h1 : s.f0 ≥ 0
    · rw [if_pos h1]
      by_cases h2 : s.f0 ≤ 3
      · rw [if_pos h2]
        by_cases h3 : s.f1 ≥ 0
        · rw [if_pos h3]
          by_cases h4 : s.f2 ≤ 65536
          · rw [if_pos h4, decide_eq_false (fun h5 => h ⟨by omega, by omega, by omega, h4, h5⟩)]
          · rw [if_neg h4]
        · rw [if_neg h3]
      · rw [if_neg h2]
    · rw [if_neg h1]
theorem refwhere_eq (m : List S) (w a b c : Int) (h0 : 0 ≤ w) (h1 : w ≤ 65600) (hl : m.length ≤ 100000) {k : Nat} (hk : m.length + 1 < k) : busbarref12_Where.f k m w a b c = some (wh m w ⟨a, b, c⟩) := by
  unfold busbarref12_Where.f wh
  have er : busbarref12_Right.f a b c = some (decide (Rt ⟨a, b, c⟩)) := refright_eq ⟨a, b, c⟩
  rw [er, Option.bind_some]
  by_cases hr : Rt ⟨a, b, c⟩
  · rw [decide_eq_true hr, if_pos rfl, if_pos hr]
    unfold busbarref12_control.f
    rw [Option.bind_some, wrap64_id (by omega) (by omega)]
    have e := refcovers_eq [ctl w] ⟨a, b, c⟩ (by simp) (k := k) (by simp; omega)
    have e2 := refcovers_eq m ⟨a, b, c⟩ hl (k := k) (by omega)
    refine (congrArg (fun z => Option.bind z _) e).trans ?_
    rw [Option.bind_some]
    by_cases hc : Cov (ctl w) ⟨a, b, c⟩
    · rw [decide_eq_true ((covers_one _ _).2 hc), if_pos rfl, if_pos hc]
    · rw [decide_eq_false (fun h => hc ((covers_one _ _).1 h)), if_neg (by decide), if_neg hc]
      refine (congrArg (fun z => Option.bind z _) e2).trans ?_
      rw [Option.bind_some]
      by_cases hm : Covers m ⟨a, b, c⟩
      · rw [decide_eq_true hm, if_pos rfl, if_pos hm]
      · rw [decide_eq_false hm, if_neg (by decide), if_neg hm]
  · rw [decide_eq_false hr, if_neg (by decide), if_neg hr]
theorem PlanWhere : busbarlaw13_PlanWhere.Pure := by
  intro ks n a b c q hm _ hk hn _ _ _ hq
  have hks : ∀ x ∈ ks, -9223372036854775808 ≤ x ∧ x < 9223372036854775808 := fun x hx => wf_i64 (hk x hx)
  refine ⟨500, ?_⟩
  have hc := spans_can ks
  have hl := spans_len ks
  have n1 := Int.emod_nonneg n (show (65000 : Int) ≠ 0 by omega)
  have n2 := Int.emod_lt_of_pos n (show (0 : Int) < 65000 by omega)
  have q1 := Int.emod_nonneg q (show (11 : Int) ≠ 0 by omega)
  have q2 := Int.emod_lt_of_pos q (show (0 : Int) < 11 by omega)
  unfold busbarlaw13_PlanWhere.f
  rw [awake_ev (by omega), Option.bind_some, if_pos rfl, spans_eq ks hks (by unfold maxLen at hm; omega) (by omega), Option.bind_some, within_eq n 65000 (by omega) (by omega), Option.bind_some]
  obtain ⟨w, hw⟩ : ∃ w, w = 100 + n % 65000 := ⟨_, rfl⟩
  rw [wrap64_id (x := 100 + n % 65000) (by omega) (by omega), ← hw, wrap64_id (x := w + 8) (by omega) (by omega)]
  have hwr : Rt (ctl w) := ctl_rt w (by omega) (by omega)
  have hcc := cut_can (spansOf ks) (ctl w) hc hwr
  have hcl := cut_length (spansOf ks) (ctl w)
  have hcut : busbarref12_Cut.f 500 (spansOf ks) 2 w (w + 8) = some (cut (spansOf ks) (ctl w)) := refcut_eq (spansOf ks) (ctl w) hc hwr (by omega) (by omega)
  have hnm : ¬ Meets (cut (spansOf ks) (ctl w)) (ctl w) := fun h => by
    obtain ⟨t, p, h1, h2⟩ := (meets_iff hcc hwr).1 h
    exact ((cut_has t p _ _ hc hwr).1 h2).2 h1
  rw [hcut, Option.bind_some, check_eq _ w hcc (by omega) (by omega) (by omega) (by omega), Option.bind_some, if_neg hnm, if_pos rfl]
  generalize cut (spansOf ks) (ctl w) = m at *
  rw [where_eq m w a b c (by omega) (by omega) (by omega) (by omega), Option.bind_some, refwhere_eq m w a b c (by omega) (by omega) (by omega) (by omega), Option.bind_some, bne_self_eq_false]
  rw [busbarlaw13_PlanWhere.j0, if_neg (by decide), span_eq q (wf_i64 hq), Option.bind_some, within_eq q 11 (by omega) (by omega), Option.bind_some, digit_eq q 11 9 (wf_i64 hq) (by omega) (by omega) (by omega), Option.bind_some]
  dsimp only
  rw [where_eq m w _ _ _ (by omega) (by omega) (by omega) (by omega), Option.bind_some, refwhere_eq m w _ _ _ (by omega) (by omega) (by omega) (by omega), Option.bind_some, if_pos rfl]
  rw [where_eq m w _ _ _ (by omega) (by omega) (by omega) (by omega), Option.bind_some, refwhere_eq m w _ _ _ (by omega) (by omega) (by omega) (by omega), Option.bind_some, beq_self_eq_true]
end Go.Proofs.Ytgmoecbecllpiaa.Pure
