/- The eight registers of the control window are Control, one by one and together; those beside it are not, nor are those of other tables: for all numbers. -/
import Derived.Test.YtgmoecbecllpiaaPPlanx0
import Derived.Test.YtgmoecbecllpiaaPPlanx19
import Derived.Test.YtgmoecbecllpiaaLemAwakePlan
import Derived.Test.YtgmoecbecllpiaaLemPlanPlan
set_option linter.unusedVariables false
namespace Go.Proofs.Ytgmoecbecllpiaa.Pure
open Go.RowKit Go.Proofs.Ytgmoecbecllpiaa.PPlan Go.Proofs.YtgmoecbecllpiaaW.PrintWords Go.Proofs.YtgmoecbecllpiaaW.PrintLast Go.Proofs.YtgmoecbecllpiaaW.PrintMore Go.Proofs.Ytgmoecbecllpiaa.Num Go.Proofs.Ytgmoecbecllpiaa.LemAwakePlan Go.Proofs.Ytgmoecbecllpiaa.LemSpanPlan Go.Proofs.Ytgmoecbecllpiaa.LemWithinPlan Go.Proofs.Ytgmoecbecllpiaa.LemSpanFnPlan Go.Proofs.Ytgmoecbecllpiaa.LemSpanFmPlan Go.Proofs.Ytgmoecbecllpiaa.LemSpanFoPlan Go.Proofs.Ytgmoecbecllpiaa.LemSpanFpPlan Go.Proofs.Ytgmoecbecllpiaa.LemPlanPlan

theorem wh_map (w a b c : Int) : wh [⟨2, 0, w⟩, ⟨2, w + 8, 65536⟩] w ⟨a, b, c⟩ =
    if 0 ≤ a ∧ a < 4 ∧ 0 ≤ b ∧ c ≤ 65536 ∧ b < c then (if 2 = a ∧ w ≤ b ∧ c ≤ w + 8 then 2 else if (2 = a ∧ 0 ≤ b ∧ c ≤ w) ∨ (2 = a ∧ w + 8 ≤ b ∧ c ≤ 65536) then 1 else 0) else 0 := by
  unfold wh
  have e1 : Rt ⟨a, b, c⟩ ↔ 0 ≤ a ∧ a < 4 ∧ 0 ≤ b ∧ c ≤ 65536 ∧ b < c := Iff.rfl
  have e2 : Cov (ctl w) ⟨a, b, c⟩ ↔ 2 = a ∧ w ≤ b ∧ c ≤ w + 8 := Iff.rfl
  have e3 : Covers [⟨2, 0, w⟩, ⟨2, w + 8, 65536⟩] (⟨a, b, c⟩ : S) ↔ (2 = a ∧ 0 ≤ b ∧ c ≤ w) ∨ (2 = a ∧ w + 8 ≤ b ∧ c ≤ 65536) := by simp [Covers]
  by_cases h1 : Rt ⟨a, b, c⟩
  · rw [if_pos h1, if_pos (e1.1 h1)]
    by_cases h2 : Cov (ctl w) ⟨a, b, c⟩
    · rw [if_pos h2, if_pos (e2.1 h2)]
    · rw [if_neg h2, if_neg (fun h => h2 (e2.2 h))]
      by_cases h3 : Covers [⟨2, 0, w⟩, ⟨2, w + 8, 65536⟩] (⟨a, b, c⟩ : S)
      · rw [if_pos h3, if_pos (e3.1 h3)]
      · rw [if_neg h3, if_neg (fun h => h3 (e3.2 h))]
  · rw [if_neg h1, if_neg (fun h => h1 (e1.2 h))]
theorem window (w fr n t : Int) (hw : 1 ≤ w ∧ w ≤ 65000) (hf : 0 ≤ fr ∧ fr < 8) (hn : 1 ≤ n ∧ fr + n ≤ 8) (ht : 0 ≤ t ∧ t < 4) (k : Nat) (hk : 20 ≤ k) :
    busbarlaw13_PlanWindow.j0 k w (if t = 2 then 2 else 0) t (w + fr) (w + fr + n) 2 (w - 1) (w + fr + 1) 2 (w + fr) (w + 9) = some true := by
  obtain ⟨k, rfl⟩ : ∃ m, k = m + 1 := ⟨k - 1, by omega⟩
  have hc : Cn [(⟨2, 0, w⟩ : S), ⟨2, w + 8, 65536⟩] := ⟨by unfold Rt; dsimp only; omega, fun y hy => by
    rw [List.mem_singleton] at hy; subst hy; exact .inr ⟨rfl, by dsimp only; omega⟩, by unfold Rt; dsimp only; omega, by simp, trivial⟩
  have hm : ¬ Meets [(⟨2, 0, w⟩ : S), ⟨2, w + 8, 65536⟩] (ctl w) := by
    rintro ⟨x, hx, h⟩
    simp only [List.mem_cons, List.not_mem_nil, or_false] at hx
    rcases hx with rfl | rfl <;> (unfold ctl at h; dsimp only at h; omega)
  rw [busbarlaw13_PlanWindow.j0, Option.bind_some, wrap64_id (x := w + 8) (by omega) (by omega), check_eq _ w hc (by omega) (by omega) (by simp) (by simp; omega), Option.bind_some, if_neg hm, if_pos rfl]
  rw [where_eq _ w t (w + fr) (w + fr + n) (by omega) (by omega) (by simp) (by simp; omega), Option.bind_some, wh_map]
  have e : (if 0 ≤ t ∧ t < 4 ∧ 0 ≤ w + fr ∧ w + fr + n ≤ 65536 ∧ w + fr < w + fr + n then (if 2 = t ∧ w ≤ w + fr ∧ w + fr + n ≤ w + 8 then (2 : Int) else if (2 = t ∧ 0 ≤ w + fr ∧ w + fr + n ≤ w) ∨ (2 = t ∧ w + 8 ≤ w + fr ∧ w + fr + n ≤ 65536) then 1 else 0) else 0) = if t = 2 then 2 else 0 := by
    rw [if_pos (by omega)]
    by_cases h : t = 2
    · rw [if_pos h, if_pos (by omega)]
    · rw [if_neg h, if_neg (by omega), if_neg (by omega)]
  have v1 : wh [⟨2, 0, w⟩, ⟨2, w + 8, 65536⟩] w ⟨2, w - 1, w + fr + 1⟩ = 0 := by
    rw [wh_map]; (repeat' split) <;> omega
  have v2 : wh [⟨2, 0, w⟩, ⟨2, w + 8, 65536⟩] w ⟨2, w + fr, w + 9⟩ = 0 := by
    rw [wh_map]; (repeat' split) <;> omega
  have v3 : wh [⟨2, 0, w⟩, ⟨2, w + 8, 65536⟩] w ⟨2, w - 1, w⟩ = 1 := by
    rw [wh_map]; (repeat' split) <;> omega
  have v4 : wh [⟨2, 0, w⟩, ⟨2, w + 8, 65536⟩] w ⟨2, w + 8, w + 9⟩ = 1 := by
    rw [wh_map]; (repeat' split) <;> omega
  rw [e, if_pos rfl, where_eq _ w 2 (w - 1) (w + fr + 1) (by omega) (by omega) (by simp) (by simp; omega), Option.bind_some, v1, if_pos rfl]
  rw [where_eq _ w 2 (w + fr) (w + 9) (by omega) (by omega) (by simp) (by simp; omega), Option.bind_some, v2, if_pos rfl]
  rw [wrap64_id (x := w - 1) (by omega) (by omega), where_eq _ w 2 (w - 1) w (by omega) (by omega) (by simp) (by simp; omega), Option.bind_some, v3, if_pos rfl]
  rw [wrap64_id (x := w + 9) (by omega) (by omega), where_eq _ w 2 (w + 8) (w + 9) (by omega) (by omega) (by simp) (by simp; omega), Option.bind_some, v4]
  rfl
theorem PlanWindow : busbarlaw13_PlanWindow.Pure := by
  intro a b c d _ _ _ _
  refine ⟨60, ?_⟩
  have a1 := Int.emod_nonneg a (show (65000 : Int) ≠ 0 by omega)
  have a2 := Int.emod_lt_of_pos a (show (0 : Int) < 65000 by omega)
  have b1 := Int.emod_nonneg b (show (8 : Int) ≠ 0 by omega)
  have b2 := Int.emod_lt_of_pos b (show (0 : Int) < 8 by omega)
  have d1 := Int.emod_nonneg d (show (4 : Int) ≠ 0 by omega)
  have d2 := Int.emod_lt_of_pos d (show (0 : Int) < 4 by omega)
  have c1 := Int.emod_nonneg c (show (8 - b % 8 : Int) ≠ 0 by omega)
  have c2 := Int.emod_lt_of_pos c (show (0 : Int) < 8 - b % 8 by omega)
  unfold busbarlaw13_PlanWindow.f
  rw [awake_ev (by omega), Option.bind_some, if_pos rfl, within_eq a 65000 (by omega) (by omega), Option.bind_some, within_eq b 8 (by omega) (by omega), Option.bind_some, within_eq d 4 (by omega) (by omega), Option.bind_some, wrap64_id (x := 8 - b % 8) (by omega) (by omega), within_eq c (8 - b % 8) (by omega) (by omega), Option.bind_some]
  obtain ⟨w, hw⟩ : ∃ w, w = 1 + a % 65000 := ⟨_, rfl⟩
  obtain ⟨fr, hf⟩ : ∃ f, f = b % 8 := ⟨_, rfl⟩
  obtain ⟨n, hn⟩ : ∃ n, n = 1 + c % (8 - b % 8) := ⟨_, rfl⟩
  obtain ⟨t, ht⟩ : ∃ t, t = d % 4 := ⟨_, rfl⟩
  have h := window w fr n t (by omega) (by omega) (by omega) (by omega) 60 (by omega)
  rw [wrap64_id (x := 1 + a % 65000) (by omega) (by omega), wrap64_id (x := 1 + c % (8 - b % 8)) (by omega) (by omega), ← hw, ← hn, ← hf, ← ht, wrap64_id (x := w + fr) (by omega) (by omega), wrap64_id (x := w + fr + n) (by omega) (by omega), wrap64_id (x := w - 1) (by omega) (by omega), wrap64_id (x := w + fr + 1) (by omega) (by omega), wrap64_id (x := w + 9) (by omega) (by omega)]
  by_cases h2 : t = 2
  · rw [if_pos h2]; rw [if_pos h2] at h; exact h
  · rw [if_neg h2]; rw [if_neg h2] at h; exact h
end Go.Proofs.Ytgmoecbecllpiaa.Pure
