/- Where a span is, and what is amiss with a map (group Plan). -/
import Derived.Test.YtgmoecbecllpiaaPPlanx0
import Derived.Test.YtgmoecbecllpiaaPPlanx10
import Derived.Test.YtgmoecbecllpiaaPPlanx17
import Derived.Test.YtgmoecbecllpiaaPPlanx7
import Derived.Test.YtgmoecbecllpiaaPPlanx8
import Derived.Test.YtgmoecbecllpiaaLemSpanFpPlan
set_option linter.unusedVariables false
set_option linter.unusedSimpArgs false
namespace Go.Proofs.Ytgmoecbecllpiaa.LemPlanPlan
open Go.RowKit Go.Proofs.Ytgmoecbecllpiaa.PPlan Go.Proofs.YtgmoecbecllpiaaW.PrintWords Go.Proofs.YtgmoecbecllpiaaW.PrintLast Go.Proofs.YtgmoecbecllpiaaW.PrintMore Go.Proofs.Ytgmoecbecllpiaa.Num Go.Proofs.Ytgmoecbecllpiaa.LemSpanPlan Go.Proofs.Ytgmoecbecllpiaa.LemWithinPlan Go.Proofs.Ytgmoecbecllpiaa.LemSpanFnPlan Go.Proofs.Ytgmoecbecllpiaa.LemSpanFmPlan Go.Proofs.Ytgmoecbecllpiaa.LemSpanFoPlan Go.Proofs.Ytgmoecbecllpiaa.LemSpanFpPlan

def ctl (w : Int) : S := ⟨2, w, w + 8⟩
def Cov (x s : S) : Prop := x.f0 = s.f0 ∧ x.f1 ≤ s.f1 ∧ s.f2 ≤ x.f2
instance (x s : S) : Decidable (Cov x s) := by unfold Cov; infer_instance
def wh (m : List S) (w : Int) (s : S) : Int := if Rt s then (if Cov (ctl w) s then 2 else if Covers m s then 1 else 0) else 0
theorem covers_one (x s : S) : Covers [x] s ↔ Cov x s := by simp [Covers, Cov]
theorem where_eq (m : List S) (w a b c : Int) (h0 : 0 ≤ w) (h1 : w ≤ 65600) (hl : m.length ≤ 100000) {k : Nat} (hk : m.length + 1 < k) : plan_Where.f k m w a b c = some (wh m w ⟨a, b, c⟩) := by
  unfold plan_Where.f wh
  rw [right3, Option.bind_some]
  by_cases hr : Rt ⟨a, b, c⟩
  · rw [decide_eq_true hr, if_pos rfl, if_pos hr]
    unfold plan_control.f
    rw [Option.bind_some, wrap64_id (by omega) (by omega)]
    have e := covers_eq [ctl w] ⟨a, b, c⟩ hr (by simp) (k := k) (by simp; omega)
    have e2 := covers_eq m ⟨a, b, c⟩ hr hl (k := k) (by omega)
    refine (congrArg (fun z => Option.bind z _) e).trans ?_
    rw [Option.bind_some]
    by_cases hc : Cov (ctl w) ⟨a, b, c⟩
    · rw [decide_eq_true ((covers_one _ _).2 hc), if_pos rfl, if_pos hc]
    · rw [decide_eq_false (fun h => hc ((covers_one _ _).1 h)), if_neg (by decide), if_neg hc]
      refine (congrArg (fun z => Option.bind z _) e2).trans ?_
      rw [Option.bind_some]
      by_cases hm : Covers m ⟨a, b, c⟩
      · rw [decide_eq_true hm, if_pos rfl, if_pos hm]
      · rw [decide_eq_false hm, if_neg (by decide), if_neg hm]
  · rw [decide_eq_false hr, if_neg (by decide), if_neg hr]
theorem ctl_rt (w : Int) (h0 : 0 ≤ w) (h1 : w ≤ 65528) : Rt (ctl w) := by unfold Rt ctl; dsimp only; omega
theorem check_eq (m : List S) (w : Int) (hc : Cn m) (h0 : 0 ≤ w) (h1 : w ≤ 65528) (hl : m.length ≤ 100000) {k : Nat} (hk : m.length + 2 < k) : plan_Check.f k m w = some (if Meets m (ctl w) then 6 else 0) := by
  obtain ⟨k, rfl⟩ : ∃ j, k = j + 1 := ⟨k - 1, by omega⟩
  unfold plan_Check.f
  rw [if_neg (by omega), decide_eq_false (by omega), plan_Check.j0, if_neg (by decide), canon_true m hc hl (by omega), Option.bind_some, if_pos rfl]
  unfold plan_control.f
  rw [Option.bind_some, wrap64_id (by omega) (by omega)]
  have e := meets_eq m (ctl w) hc (ctl_rt w h0 h1) hl (k := k) (by omega)
  refine (congrArg (fun z => Option.bind z _) e).trans ?_
  rw [Option.bind_some]
  by_cases h : Meets m (ctl w)
  · rw [decide_eq_true h, if_pos rfl, if_pos h]
  · rw [decide_eq_false h, if_neg (by decide), if_neg h]
theorem refcut_loop (s : S) (hs : Rt s) : ∀ (rest out pre : List S) (k : Nat), Cn rest → pre.length + rest.length ≤ 100000 → out.length + 2 * rest.length ≤ 300000 → 2 * rest.length < k →
    busbarref12_Cut.l0 k (pre ++ rest) out (pre.length : Int) s.f0 s.f1 s.f2 = some (out ++ cut rest s)
  | [], out, pre, k, _, hp, _, hk => by
    obtain ⟨k, rfl⟩ : ∃ m, k = m + 1 := ⟨k - 1, by omega⟩
    rw [List.append_nil, busbarref12_Cut.l0, if_neg (by omega)]
    simp [cut]
  | x :: rest, out, pre, k, hc, hp, ho, hk => by
    rw [List.length_cons] at hp hk ho
    obtain ⟨k, rfl⟩ : ∃ m, k = m + 2 := ⟨k - 2, by omega⟩
    have hx := hc.1
    have ih : ∀ ys : List S, ys.length ≤ 2 → ys = pieces x s → busbarref12_Cut.l0 k (pre ++ x :: rest) (out ++ ys) (wrap64 ((pre.length : Int) + 1)) s.f0 s.f1 s.f2 = some (out ++ cut (x :: rest) s) := by
      intro ys hy e
      have h := refcut_loop s hs rest (out ++ ys) (pre ++ [x]) k hc.2.2 (by simp; omega) (by simp; omega) (by omega)
      rw [List.append_assoc pre] at h
      rw [nxt pre x (by omega)]
      refine Eq.trans h ?_
      rw [List.append_assoc, e]
      rfl
    have jt : pieces x s = [x] → busbarref12_Cut.j1 (k + 1) (pre ++ x :: rest) out (pre.length : Int) true s.f0 s.f1 s.f2 x.f0 x.f1 x.f2 = some (out ++ cut (x :: rest) s) := by
      intro e
      rw [busbarref12_Cut.j1, if_pos rfl, if_pos (by omega)]
      exact ih [x] (by simp) e.symm
    rw [busbarref12_Cut.l0, if_pos (pos pre rest x), if_pos (by omega), rdS]
    by_cases h1 : x.f0 = s.f0
    · rw [if_pos h1]
      by_cases h2 : x.f2 ≤ s.f1
      · rw [if_pos h2, jt (by unfold pieces; rw [if_neg (by omega)])]
      · rw [if_neg h2]
        by_cases h3 : x.f1 ≥ s.f2
        · rw [decide_eq_true h3, jt (by unfold pieces; rw [if_neg (by omega)])]
        · rw [decide_eq_false h3, busbarref12_Cut.j1, if_neg (by decide)]
          have hp : pieces x s = (if x.f1 < s.f1 then [⟨x.f0, x.f1, s.f1⟩] else []) ++ (if s.f2 < x.f2 then [⟨x.f0, s.f2, x.f2⟩] else []) := by unfold pieces; rw [if_pos ⟨h1, by omega, by omega⟩]
          by_cases h4 : x.f1 < s.f1
          · rw [if_pos h4, if_pos (by omega), Option.bind_some]
            rw [if_pos h4] at hp
            by_cases h5 : s.f2 < x.f2
            · rw [if_pos h5, if_pos (by simp; omega), List.append_assoc]
              rw [if_pos h5] at hp
              exact ih _ (by simp) hp.symm
            · rw [if_neg (by omega)]
              rw [if_neg h5] at hp
              exact ih _ (by simp) hp.symm
          · rw [if_neg h4]
            rw [if_neg h4] at hp
            by_cases h5 : s.f2 < x.f2
            · rw [if_pos h5, if_pos (by omega)]
              rw [if_pos h5] at hp
              exact ih _ (by simp) hp.symm
            · rw [if_neg (by omega)]
              rw [if_neg h5] at hp
              have h := ih [] (by simp) hp.symm
              rw [List.append_nil] at h
              exact h
    · rw [if_neg h1, jt (by unfold pieces; rw [if_neg (by omega)])]
theorem refcut_eq (l : List S) (s : S) (hc : Cn l) (hs : Rt s) (hl : l.length ≤ 100000) {k : Nat} (hk : 2 * l.length < k) : busbarref12_Cut.f k l s.f0 s.f1 s.f2 = some (cut l s) := refcut_loop s hs l [] [] k hc (by simpa using hl) (by simp; omega) hk
end Go.Proofs.Ytgmoecbecllpiaa.LemPlanPlan
