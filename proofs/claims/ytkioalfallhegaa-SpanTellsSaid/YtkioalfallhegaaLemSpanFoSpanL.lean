/- What is asked of rows, taken away from them, and held against them (group SpanL). -/
import Derived.Test.YtkioalfallhegaaPSpanLx0
import Derived.Test.YtkioalfallhegaaPSpanLx4
import Derived.Test.YtkioalfallhegaaPSpanLx5
import Derived.Test.YtkioalfallhegaaLemSpanFmSpanL
set_option linter.unusedVariables false
set_option linter.unusedSimpArgs false
namespace Go.Proofs.Ytkioalfallhegaa.LemSpanFoSpanL
open Go.RowKit Go.Proofs.Ytkioalfallhegaa.PSpanL Go.Proofs.YtkioalfallhegaaW.PrintWords Go.Proofs.YtkioalfallhegaaW.PrintLast Go.Proofs.YtkioalfallhegaaW.PrintMore Go.Proofs.Ytkioalfallhegaa.Num Go.Proofs.Ytkioalfallhegaa.LemSpanSpanL Go.Proofs.Ytkioalfallhegaa.LemWithinSpanL Go.Proofs.Ytkioalfallhegaa.LemSpanFnSpanL Go.Proofs.Ytkioalfallhegaa.LemSpanFmSpanL

instance (l : List S) (t p : Int) : Decidable (Has l t p) := by unfold Has; infer_instance
instance (l : List S) (s : S) : Decidable (Meets l s) := by unfold Meets; infer_instance
instance (l : List S) (s : S) : Decidable (Covers l s) := by unfold Covers; infer_instance
theorem pos (pre rest : List S) (x : S) : (pre.length : Int) < ((pre ++ x :: rest).length : Int) := by rw [idx]; omega
theorem both_same (x s : S) (h : x.f0 = s.f0) : span_both.f x.f0 x.f1 x.f2 s.f0 s.f1 s.f2 = some (x.f0, mx x.f1 s.f1, mn x.f2 s.f2) := by unfold span_both.f; rw [if_pos h]
theorem both_other (x s : S) (h : x.f0 ≠ s.f0) : span_both.f x.f0 x.f1 x.f2 s.f0 s.f1 s.f2 = some (0, 0, 0) := by unfold span_both.f; rw [if_neg h]
theorem right3 (a b c : Int) : span_Right.f a b c = some (decide (Rt ⟨a, b, c⟩)) := right_eq ⟨a, b, c⟩
theorem both_right (x s : S) (hx : Rt x) (hs : Rt s) (h : x.f0 = s.f0) : Rt ⟨x.f0, mx x.f1 s.f1, mn x.f2 s.f2⟩ ↔ x.f1 < s.f2 ∧ s.f1 < x.f2 := by
  unfold Rt mx mn at *
  dsimp only
  (repeat' split) <;> omega
theorem both_meet (x s : S) (hx : Rt x) (hs : Rt s) : (x.f0 = s.f0 ∧ s.f1 < x.f2 ∧ x.f1 < s.f2) ↔ (x.f0 = s.f0 ∧ x.f1 < s.f2 ∧ s.f1 < x.f2) := by omega
theorem cut_loop (s : S) (hs : Rt s) : ∀ (rest out pre : List S) (k : Nat), Cn rest → pre.length + rest.length ≤ 100000 → out.length + 2 * rest.length ≤ 300000 → rest.length < k →
    span_Cut.l0 k out (pre ++ rest) ((pre ++ rest).length : Int) (pre.length : Int) s.f0 s.f1 s.f2 = some (out ++ cut rest s)
  | [], out, pre, k, _, hp, _, hk => by
    obtain ⟨k, rfl⟩ : ∃ m, k = m + 1 := ⟨k - 1, by omega⟩
    rw [List.append_nil, span_Cut.l0, if_neg (by omega)]
    simp [cut]
  | x :: rest, out, pre, k, hc, hp, ho, hk => by
    rw [List.length_cons] at hp hk ho
    obtain ⟨k, rfl⟩ : ∃ m, k = m + 1 := ⟨k - 1, by omega⟩
    have hx := hc.1
    have ih : ∀ ys : List S, ys.length ≤ 2 → ys = pieces x s → span_Cut.l0 k (out ++ ys) (pre ++ x :: rest) ((pre ++ x :: rest).length : Int) (wrap64 ((pre.length : Int) + 1)) s.f0 s.f1 s.f2 = some (out ++ cut (x :: rest) s) := by
      intro ys hy e
      have h := cut_loop s hs rest (out ++ ys) (pre ++ [x]) k hc.2.2 (by simp; omega) (by simp; omega) (by omega)
      rw [List.append_assoc pre] at h
      rw [nxt pre x (by omega)]
      refine Eq.trans h ?_
      rw [List.append_assoc, e]
      rfl
    rw [span_Cut.l0, if_pos (pos pre rest x), if_pos (by omega), if_pos (pos pre rest x), rdS]
    by_cases h1 : x.f0 = s.f0
    · rw [both_same x s h1, Option.bind_some, right3, Option.bind_some]
      by_cases h2 : x.f1 < s.f2 ∧ s.f1 < x.f2
      · rw [decide_eq_true ((both_right x s hx hs h1).2 h2), if_pos rfl]
        dsimp only
        have hp : pieces x s = (if x.f1 < s.f1 then [⟨x.f0, x.f1, s.f1⟩] else []) ++ (if s.f2 < x.f2 then [⟨x.f0, s.f2, x.f2⟩] else []) := by unfold pieces; rw [if_pos ⟨h1, h2.2, h2.1⟩]
        have ea : x.f1 < s.f1 → mx x.f1 s.f1 = s.f1 := fun h => by unfold mx; rw [if_pos h]
        have eb : ¬ x.f1 < s.f1 → mx x.f1 s.f1 = x.f1 := fun h => by unfold mx; rw [if_neg h]
        have ec : s.f2 < x.f2 → mn x.f2 s.f2 = s.f2 := fun h => by unfold mn; rw [if_pos h]
        have ed : ¬ s.f2 < x.f2 → mn x.f2 s.f2 = x.f2 := fun h => by unfold mn; rw [if_neg h]
        by_cases h3 : x.f1 < s.f1
        · rw [ea h3, if_pos h3, if_pos (by omega), Option.bind_some]
          rw [if_pos h3] at hp
          by_cases h4 : s.f2 < x.f2
          · rw [ec h4, if_pos h4, if_pos (by simp; omega), List.append_assoc]
            rw [if_pos h4] at hp
            exact ih _ (by simp) hp.symm
          · rw [ed h4, if_neg (by omega)]
            rw [if_neg h4] at hp
            exact ih _ (by simp) hp.symm
        · rw [eb h3, if_neg (by omega)]
          rw [if_neg h3] at hp
          by_cases h4 : s.f2 < x.f2
          · rw [ec h4, if_pos h4, if_pos (by omega)]
            rw [if_pos h4] at hp
            exact ih _ (by simp) hp.symm
          · rw [ed h4, if_neg (by omega)]
            rw [if_neg h4] at hp
            have h := ih [] (by simp) hp.symm
            rw [List.append_nil] at h
            exact h
      · rw [decide_eq_false (fun h => h2 ((both_right x s hx hs h1).1 h)), if_neg (by decide), if_pos (by omega)]
        exact ih [x] (by simp) (by unfold pieces; rw [if_neg (by omega)])
    · rw [both_other x s h1, Option.bind_some, right3, Option.bind_some, decide_eq_false (show ¬ Rt ⟨0, 0, 0⟩ by unfold Rt; simp), if_neg (by decide), if_pos (by omega)]
      exact ih [x] (by simp) (by unfold pieces; rw [if_neg (by omega)])
theorem cut_eq (l : List S) (s : S) (hc : Cn l) (hs : Rt s) (hl : l.length ≤ 100000) {k : Nat} (hk : l.length < k) : span_Cut.f k l s.f0 s.f1 s.f2 = some (cut l s) := cut_loop s hs l [] [] k hc (by simpa using hl) (by simp; omega) hk
end Go.Proofs.Ytkioalfallhegaa.LemSpanFoSpanL
