/- What is asked of rows, taken away from them, and held against them (group GroupC). -/
import Derived.Test.YtmbkbpaoiilicaaPGroupCx0
import Derived.Test.YtmbkbpaoiilicaaPGroupCx2
import Derived.Test.YtmbkbpaoiilicaaPGroupCx3
import Derived.Test.YtmbkbpaoiilicaaPGroupCx4
import Derived.Test.YtmbkbpaoiilicaaPGroupCx5
import Derived.Test.YtmbkbpaoiilicaaLemSpanFmGroupC
set_option linter.unusedVariables false
set_option linter.unusedSimpArgs false
namespace Go.Proofs.Ytmbkbpaoiilicaa.LemSpanFoGroupC
open Go.RowKit Go.Proofs.Ytmbkbpaoiilicaa.PGroupC Go.Proofs.YtmbkbpaoiilicaaW.PrintWords Go.Proofs.YtmbkbpaoiilicaaW.PrintLast Go.Proofs.YtmbkbpaoiilicaaW.PrintMore Go.Proofs.Ytmbkbpaoiilicaa.Num Go.Proofs.Ytmbkbpaoiilicaa.LemSpanGroupC Go.Proofs.Ytmbkbpaoiilicaa.LemWithinGroupC Go.Proofs.Ytmbkbpaoiilicaa.LemSpanFnGroupC Go.Proofs.Ytmbkbpaoiilicaa.LemSpanFmGroupC

instance (l : List S) (t p : Int) : Decidable (Has l t p) := by unfold Has; infer_instance
instance (l : List S) (s : S) : Decidable (Meets l s) := by unfold Meets; infer_instance
instance (l : List S) (s : S) : Decidable (Covers l s) := by unfold Covers; infer_instance
theorem pos (pre rest : List S) (x : S) : (pre.length : Int) < ((pre ++ x :: rest).length : Int) := by rw [idx]; omega
theorem both_same (x s : S) (h : x.f0 = s.f0) : span_both.f x.f0 x.f1 x.f2 s.f0 s.f1 s.f2 = some (x.f0, mx x.f1 s.f1, mn x.f2 s.f2) := by unfold span_both.f; rw [if_pos h]
theorem both_other (x s : S) (h : x.f0 ≠ s.f0) : span_both.f x.f0 x.f1 x.f2 s.f0 s.f1 s.f2 = some (0, 0, 0) := by unfold span_both.f; rw [if_neg h]
theorem right3 (a b c : Int) : span_Right.f a b c = some (decide (Rt ⟨a, b, c⟩)) := right_eq ⟨a, b, c⟩
theorem covers_loop (s : S) (hs : Rt s) : ∀ (rest pre : List S) (k : Nat), pre.length + rest.length ≤ 100000 → rest.length < k → span_Covers.l0 k (pre ++ rest) ((pre ++ rest).length : Int) (pre.length : Int) s.f0 s.f1 s.f2 = some (decide (Covers rest s))
  | [], pre, k, hp, hk => by
    obtain ⟨k, rfl⟩ : ∃ m, k = m + 1 := ⟨k - 1, by omega⟩
    rw [List.append_nil, span_Covers.l0, if_neg (by omega), decide_eq_false (by simp [Covers])]
  | x :: rest, pre, k, hp, hk => by
    rw [List.length_cons] at hp hk
    obtain ⟨k, rfl⟩ : ∃ m, k = m + 1 := ⟨k - 1, by omega⟩
    have ih := covers_loop s hs rest (pre ++ [x]) k (by simp; omega) (by omega)
    rw [List.append_assoc pre] at ih
    have hc : Covers (x :: rest) s ↔ (x.f0 = s.f0 ∧ x.f1 ≤ s.f1 ∧ s.f2 ≤ x.f2) ∨ Covers rest s := by simp [Covers]
    have hn : ¬ (x.f0 = s.f0 ∧ x.f1 ≤ s.f1 ∧ s.f2 ≤ x.f2) → span_Covers.l0 k (pre ++ x :: rest) ((pre ++ x :: rest).length : Int) (wrap64 ((pre.length : Int) + 1)) s.f0 s.f1 s.f2 = some (decide (Covers (x :: rest) s)) := by
      intro h
      rw [nxt pre x (by omega)]
      refine Eq.trans ih ?_
      congr 1
      rw [decide_eq_decide, hc]
      exact ⟨.inr, fun k => k.resolve_left h⟩
    rw [span_Covers.l0, if_pos (pos pre rest x), if_pos (by omega), if_pos (pos pre rest x), rdS]
    unfold Rt at hs
    by_cases h1 : x.f0 = s.f0
    · rw [both_same x s h1, Option.bind_some]
      by_cases h2 : x.f1 ≤ s.f1 ∧ s.f2 ≤ x.f2
      · have e : (x.f0 == s.f0 && (mx x.f1 s.f1 == s.f1 && mn x.f2 s.f2 == s.f2)) = true := by
          simp only [Bool.and_eq_true, beq_iff_eq]
          unfold mx mn
          refine ⟨h1, ?_, ?_⟩
          · split <;> omega
          · split <;> omega
        rw [if_pos e, decide_eq_true (hc.2 (.inl ⟨h1, h2⟩))]
      · have e : ¬ (x.f0 == s.f0 && (mx x.f1 s.f1 == s.f1 && mn x.f2 s.f2 == s.f2)) = true := by
          simp only [Bool.and_eq_true, beq_iff_eq]
          unfold mx mn
          rintro ⟨_, a, b⟩
          refine h2 ⟨?_, ?_⟩
          · split at a <;> omega
          · split at b <;> omega
        rw [if_neg e, hn (fun h => h2 h.2)]
    · rw [both_other x s h1, Option.bind_some]
      have e : ¬ (((0 : Int) == s.f0) && (((0 : Int) == s.f1) && ((0 : Int) == s.f2))) = true := by
        simp only [Bool.and_eq_true, beq_iff_eq]; omega
      rw [if_neg e, hn (fun h => h1 h.1)]
theorem covers_eq (l : List S) (s : S) (hs : Rt s) (hl : l.length ≤ 100000) {k : Nat} (hk : l.length < k) : span_Covers.f k l s.f0 s.f1 s.f2 = some (decide (Covers l s)) := covers_loop s hs l [] k (by simpa using hl) hk
theorem both_right (x s : S) (hx : Rt x) (hs : Rt s) (h : x.f0 = s.f0) : Rt ⟨x.f0, mx x.f1 s.f1, mn x.f2 s.f2⟩ ↔ x.f1 < s.f2 ∧ s.f1 < x.f2 := by
  unfold Rt mx mn at *
  dsimp only
  (repeat' split) <;> omega
theorem meets_loop (s : S) (hs : Rt s) : ∀ (rest pre : List S) (k : Nat), Cn rest → pre.length + rest.length ≤ 100000 → rest.length < k → span_Meets.l0 k (pre ++ rest) ((pre ++ rest).length : Int) (pre.length : Int) s.f0 s.f1 s.f2 = some (decide (Meets rest s))
  | [], pre, k, _, hp, hk => by
    obtain ⟨k, rfl⟩ : ∃ m, k = m + 1 := ⟨k - 1, by omega⟩
    rw [List.append_nil, span_Meets.l0, if_neg (by omega), decide_eq_false (by simp [Meets])]
  | x :: rest, pre, k, hcn, hp, hk => by
    rw [List.length_cons] at hp hk
    obtain ⟨k, rfl⟩ : ∃ m, k = m + 1 := ⟨k - 1, by omega⟩
    have ih := meets_loop s hs rest (pre ++ [x]) k hcn.2.2 (by simp; omega) (by omega)
    rw [List.append_assoc pre] at ih
    have hc : Meets (x :: rest) s ↔ (x.f0 = s.f0 ∧ x.f1 < s.f2 ∧ s.f1 < x.f2) ∨ Meets rest s := by simp [Meets]
    have hn : ¬ (x.f0 = s.f0 ∧ x.f1 < s.f2 ∧ s.f1 < x.f2) → span_Meets.l0 k (pre ++ x :: rest) ((pre ++ x :: rest).length : Int) (wrap64 ((pre.length : Int) + 1)) s.f0 s.f1 s.f2 = some (decide (Meets (x :: rest) s)) := by
      intro h
      rw [nxt pre x (by omega)]
      refine Eq.trans ih ?_
      congr 1
      rw [decide_eq_decide, hc]
      exact ⟨.inr, fun k => k.resolve_left h⟩
    rw [span_Meets.l0, if_pos (pos pre rest x), if_pos (by omega), if_pos (pos pre rest x), rdS]
    by_cases h1 : x.f0 = s.f0
    · rw [both_same x s h1, Option.bind_some, right3, Option.bind_some]
      by_cases h2 : x.f1 < s.f2 ∧ s.f1 < x.f2
      · rw [decide_eq_true ((both_right x s hcn.1 hs h1).2 h2), if_pos rfl, decide_eq_true (hc.2 (.inl ⟨h1, h2⟩))]
      · rw [decide_eq_false (fun h => h2 ((both_right x s hcn.1 hs h1).1 h)), if_neg (by decide), hn (fun h => h2 h.2)]
    · rw [both_other x s h1, Option.bind_some, right3, Option.bind_some, decide_eq_false (show ¬ Rt ⟨0, 0, 0⟩ by unfold Rt; simp), if_neg (by decide), hn (fun h => h1 h.1)]
theorem meets_eq (l : List S) (s : S) (hc : Cn l) (hs : Rt s) (hl : l.length ≤ 100000) {k : Nat} (hk : l.length < k) : span_Meets.f k l s.f0 s.f1 s.f2 = some (decide (Meets l s)) := meets_loop s hs l [] k hc (by simpa using hl) hk
theorem both_meet (x s : S) (hx : Rt x) (hs : Rt s) : (x.f0 = s.f0 ∧ s.f1 < x.f2 ∧ x.f1 < s.f2) ↔ (x.f0 = s.f0 ∧ x.f1 < s.f2 ∧ s.f1 < x.f2) := by omega
end Go.Proofs.Ytmbkbpaoiilicaa.LemSpanFoGroupC
