/- What is asked of rows, taken away from them, and held against them (group Span). -/
import Derived.Test.YtkioalfallhegaaPSpanx0
import Derived.Test.YtkioalfallhegaaPSpanx23
import Derived.Test.YtkioalfallhegaaPSpanx25
import Derived.Test.YtkioalfallhegaaPSpanx26
import Derived.Test.YtkioalfallhegaaPSpanx27
import Derived.Test.YtkioalfallhegaaPSpanx5
import Derived.Test.YtkioalfallhegaaPSpanx6
import Derived.Test.YtkioalfallhegaaPSpanx7
import Derived.Test.YtkioalfallhegaaLemSpanFmSpan
set_option linter.unusedVariables false
set_option linter.unusedSimpArgs false
namespace Go.Proofs.Ytkioalfallhegaa.LemSpanFoSpan
open Go.RowKit Go.Proofs.Ytkioalfallhegaa.PSpan Go.Proofs.YtkioalfallhegaaW.PrintWords Go.Proofs.YtkioalfallhegaaW.PrintLast Go.Proofs.YtkioalfallhegaaW.PrintMore Go.Proofs.Ytkioalfallhegaa.Num Go.Proofs.Ytkioalfallhegaa.LemSpanSpan Go.Proofs.Ytkioalfallhegaa.LemWithinSpan Go.Proofs.Ytkioalfallhegaa.LemSpanFnSpan Go.Proofs.Ytkioalfallhegaa.LemSpanFmSpan

instance (l : List S) (t p : Int) : Decidable (Has l t p) := by unfold Has; infer_instance
instance (l : List S) (s : S) : Decidable (Meets l s) := by unfold Meets; infer_instance
instance (l : List S) (s : S) : Decidable (Covers l s) := by unfold Covers; infer_instance
theorem pos (pre rest : List S) (x : S) : (pre.length : Int) < ((pre ++ x :: rest).length : Int) := by rw [idx]; omega
theorem has_loop (t p : Int) : ∀ (rest pre : List S) (k : Nat), pre.length + rest.length ≤ 100000 → rest.length < k → span_Has.l0 k (pre ++ rest) ((pre ++ rest).length : Int) (pre.length : Int) t p = some (decide (Has rest t p))
  | [], pre, k, hp, hk => by
    obtain ⟨k, rfl⟩ : ∃ m, k = m + 1 := ⟨k - 1, by omega⟩
    rw [List.append_nil, span_Has.l0, if_neg (by omega), decide_eq_false (has_nil t p)]
  | x :: rest, pre, k, hp, hk => by
    rw [List.length_cons] at hp hk
    obtain ⟨k, rfl⟩ : ∃ m, k = m + 1 := ⟨k - 1, by omega⟩
    have ih := has_loop t p rest (pre ++ [x]) k (by simp; omega) (by omega)
    rw [List.append_assoc pre] at ih
    have hn : ¬ In x t p → span_Has.l0 k (pre ++ x :: rest) ((pre ++ x :: rest).length : Int) (wrap64 ((pre.length : Int) + 1)) t p = some (decide (Has (x :: rest) t p)) := by
      intro h
      rw [nxt pre x (by omega)]
      refine Eq.trans ih ?_
      congr 1
      rw [decide_eq_decide, has_cons]
      exact ⟨.inr, fun k => k.resolve_left h⟩
    have hl := idx pre rest x
    rw [span_Has.l0, if_pos (pos pre rest x), if_pos (by omega), if_pos (pos pre rest x), rdS]
    by_cases h1 : x.f0 = t
    · rw [if_pos h1]
      by_cases h2 : x.f1 ≤ p
      · rw [if_pos h2]
        by_cases h3 : p < x.f2
        · rw [if_pos h3, decide_eq_true ((has_cons _ _ _ _).2 (.inl ⟨h1, h2, h3⟩))]
        · rw [if_neg h3, hn (fun h => h3 h.2.2)]
      · rw [if_neg h2, hn (fun h => h2 h.2.1)]
    · rw [if_neg h1, hn (fun h => h1 h.1)]
theorem has_eq (l : List S) (t p : Int) (hl : l.length ≤ 100000) {k : Nat} (hk : l.length < k) : span_Has.f k l t p = some (decide (Has l t p)) := has_loop t p l [] k (by simpa using hl) hk
theorem both_same (x s : S) (h : x.f0 = s.f0) : span_both.f x.f0 x.f1 x.f2 s.f0 s.f1 s.f2 = some (x.f0, mx x.f1 s.f1, mn x.f2 s.f2) := by unfold span_both.f; rw [if_pos h]
theorem both_other (x s : S) (h : x.f0 ≠ s.f0) : span_both.f x.f0 x.f1 x.f2 s.f0 s.f1 s.f2 = some (0, 0, 0) := by unfold span_both.f; rw [if_neg h]
theorem right3 (a b c : Int) : span_Right.f a b c = some (decide (Rt ⟨a, b, c⟩)) := right_eq ⟨a, b, c⟩
theorem covers_loop (s : S) (hs : Rt s) : ∀ (rest pre : List S) (k : Nat), pre.length + rest.length ≤ 100000 → rest.length < k → span_Covers.l0 k (pre ++ rest) ((pre ++ rest).length : Int) (pre.length : Int) s.f0 s.f1 s.f2 = some (decide (Covers rest s))
  | [], pre, k, hp, hk => by
    obtain ⟨k, rfl⟩ : ∃ m, k = m + 1 := ⟨k - 1, by omega⟩
    rw [List.append_nil, span_Covers.l0, if_neg (by omega), decide_eq_false (by simp [Covers])]
  | x :: rest, pre, k, hp, hk => by
    rw [List.length_cons] at hp hk
    obtain ⟨k, rfl⟩ : ∃ m, k = m + 1 := ⟨k - 1, by omega⟩
    have ih := covers_loop s hs rest (pre ++ [x]) k (by simp; omega) (by omega)
    rw [List.append_assoc pre] at ih
    have hc : Covers (x :: rest) s ↔ (x.f0 = s.f0 ∧ x.f1 ≤ s.f1 ∧ s.f2 ≤ x.f2) ∨ Covers rest s := by simp [Covers]
    have hn : ¬ (x.f0 = s.f0 ∧ x.f1 ≤ s.f1 ∧ s.f2 ≤ x.f2) → span_Covers.l0 k (pre ++ x :: rest) ((pre ++ x :: rest).length : Int) (wrap64 ((pre.length : Int) + 1)) s.f0 s.f1 s.f2 = some (decide (Covers (x :: rest) s)) := by
      intro h
      rw [nxt pre x (by omega)]
      refine Eq.trans ih ?_
      congr 1
      rw [decide_eq_decide, hc]
      exact ⟨.inr, fun k => k.resolve_left h⟩
    rw [span_Covers.l0, if_pos (pos pre rest x), if_pos (by omega), if_pos (pos pre rest x), rdS]
    unfold Rt at hs
    by_cases h1 : x.f0 = s.f0
    · rw [both_same x s h1, Option.bind_some]
      by_cases h2 : x.f1 ≤ s.f1 ∧ s.f2 ≤ x.f2
      · have e : (x.f0 == s.f0 && (mx x.f1 s.f1 == s.f1 && mn x.f2 s.f2 == s.f2)) = true := by
          simp only [Bool.and_eq_true, beq_iff_eq]
          unfold mx mn
          refine ⟨h1, ?_, ?_⟩
          · split <;> omega
          · split <;> omega
        rw [if_pos e, decide_eq_true (hc.2 (.inl ⟨h1, h2⟩))]
      · have e : ¬ (x.f0 == s.f0 && (mx x.f1 s.f1 == s.f1 && mn x.f2 s.f2 == s.f2)) = true := by
          simp only [Bool.and_eq_true, beq_iff_eq]
          unfold mx mn
          rintro ⟨_, a, b⟩
          refine h2 ⟨?_, ?_⟩
          · split at a <;> omega
          · split at b <;> omega
        rw [if_neg e, hn (fun h => h2 h.2)]
    · rw [both_other x s h1, Option.bind_some]
      have e : ¬ (((0 : Int) == s.f0) && (((0 : Int) == s.f1) && ((0 : Int) == s.f2))) = true := by
        simp only [Bool.and_eq_true, beq_iff_eq]; omega
      rw [if_neg e, hn (fun h => h1 h.1)]
theorem covers_eq (l : List S) (s : S) (hs : Rt s) (hl : l.length ≤ 100000) {k : Nat} (hk : l.length < k) : span_Covers.f k l s.f0 s.f1 s.f2 = some (decide (Covers l s)) := covers_loop s hs l [] k (by simpa using hl) hk
theorem both_right (x s : S) (hx : Rt x) (hs : Rt s) (h : x.f0 = s.f0) : Rt ⟨x.f0, mx x.f1 s.f1, mn x.f2 s.f2⟩ ↔ x.f1 < s.f2 ∧ s.f1 < x.f2 := by
  unfold Rt mx mn at *
  dsimp only
  (repeat' split) <;> omega
theorem meets_loop (s : S) (hs : Rt s) : ∀ (rest pre : List S) (k : Nat), Cn rest → pre.length + rest.length ≤ 100000 → rest.length < k → span_Meets.l0 k (pre ++ rest) ((pre ++ rest).length : Int) (pre.length : Int) s.f0 s.f1 s.f2 = some (decide (Meets rest s))
  | [], pre, k, _, hp, hk => by
    obtain ⟨k, rfl⟩ : ∃ m, k = m + 1 := ⟨k - 1, by omega⟩
    rw [List.append_nil, span_Meets.l0, if_neg (by omega), decide_eq_false (by simp [Meets])]
  | x :: rest, pre, k, hcn, hp, hk => by
    rw [List.length_cons] at hp hk
    obtain ⟨k, rfl⟩ : ∃ m, k = m + 1 := ⟨k - 1, by omega⟩
    have ih := meets_loop s hs rest (pre ++ [x]) k hcn.2.2 (by simp; omega) (by omega)
    rw [List.append_assoc pre] at ih
    have hc : Meets (x :: rest) s ↔ (x.f0 = s.f0 ∧ x.f1 < s.f2 ∧ s.f1 < x.f2) ∨ Meets rest s := by simp [Meets]
    have hn : ¬ (x.f0 = s.f0 ∧ x.f1 < s.f2 ∧ s.f1 < x.f2) → span_Meets.l0 k (pre ++ x :: rest) ((pre ++ x :: rest).length : Int) (wrap64 ((pre.length : Int) + 1)) s.f0 s.f1 s.f2 = some (decide (Meets (x :: rest) s)) := by
      intro h
      rw [nxt pre x (by omega)]
      refine Eq.trans ih ?_
      congr 1
      rw [decide_eq_decide, hc]
      exact ⟨.inr, fun k => k.resolve_left h⟩
    rw [span_Meets.l0, if_pos (pos pre rest x), if_pos (by omega), if_pos (pos pre rest x), rdS]
    by_cases h1 : x.f0 = s.f0
    · rw [both_same x s h1, Option.bind_some, right3, Option.bind_some]
      by_cases h2 : x.f1 < s.f2 ∧ s.f1 < x.f2
      · rw [decide_eq_true ((both_right x s hcn.1 hs h1).2 h2), if_pos rfl, decide_eq_true (hc.2 (.inl ⟨h1, h2⟩))]
      · rw [decide_eq_false (fun h => h2 ((both_right x s hcn.1 hs h1).1 h)), if_neg (by decide), hn (fun h => h2 h.2)]
    · rw [both_other x s h1, Option.bind_some, right3, Option.bind_some, decide_eq_false (show ¬ Rt ⟨0, 0, 0⟩ by unfold Rt; simp), if_neg (by decide), hn (fun h => h1 h.1)]
theorem meets_eq (l : List S) (s : S) (hc : Cn l) (hs : Rt s) (hl : l.length ≤ 100000) {k : Nat} (hk : l.length < k) : span_Meets.f k l s.f0 s.f1 s.f2 = some (decide (Meets l s)) := meets_loop s hs l [] k hc (by simpa using hl) hk
theorem size_loop : ∀ (rest pre : List S) (n : Int) (k : Nat), Cn rest → pre.length + rest.length ≤ 100000 → 0 ≤ n → n ≤ 65536 * pre.length → rest.length < k → span_Size.l0 k n (pre ++ rest) ((pre ++ rest).length : Int) (pre.length : Int) = some (n + size rest)
  | [], pre, n, k, _, hp, _, _, hk => by
    obtain ⟨k, rfl⟩ : ∃ m, k = m + 1 := ⟨k - 1, by omega⟩
    rw [List.append_nil, span_Size.l0, if_neg (by omega)]
    simp [size]
  | x :: rest, pre, n, k, hc, hp, h0, hn, hk => by
    rw [List.length_cons] at hp hk
    obtain ⟨k, rfl⟩ : ∃ m, k = m + 1 := ⟨k - 1, by omega⟩
    have hx := hc.1
    unfold Rt at hx
    have ih := size_loop rest (pre ++ [x]) (n + (x.f2 - x.f1)) k hc.2.2 (by simp; omega) (by omega) (by simp; omega) (by omega)
    rw [List.append_assoc pre] at ih
    rw [span_Size.l0, if_pos (pos pre rest x), if_pos (by omega), if_pos (pos pre rest x), rdS, wrap64_id (x := x.f2 - x.f1) (by omega) (by omega), wrap64_id (x := n + (x.f2 - x.f1)) (by omega) (by omega), nxt pre x (by omega)]
    refine Eq.trans ih ?_
    simp only [size]
    congr 1; omega
theorem size_eq (l : List S) (hc : Cn l) (hl : l.length ≤ 100000) {k : Nat} (hk : l.length < k) : span_Size.f k l = some (size l) := by
  have h := size_loop l [] 0 k hc (by simpa using hl) (by omega) (by simp) hk
  rw [Int.zero_add] at h
  exact h
theorem both_meet (x s : S) (hx : Rt x) (hs : Rt s) : (x.f0 = s.f0 ∧ s.f1 < x.f2 ∧ x.f1 < s.f2) ↔ (x.f0 = s.f0 ∧ x.f1 < s.f2 ∧ s.f1 < x.f2) := by omega
theorem cut_loop (s : S) (hs : Rt s) : ∀ (rest out pre : List S) (k : Nat), Cn rest → pre.length + rest.length ≤ 100000 → out.length + 2 * rest.length ≤ 300000 → rest.length < k →
    span_Cut.l0 k out (pre ++ rest) ((pre ++ rest).length : Int) (pre.length : Int) s.f0 s.f1 s.f2 = some (out ++ cut rest s)
  | [], out, pre, k, _, hp, _, hk => by
    obtain ⟨k, rfl⟩ : ∃ m, k = m + 1 := ⟨k - 1, by omega⟩
    rw [List.append_nil, span_Cut.l0, if_neg (by omega)]
    simp [cut]
  | x :: rest, out, pre, k, hc, hp, ho, hk => by
    rw [List.length_cons] at hp hk ho
    obtain ⟨k, rfl⟩ : ∃ m, k = m + 1 := ⟨k - 1, by omega⟩
    have hx := hc.1
    have ih : ∀ ys : List S, ys.length ≤ 2 → ys = pieces x s → span_Cut.l0 k (out ++ ys) (pre ++ x :: rest) ((pre ++ x :: rest).length : Int) (wrap64 ((pre.length : Int) + 1)) s.f0 s.f1 s.f2 = some (out ++ cut (x :: rest) s) := by
      intro ys hy e
      have h := cut_loop s hs rest (out ++ ys) (pre ++ [x]) k hc.2.2 (by simp; omega) (by simp; omega) (by omega)
      rw [List.append_assoc pre] at h
      rw [nxt pre x (by omega)]
      refine Eq.trans h ?_
      rw [List.append_assoc, e]
      rfl
    rw [span_Cut.l0, if_pos (pos pre rest x), if_pos (by omega), if_pos (pos pre rest x), rdS]
    by_cases h1 : x.f0 = s.f0
    · rw [both_same x s h1, Option.bind_some, right3, Option.bind_some]
      by_cases h2 : x.f1 < s.f2 ∧ s.f1 < x.f2
      · rw [decide_eq_true ((both_right x s hx hs h1).2 h2), if_pos rfl]
        dsimp only
        have hp : pieces x s = (if x.f1 < s.f1 then [⟨x.f0, x.f1, s.f1⟩] else []) ++ (if s.f2 < x.f2 then [⟨x.f0, s.f2, x.f2⟩] else []) := by unfold pieces; rw [if_pos ⟨h1, h2.2, h2.1⟩]
        have ea : x.f1 < s.f1 → mx x.f1 s.f1 = s.f1 := fun h => by unfold mx; rw [if_pos h]
        have eb : ¬ x.f1 < s.f1 → mx x.f1 s.f1 = x.f1 := fun h => by unfold mx; rw [if_neg h]
        have ec : s.f2 < x.f2 → mn x.f2 s.f2 = s.f2 := fun h => by unfold mn; rw [if_pos h]
        have ed : ¬ s.f2 < x.f2 → mn x.f2 s.f2 = x.f2 := fun h => by unfold mn; rw [if_neg h]
        by_cases h3 : x.f1 < s.f1
        · rw [ea h3, if_pos h3, if_pos (by omega), Option.bind_some]
          rw [if_pos h3] at hp
          by_cases h4 : s.f2 < x.f2
          · rw [ec h4, if_pos h4, if_pos (by simp; omega), List.append_assoc]
            rw [if_pos h4] at hp
            exact ih _ (by simp) hp.symm
          · rw [ed h4, if_neg (by omega)]
            rw [if_neg h4] at hp
            exact ih _ (by simp) hp.symm
        · rw [eb h3, if_neg (by omega)]
          rw [if_neg h3] at hp
          by_cases h4 : s.f2 < x.f2
          · rw [ec h4, if_pos h4, if_pos (by omega)]
            rw [if_pos h4] at hp
            exact ih _ (by simp) hp.symm
          · rw [ed h4, if_neg (by omega)]
            rw [if_neg h4] at hp
            have h := ih [] (by simp) hp.symm
            rw [List.append_nil] at h
            exact h
      · rw [decide_eq_false (fun h => h2 ((both_right x s hx hs h1).1 h)), if_neg (by decide), if_pos (by omega)]
        exact ih [x] (by simp) (by unfold pieces; rw [if_neg (by omega)])
    · rw [both_other x s h1, Option.bind_some, right3, Option.bind_some, decide_eq_false (show ¬ Rt ⟨0, 0, 0⟩ by unfold Rt; simp), if_neg (by decide), if_pos (by omega)]
      exact ih [x] (by simp) (by unfold pieces; rw [if_neg (by omega)])
theorem cut_eq (l : List S) (s : S) (hc : Cn l) (hs : Rt s) (hl : l.length ≤ 100000) {k : Nat} (hk : l.length < k) : span_Cut.f k l s.f0 s.f1 s.f2 = some (cut l s) := cut_loop s hs l [] [] k hc (by simpa using hl) (by simp; omega) hk
end Go.Proofs.Ytkioalfallhegaa.LemSpanFoSpan
