/- What the document asks of rows (group GroupC). -/
import Derived.Test.YtmbkbpaoiilicaaPGroupCx0
import Derived.Test.YtmbkbpaoiilicaaPGroupCx15
import Derived.Test.YtmbkbpaoiilicaaLemSpanFoGroupC
set_option linter.unusedVariables false
set_option linter.unusedSimpArgs false
namespace Go.Proofs.Ytmbkbpaoiilicaa.LemSpanFqGroupC
open Go.RowKit Go.Proofs.Ytmbkbpaoiilicaa.PGroupC Go.Proofs.YtmbkbpaoiilicaaW.PrintWords Go.Proofs.YtmbkbpaoiilicaaW.PrintLast Go.Proofs.YtmbkbpaoiilicaaW.PrintMore Go.Proofs.Ytmbkbpaoiilicaa.Num Go.Proofs.Ytmbkbpaoiilicaa.LemSpanGroupC Go.Proofs.Ytmbkbpaoiilicaa.LemWithinGroupC Go.Proofs.Ytmbkbpaoiilicaa.LemSpanFnGroupC Go.Proofs.Ytmbkbpaoiilicaa.LemSpanFmGroupC Go.Proofs.Ytmbkbpaoiilicaa.LemSpanFoGroupC

theorem refcovers_loop (s : S) : ∀ (rest pre : List S) (k : Nat), pre.length + rest.length ≤ 100000 → rest.length < k → busbarref12_Covers.l0 k (pre ++ rest) (pre.length : Int) s.f0 s.f1 s.f2 = some (decide (Covers rest s))
  | [], pre, k, hp, hk => by
    obtain ⟨k, rfl⟩ : ∃ m, k = m + 1 := ⟨k - 1, by omega⟩
    rw [List.append_nil, busbarref12_Covers.l0, if_neg (by omega), decide_eq_false (by simp [Covers])]
  | x :: rest, pre, k, hp, hk => by
    rw [List.length_cons] at hp hk
    obtain ⟨k, rfl⟩ : ∃ m, k = m + 1 := ⟨k - 1, by omega⟩
    have ih := refcovers_loop s rest (pre ++ [x]) k (by simp; omega) (by omega)
    rw [List.append_assoc pre] at ih
    have hc : Covers (x :: rest) s ↔ (x.f0 = s.f0 ∧ x.f1 ≤ s.f1 ∧ s.f2 ≤ x.f2) ∨ Covers rest s := by simp [Covers]
    have hn : ¬ (x.f0 = s.f0 ∧ x.f1 ≤ s.f1 ∧ s.f2 ≤ x.f2) → busbarref12_Covers.l0 k (pre ++ x :: rest) (wrap64 ((pre.length : Int) + 1)) s.f0 s.f1 s.f2 = some (decide (Covers (x :: rest) s)) := by
      intro h
      rw [nxt pre x (by omega)]
      refine Eq.trans ih ?_
      congr 1
      rw [decide_eq_decide, hc]
      exact ⟨.inr, fun k => k.resolve_left h⟩
    rw [busbarref12_Covers.l0, if_pos (pos pre rest x), if_pos (by omega), rdS]
    by_cases h1 : x.f0 = s.f0
    · rw [if_pos h1]
      by_cases h2 : x.f1 ≤ s.f1
      · rw [if_pos h2]
        by_cases h3 : s.f2 ≤ x.f2
        · rw [if_pos h3, decide_eq_true (hc.2 (.inl ⟨h1, h2, h3⟩))]
        · rw [if_neg h3, hn (fun h => h3 h.2.2)]
      · rw [if_neg h2, hn (fun h => h2 h.2.1)]
    · rw [if_neg h1, hn (fun h => h1 h.1)]
theorem refcovers_eq (l : List S) (s : S) (hl : l.length ≤ 100000) {k : Nat} (hk : l.length < k) : busbarref12_Covers.f k l s.f0 s.f1 s.f2 = some (decide (Covers l s)) := refcovers_loop s l [] k (by simpa using hl) hk
end Go.Proofs.Ytmbkbpaoiilicaa.LemSpanFqGroupC
