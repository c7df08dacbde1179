/- A key is in what was added just if it was there ahead, or is in what was added; in what was taken away just if it was there ahead, and is not: for all numbers. -/
import Derived.Test.YtkioalfallhegaaPSpanx0
import Derived.Test.YtkioalfallhegaaPSpanx22
import Derived.Test.YtkioalfallhegaaPSpanx23
import Derived.Test.YtkioalfallhegaaPSpanx24
import Derived.Test.YtkioalfallhegaaLemSpanFpSpan
namespace Go.Proofs.Ytkioalfallhegaa.Pure
open Go.RowKit Go.Proofs.Ytkioalfallhegaa.PSpan Go.Proofs.YtkioalfallhegaaW.PrintWords Go.Proofs.YtkioalfallhegaaW.PrintLast Go.Proofs.Ytkioalfallhegaa.Num Go.Proofs.Ytkioalfallhegaa.LemSpanSpan Go.Proofs.Ytkioalfallhegaa.LemWithinSpan Go.Proofs.Ytkioalfallhegaa.LemSpanFnSpan Go.Proofs.Ytkioalfallhegaa.LemSpanFmSpan Go.Proofs.Ytkioalfallhegaa.LemSpanFoSpan Go.Proofs.Ytkioalfallhegaa.LemSpanFpSpan

theorem points (l : List S) (s : S) (t p : Int) (hc : Cn l) (hr : Rt s) (hl : l.length ≤ 100) (k : Nat) (hk : 300 ≤ k) : busbarlaw12_SpanPoints.j0 k l s.f0 s.f1 s.f2 t p = some true := by
  obtain ⟨k, rfl⟩ : ∃ m, k = m + 1 := ⟨k - 1, by omega⟩
  have ha := add_length l s
  have hcl := cut_length l s
  have h1 : span_Has.f k [(⟨s.f0, s.f1, s.f2⟩ : S47)] t p = some (decide (In s t p)) := by
    rw [has_eq _ t p (by simp) (by simp; omega)]
    congr 1
    rw [decide_eq_decide, has_cons]
    exact ⟨fun h => h.resolve_right (has_nil t p), .inl⟩
  have e1 := add_has t p l s hc hr
  have e2 := cut_has t p l s hc hr
  rw [busbarlaw12_SpanPoints.j0, has_eq l t p (by omega) (by omega), Option.bind_some, h1, Option.bind_some, add_s l s hc hr (by omega) (by omega), Option.bind_some, has_eq _ t p (by omega) (by omega), Option.bind_some]
  by_cases hh : Has l t p
  · rw [decide_eq_true hh, if_pos rfl, decide_eq_true (e1.2 (.inl hh)), beq_self_eq_true, if_pos rfl, cut_eq l s hc hr (by omega) (by omega), Option.bind_some, has_eq _ t p (by omega) (by omega), Option.bind_some]
    by_cases hi : In s t p
    · rw [decide_eq_true hi, decide_eq_false (fun h => (e2.1 h).2 hi)]; rfl
    · rw [decide_eq_false hi, decide_eq_true (e2.2 ⟨hh, hi⟩)]; rfl
  · rw [decide_eq_false hh, if_neg (by decide)]
    have e3 : decide (Has (add l s) t p) = decide (In s t p) := by
      rw [decide_eq_decide, e1]
      exact ⟨fun h => h.resolve_left hh, .inr⟩
    rw [e3, beq_self_eq_true, if_pos rfl, cut_eq l s hc hr (by omega) (by omega), Option.bind_some, has_eq _ t p (by omega) (by omega), Option.bind_some, decide_eq_false (fun h => hh (e2.1 h).1)]
    rfl
theorem SpanPoints : busbarlaw12_SpanPoints.Pure := by
  intro ks n at' hm _ hk hn hat
  have hks : ∀ x ∈ ks, -9223372036854775808 ≤ x ∧ x < 9223372036854775808 := fun x hx => wf_i64 (hk x hx)
  have hn' := wf_i64 hn
  have ha' := wf_i64 hat
  refine ⟨400, ?_⟩
  have hc := spans_can ks
  have hl := spans_len ks
  have hr := span_rt n
  have g1 := Int.emod_nonneg (Int.tdiv at' 4) (show (16 : Int) ≠ 0 by omega)
  have g2 := Int.emod_lt_of_pos (Int.tdiv at' 4) (show (0 : Int) < 16 by omega)
  unfold busbarlaw12_SpanPoints.f
  rw [awake_ev (by omega), Option.bind_some, if_pos rfl, spans_eq ks hks (by unfold maxLen at hm; omega) (by omega), Option.bind_some, span_eq n hn', Option.bind_some]
  have hkey : ∃ r, busbarlaw0_Key.f at' = some r := by
    unfold busbarlaw0_Key.f
    rw [within_eq at' 4 (by omega) (by omega), Option.bind_some, digit_eq at' 4 16 ha' (by omega) (by omega) (by omega), Option.bind_some, digit_eq at' 64 16 ha' (by omega) (by omega) (by omega), Option.bind_some]
    split <;> exact ⟨_, rfl⟩
  obtain ⟨r, hkey⟩ := hkey
  rw [hkey, Option.bind_some, digit_eq at' 1024 2 ha' (by omega) (by omega) (by omega), Option.bind_some]
  dsimp only
  split
  · rw [digit_eq at' 2048 4 ha' (by omega) (by omega) (by omega), Option.bind_some]
    exact points _ _ _ _ hc hr (by omega) _ (by omega)
  · exact points _ _ _ _ hc hr (by omega) _ (by omega)
end Go.Proofs.Ytkioalfallhegaa.Pure
