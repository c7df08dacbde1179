/- What is asked of rows, the program and the document say the same: for all numbers and all keys. -/
import Derived.Test.YtkioalfallhegaaPSpanx0
import Derived.Test.YtkioalfallhegaaPSpanx22
import Derived.Test.YtkioalfallhegaaPSpanx34
import Derived.Test.YtkioalfallhegaaLemAsks
set_option linter.unusedVariables false
namespace Go.Proofs.Ytkioalfallhegaa.Pure
open Go.RowKit Go.Proofs.Ytkioalfallhegaa.PSpan Go.Proofs.YtkioalfallhegaaW.PrintWords Go.Proofs.YtkioalfallhegaaW.PrintLast Go.Proofs.YtkioalfallhegaaW.PrintMore Go.Proofs.Ytkioalfallhegaa.Num Go.Proofs.Ytkioalfallhegaa.LemAwakeSpan Go.Proofs.Ytkioalfallhegaa.LemSpanSpan Go.Proofs.Ytkioalfallhegaa.LemWithinSpan Go.Proofs.Ytkioalfallhegaa.LemSpanFnSpan Go.Proofs.Ytkioalfallhegaa.LemSpanFmSpan Go.Proofs.Ytkioalfallhegaa.LemSpanFoSpan Go.Proofs.Ytkioalfallhegaa.LemSpanFqSpan

theorem key_some (n : Int) (hn : -9223372036854775808 ≤ n ∧ n < 9223372036854775808) : ∃ t p, busbarlaw0_Key.f n = some (t, p) := by
  unfold busbarlaw0_Key.f
  rw [within_eq n 4 (by omega) (by omega), Option.bind_some, digit_eq n 4 16 hn (by omega) (by omega) (by omega), Option.bind_some, digit_eq n 64 16 hn (by omega) (by omega) (by omega), Option.bind_some]
  split
  · exact ⟨_, _, rfl⟩
  · exact ⟨_, _, rfl⟩
theorem asks (l : List S) (s : S) (t p : Int) (hc : Cn l) (hs : Rt s) (hl : l.length ≤ 100) {k : Nat} (hk : 200 ≤ k) : busbarlaw12_SpanAsks.j0 k l t p s.f0 s.f1 s.f2 = some true := by
  obtain ⟨k, rfl⟩ : ∃ m, k = m + 1 := ⟨k - 1, by omega⟩
  rw [busbarlaw12_SpanAsks.j0, has_eq l t p (by omega) (by omega), Option.bind_some, refhas_eq l t p (by omega) (by omega), Option.bind_some, beq_self_eq_true, if_pos rfl]
  rw [covers_eq l s hs (by omega) (by omega), Option.bind_some, refcovers_eq l s (by omega) (by omega), Option.bind_some, beq_self_eq_true, if_pos rfl]
  rw [meets_eq l s hc hs (by omega) (by omega), Option.bind_some, refmeets_eq l s (by omega) (by omega), Option.bind_some, beq_self_eq_true, if_pos rfl]
  rw [size_eq l hc (by omega) (by omega), Option.bind_some, refsize_eq l hc (by omega) (by omega), Option.bind_some, beq_self_eq_true]
theorem SpanAsks : busbarlaw12_SpanAsks.Pure := by
  intro ks n a b near hm _ hk hn _ hb
  have hks : ∀ x ∈ ks, -9223372036854775808 ≤ x ∧ x < 9223372036854775808 := fun x hx => wf_i64 (hk x hx)
  refine ⟨500, ?_⟩
  have hc := spans_can ks
  have hl := spans_len ks
  unfold busbarlaw12_SpanAsks.f
  rw [awake_ev (by omega), Option.bind_some, if_pos rfl, spans_eq ks hks (by unfold maxLen at hm; omega) (by omega), Option.bind_some, span_eq n (wf_i64 hn), Option.bind_some]
  dsimp only
  by_cases h : near = true
  · rw [if_pos h]
    obtain ⟨t, p, e⟩ := key_some b (wf_i64 hb)
    rw [e, Option.bind_some]
    exact asks _ _ _ _ hc (span_rt n) (by omega) (by omega)
  · rw [if_neg h]
    exact asks _ _ _ _ hc (span_rt n) (by omega) (by omega)
end Go.Proofs.Ytkioalfallhegaa.Pure
