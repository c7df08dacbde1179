/- To any canonical list any right span is added, and taken away, as the document says; what is lent stays: for all numbers. -/
import Derived.Test.YtkioalfallhegaaLemPlanSpanL
import Derived.Test.YtkioalfallhegaaLemSpanFpSpanL
import Derived.Test.YtkioalfallhegaaLemLentSSpanL
import Derived.Test.YtkioalfallhegaaLemAwakeSpanL
import Derived.Test.YtkioalfallhegaaPSpanLx0
import Derived.Test.YtkioalfallhegaaPSpanLx17
namespace Go.Proofs.Ytkioalfallhegaa.Pure
open Go.RowKit Go.Proofs.Ytkioalfallhegaa.PSpanL Go.Proofs.YtkioalfallhegaaW.PrintWords Go.Proofs.YtkioalfallhegaaW.PrintLast Go.Proofs.Ytkioalfallhegaa.Num Go.Proofs.Ytkioalfallhegaa.LemSpanSpanL Go.Proofs.Ytkioalfallhegaa.LemSpanFnSpanL Go.Proofs.Ytkioalfallhegaa.LemSpanFmSpanL Go.Proofs.Ytkioalfallhegaa.LemSpanFoSpanL Go.Proofs.Ytkioalfallhegaa.LemSpanFpSpanL Go.Proofs.Ytkioalfallhegaa.LemPlanSpanL Go.Proofs.Ytkioalfallhegaa.LemLentSSpanL

theorem SpanAdds : busbarlaw12_SpanAdds.Pure := by
  intro ks n hm _ hk hn
  have hks : ∀ x ∈ ks, -9223372036854775808 ≤ x ∧ x < 9223372036854775808 := fun x hx => wf_i64 (hk x hx)
  refine ⟨200, ?_⟩
  have hc := spans_can ks
  have hl := spans_len ks
  have hr := span_rt n
  have ha := add_length (spansOf ks) (spanOf n)
  have hcl := cut_length (spansOf ks) (spanOf n)
  have hac := add_can _ _ hc hr
  have hcc := cut_can _ _ hc hr
  unfold busbarlaw12_SpanAdds.f
  rw [LemAwakeSpanL.awake_ev (by omega), Option.bind_some, if_pos rfl, spans_eq ks hks (by unfold maxLen at hm; omega) (by omega), Option.bind_some, span_eq n (wf_i64 hn), Option.bind_some]
  dsimp only
  rw [lent_eq _ (by omega) (by omega), Option.bind_some, add_s _ _ hc hr (by omega) (by omega), Option.bind_some, cut_eq _ _ hc hr (by omega) (by omega), Option.bind_some, refadd_s _ _ hc hr (by omega) (by omega), Option.bind_some,
    same_refl _ (by omega) (by omega), Option.bind_some, if_pos rfl, refcut_eq _ _ hc hr (by omega) (by omega), Option.bind_some, same_refl _ (by omega) (by omega), Option.bind_some, if_pos rfl, stays_eq _ (by omega) (by omega), Option.bind_some, if_pos rfl,
    canon_true _ hac (by omega) (by omega), Option.bind_some, if_pos rfl, canon_true _ hcc (by omega) (by omega), Option.bind_some]
end Go.Proofs.Ytkioalfallhegaa.Pure
