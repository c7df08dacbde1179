/- What is added and what is taken away change how many addresses there are by just as many as were new, or were there: for every list and span by numbers. -/
import Derived.Test.YtkioalfallhegaaPSpanx0
import Derived.Test.YtkioalfallhegaaPSpanx25
import Derived.Test.YtkioalfallhegaaPSpanx28
import Derived.Test.YtkioalfallhegaaLemSpanFoSpan
namespace Go.Proofs.Ytkioalfallhegaa.Pure
open Go.RowKit Go.Proofs.Ytkioalfallhegaa.PSpan Go.Proofs.YtkioalfallhegaaW.PrintWords Go.Proofs.YtkioalfallhegaaW.PrintLast Go.Proofs.Ytkioalfallhegaa.Num Go.Proofs.Ytkioalfallhegaa.LemSpanSpan Go.Proofs.Ytkioalfallhegaa.LemSpanFnSpan Go.Proofs.Ytkioalfallhegaa.LemSpanFmSpan Go.Proofs.Ytkioalfallhegaa.LemSpanFoSpan

theorem SpanSizes : busbarlaw12_SpanSizes.Pure := by
  intro ks n hm _ hk hn
  have hks : ∀ x ∈ ks, -9223372036854775808 ≤ x ∧ x < 9223372036854775808 := fun x hx => wf_i64 (hk x hx)
  refine ⟨200, ?_⟩
  have hc := spans_can ks
  have hl := spans_len ks
  have hr := span_rt n
  have ha := add_length (spansOf ks) (spanOf n)
  have hcl := cut_length (spansOf ks) (spanOf n)
  have hac := add_can _ _ hc hr
  have hcc := cut_can _ _ hc hr
  have s1 := size_add _ _ hc hr
  have s2 := size_cut _ _ hc hr
  have s3 := inter_nonneg _ _ hc hr
  have s4 := inter_covers _ _ hc hr
  have s5 := inter_meets _ _ hc hr
  have s6 := size_bound _ hac
  have s7 := size_bound _ hcc
  have s8 := (inter_le _ _ 0 hc hr (fun x hx _ => by have := can_rt hc x hx; unfold Rt at this; omega) (by unfold Rt at hr; omega)).1
  have hrr := hr
  unfold Rt at hrr
  have hm0 : mx 0 (spanOf n).f1 = (spanOf n).f1 := by unfold mx; split <;> omega
  rw [hm0] at s8
  unfold busbarlaw12_SpanSizes.f
  rw [awake_ev (by omega), Option.bind_some, if_pos rfl, spans_eq ks hks (by unfold maxLen at hm; omega) (by omega), Option.bind_some, span_eq n (wf_i64 hn), Option.bind_some]
  dsimp only
  rw [add_s _ _ hc hr (by omega) (by omega), Option.bind_some, size_eq _ hac (by omega) (by omega), Option.bind_some, cut_eq _ _ hc hr (by omega) (by omega), Option.bind_some, size_eq _ hcc (by omega) (by omega), Option.bind_some, size_eq _ hc (by omega) (by omega), Option.bind_some]
  have h1 : span_Size.f 200 [(⟨(spanOf n).f0, (spanOf n).f1, (spanOf n).f2⟩ : S47)] = some ((spanOf n).f2 - (spanOf n).f1) := by
    have h := size_eq [spanOf n] (show Cn [spanOf n] from ⟨hr, by simp, trivial⟩) (by simp) (k := 200) (by simp)
    simpa [size] using h
  rw [h1, Option.bind_some, wrap64_id (x := (spanOf n).f2 - (spanOf n).f1) (by omega) (by omega), if_pos rfl, wrap64_id (by omega) (by omega), if_pos (by omega), if_pos (by omega), if_pos (by omega)]
  rw [covers_eq _ _ hr (by omega) (by omega), Option.bind_some]
  have e1 : ((size (spansOf ks) == size (add (spansOf ks) (spanOf n))) == decide (Covers (spansOf ks) (spanOf n))) = true := by
    by_cases h : Covers (spansOf ks) (spanOf n)
    · have := s4.2 h
      rw [decide_eq_true h, beq_iff_eq, beq_iff_eq]; omega
    · have : ¬ inter (spansOf ks) (spanOf n) = (spanOf n).f2 - (spanOf n).f1 := fun k => h (s4.1 k)
      rw [decide_eq_false h, beq_iff_eq, beq_eq_false_iff_ne]; omega
  have e2 : ((size (spansOf ks) == size (cut (spansOf ks) (spanOf n))) == !decide (Meets (spansOf ks) (spanOf n))) = true := by
    by_cases h : Meets (spansOf ks) (spanOf n)
    · have : ¬ inter (spansOf ks) (spanOf n) = 0 := fun k => s5.1 k h
      rw [decide_eq_true h, Bool.not_true, beq_iff_eq, beq_eq_false_iff_ne]; omega
    · have := s5.2 h
      rw [decide_eq_false h, Bool.not_false, beq_iff_eq, beq_iff_eq]; omega
  rw [e1, if_pos rfl, meets_eq _ _ hc hr (by omega) (by omega), Option.bind_some, e2]
end Go.Proofs.Ytkioalfallhegaa.Pure
