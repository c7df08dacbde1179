/- Canonical lists are told so; lists are the same as themselves; addresses and spans (group SpanL). -/
import Derived.Test.YtkioalfallhegaaLemSpanFoSpanL
import Derived.Test.YtkioalfallhegaaPSpanLx0
import Derived.Test.YtkioalfallhegaaPSpanLx15
import Derived.Test.YtkioalfallhegaaPSpanLx8
set_option linter.unusedVariables false
set_option linter.unusedSimpArgs false
namespace Go.Proofs.Ytkioalfallhegaa.LemSpanFpSpanL
open Go.RowKit Go.Proofs.Ytkioalfallhegaa.PSpanL Go.Proofs.YtkioalfallhegaaW.PrintWords Go.Proofs.YtkioalfallhegaaW.PrintLast Go.Proofs.YtkioalfallhegaaW.PrintMore Go.Proofs.Ytkioalfallhegaa.Num Go.Proofs.Ytkioalfallhegaa.LemSpanSpanL Go.Proofs.Ytkioalfallhegaa.LemWithinSpanL Go.Proofs.Ytkioalfallhegaa.LemSpanFnSpanL Go.Proofs.Ytkioalfallhegaa.LemSpanFmSpanL Go.Proofs.Ytkioalfallhegaa.LemSpanFoSpanL

theorem canon_loop : ∀ (rest q : List S) (y : S) (k : Nat), (∀ x ∈ rest, Ah y x) → Cn rest → q.length + rest.length ≤ 100000 → rest.length < k →
    span_Canon.l0 k (q ++ y :: rest) (q ++ y :: rest) ((q ++ y :: rest).length : Int) ((q ++ [y]).length : Int) = some true
  | [], q, y, k, _, _, _, hk => by
    obtain ⟨k, rfl⟩ : ∃ m, k = m + 1 := ⟨k - 1, by omega⟩
    rw [span_Canon.l0, if_neg (by omega)]
  | x :: rest, q, y, k, ha, hc, hl, hk => by
    rw [List.length_cons] at hl hk
    obtain ⟨k, rfl⟩ : ∃ m, k = m + 1 := ⟨k - 1, by omega⟩
    have ih := canon_loop rest (q ++ [y]) x k hc.2.1 hc.2.2 (by simp; omega) (by omega)
    have e : q ++ [y] ++ x :: rest = q ++ y :: x :: rest := by rw [List.append_assoc]; rfl
    rw [e] at ih
    have hq : (q ++ [y]).length = q.length + 1 := by rw [List.length_append]; rfl
    have hlen : ((q ++ y :: x :: rest).length : Int) = q.length + 1 + (rest.length + 1) := by rw [List.length_append, List.length_cons, List.length_cons]; omega
    have hr1 : rd_T47 (q ++ y :: x :: rest) ((q ++ [y]).length : Int) = x := by rw [← e]; exact rdS (q ++ [y]) x rest
    have hr0 : rd_T47 (q ++ y :: x :: rest) (q.length : Int) = y := rdS q y (x :: rest)
    have hw : wrap64 (((q ++ [y]).length : Int) - 1) = (q.length : Int) := by rw [hq, wrap64_id (by omega) (by omega)]; omega
    have hn : wrap64 (((q ++ [y]).length : Int) + 1) = ((q ++ [y] ++ [x]).length : Int) := nxt (q ++ [y]) x (by omega)
    rw [span_Canon.l0, if_pos (by omega), if_pos (by omega), if_pos (by omega), hr1, right_eq, Option.bind_some, decide_eq_true hc.1, if_pos rfl, if_pos (by omega), hw, if_pos (by omega), if_pos (by omega), hr0, ahead_eq, Option.bind_some, decide_eq_true (ha x (by simp)), if_pos rfl, hn]
    exact ih
theorem canon_true (l : List S) (hc : Cn l) (hl : l.length ≤ 100000) {k : Nat} (hk : l.length < k) : span_Canon.f k l = some true := by
  unfold span_Canon.f
  obtain ⟨k, rfl⟩ : ∃ m, k = m + 1 := ⟨k - 1, by omega⟩
  match l, hc, hl, hk with
  | [], _, _, _ => rw [span_Canon.l0]; rfl
  | x :: rest, hc, hl, hk =>
    rw [List.length_cons] at hl hk
    have h := canon_loop rest [] x k hc.2.1 hc.2.2 (by simp; omega) (by omega)
    have hr : rd_T47 (x :: rest) 0 = x := rdS [] x rest
    rw [span_Canon.l0, if_pos (by rw [List.length_cons]; omega), if_pos (by omega), if_pos (by rw [List.length_cons]; omega), hr, right_eq, Option.bind_some, decide_eq_true hc.1, if_pos rfl, if_neg (by omega), wrap64_id (by omega) (by omega)]
    exact h
theorem same_loop : ∀ (rest pre : List S) (k : Nat), pre.length + rest.length ≤ 100000 → rest.length < k → busbarlaw0_SameSpans.l0 k (pre ++ rest) (pre ++ rest) (pre.length : Int) = some true
  | [], pre, k, hp, hk => by
    obtain ⟨k, rfl⟩ : ∃ m, k = m + 1 := ⟨k - 1, by omega⟩
    rw [List.append_nil, busbarlaw0_SameSpans.l0, if_neg (by omega)]
  | x :: rest, pre, k, hp, hk => by
    rw [List.length_cons] at hp hk
    obtain ⟨k, rfl⟩ : ∃ m, k = m + 1 := ⟨k - 1, by omega⟩
    have ih := same_loop rest (pre ++ [x]) k (by simp; omega) (by omega)
    rw [List.append_assoc pre] at ih
    rw [busbarlaw0_SameSpans.l0, if_pos (pos pre rest x), if_pos (by omega), if_pos (pos pre rest x), rdS, beq_self_eq_true, beq_self_eq_true, beq_self_eq_true, if_neg (by decide), nxt pre x (by omega)]
    exact ih
theorem same_refl (l : List S) (hl : l.length ≤ 100000) {k : Nat} (hk : l.length < k) : busbarlaw0_SameSpans.f k l l = some true := by
  unfold busbarlaw0_SameSpans.f
  rw [if_pos rfl]
  exact same_loop l [] k (by simpa using hl) hk
theorem can_pair : ∀ {l : List S}, Cn l → ∀ x ∈ l, ∀ y ∈ l, x = y ∨ Ah x y ∨ Ah y x
  | z :: l, hc, x, hx, y, hy => by
    rcases List.mem_cons.1 hx with ex | hx'
    · rcases List.mem_cons.1 hy with ey | hy'
      · exact .inl (ex.trans ey.symm)
      · rw [ex]; exact .inr (.inl (hc.2.1 y hy'))
    · rcases List.mem_cons.1 hy with ey | hy'
      · rw [ey]; exact .inr (.inr (hc.2.1 x hx'))
      · exact can_pair hc.2.2 x hx' y hy'
/-- All of s's addresses are in a canonical list: one of its spans has them. -/
theorem covers_of_has {l : List S} {s : S} (hc : Cn l) (hs : Rt s) (h : ∀ t p, In s t p → Has l t p) : Covers l s := by
  obtain ⟨x, hx, h1⟩ := h s.f0 s.f1 (by unfold In; unfold Rt at hs; omega)
  unfold In at h1
  refine ⟨x, hx, h1.1, h1.2.1, ?_⟩
  by_cases hlt : x.f2 < s.f2
  · exfalso
    obtain ⟨y, hy, h2⟩ := h s.f0 x.f2 (by unfold In; omega)
    unfold In at h2
    rcases can_pair hc x hx y hy with rfl | h3 | h3
    · omega
    · unfold Ah at h3; omega
    · have hx' := can_rt hc x hx
      unfold Ah at h3; unfold Rt at hx'; omega
  · omega
theorem has_of_covers {l : List S} {s : S} (h : Covers l s) (t p : Int) (hi : In s t p) : Has l t p := by
  obtain ⟨x, hx, h1⟩ := h
  exact ⟨x, hx, by unfold In at *; omega⟩
theorem meets_iff {l : List S} {s : S} (hc : Cn l) (hs : Rt s) : Meets l s ↔ ∃ t p, In s t p ∧ Has l t p := by
  constructor
  · rintro ⟨x, hx, h⟩
    have hx' := can_rt hc x hx
    unfold Rt at hx' hs
    by_cases hm : x.f1 ≤ s.f1
    · exact ⟨s.f0, s.f1, by unfold In; omega, x, hx, by unfold In; omega⟩
    · exact ⟨s.f0, x.f1, by unfold In; omega, x, hx, by unfold In; omega⟩
  · rintro ⟨t, p, h1, x, hx, h2⟩
    exact ⟨x, hx, by unfold In at *; omega⟩
end Go.Proofs.Ytkioalfallhegaa.LemSpanFpSpanL
