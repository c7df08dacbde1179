/- In whatever order spans are added, and however often, the list is the same; what was added and taken away again leaves what was there and is not in it: for all numbers. -/
import Derived.Test.YtkioalfallhegaaPSpanx0
import Derived.Test.YtkioalfallhegaaPSpanx11
import Derived.Test.YtkioalfallhegaaPSpanx19
import Derived.Test.YtkioalfallhegaaPSpanx29
import Derived.Test.YtkioalfallhegaaLemSpanFpSpan
set_option linter.unusedVariables false
namespace Go.Proofs.Ytkioalfallhegaa.Pure
open Go.RowKit Go.Proofs.Ytkioalfallhegaa.PSpan Go.Proofs.YtkioalfallhegaaW.PrintWords Go.Proofs.YtkioalfallhegaaW.PrintLast Go.Proofs.Ytkioalfallhegaa.Num Go.Proofs.Ytkioalfallhegaa.LemSpanSpan Go.Proofs.Ytkioalfallhegaa.LemWithinSpan Go.Proofs.Ytkioalfallhegaa.LemSpanFnSpan Go.Proofs.Ytkioalfallhegaa.LemSpanFmSpan Go.Proofs.Ytkioalfallhegaa.LemSpanFoSpan Go.Proofs.Ytkioalfallhegaa.LemSpanFpSpan

def I64 (ks : List Int) : Prop := ∀ x ∈ ks, -9223372036854775808 ≤ x ∧ x < 9223372036854775808
def All (ks : List Int) (t p : Int) : Prop := ∃ x ∈ ks, In (spanOf x) t p
def Sub (ks : List Int) (b : List S) : Prop := Cn b ∧ ∀ t p, Has b t p → All ks t p
theorem sub_add {ks : List Int} {b : List S} (h : Sub ks b) (i : Nat) (hi : i < ks.length) : Sub ks (add b (spanOf ks[i])) :=
  ⟨add_can _ _ h.1 (span_rt _), fun t p k => by
    rcases (add_has t p _ _ h.1 (span_rt _)).1 k with k | k
    · exact h.2 t p k
    · exact ⟨ks[i], List.getElem_mem _, k⟩⟩
theorem once0 (ks : List Int) (turn : Int) (hk : I64 ks) (h12 : ks.length ≤ 12) (R : List S → Nat → Prop) (hR : ∀ a k, Sub ks a → (∀ t p, All ks t p → Has a t p) → a.length ≤ 12 → 120 ≤ k → busbarlaw12_SpanOnce.l1 k ks turn a [] 0 = some true) :
    ∀ (d i k : Nat) (a : List S), i + d = ks.length → Sub ks a → (∀ j (hj : j < i) (hj2 : j < ks.length) t p, In (spanOf ks[j]) t p → Has a t p) → a.length ≤ i → d + 122 ≤ k → busbarlaw12_SpanOnce.l0 k ks turn a (i : Int) = some true
  | 0, i, k, a, hi, hs, hj, hl, hk' => by
    obtain ⟨k, rfl⟩ : ∃ m, k = m + 1 := ⟨k - 1, by omega⟩
    rw [busbarlaw12_SpanOnce.l0, if_neg (by omega)]
    refine hR a k hs (fun t p h => ?_) (by omega) (by omega)
    obtain ⟨x, hx, h⟩ := h
    obtain ⟨j, hj', rfl⟩ := List.mem_iff_getElem.1 hx
    exact hj j (by omega) hj' t p h
  | d + 1, i, k, a, hi, hs, hj, hl, hk' => by
    obtain ⟨k, rfl⟩ : ∃ m, k = m + 1 := ⟨k - 1, by omega⟩
    have hil : i < ks.length := by omega
    have hx := hk ks[i] (List.getElem_mem _)
    have hal := add_length a (spanOf ks[i])
    rw [busbarlaw12_SpanOnce.l0, if_pos (by omega), if_pos (by omega), rd_get ks i hil, span_eq _ hx, Option.bind_some]
    dsimp only
    rw [add_s _ _ hs.1 (span_rt _) (by omega) (by omega), Option.bind_some, wrap64_id (by omega) (by omega), show ((i : Int) + 1) = ((i + 1 : Nat) : Int) by omega]
    refine once0 ks turn hk h12 R hR d (i + 1) k _ (by omega) (sub_add hs i hil) (fun j hj1 hj2 t p h => ?_) (by omega) (by omega)
    rw [add_has t p _ _ hs.1 (span_rt _)]
    by_cases e : j = i
    · subst e; exact .inr h
    · exact .inl (hj j (by omega) hj2 t p h)
theorem once1 (ks : List Int) (turn : Int) (a : List S) (hk : I64 ks) (h12 : ks.length ≤ 12) (hR : ∀ b k, Sub ks b → b.length ≤ 24 → 80 ≤ k → busbarlaw12_SpanOnce.l2 k ks a b 0 = some true) :
    ∀ (d i k : Nat) (b : List S), i + d = 2 * ks.length → Sub ks b → b.length ≤ i → d + 82 ≤ k → busbarlaw12_SpanOnce.l1 k ks turn a b (i : Int) = some true
  | 0, i, k, b, hi, hs, hl, hk' => by
    obtain ⟨k, rfl⟩ : ∃ m, k = m + 1 := ⟨k - 1, by omega⟩
    rw [busbarlaw12_SpanOnce.l1, wrap64_id (by omega) (by omega), if_neg (by omega)]
    exact hR b k hs (by omega) (by omega)
  | d + 1, i, k, b, hi, hs, hl, hk' => by
    obtain ⟨k, rfl⟩ : ∃ m, k = m + 1 := ⟨k - 1, by omega⟩
    have h0 := Int.emod_nonneg turn (show (12 : Int) ≠ 0 by omega)
    have h1 := Int.emod_lt_of_pos turn (show (0 : Int) < 12 by omega)
    rw [busbarlaw12_SpanOnce.l1, wrap64_id (x := 2 * (ks.length : Int)) (by omega) (by omega), if_pos (by omega), within_eq turn 12 (by omega) (by omega), Option.bind_some, wrap64_id (x := 5 * (i : Int)) (by omega) (by omega), wrap64_id (x := turn % 12 + 5 * (i : Int)) (by omega) (by omega), within_eq _ (ks.length : Int) (by omega) (by omega), Option.bind_some]
    have h2 := Int.emod_nonneg (turn % 12 + 5 * (i : Int)) (show (ks.length : Int) ≠ 0 by omega)
    have h3 := Int.emod_lt_of_pos (turn % 12 + 5 * (i : Int)) (show (0 : Int) < (ks.length : Int) by omega)
    obtain ⟨q, hq⟩ := Int.eq_ofNat_of_zero_le h2
    rw [hq] at h3 ⊢
    have hql : q < ks.length := by omega
    have hx := hk ks[q] (List.getElem_mem _)
    have hal := add_length b (spanOf ks[q])
    rw [if_pos (by omega), if_pos (by omega), rd_get ks q hql, span_eq _ hx, Option.bind_some]
    dsimp only
    rw [add_s _ _ hs.1 (span_rt _) (by omega) (by omega), Option.bind_some, wrap64_id (by omega) (by omega), show ((i : Int) + 1) = ((i + 1 : Nat) : Int) by omega]
    exact once1 ks turn a hk h12 hR d (i + 1) k _ (by omega) (sub_add hs q hql) (by omega) (by omega)
theorem once2 (ks : List Int) (a : List S) (hk : I64 ks) (h12 : ks.length ≤ 12) (hR : ∀ b k, Sub ks b → (∀ t p, All ks t p → Has b t p) → b.length ≤ 36 → 50 ≤ k → ((busbarlaw0_SameSpans.f k a b).bind fun t346 => (if t346 = true then ((span_Canon.f k a).bind fun t347 => (busbarlaw12_SpanOnce.j4 k ks a (!t347))) else (busbarlaw12_SpanOnce.j4 k ks a true))) = some true) :
    ∀ (d i k : Nat) (b : List S), i + d = ks.length → Sub ks b → (∀ j (hj : ks.length - i ≤ j) (hj2 : j < ks.length) t p, In (spanOf ks[j]) t p → Has b t p) → b.length ≤ 24 + i → d + 52 ≤ k → busbarlaw12_SpanOnce.l2 k ks a b (i : Int) = some true
  | 0, i, k, b, hi, hs, hj, hl, hk' => by
    obtain ⟨k, rfl⟩ : ∃ m, k = m + 1 := ⟨k - 1, by omega⟩
    rw [busbarlaw12_SpanOnce.l2, if_neg (by omega)]
    refine hR b k hs (fun t p h => ?_) (by omega) (by omega)
    obtain ⟨x, hx, h⟩ := h
    obtain ⟨j, hj', rfl⟩ := List.mem_iff_getElem.1 hx
    exact hj j (by omega) hj' t p h
  | d + 1, i, k, b, hi, hs, hj, hl, hk' => by
    obtain ⟨k, rfl⟩ : ∃ m, k = m + 1 := ⟨k - 1, by omega⟩
    have hq : wrap64 (wrap64 ((ks.length : Int) - 1) - (i : Int)) = ((ks.length - 1 - i : Nat) : Int) := by
      rw [wrap64_id (x := (ks.length : Int) - 1) (by omega) (by omega), wrap64_id (by omega) (by omega)]; omega
    have hql : ks.length - 1 - i < ks.length := by omega
    have hx := hk ks[ks.length - 1 - i] (List.getElem_mem _)
    have hal := add_length b (spanOf ks[ks.length - 1 - i])
    rw [busbarlaw12_SpanOnce.l2, if_pos (by omega), hq, if_pos (by omega), if_pos (by omega), rd_get ks _ hql, span_eq _ hx, Option.bind_some]
    dsimp only
    rw [add_s _ _ hs.1 (span_rt _) (by omega) (by omega), Option.bind_some, wrap64_id (by omega) (by omega), show ((i : Int) + 1) = ((i + 1 : Nat) : Int) by omega]
    refine once2 ks a hk h12 hR d (i + 1) k _ (by omega) (sub_add hs _ hql) (fun j hj1 hj2 t p h => ?_) (by omega) (by omega)
    rw [add_has t p _ _ hs.1 (span_rt _)]
    by_cases e : j = ks.length - 1 - i
    · subst e; exact .inr h
    · exact .inl (hj j (by omega) hj2 t p h)
theorem once3 (ks : List Int) (a : List S) (hk : I64 ks) (h12 : ks.length ≤ 12) (hc : Cn a) (hl : a.length ≤ 12) (ha : ∀ t p, Has a t p ↔ All ks t p) :
    ∀ (d i k : Nat), i + d = ks.length → d + 30 ≤ k → busbarlaw12_SpanOnce.l3 k ks a (i : Int) = some true
  | 0, i, k, hi, hk' => by
    obtain ⟨k, rfl⟩ : ∃ m, k = m + 1 := ⟨k - 1, by omega⟩
    rw [busbarlaw12_SpanOnce.l3, if_neg (by omega)]
  | d + 1, i, k, hi, hk' => by
    obtain ⟨k, rfl⟩ : ∃ m, k = m + 1 := ⟨k - 1, by omega⟩
    have hil : i < ks.length := by omega
    have hx := hk ks[i] (List.getElem_mem _)
    have hr := span_rt ks[i]
    have hin : ∀ t p, In (spanOf ks[i]) t p → Has a t p := fun t p h => (ha t p).2 ⟨ks[i], List.getElem_mem _, h⟩
    have hcov : Covers a (spanOf ks[i]) := covers_of_has hc hr hin
    have hmeet : Meets a (spanOf ks[i]) := by
      have h0 : In (spanOf ks[i]) (spanOf ks[i]).f0 (spanOf ks[i]).f1 := by unfold In; unfold Rt at hr; omega
      exact (meets_iff hc hr).2 ⟨_, _, h0, hin _ _ h0⟩
    have hcc := cut_can a (spanOf ks[i]) hc hr
    have hcl := cut_length a (spanOf ks[i])
    have hno : ¬ Meets (cut a (spanOf ks[i])) (spanOf ks[i]) := by
      intro h
      obtain ⟨t, p, h1, h2⟩ := (meets_iff hcc hr).1 h
      exact ((cut_has t p a _ hc hr).1 h2).2 h1
    have hback : add (cut a (spanOf ks[i])) (spanOf ks[i]) = a := by
      refine can_eq _ _ (add_can _ _ hcc hr) hc (fun t p => ?_)
      rw [add_has t p _ _ hcc hr, cut_has t p a _ hc hr]
      constructor
      · rintro (h | h)
        · exact h.1
        · exact hin t p h
      · intro h
        by_cases h2 : In (spanOf ks[i]) t p
        · exact .inr h2
        · exact .inl ⟨h, h2⟩
    rw [busbarlaw12_SpanOnce.l3, if_pos (by omega), if_pos (by omega), rd_get ks i hil, span_eq _ hx, Option.bind_some]
    dsimp only
    rw [covers_eq _ _ hr (by omega) (by omega), Option.bind_some, decide_eq_true hcov, if_pos rfl, meets_eq _ _ hc hr (by omega) (by omega), Option.bind_some, decide_eq_true hmeet, if_pos rfl, cut_eq _ _ hc hr (by omega) (by omega), Option.bind_some, meets_eq _ _ hcc hr (by omega) (by omega), Option.bind_some, decide_eq_false hno, if_neg (by decide), Option.bind_some, add_s _ _ hcc hr (by omega) (by omega), Option.bind_some, hback, same_refl a (by omega) (by omega), Option.bind_some, if_pos rfl, wrap64_id (by omega) (by omega), show ((i : Int) + 1) = ((i + 1 : Nat) : Int) by omega]
    exact once3 ks a hk h12 hc hl ha d (i + 1) k (by omega) (by omega)
theorem SpanOnce : busbarlaw12_SpanOnce.Pure := by
  intro ks turn _ _ hk _
  have hks : I64 ks := fun x hx => wf_i64 (hk x hx)
  refine ⟨200, ?_⟩
  unfold busbarlaw12_SpanOnce.f
  by_cases h : (ks.length : Int) > 12
  · rw [if_pos h, busbarlaw12_SpanOnce.j0, if_pos rfl, awake_ev (by omega)]
    rfl
  · have h12 : ks.length ≤ 12 := by omega
    rw [if_neg h, awake_ev (by omega), Option.bind_some, busbarlaw12_SpanOnce.j0, if_neg (by decide)]
    refine once0 ks turn hks h12 (fun _ _ => True) (fun a k hs hall hal hk1 => ?_) ks.length 0 199 [] (by omega) ⟨trivial, fun t p h => absurd h (has_nil t p)⟩ (fun j hj => by omega) (by simp) (by omega)
    have ha : ∀ t p, Has a t p ↔ All ks t p := fun t p => ⟨hs.2 t p, hall t p⟩
    refine once1 ks turn a hks h12 (fun b k2 hb hbl hk2 => ?_) (2 * ks.length) 0 k [] (by omega) ⟨trivial, fun t p h => absurd h (has_nil t p)⟩ (by simp) (by omega)
    refine once2 ks a hks h12 (fun c k3 hcs hcall hcl hk3 => ?_) ks.length 0 k2 b (by omega) hb (fun j hj hj2 => by omega) (by omega) (by omega)
    have e : a = c := can_eq a c hs.1 hcs.1 (fun t p => (ha t p).trans ⟨hcall t p, hcs.2 t p⟩)
    subst e
    rw [same_refl a (by omega) (by omega), Option.bind_some, if_pos rfl, canon_true a hs.1 (by omega) (by omega), Option.bind_some]
    obtain ⟨k3, rfl⟩ : ∃ m, k3 = m + 1 := ⟨k3 - 1, by omega⟩
    rw [busbarlaw12_SpanOnce.j4, if_neg (by decide)]
    exact once3 ks a hks h12 hs.1 hal ha ks.length 0 k3 (by omega) (by omega)
end Go.Proofs.Ytkioalfallhegaa.Pure
