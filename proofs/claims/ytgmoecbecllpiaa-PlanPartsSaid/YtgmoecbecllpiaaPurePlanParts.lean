/- A span is Data, or Control, just if each address of it is; nothing is both: for all numbers. -/
import Derived.Test.YtgmoecbecllpiaaPPlanx0
import Derived.Test.YtgmoecbecllpiaaPPlanx17
import Derived.Test.YtgmoecbecllpiaaPPlanx18
import Derived.Test.YtgmoecbecllpiaaLemAwakePlan
import Derived.Test.YtgmoecbecllpiaaLemPlanPlan
set_option linter.unusedVariables false
namespace Go.Proofs.Ytgmoecbecllpiaa.Pure
open Go.RowKit Go.Proofs.Ytgmoecbecllpiaa.PPlan Go.Proofs.YtgmoecbecllpiaaW.PrintWords Go.Proofs.YtgmoecbecllpiaaW.PrintLast Go.Proofs.YtgmoecbecllpiaaW.PrintMore Go.Proofs.Ytgmoecbecllpiaa.Num Go.Proofs.Ytgmoecbecllpiaa.LemAwakePlan Go.Proofs.Ytgmoecbecllpiaa.LemSpanPlan Go.Proofs.Ytgmoecbecllpiaa.LemWithinPlan Go.Proofs.Ytgmoecbecllpiaa.LemSpanFnPlan Go.Proofs.Ytgmoecbecllpiaa.LemSpanFmPlan Go.Proofs.Ytgmoecbecllpiaa.LemSpanFoPlan Go.Proofs.Ytgmoecbecllpiaa.LemSpanFpPlan Go.Proofs.Ytgmoecbecllpiaa.LemPlanPlan

theorem parts_loop (m : List S) (t f b : Int) (hm : m.length ≤ 100) (hf : 0 ≤ f) (hb : b ≤ 70000) : ∀ (d : Nat) (a : Int) (k : Nat) (D C : Bool), a + d = b → 0 ≤ a → d + 202 ≤ k →
    ∃ D' C' k', 201 ≤ k' ∧ busbarlaw13_PlanParts.l0 k 20 m D C a t f b = busbarlaw13_PlanParts.l0 (k' + 1) 20 m D' C' b t f b ∧
      (D' = true ↔ D = true ∧ ∀ p, a ≤ p → p < b → wh m 20 ⟨t, p, p + 1⟩ = 1) ∧ (C' = true ↔ C = true ∧ ∀ p, a ≤ p → p < b → wh m 20 ⟨t, p, p + 1⟩ = 2)
  | 0, a, k, D, C, h, h0, hk => by
    obtain ⟨k, rfl⟩ : ∃ m, k = m + 1 := ⟨k - 1, by omega⟩
    obtain rfl : a = b := by omega
    exact ⟨D, C, k, by omega, rfl, ⟨fun h => ⟨h, fun p h1 h2 => by omega⟩, fun h => h.1⟩, ⟨fun h => ⟨h, fun p h1 h2 => by omega⟩, fun h => h.1⟩⟩
  | d + 1, a, k, D, C, h, h0, hk => by
    obtain ⟨k, rfl⟩ : ∃ m, k = m + 1 := ⟨k - 1, by omega⟩
    have hstep : busbarlaw13_PlanParts.l0 (k + 1) 20 m D C a t f b = busbarlaw13_PlanParts.l0 k 20 m (D && (wh m 20 ⟨t, a, a + 1⟩ == 1)) (C && (wh m 20 ⟨t, a, a + 1⟩ == 2)) (a + 1) t f b := by
      rw [busbarlaw13_PlanParts.l0, if_pos (by omega), wrap64_id (by omega) (by omega), where_eq m 20 t a (a + 1) (by omega) (by omega) (by omega) (by omega), Option.bind_some]
      cases D <;> cases C <;> rfl
    obtain ⟨D', C', k', h1, h2, h3, h4⟩ := parts_loop m t f b hm hf hb d (a + 1) k (D && (wh m 20 ⟨t, a, a + 1⟩ == 1)) (C && (wh m 20 ⟨t, a, a + 1⟩ == 2)) (by omega) (by omega) (by omega)
    refine ⟨D', C', k', h1, hstep.trans h2, h3.trans ?_, h4.trans ?_⟩
    · rw [Bool.and_eq_true, beq_iff_eq]
      constructor
      · rintro ⟨⟨hD, ha⟩, hr⟩
        refine ⟨hD, fun p hp1 hp2 => ?_⟩
        by_cases e : p = a
        · subst e; exact ha
        · exact hr p (by omega) hp2
      · rintro ⟨hD, hr⟩
        exact ⟨⟨hD, hr a (by omega) (by omega)⟩, fun p hp1 hp2 => hr p (by omega) hp2⟩
    · rw [Bool.and_eq_true, beq_iff_eq]
      constructor
      · rintro ⟨⟨hD, ha⟩, hr⟩
        refine ⟨hD, fun p hp1 hp2 => ?_⟩
        by_cases e : p = a
        · subst e; exact ha
        · exact hr p (by omega) hp2
      · rintro ⟨hD, hr⟩
        exact ⟨⟨hD, hr a (by omega) (by omega)⟩, fun p hp1 hp2 => hr p (by omega) hp2⟩
/-- In a map that does not meet the window: where a span is, address by address. -/
theorem wh_two {m : List S} {w : Int} {s : S} (hr : Rt s) : wh m w s = 2 ↔ ∀ p, s.f1 ≤ p → p < s.f2 → wh m w ⟨s.f0, p, p + 1⟩ = 2 := by
  have h1 : ∀ p, s.f1 ≤ p → p < s.f2 → Rt ⟨s.f0, p, p + 1⟩ := fun p h1 h2 => by unfold Rt at *; dsimp only; omega
  have e1 : ∀ z : S, Rt z → (wh m w z = 2 ↔ Cov (ctl w) z) := fun z hz => by
    unfold wh
    rw [if_pos hz]
    by_cases hc : Cov (ctl w) z
    · rw [if_pos hc]; exact ⟨fun _ => hc, fun _ => rfl⟩
    · rw [if_neg hc]
      refine ⟨fun h => ?_, fun h => absurd h hc⟩
      split at h <;> omega
  rw [e1 s hr]
  constructor
  · intro h p hp1 hp2
    rw [e1 _ (h1 p hp1 hp2)]
    unfold Cov at *; dsimp only; omega
  · intro h
    have ha := (e1 _ (h1 s.f1 (by omega) (by unfold Rt at hr; omega))).1 (h s.f1 (by omega) (by unfold Rt at hr; omega))
    have hb := (e1 _ (h1 (s.f2 - 1) (by unfold Rt at hr; omega) (by omega))).1 (h (s.f2 - 1) (by unfold Rt at hr; omega) (by omega))
    unfold Cov at *; dsimp only at *; omega
theorem wh_one {m : List S} {w : Int} {s : S} (hr : Rt s) (hc : Cn m) (hd : ∀ t p, Has m t p → ¬ In (ctl w) t p) : wh m w s = 1 ↔ ∀ p, s.f1 ≤ p → p < s.f2 → wh m w ⟨s.f0, p, p + 1⟩ = 1 := by
  have h1 : ∀ p, s.f1 ≤ p → p < s.f2 → Rt ⟨s.f0, p, p + 1⟩ := fun p h1 h2 => by unfold Rt at *; dsimp only; omega
  have hin : ∀ z : S, Rt z → In z z.f0 z.f1 := fun z hz => by unfold In; unfold Rt at hz; omega
  have e1 : ∀ z : S, Rt z → (wh m w z = 1 ↔ Covers m z) := fun z hz => by
    unfold wh
    rw [if_pos hz]
    by_cases hcv : Cov (ctl w) z
    · rw [if_pos hcv]
      refine ⟨fun h => by omega, fun h => ?_⟩
      exfalso
      refine hd _ _ (has_of_covers h _ _ (hin z hz)) ?_
      unfold Cov at hcv; unfold In; unfold Rt at hz; omega
    · rw [if_neg hcv]
      by_cases hm : Covers m z
      · rw [if_pos hm]; exact ⟨fun _ => hm, fun _ => rfl⟩
      · rw [if_neg hm]; exact ⟨fun h => by omega, fun h => absurd h hm⟩
  rw [e1 s hr]
  constructor
  · intro h p hp1 hp2
    rw [e1 _ (h1 p hp1 hp2)]
    obtain ⟨x, hx, h⟩ := h
    exact ⟨x, hx, by dsimp only; omega⟩
  · intro h
    refine covers_of_has hc hr (fun t p hp => ?_)
    unfold In at hp
    obtain ⟨h2, h3, h4⟩ := hp
    subst h2
    refine has_of_covers ((e1 _ (h1 p h3 h4)).1 (h p h3 h4)) _ _ ?_
    unfold In; dsimp only; omega
theorem wh_range (m : List S) (w : Int) (s : S) : 0 ≤ wh m w s ∧ wh m w s ≤ 2 := by
  unfold wh; (repeat' split) <;> omega
theorem PlanParts : busbarlaw13_PlanParts.Pure := by
  intro ks n hm _ hk hn
  have hks : ∀ x ∈ ks, -9223372036854775808 ≤ x ∧ x < 9223372036854775808 := fun x hx => wf_i64 (hk x hx)
  refine ⟨500, ?_⟩
  have hc := spans_can ks
  have hl := spans_len ks
  have hr := span_rt n
  have hw : Rt (ctl 20) := ctl_rt 20 (by omega) (by omega)
  have hcc := cut_can (spansOf ks) (ctl 20) hc hw
  have hcl := cut_length (spansOf ks) (ctl 20)
  have hd : ∀ t p, Has (cut (spansOf ks) (ctl 20)) t p → ¬ In (ctl 20) t p := fun t p h => ((cut_has t p _ _ hc hw).1 h).2
  unfold busbarlaw13_PlanParts.f
  rw [awake_ev (by omega), Option.bind_some, if_pos rfl, spans_eq ks hks (by unfold maxLen at hm; omega) (by omega), Option.bind_some]
  have hcut : busbarref12_Cut.f 500 (spansOf ks) 2 20 (20 + 8) = some (cut (spansOf ks) (ctl 20)) := refcut_eq (spansOf ks) (ctl 20) hc hw (by omega) (by omega)
  rw [hcut, Option.bind_some, span_eq n (wf_i64 hn), Option.bind_some]
  dsimp only
  have hrr := hr
  unfold Rt at hrr
  rw [wrap64_id (by omega) (by omega)]
  obtain ⟨b, hb⟩ : ∃ b, b = mn (spanOf n).f2 ((spanOf n).f1 + 30) := ⟨_, rfl⟩
  have hbb : (spanOf n).f1 < b ∧ b ≤ (spanOf n).f2 := by rw [hb]; unfold mn; split <;> omega
  have hb30 : b ≤ (spanOf n).f1 + 30 := by rw [hb]; unfold mn; split <;> omega
  rw [← hb]
  obtain ⟨m, hmm⟩ : ∃ m, m = cut (spansOf ks) (ctl 20) := ⟨_, rfl⟩
  rw [← hmm] at hcc hcl hd ⊢
  obtain ⟨t, ht⟩ : ∃ t, t = (spanOf n).f0 := ⟨_, rfl⟩
  obtain ⟨f, hf⟩ : ∃ f, f = (spanOf n).f1 := ⟨_, rfl⟩
  rw [← ht, ← hf]
  obtain ⟨D, C, k, h1, h2, h3, h4⟩ := parts_loop m t f b (by omega) (by omega) (by omega) (b - f).toNat f 500 true true (by omega) (by omega) (by omega)
  rw [h2, busbarlaw13_PlanParts.l0, if_neg (by omega), where_eq m 20 t f b (by omega) (by omega) (by omega) (by omega), Option.bind_some]
  have hs : Rt ⟨t, f, b⟩ := by unfold Rt; dsimp only; omega
  have w1 := wh_one hs hcc hd
  have w2 := wh_two (m := m) (w := 20) hs
  have wr := wh_range m 20 ⟨t, f, b⟩
  dsimp only at w1 w2
  have eD : (wh m 20 ⟨t, f, b⟩ == 1) = D := by
    rw [Bool.eq_iff_iff, beq_iff_eq, w1, h3]
    exact ⟨fun h => ⟨rfl, h⟩, fun h => h.2⟩
  have eC : (wh m 20 ⟨t, f, b⟩ == 2) = C := by
    rw [Bool.eq_iff_iff, beq_iff_eq, w2, h4]
    exact ⟨fun h => ⟨rfl, h⟩, fun h => h.2⟩
  rw [eD, eC, beq_self_eq_true, beq_self_eq_true, if_pos rfl, if_pos rfl]
  by_cases hD : D = true
  · rw [if_pos hD]
    have hC : ¬ C = true := by
      rw [← eC, ← eD] at *
      rw [beq_iff_eq] at *
      omega
    rw [if_neg hC, if_pos (by omega), decide_eq_true (by omega)]
  · rw [if_neg hD, if_pos (by omega), decide_eq_true (by omega)]
end Go.Proofs.Ytgmoecbecllpiaa.Pure
