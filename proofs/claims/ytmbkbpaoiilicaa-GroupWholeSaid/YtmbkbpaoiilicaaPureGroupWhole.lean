/- A span splits no group just if each group's words are all in it, or none is; of a word's group all words have that same group: for all numbers. -/
import Derived.Test.YtmbkbpaoiilicaaLemGAtGroupA
import Derived.Test.YtmbkbpaoiilicaaLemDigitGroupA
import Derived.Test.YtmbkbpaoiilicaaLemAwakeGroupA
import Derived.Test.YtmbkbpaoiilicaaPGroupAx0
import Derived.Test.YtmbkbpaoiilicaaPGroupAx17
import Derived.Test.YtmbkbpaoiilicaaPGroupAx23
namespace Go.Proofs.Ytmbkbpaoiilicaa.Pure
open Go.RowKit Go.Proofs.Ytmbkbpaoiilicaa.PGroupA Go.Proofs.YtmbkbpaoiilicaaW.PrintWords Go.Proofs.YtmbkbpaoiilicaaW.PrintLast Go.Proofs.Ytmbkbpaoiilicaa.Num Go.Proofs.Ytmbkbpaoiilicaa.LemWithinGroupA Go.Proofs.Ytmbkbpaoiilicaa.LemDigitGroupA Go.Proofs.Ytmbkbpaoiilicaa.LemGroupGroupA Go.Proofs.Ytmbkbpaoiilicaa.LemGAtGroupA

theorem gw_mod (x m : Int) (hm : 0 < m) : 0 ≤ x % m ∧ x % m < m := ⟨Int.emod_nonneg x (by omega), Int.emod_lt_of_pos x hm⟩
theorem gw_span (n : Int) (hn : -9223372036854775808 ≤ n ∧ n < 9223372036854775808) : ∃ t a b, busbarlaw0_Span.f n = some (t, a, b) ∧ 0 ≤ t ∧ t < 4 ∧ 0 ≤ a ∧ a < b ∧ b ≤ 65536 := by
  have m1 := gw_mod n 4 (by omega)
  have m2 := gw_mod (Int.tdiv n 4) 40 (by omega)
  have m3 := gw_mod (Int.tdiv n 160) 12 (by omega)
  unfold busbarlaw0_Span.f
  rw [within_eq n 4 (by omega) (by omega), Option.bind_some, digit_eq n 4 40 hn (by omega) (by omega) (by omega), Option.bind_some, digit_eq n 160 12 hn (by omega) (by omega) (by omega), Option.bind_some, digit_eq n 1920 16 hn (by omega) (by omega) (by omega), Option.bind_some]
  generalize Int.tdiv n 4 % 40 = x at m2 ⊢
  generalize Int.tdiv n 160 % 12 = y at m3 ⊢
  rw [wrap64_id (x := 65496 + x) (by omega) (by omega), wrap64_id (x := 1 + y) (by omega) (by omega)]
  split
  · refine ⟨_, _, _, rfl, m1.1, m1.2, by omega, ?_, ?_⟩
    · rw [wrap64_id (by omega) (by omega)]; unfold mn; split <;> omega
    · unfold mn; split <;> omega
  · split
    · rw [Option.bind_some]
      refine ⟨_, _, _, rfl, m1.1, m1.2, by omega, ?_, ?_⟩
      · rw [wrap64_id (x := 100 * y) (by omega) (by omega), wrap64_id (x := 1 + 100 * y) (by omega) (by omega), wrap64_id (by omega) (by omega)]; unfold mn; split <;> omega
      · unfold mn; split <;> omega
    · refine ⟨_, _, _, rfl, m1.1, m1.2, by omega, ?_, ?_⟩
      · rw [wrap64_id (by omega) (by omega)]; unfold mn; split <;> omega
      · unfold mn; split <;> omega
theorem own_of {l : List Gr} (h : Gs l) {g : Gr} (hg : g ∈ l) {a : Int} (h1 : g.f1 ≤ a) (h2 : a < g.f1 + g.f2) : own l g.f0 a = some g := by
  cases e : own l g.f0 a with
  | none => exact (own_none e hg rfl h1 h2).elim
  | some g' =>
    obtain ⟨m1, m2, m3, m4⟩ := own_mem e
    rw [uniq h m1 hg m2 (by omega) (by omega)]
theorem gw_l1 (l : List Gr) (h : Gs l) (t a b : Int) (g : Gr) (hg : g ∈ l) (ht : g.f0 = t) (x9 : Int) : ∀ (d : Nat) (x : Int) (s : Bool) (k : Nat), x + d = g.f1 + g.f2 → g.f1 ≤ x → busbarlaw14_GroupWhole.l1 (k + d + 1) l s x9 x t a b g.f0 g.f1 g.f2 = busbarlaw14_GroupWhole.l0 k l (s || decide (x < g.f1 + g.f2 ∧ (x < a ∨ b < g.f1 + g.f2))) (wrap64 (x9 + 1)) t a b
  | 0, x, s, k, hx, h1 => by
    have k0 := h.1 g hg
    unfold Gok at k0
    rw [show k + 0 + 1 = k + 1 from rfl, busbarlaw14_GroupWhole.l1, wrap64_id (x := g.f1 + g.f2) (by omega) (by omega), if_neg (by omega), decide_eq_false (by omega), Bool.or_false]
  | d + 1, x, s, k, hx, h1 => by
    have k0 := h.1 g hg
    unfold Gok at k0
    have e : own l t x = some g := by rw [← ht]; exact own_of h hg h1 (by omega)
    have ih := fun s' => gw_l1 l h t a b g hg ht x9 d (x + 1) s' k (by omega) (by omega)
    rw [show k + (d + 1) + 1 = (k + d + 1) + 1 by omega, busbarlaw14_GroupWhole.l1, wrap64_id (x := g.f1 + g.f2) (by omega) (by omega), if_pos (by omega), at_eq l h t x (by omega) (by omega), e, Option.bind_some]
    show (if true = true then _ else _) = _
    rw [if_pos rfl, if_neg (by simp [told]), wrap64_id (x := x + 1) (by omega) (by omega)]
    cases s
    · rw [if_neg (by decide), Bool.false_or]
      by_cases c1 : x < a
      · rw [if_pos c1, ih true, Bool.true_or, decide_eq_true (show x < g.f1 + g.f2 ∧ (x < a ∨ b < g.f1 + g.f2) from ⟨by omega, .inl c1⟩)]
      · rw [if_neg c1]
        by_cases c2 : x ≥ b
        · rw [decide_eq_true c2, ih true, Bool.true_or, decide_eq_true (show x < g.f1 + g.f2 ∧ (x < a ∨ b < g.f1 + g.f2) from ⟨by omega, .inr (by omega)⟩)]
        · rw [decide_eq_false c2, ih false, Bool.false_or]
          congr 1
          by_cases c3 : b < g.f1 + g.f2
          · rw [decide_eq_true (show x + 1 < g.f1 + g.f2 ∧ (x + 1 < a ∨ b < g.f1 + g.f2) from ⟨by omega, .inr c3⟩), decide_eq_true (show x < g.f1 + g.f2 ∧ (x < a ∨ b < g.f1 + g.f2) from ⟨by omega, .inr c3⟩)]
          · rw [decide_eq_false (by omega), decide_eq_false (by omega)]
    · rw [if_pos rfl, ih true, Bool.true_or, Bool.true_or]
def Cov (l : List Gr) (t a b x : Int) : Prop := ∃ g ∈ l, g.f0 = t ∧ a < x ∧ g.f1 < x ∧ a < g.f1 + g.f2 ∧ (g.f1 < a ∨ b < g.f1 + g.f2)
instance (l : List Gr) (t a b x : Int) : Decidable (Cov l t a b x) := by unfold Cov; infer_instance
theorem cov_some {l : List Gr} (h : Gs l) {t a b x : Int} (hx : a ≤ x) {g : Gr} (e : own l t x = some g) : (Cov l t a b x ∨ (g.f1 < a ∨ b < g.f1 + g.f2)) ↔ Cov l t a b (x + 1) := by
  obtain ⟨m1, m2, m3, m4⟩ := own_mem e
  constructor
  · rintro (⟨q, q1, q2, q3, q4, q5, q6⟩ | c)
    · exact ⟨q, q1, q2, by omega, by omega, q5, q6⟩
    · exact ⟨g, m1, m2, by omega, by omega, by omega, c⟩
  · rintro ⟨q, q1, q2, q3, q4, q5, q6⟩
    have kq := h.1 q q1
    unfold Gok at kq
    by_cases c : a < x ∧ q.f1 < x
    · exact .inl ⟨q, q1, q2, c.1, c.2, q5, q6⟩
    · have := uniq h m1 q1 (by omega) (by omega) (by omega)
      subst this
      exact .inr q6
theorem cov_none {l : List Gr} (h : Gs l) {t a b x : Int} (hx : a ≤ x) (e : own l t x = none) : Cov l t a b x ↔ Cov l t a b (x + 1) := by
  constructor
  · rintro ⟨q, q1, q2, q3, q4, q5, q6⟩
    exact ⟨q, q1, q2, by omega, by omega, q5, q6⟩
  · rintro ⟨q, q1, q2, q3, q4, q5, q6⟩
    have kq := h.1 q q1
    unfold Gok at kq
    by_cases c : a < x ∧ q.f1 < x
    · exact ⟨q, q1, q2, c.1, c.2, q5, q6⟩
    · exact (own_none e q1 q2 (by omega) (by omega)).elim
theorem gw_l0 (l : List Gr) (h : Gs l) (hl : l.length ≤ 24) (t a b : Int) (ht : 0 ≤ t ∧ t < 4) (ha : 0 ≤ a) (hab : a < b) (hb : b ≤ 65536) : ∀ (d : Nat) (x : Int) (k : Nat), x + d = b → a ≤ x → 100 ≤ k → busbarlaw14_GroupWhole.l0 (k + 6 * d + 1) l (decide (Cov l t a b x)) x t a b = some true
  | 0, x, k, hx, h1, hk => by
    have hx' : x = b := by omega
    subst hx'
    rw [show k + 6 * 0 + 1 = k + 1 from rfl, busbarlaw14_GroupWhole.l0, if_neg (by omega), splits_eq l t a x ha hb h (by omega) (by omega), Option.bind_some]
    have e : decide (∃ g ∈ l, Spl g t a x) = decide (Cov l t a x x) := by
      rw [decide_eq_decide]
      constructor
      · rintro ⟨g, g1, g2⟩
        unfold Spl at g2
        exact ⟨g, g1, g2.1, g2.2.1, g2.2.2.1, g2.2.2.2.1, g2.2.2.2.2⟩
      · rintro ⟨g, g1, g2, g3, g4, g5, g6⟩
        exact ⟨g, g1, by unfold Spl; exact ⟨g2, g3, g4, g5, g6⟩⟩
    rw [e, beq_self_eq_true]
  | d + 1, x, k, hx, h1, hk => by
    rw [show k + 6 * (d + 1) + 1 = (k + 6 * d + 6) + 1 by omega, busbarlaw14_GroupWhole.l0, if_pos (by omega), at_eq l h t x (by omega) (by omega), Option.bind_some]
    cases e : own l t x with
    | none =>
      show (if false = true then _ else _) = _
      rw [if_neg (by decide), wrap64_id (x := x + 1) (by omega) (by omega)]
      have ih := gw_l0 l h hl t a b ht ha hab hb d (x + 1) (k + 5) (by omega) (by omega) (by omega)
      rw [show decide (Cov l t a b x) = decide (Cov l t a b (x + 1)) by congr 1; rw [eq_iff_iff]; exact cov_none h h1 e, show k + 6 * d + 6 = k + 5 + 6 * d + 1 by omega]
      exact ih
    | some g =>
      obtain ⟨m1, m2, m3, m4⟩ := own_mem e
      have kg := h.1 g m1
      unfold Gok at kg
      show (if true = true then _ else _) = _
      rw [if_pos rfl]
      obtain ⟨z, hz⟩ := Int.eq_ofNat_of_zero_le (show 0 ≤ g.f2 by omega)
      have hzz : z = 2 ∨ z = 4 := by omega
      have h2 := gw_l1 l h t a b g m1 m2 x z g.f1 (decide (Cov l t a b x)) (k + 6 * d + 5 - z) (by omega) (by omega)
      have ih := gw_l0 l h hl t a b ht ha hab hb d (x + 1) (k + 4 - z) (by omega) (by omega)
      rw [show k + 6 * d + 5 - z + z + 1 = k + 6 * d + 6 by omega, wrap64_id (x := x + 1) (by omega) (by omega)] at h2
      have hc : (decide (Cov l t a b x) || decide (g.f1 < g.f1 + g.f2 ∧ (g.f1 < a ∨ b < g.f1 + g.f2))) = decide (Cov l t a b (x + 1)) := by
        rw [Bool.eq_iff_iff]
        simp only [Bool.or_eq_true, decide_eq_true_eq]
        rw [← cov_some h h1 e]
        constructor
        · rintro (c | c)
          · exact .inl c
          · exact .inr c.2
        · rintro (c | c)
          · exact .inl c
          · exact .inr ⟨by omega, c⟩
      rw [hc] at h2
      refine h2.trans ?_
      rw [show k + 6 * d + 5 - z = k + 4 - z + 6 * d + 1 by omega]
      exact gw_l0 l h hl t a b ht ha hab hb d (x + 1) (k + 4 - z) (by omega) (by omega) (by omega)
theorem GroupWhole : busbarlaw14_GroupWhole.Pure := by
  intro ks n _ _ hk hn
  have hks : ∀ x ∈ ks, -9223372036854775808 ≤ x ∧ x < 9223372036854775808 := fun x hx => wf_i64 (hk x hx)
  have hn := wf_i64 hn
  obtain ⟨l, he, hg, hl⟩ := all_eq ks hks
  obtain ⟨t, a, b, e, t0, t1, a0, ab, b1⟩ := gw_span n hn
  obtain ⟨b', hb'⟩ : ∃ b', mn b (wrap64 (a + 60)) = b' := ⟨_, rfl⟩
  have hb2 : a < b' ∧ b' ≤ 65536 := by
    rw [wrap64_id (by omega) (by omega)] at hb'
    unfold mn at hb'
    split at hb' <;> omega
  have h := gw_l0 l hg hl t a b' ⟨t0, t1⟩ a0 hb2.1 hb2.2 (b' - a).toNat a 300 (by omega) (by omega) (by omega)
  rw [show decide (Cov l t a b' a) = false from decide_eq_false (by rintro ⟨g, g1, g2, g3, _⟩; omega)] at h
  refine ⟨300 + 6 * (b' - a).toNat + 1, ?_⟩
  unfold busbarlaw14_GroupWhole.f
  rw [LemAwakeGroupA.awake_ev (by omega), Option.bind_some, if_pos rfl, he _ (by omega), Option.bind_some, e, Option.bind_some]
  dsimp only
  rw [hb']
  exact h
end Go.Proofs.Ytmbkbpaoiilicaa.Pure
