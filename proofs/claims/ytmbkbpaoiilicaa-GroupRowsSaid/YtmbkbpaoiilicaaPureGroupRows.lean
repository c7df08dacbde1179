/- A span from a group's first word to another one's last splits no group; one word less at either end splits one: for all numbers. -/
import Derived.Test.YtmbkbpaoiilicaaLemGroupGroupL
import Derived.Test.YtmbkbpaoiilicaaLemAwakeGroupL
import Derived.Test.YtmbkbpaoiilicaaPGroupLx0
import Derived.Test.YtmbkbpaoiilicaaPGroupLx10
namespace Go.Proofs.Ytmbkbpaoiilicaa.Pure
open Go.RowKit Go.Proofs.Ytmbkbpaoiilicaa.PGroupL Go.Proofs.YtmbkbpaoiilicaaW.PrintWords Go.Proofs.YtmbkbpaoiilicaaW.PrintLast Go.Proofs.Ytmbkbpaoiilicaa.Num Go.Proofs.Ytmbkbpaoiilicaa.LemWithinGroupL Go.Proofs.Ytmbkbpaoiilicaa.LemGroupGroupL

theorem rows_idx {l : List Gr} (h : Gs l) {i j : Nat} (hi : i < l.length) (hj : j < l.length) (hij : i ≤ j) (ht : l[i].f0 = l[j].f0) : l[i].f1 ≤ l[j].f1 ∧ l[i].f1 + l[i].f2 ≤ l[j].f1 + l[j].f2 := by
  rcases Nat.lt_or_ge i j with h1 | h1
  · have h2 := gs_idx h hi hj h1
    have h3 := gs_ok h hi
    have h4 := gs_ok h hj
    unfold Gah at h2
    unfold Gok at h3 h4
    omega
  · obtain rfl : i = j := by omega
    omega
theorem rows_j1 (l : List Gr) (hg : Gs l) (hl : l.length ≤ 24) (p q : Nat) (hp : p < l.length) (hq : q < l.length) (hpq : p ≤ q) (ht : l[p].f0 = l[q].f0) (k : Nat) (hk : 100 ≤ k) :
    busbarlaw14_GroupRows.j1 (k + 1) l l[p].f0 l[p].f1 l[p].f2 l[q].f0 l[q].f1 l[q].f2 = some true := by
  have ga := gs_ok hg hp
  have gb := gs_ok hg hq
  have hab := rows_idx hg hp hq hpq ht
  have ga' := ga
  have gb' := gb
  unfold Gok at ga' gb'
  have n1 : ¬ ∃ g ∈ l, Spl g l[p].f0 l[p].f1 (l[q].f1 + l[q].f2) := by
    rintro ⟨g, hm, h0, _, h1, h2, h3⟩
    obtain ⟨m, hml, rfl⟩ := List.getElem_of_mem hm
    rcases Nat.lt_or_ge m p with c | c
    · have := gs_idx hg hml hp c
      unfold Gah at this
      omega
    · have := rows_idx hg hp hml c h0.symm
      rcases Nat.lt_or_ge q m with c2 | c2
      · have := gs_idx hg hq hml c2
        unfold Gah at this
        omega
      · have := rows_idx hg hml hq c2 (by omega)
        omega
  have n2 : ∃ g ∈ l, Spl g l[p].f0 (l[p].f1 + 1) (l[q].f1 + l[q].f2) := ⟨l[p], List.getElem_mem _, by unfold Spl; omega⟩
  have n3 : ∃ g ∈ l, Spl g l[p].f0 l[p].f1 (l[q].f1 + l[q].f2 - 1) := ⟨l[q], List.getElem_mem _, by unfold Spl; omega⟩
  have w1 : wrap64 (l[q].f1 + l[q].f2) = l[q].f1 + l[q].f2 := wrap64_id (by omega) (by omega)
  have w2 : wrap64 (l[p].f1 + 1) = l[p].f1 + 1 := wrap64_id (by omega) (by omega)
  have w3 : wrap64 (l[q].f1 + l[q].f2 - 1) = l[q].f1 + l[q].f2 - 1 := wrap64_id (by omega) (by omega)
  rw [busbarlaw14_GroupRows.j1, w1, w2, w3, splits_eq l _ _ _ (by omega) (by omega) hg (by omega) (by omega), Option.bind_some, decide_eq_false n1, if_neg (by decide),
    splits_eq l _ _ _ (by omega) (by omega) hg (by omega) (by omega), Option.bind_some, decide_eq_true n2, if_pos rfl, splits_eq l _ _ _ (by omega) (by omega) hg (by omega) (by omega), Option.bind_some, decide_eq_true n3]
theorem GroupRows : busbarlaw14_GroupRows.Pure := by
  intro ks i j _ _ hk hi hj
  obtain ⟨l, he, hg, hl⟩ := all_eq ks (fun x hx => wf_i64 (hk x hx))
  refine ⟨300, ?_⟩
  unfold busbarlaw14_GroupRows.f
  rw [LemAwakeGroupL.awake_ev (by omega), Option.bind_some, if_pos rfl, he 300 (by omega), Option.bind_some]
  dsimp only
  by_cases h0 : l.length = 0
  · rw [if_pos (by omega)]
  · rw [if_neg (by omega), busbarlaw14_GroupRows.j0, within_eq i _ (by omega) (by omega), Option.bind_some, within_eq j _ (by omega) (by omega), Option.bind_some]
    have i1 := Int.emod_nonneg i (show (l.length : Int) ≠ 0 by omega)
    have i2 := Int.emod_lt_of_pos i (show (0 : Int) < l.length by omega)
    have j1 := Int.emod_nonneg j (show (l.length : Int) ≠ 0 by omega)
    have j2 := Int.emod_lt_of_pos j (show (0 : Int) < l.length by omega)
    obtain ⟨p, hp⟩ : ∃ p : Nat, mn (i % (l.length : Int)) (j % (l.length : Int)) = (p : Int) := Int.eq_ofNat_of_zero_le (by unfold mn; split <;> omega)
    obtain ⟨q, hq⟩ : ∃ q : Nat, mx (i % (l.length : Int)) (j % (l.length : Int)) = (q : Int) := Int.eq_ofNat_of_zero_le (by unfold mx; split <;> omega)
    have hpq : p ≤ q ∧ q < l.length := by
      unfold mn at hp
      unfold mx at hq
      split at hp <;> split at hq <;> omega
    rw [hp, hq, if_pos (by omega), if_pos (by omega), if_pos (by omega), if_pos (by omega), rdG_get l p (by omega), rdG_get l q (by omega)]
    by_cases ht : l[p].f0 = l[q].f0
    · rw [if_pos ht]
      exact rows_j1 l hg hl p q (by omega) (by omega) hpq.1 ht 298 (by omega)
    · rw [if_neg ht]
end Go.Proofs.Ytmbkbpaoiilicaa.Pure
