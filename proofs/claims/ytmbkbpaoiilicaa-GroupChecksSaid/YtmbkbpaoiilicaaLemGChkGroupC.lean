/- What is amiss with any groups: the program and the document say the same (group GroupC). -/
import Derived.Test.YtmbkbpaoiilicaaPGroupCx0
import Derived.Test.YtmbkbpaoiilicaaPGroupCx12
import Derived.Test.YtmbkbpaoiilicaaPGroupCx13
import Derived.Test.YtmbkbpaoiilicaaPGroupCx14
import Derived.Test.YtmbkbpaoiilicaaPGroupCx16
import Derived.Test.YtmbkbpaoiilicaaPGroupCx2
import Derived.Test.YtmbkbpaoiilicaaPGroupCx7
import Derived.Test.YtmbkbpaoiilicaaLemGroupGroupC
import Derived.Test.YtmbkbpaoiilicaaLemSpanFoGroupC
import Derived.Test.YtmbkbpaoiilicaaLemSpanFqGroupC
set_option linter.unusedVariables false
set_option linter.unusedSimpArgs false
namespace Go.Proofs.Ytmbkbpaoiilicaa.LemGChkGroupC
open Go.RowKit Go.Proofs.Ytmbkbpaoiilicaa.PGroupC Go.Proofs.YtmbkbpaoiilicaaW.PrintWords Go.Proofs.YtmbkbpaoiilicaaW.PrintLast Go.Proofs.YtmbkbpaoiilicaaW.PrintMore Go.Proofs.Ytmbkbpaoiilicaa.Num Go.Proofs.Ytmbkbpaoiilicaa.LemWithinGroupC Go.Proofs.Ytmbkbpaoiilicaa.LemSpanGroupC Go.Proofs.Ytmbkbpaoiilicaa.LemSpanFoGroupC Go.Proofs.Ytmbkbpaoiilicaa.LemSpanFqGroupC Go.Proofs.Ytmbkbpaoiilicaa.LemGroupGroupC

theorem and1 (n : Int) : bits .and .i64 n 1 = n % 2 := by
  have h127 : (BitVec.ofInt 64 1).toNat = 2 ^ 1 - 1 := by decide
  have key : (BitVec.ofInt 64 n &&& BitVec.ofInt 64 1).toNat = (n % ((2 ^ 64 : Nat) : Int)).toNat % 2 ^ 1 := by
    rw [BitVec.toNat_and, BitVec.toNat_ofInt, h127, Nat.and_two_pow_sub_one_eq_mod]
  show IntKind.i64.wrap ((BitVec.ofInt 64 n &&& BitVec.ofInt 64 1).toNat : Nat) = n % 2
  rw [key, IntKind.wrap_i64]
  omega
theorem and3 (n : Int) : bits .and .i64 n 3 = n % 4 := by
  have h127 : (BitVec.ofInt 64 3).toNat = 2 ^ 2 - 1 := by decide
  have key : (BitVec.ofInt 64 n &&& BitVec.ofInt 64 3).toNat = (n % ((2 ^ 64 : Nat) : Int)).toNat % 2 ^ 2 := by
    rw [BitVec.toNat_and, BitVec.toNat_ofInt, h127, Nat.and_two_pow_sub_one_eq_mod]
  show IntKind.i64.wrap ((BitVec.ofInt 64 n &&& BitVec.ofInt 64 3).toNat : Nat) = n % 4
  rw [key, IntKind.wrap_i64]
  omega
/-- A group by itself: its table, its size, where it begins. -/
def Ok1 (g : Gr) : Prop := (g.f0 = 2 ∨ g.f0 = 3) ∧ (g.f2 = 2 ∨ g.f2 = 4) ∧ 0 ≤ g.f1 ∧ g.f1 < 65536
instance (g : Gr) : Decidable (Ok1 g) := by unfold Ok1; infer_instance
def am (g : Gr) : Int := if Ok1 g then (if g.f1 % g.f2 = 0 then 0 else 2) else 1
theorem sized1 (n : Int) : group_sized.f n = some (decide (n = 2 ∨ n = 4)) := by
  unfold group_sized.f
  by_cases h : n = 2
  · rw [if_pos h, decide_eq_true (.inl h)]
  · rw [if_neg h]
    by_cases h4 : n = 4
    · rw [decide_eq_true (.inr h4), h4]; rfl
    · rw [decide_eq_false (by omega), beq_eq_false_iff_ne.2 h4]
theorem amiss_eq (g : Gr) {k : Nat} (hk : 1 ≤ k) : group_amiss.f k g.f0 g.f1 g.f2 = some (am g) := by
  obtain ⟨k, rfl⟩ : ∃ m, k = m + 1 := ⟨k - 1, by omega⟩
  have hj : ¬ Ok1 g → group_amiss.j0 (k + 1) true g.f0 g.f1 g.f2 = some (am g) := fun h => by
    unfold am
    rw [group_amiss.j0, if_pos rfl, if_neg h]
  have hj2 : (g.f0 = 2 ∨ g.f0 = 3) → ((group_sized.f g.f2).bind fun t => (if t = true then (if g.f1 < 0 then (group_amiss.j0 (k + 1) true g.f0 g.f1 g.f2) else (group_amiss.j0 (k + 1) (decide (g.f1 ≥ 65536)) g.f0 g.f1 g.f2)) else (group_amiss.j0 (k + 1) true g.f0 g.f1 g.f2))) = some (am g) := fun ht => by
    rw [sized1, Option.bind_some]
    by_cases hs : g.f2 = 2 ∨ g.f2 = 4
    · rw [decide_eq_true hs, if_pos rfl]
      by_cases h0 : g.f1 < 0
      · rw [if_pos h0, hj (by unfold Ok1; omega)]
      · rw [if_neg h0]
        by_cases h1 : g.f1 ≥ 65536
        · rw [decide_eq_true h1, hj (by unfold Ok1; omega)]
        · have ho : Ok1 g := by unfold Ok1; omega
          rw [decide_eq_false h1, group_amiss.j0, if_neg (by decide)]
          unfold am
          rw [if_pos ho]
          rcases hs with hs | hs
          · rw [hs, show wrap64 (2 - 1) = 1 from wrap64_id (by omega) (by omega), and1]
            split <;> rfl
          · rw [hs, show wrap64 (4 - 1) = 3 from wrap64_id (by omega) (by omega), and3]
            split <;> rfl
    · rw [decide_eq_false hs, if_neg (by decide), hj (by unfold Ok1; omega)]
  unfold group_amiss.f
  by_cases h2 : g.f0 = 2
  · rw [if_pos h2, hj2 (.inl h2)]
  · rw [if_neg h2]
    by_cases h3 : g.f0 = 3
    · rw [if_pos h3, hj2 (.inr h3)]
    · rw [if_neg h3, hj (by unfold Ok1; omega)]
/-- Does a group stand behind the one ahead of it. -/
def bh (p g : Gr) : Prop := p.f0 < g.f0 ∨ (p.f0 = g.f0 ∧ wrap64 (p.f1 + p.f2) ≤ g.f1)
instance (p g : Gr) : Decidable (bh p g) := by unfold bh; infer_instance
theorem behind_eq (g p : Gr) : group_behind.f g.f0 g.f1 g.f2 p.f0 p.f1 p.f2 = some (decide (bh p g)) := by
  unfold group_behind.f
  by_cases h : g.f0 > p.f0
  · rw [if_pos h, decide_eq_true (show bh p g from .inl h)]
  · rw [if_neg h]
    by_cases h2 : g.f0 = p.f0
    · rw [if_pos h2]
      by_cases h3 : g.f1 ≥ wrap64 (p.f1 + p.f2)
      · rw [decide_eq_true h3, decide_eq_true (show bh p g from .inr ⟨h2.symm, h3⟩)]
      · rw [decide_eq_false h3, decide_eq_false (show ¬ bh p g by unfold bh; omega)]
    · rw [if_neg h2, decide_eq_false (show ¬ bh p g by unfold bh; omega)]
def rw_ (g : Gr) : S := ⟨g.f0, g.f1, wrap64 (g.f1 + g.f2)⟩
theorem rw_rt (g : Gr) (h : Ok1 g) (h2 : g.f1 % g.f2 = 0) : Rt (rw_ g) := by
  unfold Ok1 at h
  unfold Rt rw_
  rw [wrap64_id (by omega) (by omega)]
  dsimp only
  rcases h.2.1 with h3 | h3 <;> rw [h3] at h2 ⊢ <;> omega
/-- What is amiss from the i-th on. -/
def gch (l : List Gr) (m : List S) : Nat → Nat → Int
  | 0, _ => 0
  | d + 1, i => if am (rd_T30 l (i : Int)) ≠ 0 then am (rd_T30 l (i : Int)) else if i > 0 ∧ ¬ bh (rd_T30 l ((i : Int) - 1)) (rd_T30 l (i : Int)) then 2 else if Covers m (rw_ (rd_T30 l (i : Int))) then gch l m d (i + 1) else 5
theorem gch_succ (l : List Gr) (m : List S) (d i : Nat) : gch l m (d + 1) i = if am (rd_T30 l (i : Int)) ≠ 0 then am (rd_T30 l (i : Int)) else if i > 0 ∧ ¬ bh (rd_T30 l ((i : Int) - 1)) (rd_T30 l (i : Int)) then 2 else if Covers m (rw_ (rd_T30 l (i : Int))) then gch l m d (i + 1) else 5 := rfl
theorem am_zero (g : Gr) (h : am g = 0) : Ok1 g ∧ g.f1 % g.f2 = 0 := by
  unfold am at h
  split at h
  · split at h
    · exact ⟨‹_›, ‹_›⟩
    · omega
  · omega
theorem check_loop (l : List Gr) (m : List S) (hl : l.length ≤ 100000) (hm : m.length ≤ 100000) : ∀ (d i k : Nat), i + d = l.length → m.length + 2 * d + 2 < k → group_Check.l0 k l m l (l.length : Int) (i : Int) = some (gch l m d i)
  | 0, i, k, h, hk => by
    obtain ⟨k, rfl⟩ : ∃ m, k = m + 1 := ⟨k - 1, by omega⟩
    rw [group_Check.l0, if_neg (by omega)]
    rfl
  | d + 1, i, k, h, hk => by
    obtain ⟨k, rfl⟩ : ∃ m, k = m + 2 := ⟨k - 2, by omega⟩
    have ih := check_loop l m hl hm d (i + 1) k (by omega) (by omega)
    have hw : wrap64 ((i : Int) + 1) = ((i + 1 : Nat) : Int) := by rw [wrap64_id (by omega) (by omega)]; rfl
    rw [group_Check.l0, if_pos (by omega), if_pos (by omega), if_pos (by omega), amiss_eq _ (by omega), Option.bind_some, gch_succ]
    generalize hg : rd_T30 l (i : Int) = g
    by_cases ha : am g = 0
    · have hok := am_zero g ha
      have hj : group_Check.j1 (k + 1) l m l (l.length : Int) (i : Int) false g.f0 g.f1 g.f2 = some (if Covers m (rw_ g) then gch l m d (i + 1) else 5) := by
        rw [group_Check.j1, if_neg (by decide)]
        unfold group_row.f
        rw [Option.bind_some]
        have e := covers_eq m (rw_ g) (rw_rt g hok.1 hok.2) hm (k := k) (by omega)
        refine (congrArg (fun z => Option.bind z _) e).trans ?_
        rw [Option.bind_some, hw, ih]
        by_cases hc : Covers m (rw_ g)
        · rw [decide_eq_true hc, if_pos rfl, if_pos hc]
        · rw [decide_eq_false hc, if_neg (by decide), if_neg hc]
      rw [if_pos ha, if_neg (show ¬ (am g ≠ 0) by simp [ha])]
      by_cases h0 : i = 0
      · rw [if_neg (by omega), if_neg (show ¬ (i > 0 ∧ ¬ bh (rd_T30 l ((i : Int) - 1)) g) by omega), hj]
      · rw [if_pos (by omega), wrap64_id (x := (i : Int) - 1) (by omega) (by omega), if_pos (by omega), if_pos (by omega), behind_eq, Option.bind_some]
        by_cases hb : bh (rd_T30 l ((i : Int) - 1)) g
        · rw [decide_eq_true hb, Bool.not_true, if_neg (show ¬ (i > 0 ∧ ¬ bh (rd_T30 l ((i : Int) - 1)) g) from fun h => h.2 hb), hj]
        · rw [decide_eq_false hb, Bool.not_false, group_Check.j1, if_pos rfl, if_pos ⟨by omega, hb⟩]
    · rw [if_neg ha, if_pos ha]
theorem refgroups_j1 (l : List Gr) (m : List S) (k i : Nat) (g : Gr) (h : ¬ Ok1 g) : busbarref12_Groups.j1 (k + 1) l m (i : Int) true g.f0 g.f1 g.f2 = some (am g) := by
  unfold am
  rw [busbarref12_Groups.j1, if_pos rfl, if_neg h]
theorem refgroups_loop (l : List Gr) (m : List S) (hl : l.length ≤ 100000) (hm : m.length ≤ 100000) : ∀ (d i k : Nat), i + d = l.length → m.length + 3 * d + 3 < k → busbarref12_Groups.l0 k l m (i : Int) = some (gch l m d i)
  | 0, i, k, h, hk => by
    obtain ⟨k, rfl⟩ : ∃ m, k = m + 1 := ⟨k - 1, by omega⟩
    rw [busbarref12_Groups.l0, if_neg (by omega)]
    rfl
  | d + 1, i, k, h, hk => by
    obtain ⟨k, rfl⟩ : ∃ m, k = m + 3 := ⟨k - 3, by omega⟩
    have ih := refgroups_loop l m hl hm d (i + 1) k (by omega) (by omega)
    have hw : wrap64 ((i : Int) + 1) = ((i + 1 : Nat) : Int) := by rw [wrap64_id (by omega) (by omega)]; rfl
    rw [busbarref12_Groups.l0, if_pos (by omega), if_pos (by omega), gch_succ]
    generalize hg : rd_T30 l (i : Int) = g
    have hj2 : am g = 0 → busbarref12_Groups.j2 (k + 1) l m (i : Int) false g.f0 g.f1 g.f2 = some (if Covers m (rw_ g) then gch l m d (i + 1) else 5) := fun ha => by
      rw [busbarref12_Groups.j2, if_neg (by decide)]
      have e := refcovers_eq m (rw_ g) hm (k := k) (by omega)
      refine (congrArg (fun z => Option.bind z _) e).trans ?_
      rw [Option.bind_some, hw, ih]
      by_cases hc : Covers m (rw_ g)
      · rw [decide_eq_true hc, if_pos rfl, if_pos hc]
      · rw [decide_eq_false hc, if_neg (by decide), if_neg hc]
    have hj2t : busbarref12_Groups.j2 (k + 1) l m (i : Int) true g.f0 g.f1 g.f2 = some 2 := by rw [busbarref12_Groups.j2, if_pos rfl]
    have hj1 : Ok1 g → busbarref12_Groups.j1 (k + 2) l m (i : Int) (decide (g.f1 ≥ 65536)) g.f0 g.f1 g.f2 = some (if am g ≠ 0 then am g else if i > 0 ∧ ¬ bh (rd_T30 l ((i : Int) - 1)) g then 2 else if Covers m (rw_ g) then gch l m d (i + 1) else 5) := fun ho => by
      have ho' := ho
      unfold Ok1 at ho'
      rw [decide_eq_false (by omega), busbarref12_Groups.j1, if_neg (by decide), if_neg (by omega), tmod_pos (by omega)]
      by_cases h0 : g.f1 % g.f2 = 0
      · have ha : am g = 0 := by unfold am; rw [if_pos ho, if_pos h0]
        rw [if_pos h0, if_neg (show ¬ (am g ≠ 0) by simp [ha])]
        by_cases hi : i = 0
        · rw [if_neg (by omega), if_neg (show ¬ (i > 0 ∧ ¬ bh (rd_T30 l ((i : Int) - 1)) g) by omega), hj2 ha]
        · rw [if_pos (by omega), wrap64_id (x := (i : Int) - 1) (by omega) (by omega), if_pos (by omega), if_pos (by omega)]
          generalize rd_T30 l ((i : Int) - 1) = p
          by_cases h1 : p.f0 > g.f0
          · rw [if_pos h1, hj2t, if_pos (show i > 0 ∧ ¬ bh p g from ⟨by omega, by unfold bh; omega⟩)]
          · rw [if_neg h1]
            by_cases h2 : p.f0 = g.f0
            · rw [if_pos h2]
              by_cases h3 : wrap64 (p.f1 + p.f2) > g.f1
              · rw [decide_eq_true h3, hj2t, if_pos (show i > 0 ∧ ¬ bh p g from ⟨by omega, by unfold bh; omega⟩)]
              · rw [decide_eq_false h3, if_neg (show ¬ (i > 0 ∧ ¬ bh p g) by unfold bh; omega), hj2 ha]
            · rw [if_neg h2, if_neg (show ¬ (i > 0 ∧ ¬ bh p g) by unfold bh; omega), hj2 ha]
      · have ha : am g = 2 := by unfold am; rw [if_pos ho, if_neg h0]
        rw [if_neg h0, if_pos (show am g ≠ 0 by rw [ha]; decide), ha]
    have hbad : ¬ Ok1 g → busbarref12_Groups.j1 (k + 2) l m (i : Int) true g.f0 g.f1 g.f2 = some (if am g ≠ 0 then am g else if i > 0 ∧ ¬ bh (rd_T30 l ((i : Int) - 1)) g then 2 else if Covers m (rw_ g) then gch l m d (i + 1) else 5) := fun h => by
      have ha : am g = 1 := by unfold am; rw [if_neg h]
      rw [refgroups_j1 l m (k + 1) i g h, if_pos (show am g ≠ 0 by rw [ha]; decide)]
    have hat : (g.f0 = 2 ∨ g.f0 = 3) → (g.f2 = 2 ∨ g.f2 = 4) → (if g.f1 < 0 then (busbarref12_Groups.j1 (k + 2) l m (i : Int) true g.f0 g.f1 g.f2) else (busbarref12_Groups.j1 (k + 2) l m (i : Int) (decide (g.f1 ≥ 65536)) g.f0 g.f1 g.f2)) = some (if am g ≠ 0 then am g else if i > 0 ∧ ¬ bh (rd_T30 l ((i : Int) - 1)) g then 2 else if Covers m (rw_ g) then gch l m d (i + 1) else 5) := fun ht hs => by
      by_cases h0 : g.f1 < 0
      · rw [if_pos h0, hbad (by unfold Ok1; omega)]
      · rw [if_neg h0]
        by_cases h1 : g.f1 ≥ 65536
        · rw [decide_eq_true h1, hbad (by unfold Ok1; omega)]
        · exact hj1 (by unfold Ok1; omega)
    by_cases t2 : g.f0 = 2
    · rw [if_pos t2]
      by_cases s2 : g.f2 = 2
      · rw [if_pos s2, hat (.inl t2) (.inl s2)]
      · rw [if_neg s2]
        by_cases s4 : g.f2 = 4
        · rw [if_pos s4, hat (.inl t2) (.inr s4)]
        · rw [if_neg s4, hbad (by unfold Ok1; omega)]
    · rw [if_neg t2]
      by_cases t3 : g.f0 = 3
      · rw [if_pos t3]
        by_cases s2 : g.f2 = 2
        · rw [if_pos s2, hat (.inr t3) (.inl s2)]
        · rw [if_neg s2]
          by_cases s4 : g.f2 = 4
          · rw [if_pos s4, hat (.inr t3) (.inr s4)]
          · rw [if_neg s4, hbad (by unfold Ok1; omega)]
      · rw [if_neg t3, hbad (by unfold Ok1; omega)]
def gchk (l : List Gr) (m : List S) : Int := gch l m l.length 0
theorem gcheck_eq (l : List Gr) (m : List S) (hl : l.length ≤ 100000) (hm : m.length ≤ 100000) {k : Nat} (hk : m.length + 2 * l.length + 2 < k) : group_Check.f k l m = some (gchk l m) := check_loop l m hl hm l.length 0 k (by omega) hk
theorem refgroups_eq (l : List Gr) (m : List S) (hl : l.length ≤ 100000) (hm : m.length ≤ 100000) {k : Nat} (hk : m.length + 3 * l.length + 3 < k) : busbarref12_Groups.f k l m = some (gchk l m) := refgroups_loop l m hl hm l.length 0 k (by omega) hk
/-- Groups that stand in order, on the map of all words, are right. -/
theorem gch_whole (l : List Gr) (h : Gs l) : ∀ (d i : Nat), i + d = l.length → gch l whole d i = 0
  | 0, i, _ => rfl
  | d + 1, i, hi => by
    have ih := gch_whole l h d (i + 1) (by omega)
    have hok := gs_ok h (show i < l.length by omega)
    have hok' := hok
    unfold Gok at hok'
    have ha : am l[i] = 0 := by
      unfold am
      rw [if_pos (show Ok1 l[i] by unfold Ok1; omega), if_pos hok'.2.2.2.1]
    rw [gch_succ, rdG_get l i (by omega), if_neg (show ¬ (am l[i] ≠ 0) by simp [ha]), ih]
    have hc : Covers whole (rw_ l[i]) := by
      unfold Covers whole rw_
      rw [wrap64_id (by omega) (by omega)]
      rcases hok'.1 with h2 | h3
      · exact ⟨⟨2, 0, 65536⟩, by simp, by dsimp only; omega⟩
      · exact ⟨⟨3, 0, 65536⟩, by simp, by dsimp only; omega⟩
    rw [if_pos hc, if_neg]
    rintro ⟨h0, hb⟩
    refine hb ?_
    rw [show ((i : Int) - 1) = ((i - 1 : Nat) : Int) by omega, rdG_get l (i - 1) (by omega)]
    have h1 := gs_idx h (show i - 1 < l.length by omega) (show i < l.length by omega) (by omega)
    have h2 := gs_ok h (show i - 1 < l.length by omega)
    unfold Gok at h2
    unfold Gah at h1
    unfold bh
    rw [wrap64_id (by omega) (by omega)]
    exact h1
theorem gchk_whole (l : List Gr) (h : Gs l) : gchk l whole = 0 := gch_whole l h l.length 0 (by omega)
end Go.Proofs.Ytmbkbpaoiilicaa.LemGChkGroupC
