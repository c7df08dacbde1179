/- Groups of words as plain lists (group GroupA): which may be, what All makes, what Splits answers. -/
import Derived.Test.YtmbkbpaoiilicaaPGroupAx0
import Derived.Test.YtmbkbpaoiilicaaPGroupAx16
import Derived.Test.YtmbkbpaoiilicaaPGroupAx3
import Derived.Test.YtmbkbpaoiilicaaPGroupAx4
import Derived.Test.YtmbkbpaoiilicaaPGroupAx5
import Derived.Test.YtmbkbpaoiilicaaPGroupAx6
import Derived.Test.YtmbkbpaoiilicaaPGroupAx7
import Derived.Test.YtmbkbpaoiilicaaPGroupAx8
import Derived.Test.YtmbkbpaoiilicaaLemWithinGroupA
import Derived.Test.YtmbkbpaoiilicaaLemDigitGroupA
set_option linter.unusedVariables false
set_option linter.unusedSimpArgs false
namespace Go.Proofs.Ytmbkbpaoiilicaa.LemGroupGroupA
open Go.RowKit Go.Proofs.Ytmbkbpaoiilicaa.PGroupA Go.Proofs.YtmbkbpaoiilicaaW.PrintWords Go.Proofs.YtmbkbpaoiilicaaW.PrintLast Go.Proofs.YtmbkbpaoiilicaaW.PrintMore Go.Proofs.Ytmbkbpaoiilicaa.Num Go.Proofs.Ytmbkbpaoiilicaa.LemWithinGroupA Go.Proofs.Ytmbkbpaoiilicaa.LemDigitGroupA

abbrev Gr := S30
def Gok (g : Gr) : Prop := (g.f0 = 2 ∨ g.f0 = 3) ∧ (g.f2 = 2 ∨ g.f2 = 4) ∧ 0 ≤ g.f1 ∧ g.f1 % g.f2 = 0 ∧ g.f1 + g.f2 ≤ 1000
def Gah (a b : Gr) : Prop := a.f0 < b.f0 ∨ (a.f0 = b.f0 ∧ a.f1 + a.f2 ≤ b.f1)
def Gs (l : List Gr) : Prop := (∀ g ∈ l, Gok g) ∧ l.Pairwise Gah
/-- Has the group a word in the span, and one that is not. -/
def Spl (g : Gr) (t a b : Int) : Prop := g.f0 = t ∧ a < b ∧ g.f1 < b ∧ a < g.f1 + g.f2 ∧ (g.f1 < a ∨ b < g.f1 + g.f2)
instance (g : Gr) (t a b : Int) : Decidable (Spl g t a b) := by unfold Spl; infer_instance
theorem rdG (pre : List Gr) (x : Gr) (rest : List Gr) : rd_T30 (pre ++ x :: rest) (pre.length : Int) = x := by
  unfold rd_T30
  rw [Int.toNat_natCast, List.getD_eq_getElem?_getD, List.getElem?_append_right (Nat.le_refl _), Nat.sub_self]
  rfl
theorem rdG_get (l : List Gr) (i : Nat) (h : i < l.length) : rd_T30 l (i : Int) = l[i] := by
  unfold rd_T30
  rw [Int.toNat_natCast, List.getD_eq_getElem?_getD, List.getElem?_eq_getElem h]
  rfl
theorem idxG (pre rest : List Gr) (x : Gr) : ((pre ++ x :: rest).length : Int) = (pre.length : Int) + rest.length + 1 := by rw [List.length_append, List.length_cons]; omega
theorem nxtG (pre : List Gr) (x : Gr) (h : pre.length ≤ 100000) : wrap64 ((pre.length : Int) + 1) = ((pre ++ [x]).length : Int) := by
  rw [wrap64_id (by omega) (by omega), List.length_append]; simp
theorem row_eq (g : Gr) (h : Gok g) : group_row.f g.f0 g.f1 g.f2 = some (g.f0, g.f1, g.f1 + g.f2) := by
  obtain ⟨h0, h1, h2, h3, h4⟩ := h
  unfold group_row.f
  rw [wrap64_id (by omega) (by omega)]
theorem both1 (a0 a1 a2 b0 b1 b2 : Int) : span_both.f a0 a1 a2 b0 b1 b2 = some (if a0 = b0 then (a0, mx a1 b1, mn a2 b2) else (0, 0, 0)) := by
  unfold span_both.f
  split <;> rfl
theorem right1 (a0 a1 a2 : Int) : span_Right.f a0 a1 a2 = some (decide (0 ≤ a0 ∧ a0 < 4 ∧ 0 ≤ a1 ∧ a2 ≤ 65536 ∧ a1 < a2)) := by
  unfold span_Right.f
  split
  · split
    · split
      · split
        · congr 1; rw [decide_eq_decide]; omega
        · congr 1; symm; rw [decide_eq_false_iff_not]; omega
      · congr 1; symm; rw [decide_eq_false_iff_not]; omega
    · congr 1; symm; rw [decide_eq_false_iff_not]; omega
  · congr 1; symm; rw [decide_eq_false_iff_not]; omega
theorem rd1 (x : S32) : rd_T32 [x] 0 = x := rfl
theorem meets1 (g0 g1 g2 t a b : Int) (k : Nat) : span_Meets.f (k + 2) [⟨g0, g1, g2⟩] t a b = some (decide (g0 = t ∧ 0 ≤ g0 ∧ g0 < 4 ∧ 0 ≤ mx g1 a ∧ mn g2 b ≤ 65536 ∧ mx g1 a < mn g2 b)) := by
  have e1 : span_Meets.l0 (k + 1) [(⟨g0, g1, g2⟩ : S32)] 1 (wrap64 (0 + 1)) t a b = some false := by
    rw [span_Meets.l0, wrap64_id (by omega) (by omega), if_neg (by decide)]
  unfold span_Meets.f
  rw [show (([(⟨g0, g1, g2⟩ : S32)]).length : Int) = 1 from rfl, span_Meets.l0, if_pos (by decide), if_pos (by decide), if_pos (by simp), e1, rd1, both1, Option.bind_some, right1, Option.bind_some]
  by_cases h : g0 = t
  · rw [if_pos h]
    dsimp only
    by_cases h2 : 0 ≤ g0 ∧ g0 < 4 ∧ 0 ≤ mx g1 a ∧ mn g2 b ≤ 65536 ∧ mx g1 a < mn g2 b
    · rw [decide_eq_true h2, if_pos rfl, decide_eq_true ⟨h, h2⟩]
    · rw [decide_eq_false h2, if_neg (by decide), decide_eq_false (fun h3 => h2 h3.2)]
  · rw [if_neg h, decide_eq_false (by dsimp only; omega), if_neg (by decide), decide_eq_false (fun h3 => h h3.1)]
theorem covers1 (t a b g0 g1 g2 : Int) (k : Nat) (hg : 0 < g2) : span_Covers.f (k + 2) [⟨t, a, b⟩] g0 g1 g2 = some (decide (t = g0 ∧ a ≤ g1 ∧ g2 ≤ b)) := by
  have e1 : span_Covers.l0 (k + 1) [(⟨t, a, b⟩ : S32)] 1 (wrap64 (0 + 1)) g0 g1 g2 = some false := by
    rw [span_Covers.l0, wrap64_id (by omega) (by omega), if_neg (by decide)]
  unfold span_Covers.f
  rw [show (([(⟨t, a, b⟩ : S32)]).length : Int) = 1 from rfl, span_Covers.l0, if_pos (by decide), if_pos (by decide), if_pos (by simp), e1, rd1, both1, Option.bind_some]
  by_cases h : t = g0
  · rw [if_pos h]
    dsimp only
    by_cases h2 : a ≤ g1 ∧ g2 ≤ b
    · rw [decide_eq_true ⟨h, h2⟩, if_pos]
      simp only [Bool.and_eq_true, beq_iff_eq]
      unfold mx mn
      refine ⟨h, ?_, ?_⟩ <;> split <;> omega
    · rw [decide_eq_false (fun h3 => h2 h3.2), if_neg]
      simp only [Bool.and_eq_true, beq_iff_eq]
      rintro ⟨_, h4, h5⟩
      revert h4 h5
      unfold mx mn
      split <;> split <;> omega
  · rw [if_neg h, decide_eq_false (fun h3 => h h3.1), if_neg]
    simp only [Bool.and_eq_true, beq_iff_eq]
    omega
theorem splits_loop (t a b : Int) (ht : 0 ≤ a) (hb : b ≤ 65536) : ∀ (rest pre : List Gr) (k : Nat), (∀ g ∈ rest, Gok g) → pre.length + rest.length ≤ 100000 → rest.length + 3 < k →
    group_Splits.l0 k (pre ++ rest) ((pre ++ rest).length : Int) (pre.length : Int) t a b = some (decide (∃ g ∈ rest, Spl g t a b))
  | [], pre, k, _, _, hk => by
    obtain ⟨k, rfl⟩ : ∃ m, k = m + 1 := ⟨k - 1, by omega⟩
    rw [group_Splits.l0, if_neg (by simp)]
    simp
  | x :: rest, pre, k, hg, hl, hk => by
    obtain ⟨k, rfl⟩ : ∃ m, k = m + 3 := ⟨k - 3, by simp at hk; omega⟩
    have hx := hg x (by simp)
    have ih := splits_loop t a b ht hb rest (pre ++ [x]) (k + 2) (fun g h => hg g (by simp [h])) (by simp at hl ⊢; omega) (by simp at hk; omega)
    rw [List.append_assoc, List.singleton_append] at ih
    have hn := nxtG pre x (by simp at hl; omega)
    obtain ⟨h0, h1, h2, h3, h4⟩ := id hx
    have hs : (∃ g ∈ x :: rest, Spl g t a b) ↔ Spl x t a b ∨ ∃ g ∈ rest, Spl g t a b := by simp
    rw [group_Splits.l0, if_pos (by rw [idxG]; omega), if_pos (by omega), if_pos (by rw [idxG]; omega), rdG, row_eq x hx, Option.bind_some, Option.bind_some, meets1, Option.bind_some, hn, ih]
    by_cases hm : x.f0 = t ∧ 0 ≤ x.f0 ∧ x.f0 < 4 ∧ 0 ≤ mx x.f1 a ∧ mn (x.f1 + x.f2) b ≤ 65536 ∧ mx x.f1 a < mn (x.f1 + x.f2) b
    · rw [decide_eq_true hm, if_pos rfl, if_pos (by simp), rd1, covers1 _ _ _ _ _ _ k (by dsimp only; omega), Option.bind_some]
      obtain ⟨m0, _, _, _, _, m1⟩ := hm
      have m2 : a < b ∧ x.f1 < b ∧ a < x.f1 + x.f2 := by
        unfold mx mn at m1
        split at m1 <;> split at m1 <;> omega
      by_cases hc : t = x.f0 ∧ a ≤ x.f1 ∧ x.f1 + x.f2 ≤ b
      · rw [decide_eq_true hc, if_pos rfl]
        congr 1
        rw [decide_eq_decide, hs]
        constructor
        · exact .inr
        · rintro (h | h)
          · unfold Spl at h; omega
          · exact h
      · rw [decide_eq_false hc, if_neg (by decide), decide_eq_true]
        refine hs.2 (.inl ?_)
        unfold Spl
        omega
    · rw [decide_eq_false hm, if_neg (by decide)]
      congr 1
      rw [decide_eq_decide, hs]
      constructor
      · exact .inr
      · rintro (h | h)
        · refine absurd ?_ hm
          unfold Spl at h
          unfold mx mn
          refine ⟨h.1, by omega, by omega, ?_, ?_, ?_⟩
          · split <;> omega
          · split <;> omega
          · split <;> split <;> omega
        · exact h
theorem splits_eq (l : List Gr) (t a b : Int) (ha : 0 ≤ a) (hb : b ≤ 65536) (hg : Gs l) (hl : l.length ≤ 100000) {k : Nat} (hk : l.length + 3 < k) : group_Splits.f k l t a b = some (decide (∃ g ∈ l, Spl g t a b)) :=
  splits_loop t a b ha hb l [] k hg.1 (by simpa using hl) hk
/-- The next group: where it stands. -/
def nat_ (at_ n : Int) : Int := (at_ + (2 + 2 * (Int.tdiv n 2 % 2)) - 1) / (2 + 2 * (Int.tdiv n 2 % 2)) * (2 + 2 * (Int.tdiv n 2 % 2)) + (2 + 2 * (Int.tdiv n 2 % 2)) * (Int.tdiv n 4 % 3)
theorem nat_bounds (at_ n : Int) (h0 : 0 ≤ at_) : at_ ≤ nat_ at_ n ∧ nat_ at_ n ≤ at_ + 11 ∧ nat_ at_ n % (2 + 2 * (Int.tdiv n 2 % 2)) = 0 ∧ (Int.tdiv n 2 % 2 = 0 ∨ Int.tdiv n 2 % 2 = 1) ∧ 0 ≤ Int.tdiv n 4 % 3 ∧ Int.tdiv n 4 % 3 < 3 := by
  have e1 := Int.emod_nonneg (Int.tdiv n 2) (show (2 : Int) ≠ 0 by omega)
  have e2 := Int.emod_lt_of_pos (Int.tdiv n 2) (show (0 : Int) < 2 by omega)
  have e3 := Int.emod_nonneg (Int.tdiv n 4) (show (3 : Int) ≠ 0 by omega)
  have e4 := Int.emod_lt_of_pos (Int.tdiv n 4) (show (0 : Int) < 3 by omega)
  unfold nat_
  generalize Int.tdiv n 2 % 2 = d at *
  generalize Int.tdiv n 4 % 3 = e at *
  obtain rfl | rfl : d = 0 ∨ d = 1 := by omega
  · obtain rfl | rfl | rfl : e = 0 ∨ e = 1 ∨ e = 2 := by omega
    all_goals refine ⟨?_, ?_, ?_, ?_, ?_, ?_⟩ <;> omega
  · obtain rfl | rfl | rfl : e = 0 ∨ e = 1 ∨ e = 2 := by omega
    all_goals refine ⟨?_, ?_, ?_, ?_, ?_, ?_⟩ <;> omega
def gat (t at_ n : Int) : Gr := ⟨t, nat_ at_ n, 2 + 2 * (Int.tdiv n 2 % 2)⟩
/-- One round of All. -/
theorem all_step (ks : List Int) (hk : ∀ x ∈ ks, -9223372036854775808 ≤ x ∧ x < 9223372036854775808) (l : List Gr) (t at_ : Int) (i k : Nat) (hi : i < ks.length) (hi2 : i < 12) (ht : t = 2 ∨ t = 3) (h0 : 0 ≤ at_) (h1 : at_ ≤ 1000) (hl : l.length ≤ 1000) :
    busbarlaw14_All.l1 (k + 2) ks l t at_ (i : Int) = if ks[i] % 2 = t - 2 then busbarlaw14_All.l1 k ks (l ++ [gat t at_ ks[i]]) t (nat_ at_ ks[i] + (2 + 2 * (Int.tdiv ks[i] 2 % 2))) ((i + 1 : Nat) : Int) else busbarlaw14_All.l1 k ks l t at_ ((i + 1 : Nat) : Int) := by
  have hx := hk ks[i] (List.getElem_mem _)
  have hb := nat_bounds at_ ks[i] h0
  have hd := hb.2.2.2
  have hw1 : wrap64 ((i : Int) + 1) = ((i + 1 : Nat) : Int) := by rw [wrap64_id (by omega) (by omega)]; omega
  rw [busbarlaw14_All.l1, if_pos (by omega), decide_eq_true (by omega), busbarlaw14_All.j2, if_pos rfl, if_pos (by omega), if_pos (by omega), rd_get ks i hi, within_eq _ 2 (by omega) (by omega), Option.bind_some, wrap64_id (x := t - 2) (by omega) (by omega), hw1]
  by_cases h2 : ks[i] % 2 = t - 2
  · rw [if_pos h2, if_pos h2, digit_eq _ 2 2 hx (by omega) (by omega) (by omega), Option.bind_some]
    unfold gat
    have hn1 : 0 ≤ nat_ at_ ks[i] ∧ nat_ at_ ks[i] ≤ 1011 := by omega
    have hn := hn1
    unfold nat_ at hn ⊢
    revert hd hn
    generalize Int.tdiv ks[i] 2 % 2 = d
    rw [digit_eq _ 4 3 hx (by omega) (by omega) (by omega)]
    generalize Int.tdiv ks[i] 4 % 3 = e
    intro hd hn
    have w1 : wrap64 (2 * d) = 2 * d := wrap64_id (by omega) (by omega)
    have w2 : wrap64 (2 + 2 * d) = 2 + 2 * d := wrap64_id (by omega) (by omega)
    have w3 : wrap64 (at_ + (2 + 2 * d)) = at_ + (2 + 2 * d) := wrap64_id (by omega) (by omega)
    have w4 : wrap64 (at_ + (2 + 2 * d) - 1) = at_ + (2 + 2 * d) - 1 := wrap64_id (by omega) (by omega)
    have w5 : Int.tdiv (at_ + (2 + 2 * d) - 1) (2 + 2 * d) = (at_ + (2 + 2 * d) - 1) / (2 + 2 * d) := Int.tdiv_eq_ediv_of_nonneg (by omega)
    have w6 : 0 ≤ (at_ + (2 + 2 * d) - 1) / (2 + 2 * d) ∧ (at_ + (2 + 2 * d) - 1) / (2 + 2 * d) ≤ 1003 := by
      rcases hd.1 with rfl | rfl <;> omega
    have w7 : wrap64 ((at_ + (2 + 2 * d) - 1) / (2 + 2 * d)) = (at_ + (2 + 2 * d) - 1) / (2 + 2 * d) := wrap64_id (by omega) (by omega)
    have w8 : 0 ≤ (at_ + (2 + 2 * d) - 1) / (2 + 2 * d) * (2 + 2 * d) ∧ (at_ + (2 + 2 * d) - 1) / (2 + 2 * d) * (2 + 2 * d) ≤ 5000 := by
      rcases hd.1 with rfl | rfl <;> omega
    have w9 : wrap64 ((at_ + (2 + 2 * d) - 1) / (2 + 2 * d) * (2 + 2 * d)) = (at_ + (2 + 2 * d) - 1) / (2 + 2 * d) * (2 + 2 * d) := wrap64_id (by omega) (by omega)
    have w10 : 0 ≤ (2 + 2 * d) * e ∧ (2 + 2 * d) * e ≤ 8 := by
      rcases hd.1 with rfl | rfl <;> omega
    have w11 : wrap64 ((2 + 2 * d) * e) = (2 + 2 * d) * e := wrap64_id (by omega) (by omega)
    have w12 : wrap64 ((at_ + (2 + 2 * d) - 1) / (2 + 2 * d) * (2 + 2 * d) + (2 + 2 * d) * e) = (at_ + (2 + 2 * d) - 1) / (2 + 2 * d) * (2 + 2 * d) + (2 + 2 * d) * e := wrap64_id (by omega) (by omega)
    have w13 : wrap64 ((at_ + (2 + 2 * d) - 1) / (2 + 2 * d) * (2 + 2 * d) + (2 + 2 * d) * e + (2 + 2 * d)) = (at_ + (2 + 2 * d) - 1) / (2 + 2 * d) * (2 + 2 * d) + (2 + 2 * d) * e + (2 + 2 * d) := wrap64_id (by omega) (by omega)
    rw [w1, w2, if_neg (by omega), Option.bind_some, if_pos (by omega), w3, w4, w5, w7, w9, w11, w12, w13]
  · rw [if_neg h2, if_neg h2]
def Inv (l : List Gr) (t at_ : Int) : Prop := Gs l ∧ ∀ g ∈ l, g.f0 < t ∨ (g.f0 = t ∧ g.f1 + g.f2 ≤ at_)
theorem inv_next (l : List Gr) (t at_ n : Int) (ht : t = 2 ∨ t = 3) (h0 : 0 ≤ at_) (h1 : at_ ≤ 500) (h : Inv l t at_) : Inv (l ++ [gat t at_ n]) t (nat_ at_ n + (2 + 2 * (Int.tdiv n 2 % 2))) := by
  obtain ⟨⟨h2, h3⟩, h4⟩ := h
  have hb := nat_bounds at_ n h0
  refine ⟨⟨fun g hg => ?_, ?_⟩, fun g hg => ?_⟩
  · rcases List.mem_append.1 hg with hg | hg
    · exact h2 g hg
    · obtain rfl := List.mem_singleton.1 hg
      unfold Gok gat
      dsimp only
      refine ⟨ht, by omega, by omega, hb.2.2.1, by omega⟩
  · rw [List.pairwise_append]
    refine ⟨h3, by simp, fun a ha b hb2 => ?_⟩
    obtain rfl := List.mem_singleton.1 hb2
    have := h4 a ha
    unfold Gah gat
    dsimp only
    omega
  · rcases List.mem_append.1 hg with hg | hg
    · have := h4 g hg
      omega
    · obtain rfl := List.mem_singleton.1 hg
      unfold gat
      dsimp only
      omega
theorem all_loop (ks : List Int) (hk : ∀ x ∈ ks, -9223372036854775808 ≤ x ∧ x < 9223372036854775808) (t : Int) (ht : t = 2 ∨ t = 3) : ∀ (d i k : Nat) (l : List Gr) (at_ : Int), i + d = min ks.length 12 → 0 ≤ at_ → at_ ≤ 15 * i → l.length + d ≤ 500 → Inv l t at_ →
    ∃ l', busbarlaw14_All.l1 (k + 2 * d + 2) ks l t at_ (i : Int) = busbarlaw14_All.l0 k ks l' (t + 1) ∧ l'.length ≤ l.length + d ∧ Inv l' (t + 1) 0
  | 0, i, k, l, at_, hi, h0, h1, hl, hv => by
    refine ⟨l, ?_, by omega, hv.1, fun g hg => ?_⟩
    · show busbarlaw14_All.l1 (k + 2) ks l t at_ (i : Int) = _
      have hw : wrap64 (t + 1) = t + 1 := wrap64_id (by omega) (by omega)
      by_cases h : (i : Int) < (ks.length : Int)
      · rw [busbarlaw14_All.l1, if_pos h, decide_eq_false (by omega), busbarlaw14_All.j2, if_neg (by decide), hw]
      · rw [busbarlaw14_All.l1, if_neg h, busbarlaw14_All.j2, if_neg (by decide), hw]
    · have := hv.2 g hg
      omega
  | d + 1, i, k, l, at_, hi, h0, h1, hl, hv => by
    have hi1 : i < ks.length := by omega
    have hs := all_step ks hk l t at_ i (k + 2 * d + 2) hi1 (by omega) ht h0 (by omega) (by omega)
    have hb := nat_bounds at_ ks[i] h0
    rw [show k + 2 * (d + 1) + 2 = k + 2 * d + 2 + 2 by omega, hs]
    by_cases h2 : ks[i] % 2 = t - 2
    · rw [if_pos h2]
      have hv2 := inv_next l t at_ ks[i] ht h0 (by omega) hv
      obtain ⟨z, hz⟩ : ∃ z, z = nat_ at_ ks[i] + (2 + 2 * (Int.tdiv ks[i] 2 % 2)) := ⟨_, rfl⟩
      have hz0 : 0 ≤ z ∧ z ≤ 15 * ((i + 1 : Nat) : Int) := by
        obtain ⟨b1, b2, b3, b4, b5⟩ := hb
        omega
      rw [← hz] at hv2 ⊢
      obtain ⟨l', e, h3, h4⟩ := all_loop ks hk t ht d (i + 1) k (l ++ [gat t at_ ks[i]]) z (by omega) hz0.1 hz0.2 (by rw [List.length_append]; simp; omega) hv2
      exact ⟨l', e, by simp at h3; omega, h4⟩
    · rw [if_neg h2]
      obtain ⟨l', e, h3, h4⟩ := all_loop ks hk t ht d (i + 1) k l at_ (by omega) h0 (by omega) (by omega) hv
      exact ⟨l', e, by omega, h4⟩
def whole : List S32 := [⟨2, 0, 65536⟩, ⟨3, 0, 65536⟩]
theorem all_eq (ks : List Int) (hk : ∀ x ∈ ks, -9223372036854775808 ≤ x ∧ x < 9223372036854775808) : ∃ l, (∀ k, 70 ≤ k → busbarlaw14_All.f k ks = some (l, whole)) ∧ Gs l ∧ l.length ≤ 24 := by
  have hm : ∃ d, d = min ks.length 12 := ⟨_, rfl⟩
  obtain ⟨d, hd⟩ := hm
  obtain ⟨l1, e1, h1, v1⟩ := all_loop ks hk 2 (.inl rfl) d 0 (1 + (1 + 2 * d + 2)) [] 0 (by omega) (by omega) (by omega) (by simp; omega) ⟨⟨by simp, by simp⟩, by simp⟩
  obtain ⟨l2, e2, h2, v2⟩ := all_loop ks hk 3 (.inr rfl) d 0 1 l1 0 (by omega) (by omega) (by omega) (by simp at h1; omega) v1
  refine ⟨l2, fun k hk2 => ?_, v2.1, by simp at h1; omega⟩
  have h : busbarlaw14_All.f (1 + (1 + (1 + 2 * d + 2) + 2 * d + 2)) ks = some (l2, whole) := by
    unfold busbarlaw14_All.f
    rw [Nat.add_comm 1 (1 + (1 + 2 * d + 2) + 2 * d + 2), busbarlaw14_All.l0, if_pos (by decide)]
    refine Eq.trans e1 ?_
    rw [Nat.add_comm 1 (1 + 2 * d + 2), busbarlaw14_All.l0, if_pos (by decide)]
    refine Eq.trans e2 ?_
    rw [busbarlaw14_All.l0, if_neg (by decide)]
    rfl
  exact at_rounds (busbarlaw14_All.mono ks) (by omega) h
theorem gs_idx {l : List Gr} (h : Gs l) {i j : Nat} (hi : i < l.length) (hj : j < l.length) (hij : i < j) : Gah l[i] l[j] := List.pairwise_iff_getElem.1 h.2 i j hi hj hij
theorem gs_ok {l : List Gr} (h : Gs l) {i : Nat} (hi : i < l.length) : Gok l[i] := h.1 _ (List.getElem_mem _)
end Go.Proofs.Ytmbkbpaoiilicaa.LemGroupGroupA
