/- Words and walks for ConfSames (made of the session's own texts; each part by itself). -/
import Derived.RowKit
import Derived.Laws.BitsAllLaws
import Derived.Laws.BitsLemmas
import Derived.Test.YtjlbgopgeepiaaaZConfSames3
set_option linter.unusedVariables false
namespace Go.Proofs.Ytjlbgopgeepiaaa.Num
open Go.RowKit Go.Proofs.YtjlbgopgeepiaaaW.PrintWords Go.Proofs.YtjlbgopgeepiaaaW.PrintMore
theorem wf_i64 {x : Int} (h : (Lit.int .i64 x).wf = true) : -9223372036854775808 ≤ x ∧ x < 9223372036854775808 := by
  simp [Lit.wf, IntKind.min, IntKind.max, IntKind.signed, IntKind.bits] at h; omega
theorem wrap64_id {x : Int} (h1 : -9223372036854775808 ≤ x) (h2 : x < 9223372036854775808) : wrap64 x = x := by unfold wrap64; omega
theorem rd_get (l : List Int) (i : Nat) (h : i < l.length) : rd l (i : Int) = l[i] := by simp [rd, List.getD_eq_getElem?_getD, List.getElem?_eq_getElem h]
def raw (l : List Int) : List Int := l.flatMap fun w => [w / 256, w % 256]
end Go.Proofs.Ytjlbgopgeepiaaa.Num
set_option linter.unusedVariables false
set_option linter.unusedSimpArgs false
namespace Go.Proofs.Ytjlbgopgeepiaaa.Conf
open Go.RowKit Go.Proofs.Ytjlbgopgeepiaaa.PConf Go.Proofs.YtjlbgopgeepiaaaW.PrintWords Go.Proofs.YtjlbgopgeepiaaaW.PrintLast Go.Proofs.YtjlbgopgeepiaaaW.PrintMore Go.Proofs.Ytjlbgopgeepiaaa.Num
theorem ba_inj {a b : ByteArray} (h : a.toList = b.toList) : a = b := by
  rw [ByteArray.toList_eq, ByteArray.toList_eq] at h
  obtain ⟨a⟩ := a
  obtain ⟨b⟩ := b
  exact congrArg ByteArray.mk (Array.toList_inj.1 h)
theorem ext_sp (l0 l1 : List S46) (hl : l0.length = l1.length) (h : ∀ j : Nat, j < l0.length → rd_T46 l0 (j : Int) = rd_T46 l1 (j : Int)) : l0 = l1 := by
  apply List.ext_getElem hl
  intro i h1 h2
  have h3 := h i h1
  unfold rd_T46 at h3
  rw [Int.toNat_natCast, List.getD_eq_getElem?_getD, List.getD_eq_getElem?_getD, List.getElem?_eq_getElem h1, List.getElem?_eq_getElem h2] at h3
  exact h3
theorem eq_sp_l (l0 l1 : List S46) (hl : l0.length = l1.length) (hm : l0.length ≤ 1000) : ∀ (d i k : Nat), i + d = l0.length → d + 1 ≤ k → ∃ b, api_Span.l0 k l0 l1 (l0.length : Int) (i : Int) = some b ∧ (b = true ↔ ∀ j : Nat, i ≤ j → j < l0.length → rd_T46 l0 (j : Int) = rd_T46 l1 (j : Int))
  | 0, i, k, hi, hk => by
    obtain ⟨k, rfl⟩ : ∃ m, k = m + 1 := ⟨k - 1, by omega⟩
    rw [api_Span.l0, if_neg (by omega)]
    exact ⟨true, rfl, by simp only [true_iff]; intro j h1 h2; omega⟩
  | d + 1, i, k, hi, hk => by
    obtain ⟨k, rfl⟩ : ∃ m, k = m + 1 := ⟨k - 1, by omega⟩
    rw [api_Span.l0, if_pos (by omega), if_pos (by omega), if_pos (by omega), if_pos (by omega)]
    by_cases h : rd_T46 l0 (i : Int) = rd_T46 l1 (i : Int)
    · rw [if_neg (by rw [h]; simp), wrap64_id (by omega) (by omega), show (i : Int) + 1 = ((i + 1 : Nat) : Int) by omega]
      obtain ⟨b, h1, h2⟩ := eq_sp_l l0 l1 hl hm d (i + 1) k (by omega) (by omega)
      refine ⟨b, h1, h2.trans ⟨fun h3 j hj hjl => ?_, fun h3 j hj hjl => h3 j (by omega) hjl⟩⟩
      by_cases hji : j = i
      · rw [hji]; exact h
      · exact h3 j (by omega) hjl
    · refine ⟨false, ?_, by simp only [Bool.false_eq_true, false_iff]; intro h3; exact h (h3 i (Nat.le_refl _) (by omega))⟩
      rw [if_pos]
      generalize rd_T46 l0 (i : Int) = x at h ⊢
      generalize rd_T46 l1 (i : Int) = y at h ⊢
      obtain ⟨x0, x1, x2⟩ := x
      obtain ⟨y0, y1, y2⟩ := y
      simp only [S46.mk.injEq] at h
      simp only [Bool.or_eq_true, Bool.not_eq_true', beq_eq_false_iff_ne, ne_eq]
      exact Classical.byContradiction (fun hn => h (by simp only [not_or, Classical.not_not] at hn; exact hn))
theorem eq_sp (l0 l1 : List S46) (hm : l0.length ≤ 1000) (k : Nat) (hk : 1001 ≤ k) : ∃ b, api_Span.f k l0 l1 = some b ∧ (b = true ↔ l0 = l1) := by
  unfold api_Span.f
  by_cases hl : l0.length = l1.length
  · rw [if_pos (by omega)]
    obtain ⟨b, h1, h2⟩ := eq_sp_l l0 l1 hl hm l0.length 0 k (by omega) (by omega)
    exact ⟨b, h1, h2.trans ⟨fun h => ext_sp l0 l1 hl (fun j hj => h j (Nat.zero_le _) hj), fun h j _ _ => by rw [h]⟩⟩
  · rw [if_neg (by omega)]
    exact ⟨false, rfl, by simp only [Bool.false_eq_true, false_iff]; intro h; exact hl (by rw [h])⟩
theorem ext_gr (l0 l1 : List S48) (hl : l0.length = l1.length) (h : ∀ j : Nat, j < l0.length → rd_T48 l0 (j : Int) = rd_T48 l1 (j : Int)) : l0 = l1 := by
  apply List.ext_getElem hl
  intro i h1 h2
  have h3 := h i h1
  unfold rd_T48 at h3
  rw [Int.toNat_natCast, List.getD_eq_getElem?_getD, List.getD_eq_getElem?_getD, List.getElem?_eq_getElem h1, List.getElem?_eq_getElem h2] at h3
  exact h3
theorem eq_gr_l (l0 l1 : List S48) (hl : l0.length = l1.length) (hm : l0.length ≤ 1000) : ∀ (d i k : Nat), i + d = l0.length → d + 1 ≤ k → ∃ b, api_Group.l0 k l0 l1 (l0.length : Int) (i : Int) = some b ∧ (b = true ↔ ∀ j : Nat, i ≤ j → j < l0.length → rd_T48 l0 (j : Int) = rd_T48 l1 (j : Int))
  | 0, i, k, hi, hk => by
    obtain ⟨k, rfl⟩ : ∃ m, k = m + 1 := ⟨k - 1, by omega⟩
    rw [api_Group.l0, if_neg (by omega)]
    exact ⟨true, rfl, by simp only [true_iff]; intro j h1 h2; omega⟩
  | d + 1, i, k, hi, hk => by
    obtain ⟨k, rfl⟩ : ∃ m, k = m + 1 := ⟨k - 1, by omega⟩
    rw [api_Group.l0, if_pos (by omega), if_pos (by omega), if_pos (by omega), if_pos (by omega)]
    by_cases h : rd_T48 l0 (i : Int) = rd_T48 l1 (i : Int)
    · rw [if_neg (by rw [h]; simp), wrap64_id (by omega) (by omega), show (i : Int) + 1 = ((i + 1 : Nat) : Int) by omega]
      obtain ⟨b, h1, h2⟩ := eq_gr_l l0 l1 hl hm d (i + 1) k (by omega) (by omega)
      refine ⟨b, h1, h2.trans ⟨fun h3 j hj hjl => ?_, fun h3 j hj hjl => h3 j (by omega) hjl⟩⟩
      by_cases hji : j = i
      · rw [hji]; exact h
      · exact h3 j (by omega) hjl
    · refine ⟨false, ?_, by simp only [Bool.false_eq_true, false_iff]; intro h3; exact h (h3 i (Nat.le_refl _) (by omega))⟩
      rw [if_pos]
      generalize rd_T48 l0 (i : Int) = x at h ⊢
      generalize rd_T48 l1 (i : Int) = y at h ⊢
      obtain ⟨x0, x1, x2⟩ := x
      obtain ⟨y0, y1, y2⟩ := y
      simp only [S48.mk.injEq] at h
      simp only [Bool.or_eq_true, Bool.not_eq_true', beq_eq_false_iff_ne, ne_eq]
      exact Classical.byContradiction (fun hn => h (by simp only [not_or, Classical.not_not] at hn; exact hn))
theorem eq_gr (l0 l1 : List S48) (hm : l0.length ≤ 1000) (k : Nat) (hk : 1001 ≤ k) : ∃ b, api_Group.f k l0 l1 = some b ∧ (b = true ↔ l0 = l1) := by
  unfold api_Group.f
  by_cases hl : l0.length = l1.length
  · rw [if_pos (by omega)]
    obtain ⟨b, h1, h2⟩ := eq_gr_l l0 l1 hl hm l0.length 0 k (by omega) (by omega)
    exact ⟨b, h1, h2.trans ⟨fun h => ext_gr l0 l1 hl (fun j hj => h j (Nat.zero_le _) hj), fun h j _ _ => by rw [h]⟩⟩
  · rw [if_neg (by omega)]
    exact ⟨false, rfl, by simp only [Bool.false_eq_true, false_iff]; intro h; exact hl (by rw [h])⟩
theorem ext_ob (l0 l1 : List S50) (hl : l0.length = l1.length) (h : ∀ j : Nat, j < l0.length → rd_T50 l0 (j : Int) = rd_T50 l1 (j : Int)) : l0 = l1 := by
  apply List.ext_getElem hl
  intro i h1 h2
  have h3 := h i h1
  unfold rd_T50 at h3
  rw [Int.toNat_natCast, List.getD_eq_getElem?_getD, List.getD_eq_getElem?_getD, List.getElem?_eq_getElem h1, List.getElem?_eq_getElem h2] at h3
  exact h3
theorem eq_ob_l (l0 l1 : List S50) (hl : l0.length = l1.length) (hm : l0.length ≤ 1000) : ∀ (d i k : Nat), i + d = l0.length → d + 1 ≤ k → ∃ b, api_Object_31.l0 k l0 l1 (l0.length : Int) (i : Int) = some b ∧ (b = true ↔ ∀ j : Nat, i ≤ j → j < l0.length → rd_T50 l0 (j : Int) = rd_T50 l1 (j : Int))
  | 0, i, k, hi, hk => by
    obtain ⟨k, rfl⟩ : ∃ m, k = m + 1 := ⟨k - 1, by omega⟩
    rw [api_Object_31.l0, if_neg (by omega)]
    exact ⟨true, rfl, by simp only [true_iff]; intro j h1 h2; omega⟩
  | d + 1, i, k, hi, hk => by
    obtain ⟨k, rfl⟩ : ∃ m, k = m + 1 := ⟨k - 1, by omega⟩
    rw [api_Object_31.l0, if_pos (by omega), if_pos (by omega), if_pos (by omega), if_pos (by omega)]
    by_cases h : rd_T50 l0 (i : Int) = rd_T50 l1 (i : Int)
    · rw [if_neg (by rw [h]; simp), wrap64_id (by omega) (by omega), show (i : Int) + 1 = ((i + 1 : Nat) : Int) by omega]
      obtain ⟨b, h1, h2⟩ := eq_ob_l l0 l1 hl hm d (i + 1) k (by omega) (by omega)
      refine ⟨b, h1, h2.trans ⟨fun h3 j hj hjl => ?_, fun h3 j hj hjl => h3 j (by omega) hjl⟩⟩
      by_cases hji : j = i
      · rw [hji]; exact h
      · exact h3 j (by omega) hjl
    · refine ⟨false, ?_, by simp only [Bool.false_eq_true, false_iff]; intro h3; exact h (h3 i (Nat.le_refl _) (by omega))⟩
      rw [if_pos]
      generalize rd_T50 l0 (i : Int) = x at h ⊢
      generalize rd_T50 l1 (i : Int) = y at h ⊢
      obtain ⟨x0, x1⟩ := x
      obtain ⟨y0, y1⟩ := y
      simp only [S50.mk.injEq] at h
      simp only [Bool.or_eq_true, Bool.not_eq_true', beq_eq_false_iff_ne, ne_eq]
      exact Classical.byContradiction (fun hn => h (by simp only [not_or, Classical.not_not] at hn; exact ⟨hn.1, ba_inj hn.2⟩))
theorem eq_ob (l0 l1 : List S50) (hm : l0.length ≤ 1000) (k : Nat) (hk : 1001 ≤ k) : ∃ b, api_Object_31.f k l0 l1 = some b ∧ (b = true ↔ l0 = l1) := by
  unfold api_Object_31.f
  by_cases hl : l0.length = l1.length
  · rw [if_pos (by omega)]
    obtain ⟨b, h1, h2⟩ := eq_ob_l l0 l1 hl hm l0.length 0 k (by omega) (by omega)
    exact ⟨b, h1, h2.trans ⟨fun h => ext_ob l0 l1 hl (fun j hj => h j (Nat.zero_le _) hj), fun h j _ _ => by rw [h]⟩⟩
  · rw [if_neg (by omega)]
    exact ⟨false, rfl, by simp only [Bool.false_eq_true, false_iff]; intro h; exact hl (by rw [h])⟩
theorem ext_rsp (l0 l1 : List S46) (hl : l0.length = l1.length) (h : ∀ j : Nat, j < l0.length → rd_T46 l0 (j : Int) = rd_T46 l1 (j : Int)) : l0 = l1 := by
  apply List.ext_getElem hl
  intro i h1 h2
  have h3 := h i h1
  unfold rd_T46 at h3
  rw [Int.toNat_natCast, List.getD_eq_getElem?_getD, List.getD_eq_getElem?_getD, List.getElem?_eq_getElem h1, List.getElem?_eq_getElem h2] at h3
  exact h3
theorem eq_rsp_l (l0 l1 : List S46) (hl : l0.length = l1.length) (hm : l0.length ≤ 1000) : ∀ (d i k : Nat), i + d = l0.length → d + 1 ≤ k → ∃ b, busbarref12_SameSpans.l0 k l0 l1 (i : Int) = some b ∧ (b = true ↔ ∀ j : Nat, i ≤ j → j < l0.length → rd_T46 l0 (j : Int) = rd_T46 l1 (j : Int))
  | 0, i, k, hi, hk => by
    obtain ⟨k, rfl⟩ : ∃ m, k = m + 1 := ⟨k - 1, by omega⟩
    rw [busbarref12_SameSpans.l0, if_neg (by omega)]
    exact ⟨true, rfl, by simp only [true_iff]; intro j h1 h2; omega⟩
  | d + 1, i, k, hi, hk => by
    obtain ⟨k, rfl⟩ : ∃ m, k = m + 1 := ⟨k - 1, by omega⟩
    rw [busbarref12_SameSpans.l0, if_pos (by omega), if_pos (by omega), if_pos (by omega)]
    by_cases h : rd_T46 l0 (i : Int) = rd_T46 l1 (i : Int)
    · rw [if_neg (by rw [h]; simp), wrap64_id (by omega) (by omega), show (i : Int) + 1 = ((i + 1 : Nat) : Int) by omega]
      obtain ⟨b, h1, h2⟩ := eq_rsp_l l0 l1 hl hm d (i + 1) k (by omega) (by omega)
      refine ⟨b, h1, h2.trans ⟨fun h3 j hj hjl => ?_, fun h3 j hj hjl => h3 j (by omega) hjl⟩⟩
      by_cases hji : j = i
      · rw [hji]; exact h
      · exact h3 j (by omega) hjl
    · refine ⟨false, ?_, by simp only [Bool.false_eq_true, false_iff]; intro h3; exact h (h3 i (Nat.le_refl _) (by omega))⟩
      rw [if_pos]
      generalize rd_T46 l0 (i : Int) = x at h ⊢
      generalize rd_T46 l1 (i : Int) = y at h ⊢
      obtain ⟨x0, x1, x2⟩ := x
      obtain ⟨y0, y1, y2⟩ := y
      simp only [S46.mk.injEq] at h
      simp only [Bool.or_eq_true, Bool.not_eq_true', beq_eq_false_iff_ne, ne_eq]
      exact Classical.byContradiction (fun hn => h (by simp only [not_or, Classical.not_not] at hn; exact hn))
theorem eq_rsp (l0 l1 : List S46) (hm : l0.length ≤ 1000) (k : Nat) (hk : 1001 ≤ k) : ∃ b, busbarref12_SameSpans.f k l0 l1 = some b ∧ (b = true ↔ l0 = l1) := by
  unfold busbarref12_SameSpans.f
  by_cases hl : l0.length = l1.length
  · rw [if_pos (by omega)]
    obtain ⟨b, h1, h2⟩ := eq_rsp_l l0 l1 hl hm l0.length 0 k (by omega) (by omega)
    exact ⟨b, h1, h2.trans ⟨fun h => ext_rsp l0 l1 hl (fun j hj => h j (Nat.zero_le _) hj), fun h j _ _ => by rw [h]⟩⟩
  · rw [if_neg (by omega)]
    exact ⟨false, rfl, by simp only [Bool.false_eq_true, false_iff]; intro h; exact hl (by rw [h])⟩
theorem ext_rgr (l0 l1 : List S48) (hl : l0.length = l1.length) (h : ∀ j : Nat, j < l0.length → rd_T48 l0 (j : Int) = rd_T48 l1 (j : Int)) : l0 = l1 := by
  apply List.ext_getElem hl
  intro i h1 h2
  have h3 := h i h1
  unfold rd_T48 at h3
  rw [Int.toNat_natCast, List.getD_eq_getElem?_getD, List.getD_eq_getElem?_getD, List.getElem?_eq_getElem h1, List.getElem?_eq_getElem h2] at h3
  exact h3
theorem eq_rgr_l (l0 l1 : List S48) (hl : l0.length = l1.length) (hm : l0.length ≤ 1000) : ∀ (d i k : Nat), i + d = l0.length → d + 1 ≤ k → ∃ b, busbarref12_SameGroups.l0 k l0 l1 (i : Int) = some b ∧ (b = true ↔ ∀ j : Nat, i ≤ j → j < l0.length → rd_T48 l0 (j : Int) = rd_T48 l1 (j : Int))
  | 0, i, k, hi, hk => by
    obtain ⟨k, rfl⟩ : ∃ m, k = m + 1 := ⟨k - 1, by omega⟩
    rw [busbarref12_SameGroups.l0, if_neg (by omega)]
    exact ⟨true, rfl, by simp only [true_iff]; intro j h1 h2; omega⟩
  | d + 1, i, k, hi, hk => by
    obtain ⟨k, rfl⟩ : ∃ m, k = m + 1 := ⟨k - 1, by omega⟩
    rw [busbarref12_SameGroups.l0, if_pos (by omega), if_pos (by omega), if_pos (by omega)]
    by_cases h : rd_T48 l0 (i : Int) = rd_T48 l1 (i : Int)
    · rw [if_neg (by rw [h]; simp), wrap64_id (by omega) (by omega), show (i : Int) + 1 = ((i + 1 : Nat) : Int) by omega]
      obtain ⟨b, h1, h2⟩ := eq_rgr_l l0 l1 hl hm d (i + 1) k (by omega) (by omega)
      refine ⟨b, h1, h2.trans ⟨fun h3 j hj hjl => ?_, fun h3 j hj hjl => h3 j (by omega) hjl⟩⟩
      by_cases hji : j = i
      · rw [hji]; exact h
      · exact h3 j (by omega) hjl
    · refine ⟨false, ?_, by simp only [Bool.false_eq_true, false_iff]; intro h3; exact h (h3 i (Nat.le_refl _) (by omega))⟩
      rw [if_pos]
      generalize rd_T48 l0 (i : Int) = x at h ⊢
      generalize rd_T48 l1 (i : Int) = y at h ⊢
      obtain ⟨x0, x1, x2⟩ := x
      obtain ⟨y0, y1, y2⟩ := y
      simp only [S48.mk.injEq] at h
      simp only [Bool.or_eq_true, Bool.not_eq_true', beq_eq_false_iff_ne, ne_eq]
      exact Classical.byContradiction (fun hn => h (by simp only [not_or, Classical.not_not] at hn; exact hn))
theorem eq_rgr (l0 l1 : List S48) (hm : l0.length ≤ 1000) (k : Nat) (hk : 1001 ≤ k) : ∃ b, busbarref12_SameGroups.f k l0 l1 = some b ∧ (b = true ↔ l0 = l1) := by
  unfold busbarref12_SameGroups.f
  by_cases hl : l0.length = l1.length
  · rw [if_pos (by omega)]
    obtain ⟨b, h1, h2⟩ := eq_rgr_l l0 l1 hl hm l0.length 0 k (by omega) (by omega)
    exact ⟨b, h1, h2.trans ⟨fun h => ext_rgr l0 l1 hl (fun j hj => h j (Nat.zero_le _) hj), fun h j _ _ => by rw [h]⟩⟩
  · rw [if_neg (by omega)]
    exact ⟨false, rfl, by simp only [Bool.false_eq_true, false_iff]; intro h; exact hl (by rw [h])⟩
theorem ext_rob (l0 l1 : List S50) (hl : l0.length = l1.length) (h : ∀ j : Nat, j < l0.length → rd_T50 l0 (j : Int) = rd_T50 l1 (j : Int)) : l0 = l1 := by
  apply List.ext_getElem hl
  intro i h1 h2
  have h3 := h i h1
  unfold rd_T50 at h3
  rw [Int.toNat_natCast, List.getD_eq_getElem?_getD, List.getD_eq_getElem?_getD, List.getElem?_eq_getElem h1, List.getElem?_eq_getElem h2] at h3
  exact h3
theorem eq_rob_l (l0 l1 : List S50) (hl : l0.length = l1.length) (hm : l0.length ≤ 1000) : ∀ (d i k : Nat), i + d = l0.length → d + 1 ≤ k → ∃ b, busbarref12_SameObjects.l0 k l0 l1 (i : Int) = some b ∧ (b = true ↔ ∀ j : Nat, i ≤ j → j < l0.length → rd_T50 l0 (j : Int) = rd_T50 l1 (j : Int))
  | 0, i, k, hi, hk => by
    obtain ⟨k, rfl⟩ : ∃ m, k = m + 1 := ⟨k - 1, by omega⟩
    rw [busbarref12_SameObjects.l0, if_neg (by omega)]
    exact ⟨true, rfl, by simp only [true_iff]; intro j h1 h2; omega⟩
  | d + 1, i, k, hi, hk => by
    obtain ⟨k, rfl⟩ : ∃ m, k = m + 1 := ⟨k - 1, by omega⟩
    rw [busbarref12_SameObjects.l0, if_pos (by omega), if_pos (by omega), if_pos (by omega)]
    by_cases h : rd_T50 l0 (i : Int) = rd_T50 l1 (i : Int)
    · rw [if_neg (by rw [h]; simp), wrap64_id (by omega) (by omega), show (i : Int) + 1 = ((i + 1 : Nat) : Int) by omega]
      obtain ⟨b, h1, h2⟩ := eq_rob_l l0 l1 hl hm d (i + 1) k (by omega) (by omega)
      refine ⟨b, h1, h2.trans ⟨fun h3 j hj hjl => ?_, fun h3 j hj hjl => h3 j (by omega) hjl⟩⟩
      by_cases hji : j = i
      · rw [hji]; exact h
      · exact h3 j (by omega) hjl
    · refine ⟨false, ?_, by simp only [Bool.false_eq_true, false_iff]; intro h3; exact h (h3 i (Nat.le_refl _) (by omega))⟩
      rw [if_pos]
      generalize rd_T50 l0 (i : Int) = x at h ⊢
      generalize rd_T50 l1 (i : Int) = y at h ⊢
      obtain ⟨x0, x1⟩ := x
      obtain ⟨y0, y1⟩ := y
      simp only [S50.mk.injEq] at h
      simp only [Bool.or_eq_true, Bool.not_eq_true', beq_eq_false_iff_ne, ne_eq]
      exact Classical.byContradiction (fun hn => h (by simp only [not_or, Classical.not_not] at hn; exact ⟨hn.1, ba_inj hn.2⟩))
theorem eq_rob (l0 l1 : List S50) (hm : l0.length ≤ 1000) (k : Nat) (hk : 1001 ≤ k) : ∃ b, busbarref12_SameObjects.f k l0 l1 = some b ∧ (b = true ↔ l0 = l1) := by
  unfold busbarref12_SameObjects.f
  by_cases hl : l0.length = l1.length
  · rw [if_pos (by omega)]
    obtain ⟨b, h1, h2⟩ := eq_rob_l l0 l1 hl hm l0.length 0 k (by omega) (by omega)
    exact ⟨b, h1, h2.trans ⟨fun h => ext_rob l0 l1 hl (fun j hj => h j (Nat.zero_le _) hj), fun h j _ _ => by rw [h]⟩⟩
  · rw [if_neg (by omega)]
    exact ⟨false, rfl, by simp only [Bool.false_eq_true, false_iff]; intro h; exact hl (by rw [h])⟩
theorem same_f (l0 m0 : List S46) (l1 m1 : List S48) (a2 a3 a4 a5 a6 a7 a8 a9 a10 a11 b2 b3 b4 b5 b6 b7 b8 b9 b10 b11 : Int) (l2 m2 : List S50) (h0 : l0.length ≤ 1000) (h1 : l1.length ≤ 1000) (h2 : l2.length ≤ 1000) (k : Nat) (hk : 1001 ≤ k) : ∃ b, conf_Same.f k l0 l1 a2 a3 a4 a5 a6 a7 a8 a9 a10 a11 l2 m0 m1 b2 b3 b4 b5 b6 b7 b8 b9 b10 b11 m2 = some b ∧ (b = true ↔ (a2 = b2 ∧ a3 = b3 ∧ a4 = b4 ∧ a5 = b5 ∧ a6 = b6 ∧ a7 = b7 ∧ a8 = b8 ∧ a9 = b9 ∧ a10 = b10 ∧ a11 = b11) ∧ l0 = m0 ∧ l1 = m1 ∧ l2 = m2) := by
  unfold conf_Same.f conf_of.f
  simp only [Option.bind_some, Bool.and_eq_true, beq_iff_eq]
  by_cases hn : a2 = b2 ∧ a3 = b3 ∧ a4 = b4 ∧ a5 = b5 ∧ a6 = b6 ∧ a7 = b7 ∧ a8 = b8 ∧ a9 = b9 ∧ a10 = b10 ∧ a11 = b11
  · rw [if_pos hn]
    obtain ⟨b0, e0, f0⟩ := eq_sp l0 m0 h0 k hk
    rw [e0, Option.bind_some]
    by_cases c0 : l0 = m0
    · rw [if_pos (f0.2 c0)]
      obtain ⟨b1, e1, f1⟩ := eq_gr l1 m1 h1 k hk
      rw [e1, Option.bind_some]
      by_cases c1 : l1 = m1
      · rw [if_pos (f1.2 c1)]
        obtain ⟨b2, e2, f2⟩ := eq_ob l2 m2 h2 k hk
        rw [e2, Option.bind_some]
        exact ⟨b2, rfl, f2.trans ⟨fun h => ⟨hn, c0, c1, h⟩, fun h => h.2.2.2⟩⟩
      · rw [if_neg (fun h => c1 (f1.1 h))]
        exact ⟨false, rfl, by simp only [Bool.false_eq_true, false_iff]; exact fun h => c1 h.2.2.1⟩
    · rw [if_neg (fun h => c0 (f0.1 h))]
      exact ⟨false, rfl, by simp only [Bool.false_eq_true, false_iff]; exact fun h => c0 h.2.1⟩
  · rw [if_neg hn]
    exact ⟨false, rfl, by simp only [Bool.false_eq_true, false_iff]; exact fun h => hn h.1⟩
end Go.Proofs.Ytjlbgopgeepiaaa.Conf
