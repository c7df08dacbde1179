/- What LentSpans and StaysSpans answer (group SpanL). -/
import Derived.Test.YtkioalfallhegaaPSpanLx0
import Derived.Test.YtkioalfallhegaaPSpanLx10
import Derived.Test.YtkioalfallhegaaPSpanLx7
import Derived.Test.YtkioalfallhegaaNum
set_option linter.unusedVariables false
set_option linter.unusedSimpArgs false
namespace Go.Proofs.Ytkioalfallhegaa.LemLentSSpanL
open Go.RowKit Go.Proofs.Ytkioalfallhegaa.PSpanL Go.Proofs.YtkioalfallhegaaW.PrintWords Go.Proofs.YtkioalfallhegaaW.PrintLast Go.Proofs.YtkioalfallhegaaW.PrintMore Go.Proofs.Ytkioalfallhegaa.Num

abbrev M7 : S47 := ⟨7, 7, 7⟩
theorem laid0 {α : Type} (z : α) (l : List α) : Kd.laid (List.replicate (l.length + 3) z) 0 (min l.length (List.replicate (l.length + 3) z).length) l = l ++ [z, z, z] := by
  unfold Kd.laid
  rw [List.length_replicate, Nat.min_eq_left (by omega), List.take_length, Nat.zero_add, List.drop_replicate, Nat.add_sub_cancel_left]
  rfl
theorem marks_eq : Kd.marks k47 = [M7, M7, M7] := rfl
theorem set_mk {α : Type} (l : List α) (a b c m : α) : (l ++ [a, b, c]).set l.length m = l ++ [m, b, c] ∧ (l ++ [a, b, c]).set (l.length + 1) m = l ++ [a, m, c] ∧ (l ++ [a, b, c]).set (l.length + 2) m = l ++ [a, b, m] := by
  refine ⟨?_, ?_, ?_⟩
  · rw [List.set_append_right _ _ (Nat.le_refl _), Nat.sub_self]; rfl
  · rw [List.set_append_right _ _ (by omega), Nat.add_sub_cancel_left]; rfl
  · rw [List.set_append_right _ _ (by omega), Nat.add_sub_cancel_left]; rfl
theorem lent_round (l x : List S47) (k i : Nat) (hl : l.length ≤ 100000) (hi : i < x.length) (hi2 : i ≤ 200000) : busbarlaw0_LentSpans.l0 (k + 1) l x (i : Int) = busbarlaw0_LentSpans.l0 k l (x.set i M7) ((i + 1 : Nat) : Int) := by
  rw [busbarlaw0_LentSpans.l0, if_pos (by omega), if_pos (by omega), Int.toNat_natCast, wrap64_id (by omega) (by omega)]
  rfl
theorem lent_eq (l : List S47) (hl : l.length ≤ 100000) {k : Nat} (hk : 5 ≤ k) : busbarlaw0_LentSpans.f k l = some l := by
  obtain ⟨k, rfl⟩ : ∃ m, k = m + 4 := ⟨k - 4, by omega⟩
  unfold busbarlaw0_LentSpans.f
  have e : ((wrap64 ((l.length : Int) + 3)) : Int).toNat = l.length + 3 := by rw [wrap64_id (by omega) (by omega)]; omega
  have hlen : ∀ a b c : S47, (l ++ [a, b, c]).length = l.length + 3 := fun _ _ _ => by simp
  rw [if_pos (by rw [wrap64_id (by omega) (by omega)]; omega), e, if_pos (by omega), Option.bind_some, if_pos (by simp), laid0,
    lent_round l _ (k + 3) l.length hl (by rw [hlen]; omega) (by omega), (set_mk l _ _ _ _).1,
    lent_round l _ (k + 2) (l.length + 1) hl (by rw [hlen]; omega) (by omega), (set_mk l _ _ _ _).2.1,
    lent_round l _ (k + 1) (l.length + 1 + 1) hl (by rw [hlen]; omega) (by omega), (set_mk l _ _ _ _).2.2,
    busbarlaw0_LentSpans.l0, if_neg (by rw [hlen]; omega), if_pos (by omega), if_pos (by rw [hlen]; omega), Int.toNat_natCast, List.drop_left, if_pos marks_eq.symm, List.take_left]
theorem rd_left (l m : List S47) (i : Nat) (h : i < l.length) : rd_T47 (l ++ m) (i : Int) = rd_T47 l (i : Int) := by
  unfold rd_T47
  rw [List.getD_eq_getElem?_getD, List.getD_eq_getElem?_getD, Int.toNat_natCast, List.getElem?_append_left h]
theorem rd_marks (l : List S47) (i : Nat) (h : l.length ≤ i) (h2 : i < l.length + 3) : rd_T47 (l ++ Kd.marks k47) (i : Int) = M7 := by
  obtain ⟨j, rfl⟩ : ∃ j, i = l.length + j := ⟨i - l.length, by omega⟩
  unfold rd_T47
  rw [Int.toNat_natCast, List.getD_eq_getElem?_getD, List.getElem?_append_right h, Nat.add_sub_cancel_left, marks_eq]
  obtain rfl | rfl | rfl : j = 0 ∨ j = 1 ∨ j = 2 := by omega
  all_goals rfl
theorem stays_loop (l : List S47) (hl : l.length ≤ 100000) : ∀ (d i k : Nat), i + d = l.length + 3 → d < k → busbarlaw0_StaysSpans.l0 k l (l ++ Kd.marks k47) (i : Int) = some true
  | 0, i, k, h, hk => by
    obtain ⟨k, rfl⟩ : ∃ m, k = m + 1 := ⟨k - 1, by omega⟩
    rw [busbarlaw0_StaysSpans.l0, if_neg (by rw [List.length_append, marks_eq]; simp; omega)]
  | d + 1, i, k, h, hk => by
    obtain ⟨k, rfl⟩ : ∃ m, k = m + 1 := ⟨k - 1, by omega⟩
    have ih := stays_loop l hl d (i + 1) k (by omega) (by omega)
    have hw : wrap64 ((i : Int) + 1) = ((i + 1 : Nat) : Int) := by rw [wrap64_id (by omega) (by omega)]; rfl
    rw [busbarlaw0_StaysSpans.l0, if_pos (by rw [List.length_append, marks_eq]; simp; omega), hw, ih]
    by_cases hi : i < l.length
    · rw [if_pos (by omega), if_pos (by omega), rd_left l _ i hi, if_neg (by simp), if_neg (by omega)]
    · rw [if_neg (by omega), if_pos (by omega), if_pos (by omega), rd_marks l i (by omega) (by omega), if_neg (by simp)]
theorem stays_eq (l : List S47) (hl : l.length ≤ 100000) {k : Nat} (hk : l.length + 4 ≤ k) : busbarlaw0_StaysSpans.f k l l = some true := by
  unfold busbarlaw0_StaysSpans.f
  have e : (l ++ Kd.marks k47).length = l.length + 3 := by rw [List.length_append, marks_eq]; rfl
  rw [if_pos rfl, if_pos (by rw [wrap64_id (by omega) (by omega)]; omega), if_pos (by rw [wrap64_id (by omega) (by omega), e]; omega)]
  exact stays_loop l hl (l.length + 3) 0 k (by omega) (by omega)
end Go.Proofs.Ytkioalfallhegaa.LemLentSSpanL
