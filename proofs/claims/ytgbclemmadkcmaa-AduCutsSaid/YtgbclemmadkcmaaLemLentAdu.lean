/- What LentBytes and StaysBytes answer (group Adu). -/
import Derived.Test.YtgbclemmadkcmaaPAdux0
import Derived.Test.YtgbclemmadkcmaaPAdux5
import Derived.Test.YtgbclemmadkcmaaPAdux9
import Derived.Test.YtgbclemmadkcmaaNum
set_option linter.unusedVariables false
set_option linter.unusedSimpArgs false
namespace Go.Proofs.Ytgbclemmadkcmaa.LemLentAdu
open Go.RowKit Go.Proofs.Ytgbclemmadkcmaa.PAdu Go.Proofs.YtgbclemmadkcmaaW.PrintWords Go.Proofs.YtgbclemmadkcmaaW.PrintLast Go.Proofs.YtgbclemmadkcmaaW.PrintMore Go.Proofs.Ytgbclemmadkcmaa.Num

theorem laid0 {α : Type} (z : α) (l : List α) : Kd.laid (List.replicate (l.length + 3) z) 0 (min l.length (List.replicate (l.length + 3) z).length) l = l ++ [z, z, z] := by
  unfold Kd.laid
  rw [List.length_replicate, Nat.min_eq_left (by omega), List.take_length, Nat.zero_add, List.drop_replicate, Nat.add_sub_cancel_left]
  rfl
theorem marks_eq : Kd.marks (Kd.int .u8) = [165, 165, 165] := rfl
theorem set_mk {α : Type} (l : List α) (a b c m : α) : (l ++ [a, b, c]).set l.length m = l ++ [m, b, c] ∧ (l ++ [a, b, c]).set (l.length + 1) m = l ++ [a, m, c] ∧ (l ++ [a, b, c]).set (l.length + 2) m = l ++ [a, b, m] := by
  refine ⟨?_, ?_, ?_⟩
  · rw [List.set_append_right _ _ (Nat.le_refl _), Nat.sub_self]; rfl
  · rw [List.set_append_right _ _ (by omega), Nat.add_sub_cancel_left]; rfl
  · rw [List.set_append_right _ _ (by omega), Nat.add_sub_cancel_left]; rfl
theorem lent_round (l x : List Int) (k i : Nat) (hl : l.length ≤ 100000) (hi : i < x.length) (hi2 : i ≤ 200000) : busbarlaw0_LentBytes.l0 (k + 1) l x (i : Int) = busbarlaw0_LentBytes.l0 k l (x.set i 165) ((i + 1 : Nat) : Int) := by
  rw [busbarlaw0_LentBytes.l0, if_pos (by omega), if_pos (by omega), Int.toNat_natCast, wrap64_id (by omega) (by omega)]
  rfl
theorem lent_eq (l : List Int) (hl : l.length ≤ 100000) {k : Nat} (hk : 5 ≤ k) : busbarlaw0_LentBytes.f k l = some l := by
  obtain ⟨k, rfl⟩ : ∃ m, k = m + 4 := ⟨k - 4, by omega⟩
  unfold busbarlaw0_LentBytes.f
  have e : ((wrap64 ((l.length : Int) + 3)) : Int).toNat = l.length + 3 := by rw [wrap64_id (by omega) (by omega)]; omega
  have hlen : ∀ a b c : Int, (l ++ [a, b, c]).length = l.length + 3 := fun _ _ _ => by simp
  rw [if_pos (by rw [wrap64_id (by omega) (by omega)]; omega), e, if_pos (by omega), Option.bind_some, if_pos (by simp), laid0,
    lent_round l _ (k + 3) l.length hl (by rw [hlen]; omega) (by omega), (set_mk l _ _ _ _).1,
    lent_round l _ (k + 2) (l.length + 1) hl (by rw [hlen]; omega) (by omega), (set_mk l _ _ _ _).2.1,
    lent_round l _ (k + 1) (l.length + 1 + 1) hl (by rw [hlen]; omega) (by omega), (set_mk l _ _ _ _).2.2,
    busbarlaw0_LentBytes.l0, if_neg (by rw [hlen]; omega), if_pos (by omega), if_pos (by rw [hlen]; omega), Int.toNat_natCast, List.drop_left, if_pos marks_eq.symm, List.take_left]
theorem rd_left (l m : List Int) (i : Nat) (h : i < l.length) : rd (l ++ m) (i : Int) = rd l (i : Int) := by
  simp [rd, List.getD_eq_getElem?_getD, List.getElem?_append_left h]
theorem rd_marks (l : List Int) (i : Nat) (h : l.length ≤ i) (h2 : i < l.length + 3) : rd (l ++ Kd.marks (Kd.int .u8)) (i : Int) = 165 := by
  obtain ⟨j, rfl⟩ : ∃ j, i = l.length + j := ⟨i - l.length, by omega⟩
  unfold rd
  rw [Int.toNat_natCast, List.getD_eq_getElem?_getD, List.getElem?_append_right h, Nat.add_sub_cancel_left, marks_eq]
  obtain rfl | rfl | rfl : j = 0 ∨ j = 1 ∨ j = 2 := by omega
  all_goals rfl
theorem stays_loop (l : List Int) (hl : l.length ≤ 100000) : ∀ (d i k : Nat), i + d = l.length + 3 → d < k → busbarlaw0_StaysBytes.l0 k l (l ++ Kd.marks (Kd.int .u8)) (i : Int) = some true
  | 0, i, k, h, hk => by
    obtain ⟨k, rfl⟩ : ∃ m, k = m + 1 := ⟨k - 1, by omega⟩
    rw [busbarlaw0_StaysBytes.l0, if_neg (by rw [List.length_append, marks_eq]; simp; omega)]
  | d + 1, i, k, h, hk => by
    obtain ⟨k, rfl⟩ : ∃ m, k = m + 1 := ⟨k - 1, by omega⟩
    have ih := stays_loop l hl d (i + 1) k (by omega) (by omega)
    have hw : wrap64 ((i : Int) + 1) = ((i + 1 : Nat) : Int) := by rw [wrap64_id (by omega) (by omega)]; rfl
    rw [busbarlaw0_StaysBytes.l0, if_pos (by rw [List.length_append, marks_eq]; simp; omega), hw, ih]
    by_cases hi : i < l.length
    · rw [if_pos (by omega), if_pos (by omega), if_pos (rd_left l _ i hi), if_neg (by omega)]
    · rw [if_neg (by omega), if_pos (by omega), if_pos (by omega), if_pos (rd_marks l i (by omega) (by omega))]
theorem stays_eq (l : List Int) (hl : l.length ≤ 100000) {k : Nat} (hk : l.length + 4 ≤ k) : busbarlaw0_StaysBytes.f k l l = some true := by
  unfold busbarlaw0_StaysBytes.f
  have e : (l ++ Kd.marks (Kd.int .u8)).length = l.length + 3 := by rw [List.length_append, marks_eq]; rfl
  rw [if_pos rfl, if_pos (by rw [wrap64_id (by omega) (by omega)]; omega), if_pos (by rw [wrap64_id (by omega) (by omega), e]; omega)]
  exact stays_loop l hl (l.length + 3) 0 k (by omega) (by omega)
end Go.Proofs.Ytgbclemmadkcmaa.LemLentAdu
