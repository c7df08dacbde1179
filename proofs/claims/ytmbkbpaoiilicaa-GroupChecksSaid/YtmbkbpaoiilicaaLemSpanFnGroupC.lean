/- What span's functions and the document's answer, as plain lists (group GroupC). -/
import Derived.Test.YtmbkbpaoiilicaaPGroupCx0
import Derived.Test.YtmbkbpaoiilicaaPGroupCx2
import Derived.Test.YtmbkbpaoiilicaaLemSpanGroupC
import Derived.Test.YtmbkbpaoiilicaaLemWithinGroupC
set_option linter.unusedVariables false
set_option linter.unusedSimpArgs false
namespace Go.Proofs.Ytmbkbpaoiilicaa.LemSpanFnGroupC
open Go.RowKit Go.Proofs.Ytmbkbpaoiilicaa.PGroupC Go.Proofs.YtmbkbpaoiilicaaW.PrintWords Go.Proofs.YtmbkbpaoiilicaaW.PrintLast Go.Proofs.YtmbkbpaoiilicaaW.PrintMore Go.Proofs.Ytmbkbpaoiilicaa.Num Go.Proofs.Ytmbkbpaoiilicaa.LemSpanGroupC Go.Proofs.Ytmbkbpaoiilicaa.LemWithinGroupC

theorem rdS (pre : List S) (x : S) (rest : List S) : rd_T32 (pre ++ x :: rest) (pre.length : Int) = x := by
  unfold rd_T32
  rw [Int.toNat_natCast, List.getD_eq_getElem?_getD, List.getElem?_append_right (Nat.le_refl _), Nat.sub_self]
  rfl
theorem right_eq (s : S) : span_Right.f s.f0 s.f1 s.f2 = some (decide (Rt s)) := by
  unfold span_Right.f
  by_cases h1 : s.f0 ≥ 0
  · rw [if_pos h1]
    by_cases h2 : s.f0 < 4
    · rw [if_pos h2]
      by_cases h3 : s.f1 ≥ 0
      · rw [if_pos h3]
        by_cases h4 : s.f2 ≤ 65536
        · rw [if_pos h4]
          by_cases h5 : s.f1 < s.f2
          · rw [decide_eq_true h5, decide_eq_true (show Rt s by unfold Rt; omega)]
          · rw [decide_eq_false h5, decide_eq_false (show ¬ Rt s by unfold Rt; omega)]
        · rw [if_neg h4, decide_eq_false (show ¬ Rt s by unfold Rt; omega)]
      · rw [if_neg h3, decide_eq_false (show ¬ Rt s by unfold Rt; omega)]
    · rw [if_neg h2, decide_eq_false (show ¬ Rt s by unfold Rt; omega)]
  · rw [if_neg h1, decide_eq_false (show ¬ Rt s by unfold Rt; omega)]
theorem set_mid (A B : List S) (h s : S) : (A ++ (h :: B)).set A.length s = A ++ s :: B := by
  rw [List.set_append_right _ _ (Nat.le_refl _), Nat.sub_self]; rfl
theorem final_ins (A B : List S) (s : S) (n : Nat) (hn : n = B.length) : (Kd.laid (A ++ B ++ [s]) (A.length + 1) n ((A ++ B ++ [s]).drop A.length)).set A.length s = A ++ s :: B := by
  subst hn
  have h1 : (A ++ B ++ [s]).drop A.length = B ++ [s] := by rw [List.append_assoc, List.drop_left]
  have h2 : (B ++ [s]).take B.length = B := List.take_left
  have h3 : (A ++ B ++ [s]).drop (A.length + 1 + B.length) = [] := List.drop_eq_nil_of_le (by simp; omega)
  unfold Kd.laid
  rw [h1, h2, h3, List.append_nil]
  cases B with
  | nil =>
    rw [List.append_nil, List.take_of_length_le (by simp), List.append_nil]
    exact set_mid A [] s s
  | cons b B =>
    have h4 : (A ++ b :: B ++ [s]).take (A.length + 1) = A ++ [b] := by
      rw [List.append_assoc, List.take_append, List.take_of_length_le (by omega)]
      simp
    rw [h4, List.append_assoc]
    exact set_mid A (b :: B) b s
end Go.Proofs.Ytmbkbpaoiilicaa.LemSpanFnGroupC
