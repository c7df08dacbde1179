/- What word.Put and word.Get answer (group Adu). -/
import Derived.Test.YtgbclemmadkcmaaPAdux0
import Derived.Test.YtgbclemmadkcmaaPAdux2
import Derived.Test.YtgbclemmadkcmaaPAdux9
import Derived.Test.YtgbclemmadkcmaaNum
set_option linter.unusedVariables false
set_option linter.unusedSimpArgs false
namespace Go.Proofs.Ytgbclemmadkcmaa.LemBytesAdu
open Go.RowKit Go.Proofs.Ytgbclemmadkcmaa.PAdu Go.Proofs.YtgbclemmadkcmaaW.PrintWords Go.Proofs.YtgbclemmadkcmaaW.PrintLast Go.Proofs.YtgbclemmadkcmaaW.PrintMore Go.Proofs.Ytgbclemmadkcmaa.Num

theorem put_eq (l : List Int) (w : Int) (h0 : 0 ≤ w) (h1 : w < 65536) (hl : l.length ≤ 100000) : word_Put.f l w = some (l ++ [w / 256, w % 256]) := by
  unfold word_Put.f
  rw [wrap64_id (by omega) (by omega), if_pos (by omega), if_pos (by omega)]
  simp only [Option.bind_some, List.replicate_zero, List.length_nil, List.nil_append, List.length_cons]
  rw [if_pos (by omega), if_pos (by omega)]
  congr 3
  omega
theorem get_some (l : List Int) (i : Nat) (hl : l.length ≤ 100000) (h : i + 2 ≤ l.length) (hb : ∀ x ∈ l, 0 ≤ x ∧ x < 256) : word_Get.f l (i : Int) = some (l[i]'(by omega) * 256 + l[i + 1]'(by omega), true) := by
  unfold word_Get.f
  have ha := hb (l[i]'(by omega)) (List.getElem_mem _)
  have hc := hb (l[i + 1]'(by omega)) (List.getElem_mem _)
  have r0 : rd l (i : Int) = l[i]'(by omega) := by simp [rd, List.getD_eq_getElem?_getD, List.getElem?_eq_getElem (show i < l.length by omega)]
  have r1 : rd l ((i : Int) + 1) = l[i + 1]'(by omega) := by
    have : ((i : Int) + 1).toNat = i + 1 := by omega
    simp [rd, this, List.getD_eq_getElem?_getD, List.getElem?_eq_getElem (show i + 1 < l.length by omega)]
  rw [if_neg (by omega), wrap64_id (by omega) (by omega), if_neg (by omega), if_pos (by omega), if_pos (by omega), wrap64_id (by omega) (by omega), if_pos (by omega), if_pos (by omega), r0, r1]
  rw [u16_id (x := l[i]'(by omega)) (by omega) (by omega), u16_id (by omega) (by omega), u16_id (by omega) (by omega), u16_or_hi _ _ (by omega) (by omega) (by omega) (by omega) (by omega)]
theorem get_none (l : List Int) (i : Nat) (hl : l.length ≤ 100000) (hi : i ≤ 100000) (h : l.length < i + 2) : word_Get.f l (i : Int) = some (0, false) := by
  unfold word_Get.f
  rw [if_neg (by omega), wrap64_id (by omega) (by omega), if_pos (by omega)]
end Go.Proofs.Ytgbclemmadkcmaa.LemBytesAdu
