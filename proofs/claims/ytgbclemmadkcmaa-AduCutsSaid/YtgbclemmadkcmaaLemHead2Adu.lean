/- What the document's GetHead answers (group Adu). -/
import Derived.Test.YtgbclemmadkcmaaPAdux0
import Derived.Test.YtgbclemmadkcmaaPAdux14
import Derived.Test.YtgbclemmadkcmaaPAdux15
import Derived.Test.YtgbclemmadkcmaaLemHeadAdu
import Derived.Test.YtgbclemmadkcmaaLemBytes2Adu
set_option linter.unusedVariables false
set_option linter.unusedSimpArgs false
namespace Go.Proofs.Ytgbclemmadkcmaa.LemHead2Adu
open Go.RowKit Go.Proofs.Ytgbclemmadkcmaa.PAdu Go.Proofs.YtgbclemmadkcmaaW.PrintWords Go.Proofs.YtgbclemmadkcmaaW.PrintLast Go.Proofs.YtgbclemmadkcmaaW.PrintMore Go.Proofs.Ytgbclemmadkcmaa.Num Go.Proofs.Ytgbclemmadkcmaa.LemBytesAdu Go.Proofs.Ytgbclemmadkcmaa.LemBytes2Adu Go.Proofs.Ytgbclemmadkcmaa.LemHeadAdu

theorem refword_eq (l : List Int) (at_ : Int) (hl : l.length ≤ 100000) (h0 : 0 ≤ at_) (h : at_ + 2 ≤ l.length) (hb : B8 l) : busbarref5_word.f l at_ = some (rd l at_ * 256 + rd l (at_ + 1)) := by
  have b0 := rd_byte l hb at_ (by omega) (by omega)
  have b1 := rd_byte l hb (at_ + 1) (by omega) (by omega)
  unfold busbarref5_word.f
  rw [refget_any l at_ hl (by omega) hb, Option.bind_some]
  unfold gt
  rw [if_pos ⟨h0, h⟩]
  dsimp only
  rw [wrap64_id (by omega) (by omega)]
theorem refgethead_eq (l : List Int) (hl : l.length ≤ 100000) (hb : B8 l) {k : Nat} (hk : 2 ≤ k) : busbarref5_GetHead.f k l = some (hlook l) := by
  obtain ⟨k, rfl⟩ : ∃ m, k = m + 1 := ⟨k - 1, by omega⟩
  unfold busbarref5_GetHead.f
  by_cases h6 : (l.length : Int) < 6
  · rw [if_pos h6, hlook_few l (by omega)]
  · rw [if_neg h6]
    obtain ⟨b0, b1, b2, b3, b4, b5, r, rfl⟩ := six l (by omega)
    rw [refword_eq _ 4 hl (by omega) (by simp; omega) hb, Option.bind_some, refword_eq _ 2 hl (by omega) (by simp; omega) hb, Option.bind_some]
    have e2 : rd (b0 :: b1 :: b2 :: b3 :: b4 :: b5 :: r) 2 = b2 ∧ rd (b0 :: b1 :: b2 :: b3 :: b4 :: b5 :: r) (2 + 1) = b3 := ⟨rfl, rfl⟩
    have e4 : rd (b0 :: b1 :: b2 :: b3 :: b4 :: b5 :: r) 4 = b4 ∧ rd (b0 :: b1 :: b2 :: b3 :: b4 :: b5 :: r) (4 + 1) = b5 := ⟨rfl, rfl⟩
    rw [e2.1, e2.2, e4.1, e4.2]
    have hj : ∀ x, busbarref5_GetHead.j0 (k + 1) (b0 :: b1 :: b2 :: b3 :: b4 :: b5 :: r) x true = some (0, 0, 0, 2) := fun x => by rw [busbarref5_GetHead.j0, if_pos rfl]
    by_cases hp : b2 * 256 + b3 = 0 ∧ 2 ≤ b4 * 256 + b5 ∧ b4 * 256 + b5 ≤ 254
    · rw [if_pos hp.1, if_neg (by omega), decide_eq_false (by omega), busbarref5_GetHead.j0, if_neg (by decide)]
      match r, hb, hl with
      | [], hb, hl =>
        rw [hlook6, if_pos hp, if_pos (by simp)]
      | b6 :: r, hb, hl =>
        have c6 := hb b6 (by simp)
        rw [hlook7, if_pos hp, if_neg (by simp; omega), refword_eq _ 0 hl (by omega) (by simp; omega) hb, Option.bind_some, if_pos (by simp; omega)]
        have e0 : rd (b0 :: b1 :: b2 :: b3 :: b4 :: b5 :: b6 :: r) 0 = b0 ∧ rd (b0 :: b1 :: b2 :: b3 :: b4 :: b5 :: b6 :: r) (0 + 1) = b1 ∧ rd (b0 :: b1 :: b2 :: b3 :: b4 :: b5 :: b6 :: r) 6 = b6 := ⟨rfl, rfl, rfl⟩
        rw [e0.1, e0.2.1, e0.2.2, wrap64_id (by omega) (by omega)]
    · have hl2 : hlook (b0 :: b1 :: b2 :: b3 :: b4 :: b5 :: r) = (0, 0, 0, 2) := by
        match r with
        | [] => rw [hlook6, if_neg hp]
        | b6 :: r => rw [hlook7, if_neg hp]
      rw [hl2]
      by_cases h1 : b2 * 256 + b3 = 0
      · rw [if_pos h1]
        by_cases h2 : b4 * 256 + b5 < 2
        · rw [if_pos h2, hj]
        · rw [if_neg h2, decide_eq_true (by omega), hj]
      · rw [if_neg h1, hj]
end Go.Proofs.Ytgbclemmadkcmaa.LemHead2Adu
