/- What the words' readers answer at any place (group Adu). -/
import Derived.Test.YtgbclemmadkcmaaPAdux0
import Derived.Test.YtgbclemmadkcmaaPAdux14
import Derived.Test.YtgbclemmadkcmaaPAdux6
import Derived.Test.YtgbclemmadkcmaaPAdux9
import Derived.Test.YtgbclemmadkcmaaLemBytesAdu
set_option linter.unusedVariables false
set_option linter.unusedSimpArgs false
namespace Go.Proofs.Ytgbclemmadkcmaa.LemBytes2Adu
open Go.RowKit Go.Proofs.Ytgbclemmadkcmaa.PAdu Go.Proofs.YtgbclemmadkcmaaW.PrintWords Go.Proofs.YtgbclemmadkcmaaW.PrintLast Go.Proofs.YtgbclemmadkcmaaW.PrintMore Go.Proofs.Ytgbclemmadkcmaa.Num Go.Proofs.Ytgbclemmadkcmaa.LemBytesAdu

def gt (l : List Int) (at_ : Int) : Int × Bool := if 0 ≤ at_ ∧ at_ + 2 ≤ l.length then (rd l at_ * 256 + rd l (at_ + 1), true) else (0, false)
theorem rd_byte (l : List Int) (hb : B8 l) (i : Int) (h0 : 0 ≤ i) (h : i < l.length) : 0 ≤ rd l i ∧ rd l i < 256 := by
  obtain ⟨j, rfl⟩ := Int.eq_ofNat_of_zero_le h0
  rw [rd_get l j (by omega)]
  exact hb _ (List.getElem_mem _)
theorem get_any (l : List Int) (at_ : Int) (hl : l.length ≤ 100000) (ha : -9223372036854775808 ≤ at_ ∧ at_ < 9223372036854775808) (hb : B8 l) : word_Get.f l at_ = some (gt l at_) := by
  unfold word_Get.f gt
  by_cases h0 : at_ < 0
  · rw [if_pos h0, if_neg (by omega)]
  · rw [if_neg h0, wrap64_id (by omega) (by omega)]
    by_cases h : at_ + 2 ≤ l.length
    · have b0 := rd_byte l hb at_ (by omega) (by omega)
      have b1 := rd_byte l hb (at_ + 1) (by omega) (by omega)
      rw [if_neg (by omega), if_pos (by omega), if_pos (by omega), wrap64_id (by omega) (by omega), if_pos (by omega), if_pos (by omega), if_pos ⟨by omega, h⟩,
        u16_id (x := rd l at_) (by omega) (by omega), u16_id (x := rd l at_ * 256) (by omega) (by omega), u16_id (x := rd l (at_ + 1)) (by omega) (by omega), u16_or_hi _ _ (by omega) (by omega) (by omega) (by omega) (by omega)]
    · rw [if_pos (by omega), if_neg (by omega)]
theorem refget_any (l : List Int) (at_ : Int) (hl : l.length ≤ 100000) (ha : -9223372036854775808 ≤ at_ ∧ at_ < 9223372036854775808) (hb : B8 l) : busbarref1_Get.f l at_ = some (gt l at_) := by
  unfold busbarref1_Get.f gt
  by_cases h0 : at_ < 0
  · rw [if_pos h0, if_neg (by omega)]
  · rw [if_neg h0, wrap64_id (x := (l.length : Int) - 2) (by omega) (by omega)]
    by_cases h : at_ + 2 ≤ l.length
    · have b0 := rd_byte l hb at_ (by omega) (by omega)
      have b1 := rd_byte l hb (at_ + 1) (by omega) (by omega)
      rw [if_neg (by omega), if_pos (by omega), if_pos (by omega), wrap64_id (by omega) (by omega), if_pos (by omega), if_pos (by omega), if_pos ⟨by omega, h⟩,
        u16_id (x := rd l at_) (by omega) (by omega), u16_id (x := rd l at_ * 256) (by omega) (by omega), u16_id (x := rd l (at_ + 1)) (by omega) (by omega), u16_id (by omega) (by omega)]
    · rw [if_pos (by omega), if_neg (by omega)]
theorem refput1_eq (l : List Int) (w : Int) (h0 : 0 ≤ w) (h1 : w < 65536) (hl : l.length ≤ 100000) : busbarref1_Put.f l w = some (l ++ [w / 256, w % 256]) := by
  unfold busbarref1_Put.f
  rw [if_pos (by simp; omega)]
  simp only [Option.bind_some, List.nil_append, tdiv_pos h0 (by omega : (0 : Int) ≤ 256), tmod_pos h0]
  rw [if_pos (by simp; omega), u16_id (by omega) (by omega)]
  congr 3
  · omega
  · congr 1; omega
theorem gt_put (l : List Int) (w : Int) (h0 : 0 ≤ w) (h1 : w < 65536) : gt (l ++ [w / 256, w % 256]) (l.length : Int) = (w, true) := by
  unfold gt
  have e : ((l.length : Int) + 1) = ((l.length + 1 : Nat) : Int) := by omega
  rw [if_pos (by simp), e, rd_get _ l.length (by simp), rd_get _ (l.length + 1) (by simp), List.getElem_append_right (by omega), List.getElem_append_right (by omega)]
  simp only [Nat.sub_self, Nat.add_sub_cancel_left, List.getElem_cons_zero, List.getElem_cons_succ, Prod.mk.injEq, and_true]
  omega
theorem put_b8 (l : List Int) (w : Int) (hb : B8 l) (h0 : 0 ≤ w) (h1 : w < 65536) : B8 (l ++ [w / 256, w % 256]) := by
  intro x hx
  simp only [List.mem_append, List.mem_cons, List.not_mem_nil, or_false] at hx
  rcases hx with hx | rfl | rfl
  · exact hb x hx
  · omega
  · omega
end Go.Proofs.Ytgbclemmadkcmaa.LemBytes2Adu
