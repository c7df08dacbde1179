/- What SameWords answers (group Ctrl). -/
import Derived.Test.YtkioalfallhegaaPCtrlx0
import Derived.Test.YtkioalfallhegaaPCtrlx16
import Derived.Test.YtkioalfallhegaaNum
set_option linter.unusedVariables false
namespace Go.Proofs.Ytkioalfallhegaa.LemSameWCtrl
open Go.RowKit Go.Proofs.Ytkioalfallhegaa.PCtrl Go.Proofs.YtkioalfallhegaaW.PrintWords Go.Proofs.YtkioalfallhegaaW.PrintLast Go.Proofs.YtkioalfallhegaaW.PrintMore Go.Proofs.Ytkioalfallhegaa.Num

theorem samew_loop (l : List Int) (hl : l.length ≤ 100000) : ∀ (d i k : Nat), i + d = l.length → d < k → busbarlaw0_SameWords.l0 k l l (i : Int) = some true
  | 0, i, k, h, hk => by
    obtain ⟨k, rfl⟩ : ∃ m, k = m + 1 := ⟨k - 1, by omega⟩
    rw [busbarlaw0_SameWords.l0, if_neg (by omega)]
  | d + 1, i, k, h, hk => by
    obtain ⟨k, rfl⟩ : ∃ m, k = m + 1 := ⟨k - 1, by omega⟩
    have hw : wrap64 ((i : Int) + 1) = ((i + 1 : Nat) : Int) := by rw [wrap64_id (by omega) (by omega)]; rfl
    rw [busbarlaw0_SameWords.l0, if_pos (by omega), if_pos (by omega), if_pos (by omega), if_pos rfl, hw, samew_loop l hl d (i + 1) k (by omega) (by omega)]
theorem samew_eq (l : List Int) (hl : l.length ≤ 100000) {k : Nat} (hk : l.length < k) : busbarlaw0_SameWords.f k l l = some true := by
  unfold busbarlaw0_SameWords.f
  rw [if_pos rfl]
  exact samew_loop l hl l.length 0 k (by omega) hk
end Go.Proofs.Ytkioalfallhegaa.LemSameWCtrl
