/- Of any session's state the window's registers, and any part of them, are what the document says: for all numbers and places. -/
import Derived.Test.YtkioalfallhegaaLemCtrlCtrl
import Derived.Test.YtkioalfallhegaaLemSameWCtrl
import Derived.Test.YtkioalfallhegaaLemWithinCtrl
import Derived.Test.YtkioalfallhegaaLemAwakeCtrl
import Derived.Test.YtkioalfallhegaaPCtrlx0
import Derived.Test.YtkioalfallhegaaPCtrlx21
namespace Go.Proofs.Ytkioalfallhegaa.Pure
open Go.RowKit Go.Proofs.Ytkioalfallhegaa.PCtrl Go.Proofs.YtkioalfallhegaaW.PrintWords Go.Proofs.YtkioalfallhegaaW.PrintLast Go.Proofs.Ytkioalfallhegaa.Num Go.Proofs.Ytkioalfallhegaa.LemWithinCtrl Go.Proofs.Ytkioalfallhegaa.LemSameWCtrl Go.Proofs.Ytkioalfallhegaa.LemWordGCtrl Go.Proofs.Ytkioalfallhegaa.LemSplitGCtrl Go.Proofs.Ytkioalfallhegaa.LemWord2GCtrl Go.Proofs.Ytkioalfallhegaa.LemCtrlCtrl

theorem ct_j1 (a b c v : Int) (h0 : 0 ≤ v) (h1 : v < 18446744073709551616) (k : Nat) (hk : 20 ≤ k) : busbarlaw23_CtrlTells.j1 (k + 1) v false a b c v = some true := by
  rw [busbarlaw23_CtrlTells.j1, if_neg (by decide), read_eq a b c v 4 8 h0 h1 (by omega), Option.bind_some, part_seq]
  have hj := join_some (digs 4 v) (digs_w16 4 v) (by rw [digs_length]; omega) (by rw [digs_length]; omega) false (k := k) (by omega)
  rw [if_neg (by decide), big_digs 4 v h0 (by simp [pw]; omega)] at hj
  rw [hj, Option.bind_some, if_pos rfl, beq_self_eq_true]
theorem ct_j0 (a b c v f t : Int) (h0 : 0 ≤ v) (h1 : v < 18446744073709551616) (k : Nat) (hk : 20 ≤ k) : busbarlaw23_CtrlTells.j0 (k + 1 + 1) a b c v f t = some true := by
  have hl := regsOf_length a b c v
  have hp := part_length (regsOf a b c (digs 4 v)) f t
  rw [busbarlaw23_CtrlTells.j0, read_eq a b c v f t h0 h1 (by omega), Option.bind_some, regs_eq a b c v h0 h1 (by omega), Option.bind_some, refregs_eq a b c v h0 h1 (by omega), Option.bind_some, samew_eq _ (by omega) (by omega), Option.bind_some, if_pos rfl, refread_eq a b c v f t h0 h1 (by omega), Option.bind_some, samew_eq _ (by omega) (by omega), Option.bind_some]
  exact ct_j1 a b c v h0 h1 k hk
theorem CtrlTells : busbarlaw23_CtrlTells.Pure := by
  intro a b c v f t near ha hb hc hv hf ht
  obtain ⟨h0, h1⟩ := wf_u64 hv
  refine ⟨40, ?_⟩
  unfold busbarlaw23_CtrlTells.f
  rw [LemAwakeCtrl.awake_ev (by omega), Option.bind_some, if_pos rfl]
  cases near
  · rw [if_neg (by decide)]
    exact ct_j0 a b c v f t h0 h1 38 (by omega)
  · rw [if_pos rfl, within_eq f 11 (by omega) (by omega), Option.bind_some, within_eq t 11 (by omega) (by omega), Option.bind_some]
    exact ct_j0 a b c v _ _ h0 h1 38 (by omega)
end Go.Proofs.Ytkioalfallhegaa.Pure
