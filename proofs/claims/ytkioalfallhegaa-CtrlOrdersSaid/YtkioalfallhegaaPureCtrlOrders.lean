/- Of any request, and of such as may be at the window, the command that it writes, or none, is what the document says: for all requests and numbers. -/
import Derived.Test.YtkioalfallhegaaSayCtrlOrders
import Derived.Test.YtkioalfallhegaaLemCtrlCtrl
import Derived.Test.YtkioalfallhegaaLemAskCtrl
import Derived.Test.YtkioalfallhegaaLemAwakeCtrl
import Derived.Test.YtkioalfallhegaaPCtrlx0
import Derived.Test.YtkioalfallhegaaPCtrlx13
namespace Go.Proofs.Ytkioalfallhegaa.Pure
open Go.RowKit Go.Proofs.Ytkioalfallhegaa.PCtrl Go.Proofs.YtkioalfallhegaaW.PrintWords Go.Proofs.YtkioalfallhegaaW.PrintLast Go.Proofs.Ytkioalfallhegaa.Num Go.Proofs.Ytkioalfallhegaa.LemAskCtrl Go.Proofs.Ytkioalfallhegaa.LemCtrlCtrl

theorem co_j1 (w x v : Int) (hx : -9223372036854775808 ≤ x ∧ x < 9223372036854775808) (hv : -9223372036854775808 ≤ v ∧ v < 9223372036854775808) (a0 a1 a2 a3 a4 a5 : Int) (b : List Bool) (l : List Int) (a8 a9 a10 a11 : Int) (k : Nat) (hk : 50 ≤ k) : busbarlaw23_CtrlOrders.j1 (k + 1) w x v a0 a1 a2 a3 a4 a5 b l a8 a9 a10 a11 = some true := by
  obtain ⟨r, hr⟩ := order_some a0 a1 a2 a3 a4 a5 b l a8 a9 a10 a11 w
  obtain ⟨y, hy⟩ := ask_some x v hx hv (k := k) (by omega)
  obtain ⟨z0, z1, z2, z3, z4, z5, z6, z7, z8, z9, z10, z11⟩ := y
  obtain ⟨s, hs⟩ := order_some z0 z1 z2 z3 z4 z5 z6 z7 z8 z9 z10 z11 z1
  have hr2 := hr
  have hs2 := hs
  rw [order_eq] at hr2 hs2
  rw [busbarlaw23_CtrlOrders.j1, hr, Option.bind_some, hr2, Option.bind_some, hy, Option.bind_some, hs, Option.bind_some, hs2, Option.bind_some, if_pos rfl, if_pos (beq_self_eq_true _), if_pos rfl, beq_self_eq_true]
theorem co_j0 (w x v : Int) (near : Bool) (hx : -9223372036854775808 ≤ x ∧ x < 9223372036854775808) (hv : -9223372036854775808 ≤ v ∧ v < 9223372036854775808) (t : Bool) (a0 a1 a2 a3 a4 a5 : Int) (b : List Bool) (l : List Int) (a8 a9 a10 a11 : Int) (k : Nat) (hk : 50 ≤ k) : busbarlaw23_CtrlOrders.j0 (k + 1 + 1) w near x v t a0 a1 a2 a3 a4 a5 b l a8 a9 a10 a11 = some true := by
  rw [busbarlaw23_CtrlOrders.j0]
  cases t
  · rw [if_neg (by decide)]
    cases near
    · rw [if_neg (by decide)]
      exact co_j1 _ x v hx hv _ _ _ _ _ _ _ _ _ _ _ _ k hk
    · rw [if_pos rfl]
      exact co_j1 _ x v hx hv _ _ _ _ _ _ _ _ _ _ _ _ k hk
  · rw [if_pos rfl, LemAwakeCtrl.awake_ev (by omega), Option.bind_some]
theorem CtrlOrders : busbarlaw23_CtrlOrders.Pure := by
  intro a w near x v _ _ hx hv
  have hx := wf_i64 hx
  have hv := wf_i64 hv
  refine ⟨60, ?_⟩
  unfold busbarlaw23_CtrlOrders.f
  split
  · exact co_j0 _ x v _ hx hv _ _ _ _ _ _ _ _ _ _ _ _ _ 58 (by omega)
  · split
    · exact co_j0 _ x v _ hx hv _ _ _ _ _ _ _ _ _ _ _ _ _ 58 (by omega)
    · rw [LemAwakeCtrl.awake_ev (by omega), Option.bind_some]
      exact co_j0 _ x v _ hx hv _ _ _ _ _ _ _ _ _ _ _ _ _ 58 (by omega)
end Go.Proofs.Ytkioalfallhegaa.Pure
