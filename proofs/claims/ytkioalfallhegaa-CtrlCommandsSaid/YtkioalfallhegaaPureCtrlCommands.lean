/- A command that is written alone at the window's first register is told; anywhere else, or beside another word, it is none: for all numbers. -/
import Derived.Test.YtkioalfallhegaaLemCtrlCtrl
import Derived.Test.YtkioalfallhegaaLemWithinCtrl
import Derived.Test.YtkioalfallhegaaLemAwakeCtrl
import Derived.Test.YtkioalfallhegaaPCtrlx0
import Derived.Test.YtkioalfallhegaaPCtrlx14
import Derived.Test.YtkioalfallhegaaPCtrlx7
namespace Go.Proofs.Ytkioalfallhegaa.Pure
open Go.RowKit Go.Proofs.Ytkioalfallhegaa.PCtrl Go.Proofs.YtkioalfallhegaaW.PrintWords Go.Proofs.YtkioalfallhegaaW.PrintLast Go.Proofs.Ytkioalfallhegaa.Num Go.Proofs.Ytkioalfallhegaa.LemWithinCtrl Go.Proofs.Ytkioalfallhegaa.LemCtrlCtrl

theorem CtrlCommands : busbarlaw23_CtrlCommands.Pure := by
  intro c w o hc hw ho
  refine ⟨40, ?_⟩
  unfold busbarlaw23_CtrlCommands.f
  rw [LemAwakeCtrl.awake_ev (by omega), Option.bind_some, if_pos rfl, within_eq c 65536 (by omega) (by omega), Option.bind_some, within_eq w 60000 (by omega) (by omega), Option.bind_some]
  have c0 := Int.emod_nonneg c (show (65536 : Int) ≠ 0 by omega)
  have c1 := Int.emod_lt_of_pos c (show (0 : Int) < 65536 by omega)
  have w0 := Int.emod_nonneg w (show (60000 : Int) ≠ 0 by omega)
  have w1 := Int.emod_lt_of_pos w (show (0 : Int) < 60000 by omega)
  generalize c % 65536 = c at c0 c1 ⊢
  generalize w % 60000 = w at w0 w1 ⊢
  rw [wrap64_id (x := 20 + w) (by omega) (by omega), u16_id c0 c1]
  have e1 : ctrl_Order.f 6 (20 + w) 0 c 0 0 [] [] 0 0 0 0 (20 + w) = some (c, true) := by
    unfold ctrl_Order.f
    rw [if_pos rfl, if_pos rfl, wrap64_id (by omega) (by omega)]
  have e2 : ctrl_Order.f 16 (20 + w) 1 0 0 0 [] [c] 0 0 0 0 (20 + w) = some (c, true) := by
    unfold ctrl_Order.f
    rw [if_pos rfl, if_neg (by decide), if_pos rfl, if_pos rfl, if_pos (show ((([c] : List Int).length : Int)) = 1 from rfl), if_pos (show (0 : Int) < (([c] : List Int).length : Int) by simp), show rd [c] 0 = c from rfl, wrap64_id (by omega) (by omega)]
  rw [e1, Option.bind_some, e2, Option.bind_some, if_pos rfl, if_pos rfl, if_pos rfl]
  rw [show ((c, true).1 != c) = false by simp, busbarlaw23_CtrlCommands.j0, if_neg (by decide), within_eq o 20 (by omega) (by omega), Option.bind_some]
  have o0 := Int.emod_nonneg o (show (20 : Int) ≠ 0 by omega)
  have o1 := Int.emod_lt_of_pos o (show (0 : Int) < 20 by omega)
  generalize o % 20 = o at o0 o1 ⊢
  rw [wrap64_id (x := 20 + w + o) (by omega) (by omega), wrap64_id (x := 20 + w + o - 10) (by omega) (by omega)]
  have e3 : ctrl_Order.f 16 (20 + w) 2 0 0 0 [] [c, c] 0 0 0 0 (20 + w) = some (0, false) := by
    unfold ctrl_Order.f
    rw [if_pos rfl, if_neg (by decide), if_pos rfl, if_neg (by decide)]
  have e4 : ctrl_Order.f 22 (20 + w) 0 0 0 c [] [] 0 0 0 0 (20 + w) = some (0, false) := by
    unfold ctrl_Order.f
    rw [if_pos rfl, if_neg (by decide), if_neg (by decide)]
  by_cases ha : 20 + w + o - 10 = 20 + w
  · have e5 : ctrl_Order.f 6 (20 + w + o - 10) 0 c 0 0 [] [] 0 0 0 0 (20 + w) = some (c, true) := by
      unfold ctrl_Order.f
      rw [if_pos ha, if_pos rfl, wrap64_id (by omega) (by omega)]
    rw [e5, Option.bind_some, e3, Option.bind_some, e4, Option.bind_some, show (20 + w + o - 10 == 20 + w) = true by rw [ha, beq_self_eq_true], if_pos (by rfl), if_neg (by decide)]
    rfl
  · have e5 : ctrl_Order.f 6 (20 + w + o - 10) 0 c 0 0 [] [] 0 0 0 0 (20 + w) = some (0, false) := by
      unfold ctrl_Order.f
      rw [if_neg ha]
    rw [e5, Option.bind_some, e3, Option.bind_some, e4, Option.bind_some, show (20 + w + o - 10 == 20 + w) = false by simp [ha], if_pos (by rfl), if_neg (by decide)]
    rfl
end Go.Proofs.Ytkioalfallhegaa.Pure
