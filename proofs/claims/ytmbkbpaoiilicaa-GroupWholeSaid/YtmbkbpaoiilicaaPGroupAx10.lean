-- written by a program of this session (wip/pp) over the kit's print.py; Lean checks it
import Derived.Test.YtmbkbpaoiilicaaPGroupAx0
namespace Go.Proofs.Ytmbkbpaoiilicaa.PGroupA
open Go.RowKit Go.Proofs.YtmbkbpaoiilicaaW.PrintWords Go.Proofs.YtmbkbpaoiilicaaW.PrintLast Go.Proofs.YtmbkbpaoiilicaaW.PrintMore
attribute [local go_sem] max2_int min2_int max_two min_two max_three min_three max_four min_four plus_setCell_drewN plus_cell_same   -- for this text's walks alone
set_option linter.unusedVariables false
set_option linter.unusedSimpArgs false

/-! ### word_shift: function 61 -/
def word_shift.f (a0 : Int) (a1 : Int) (a2 : Bool) : Option (Int) := if a2 = true then (some (IntKind.u64.wrap (wrap64 (16 * a0)))) else (some (IntKind.u64.wrap (wrap64 (16 * (wrap64 ((wrap64 (a1 - 1)) - a0))))))
set_option maxHeartbeats 8000000 in
set_option maxRecDepth 100000 in
theorem word_shift.calls (a0 : Int) (a1 : Int) (a2 : Bool) (r : Int) (w : World) (h : word_shift.f a0 a1 a2 = some r) :
  Calls Try.prog 61 #[.int .i64 a0, .int .i64 a1, .bool a2] w fun e w' => e = .returned (.int .u64 r) ∧ Drawn0 w w' := by
 have H : (if a2 = true then (some (IntKind.u64.wrap (wrap64 (16 * a0)))) else (some (IntKind.u64.wrap (wrap64 (16 * (wrap64 ((wrap64 (a1 - 1)) - a0))))))) = some r := h
 clear h
 by_cases c4 : a2 = true
 ·
  subst c4
  have H1 : (some (IntKind.u64.wrap (wrap64 (16 * a0)))) = some r := by rw [if_pos rfl] at H; exact H
  clear H
  have H := H1
  clear H1
  obtain rfl := Option.some.inj H
  go_enter Try.func61, Try.ntmps61
  go_wp2
  go_ret
  exact ⟨by first | rfl | (simp; done) | (simp [*]; done), by repeat (first | exact Drawn0.refl _ | apply Drawn0.step)⟩
 ·
  replace c4 := Bool.eq_false_iff.mpr c4
  subst c4
  have H1 : (some (IntKind.u64.wrap (wrap64 (16 * (wrap64 ((wrap64 (a1 - 1)) - a0)))))) = some r := by rw [if_neg (show ¬ (false = true) by decide)] at H; exact H
  clear H
  have H := H1
  clear H1
  obtain rfl := Option.some.inj H
  go_enter Try.func61, Try.ntmps61
  go_wp2
  go_ret
  exact ⟨by first | rfl | (simp; done) | (simp [*]; done), by repeat (first | exact Drawn0.refl _ | apply Drawn0.step)⟩

end Go.Proofs.Ytmbkbpaoiilicaa.PGroupA
