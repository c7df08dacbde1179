-- written by a program of this session (wip/pp) over the kit's print.py; Lean checks it
import Derived.Test.YtkfdombneaikfaaPHeadLx0
namespace Go.Proofs.Ytkfdombneaikfaa.PHeadL
open Go.RowKit Go.Proofs.YtkfdombneaikfaaW.PrintWords Go.Proofs.YtkfdombneaikfaaW.PrintLast Go.Proofs.YtkfdombneaikfaaW.PrintMore
attribute [local go_sem] max2_int min2_int max_two min_two max_three min_three max_four min_four plus_setCell_drewN plus_cell_same   -- for this text's walks alone
set_option linter.unusedVariables false
set_option linter.unusedSimpArgs false

/-! ### word_Get: function 18 -/
def word_Get.f (l0 : List Int) (a1 : Int) : Option (Int × Bool) := if a1 < 0 then (some (0, false)) else (if (wrap64 ((l0.length : Int) - a1)) < 2 then (some (0, false)) else (if 0 ≤ a1 then (if a1 < (l0.length : Int) then (if 0 ≤ (wrap64 (a1 + 1)) then (if (wrap64 (a1 + 1)) < (l0.length : Int) then (some (Go.bits .or .u16 (IntKind.u16.wrap ((IntKind.u16.wrap (rd l0 a1)) * 256)) (IntKind.u16.wrap (rd l0 (wrap64 (a1 + 1)))), true)) else (none)) else (none)) else (none)) else (none)))
set_option maxHeartbeats 8000000 in
set_option maxRecDepth 100000 in
theorem word_Get.calls (A0 : Option Addr) (c0 : Nat) (l0 : List Int) (a1 : Int) (r1 : Int) (r2 : Bool) (w : World) (hr0 : Kd.C (Kd.int .u8) w A0 l0.length l0) (hc0 : l0.length ≤ c0) (h : word_Get.f l0 a1 = some (r1, r2)) :
  Calls Try.prog 18 #[.slice A0 l0.length c0, .int .i64 a1] w fun e w' => e = .returned (.tuple #[.int .u16 r1, .bool r2]) ∧ Drawn0 w w' := by
 have HR0 := Aside0.mk hr0
 have HC0 := Aside0.mk hc0
 clear hr0 hc0
 have H : (if a1 < 0 then (some (0, false)) else (if (wrap64 ((l0.length : Int) - a1)) < 2 then (some (0, false)) else (if 0 ≤ a1 then (if a1 < (l0.length : Int) then (if 0 ≤ (wrap64 (a1 + 1)) then (if (wrap64 (a1 + 1)) < (l0.length : Int) then (some (Go.bits .or .u16 (IntKind.u16.wrap ((IntKind.u16.wrap (rd l0 a1)) * 256)) (IntKind.u16.wrap (rd l0 (wrap64 (a1 + 1)))), true)) else (none)) else (none)) else (none)) else (none)))) = some (r1, r2) := h
 clear h
 by_cases c3 : a1 < 0
 ·
  rw [if_pos c3] at H
  have c3b0 : decide (a1 < 0) = true := decide_eq_true c3
  clear c3
  simp only [Option.some.injEq, Prod.mk.injEq] at H
  obtain ⟨rfl, rfl⟩ := H
  go_enter Try.func18, Try.ntmps18
  go_wp2
  repeat (go_quiet (fail); try go_wp2)
  go_ret2
  exact ⟨by first | rfl | (simp; done) | (simp [*]; done), by repeat (first | exact Drawn0.refl _ | apply Drawn0.step)⟩
 ·
  rw [if_neg c3] at H
  have c3b0 : decide (a1 < 0) = false := decide_eq_false c3
  clear c3
  by_cases c4 : (wrap64 ((l0.length : Int) - a1)) < 2
  ·
   rw [if_pos c4] at H
   have c4b0 : decide ((wrap64 ((l0.length : Int) - a1)) < 2) = true := decide_eq_true c4
   clear c4
   simp only [Option.some.injEq, Prod.mk.injEq] at H
   obtain ⟨rfl, rfl⟩ := H
   go_enter Try.func18, Try.ntmps18
   go_wp2
   repeat (go_quiet (fail); try go_wp2)
   go_ret2
   exact ⟨by first | rfl | (simp; done) | (simp [*]; done), by repeat (first | exact Drawn0.refl _ | apply Drawn0.step)⟩
  ·
   rw [if_neg c4] at H
   have c4b0 : decide ((wrap64 ((l0.length : Int) - a1)) < 2) = false := decide_eq_false c4
   clear c4
   by_cases c5 : 0 ≤ a1
   ·
    rw [if_pos c5] at H
    have c5b0 : decide (0 ≤ a1) = true := decide_eq_true c5
    clear c5
    by_cases c6 : a1 < (l0.length : Int)
    ·
     rw [if_pos c6] at H
     have c6b0 : decide (a1 < (l0.length : Int)) = true := decide_eq_true c6
     clear c6
     obtain ⟨ji7, hji7⟩ : ∃ j_ : Int, (wrap64 (a1 + 1)) = j_ := ⟨_, rfl⟩
     replace H : (if 0 ≤ (ji7) then (if (ji7) < (l0.length : Int) then (some (Go.bits .or .u16 (IntKind.u16.wrap ((IntKind.u16.wrap (rd l0 a1)) * 256)) (IntKind.u16.wrap (rd l0 (ji7))), true)) else (none)) else (none)) = some (r1, r2) := by first | (rw [hji7] at H; exact H) | (simp only [hji7] at H ⊢; exact H)
     have hji7w : (IntKind.i64.wrap (a1 + 1)) = ji7 := (i64_w _).trans hji7
     by_cases c8 : 0 ≤ (ji7)
     ·
      rw [if_pos c8] at H
      have c8b0 : decide (0 ≤ (ji7)) = true := decide_eq_true c8
      clear c8
      by_cases c9 : (ji7) < (l0.length : Int)
      ·
       rw [if_pos c9] at H
       have c9b0 : decide ((ji7) < (l0.length : Int)) = true := decide_eq_true c9
       clear c9
       simp only [Option.some.injEq, Prod.mk.injEq] at H
       obtain ⟨rfl, rfl⟩ := H
       have p149 : 0 ≤ (a1 : Int) := of_decide_eq_true (by first | (with_reducible assumption) | assumption)
       have q149 : a1 < (l0.length : Int) := of_decide_eq_true (by first | (with_reducible assumption) | assumption)
       obtain ⟨ad149, e149, hx149_0⟩ := Kd.at_int HR0.out a1 p149 q149
       cases e149
       replace p149 := eq_true p149
       replace q149 := eq_true q149
       have p150 : 0 ≤ ((ji7) : Int) := of_decide_eq_true (by first | (with_reducible assumption) | assumption)
       have q150 : (ji7) < (l0.length : Int) := of_decide_eq_true (by first | (with_reducible assumption) | assumption)
       obtain ⟨ad150, e150, hx150_0⟩ := Kd.at_int HR0.out (ji7) p150 q150
       obtain rfl : ad149 = ad150 := (by injection e150)
       replace p150 := eq_true p150
       replace q150 := eq_true q150
       go_enter Try.func18, Try.ntmps18
       go_wp2
       repeat (go_quiet (fail); try go_wp2)
       go_ret2
       exact ⟨by first | rfl | (simp; done) | (simp only [← hji7] <;> (first | rfl | simp)) | (simp [*]; done), by repeat (first | exact Drawn0.refl _ | apply Drawn0.step)⟩
      ·
       rw [if_neg c9] at H
       exact absurd H (by simp)
     ·
      rw [if_neg c8] at H
      exact absurd H (by simp)
    ·
     rw [if_neg c6] at H
     exact absurd H (by simp)
   ·
    rw [if_neg c5] at H
    exact absurd H (by simp)

end Go.Proofs.Ytkfdombneaikfaa.PHeadL
