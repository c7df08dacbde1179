-- written by a program of this session (wip/pp) over the kit's print.py; Lean checks it
import Derived.Test.YtgbclemmadkcmaaPAdux0
namespace Go.Proofs.Ytgbclemmadkcmaa.PAdu
open Go.RowKit Go.Proofs.YtgbclemmadkcmaaW.PrintWords Go.Proofs.YtgbclemmadkcmaaW.PrintLast Go.Proofs.YtgbclemmadkcmaaW.PrintMore
attribute [local go_sem] max2_int min2_int max_two min_two max_three min_three max_four min_four plus_setCell_drewN plus_cell_same   -- for this text's walks alone
set_option linter.unusedVariables false
set_option linter.unusedSimpArgs false

/-! ### busbarlaw0_StaysBytes: function 16 -/
def busbarlaw0_StaysBytes.l0 : Nat → List Int → List Int → Int → Option (Bool)
 | 0, _, _, _ => none
 | k + 1, x1, x5, x6 => if x6 < (x5.length : Int) then (if x6 < (x1.length : Int) then (if 0 ≤ x6 then (if (rd x5 x6) = (rd x1 x6) then (if x6 ≥ (x1.length : Int) then (if (rd x5 x6) = 165 then (busbarlaw0_StaysBytes.l0 k x1 x5 (wrap64 (x6 + 1))) else (some false)) else (busbarlaw0_StaysBytes.l0 k x1 x5 (wrap64 (x6 + 1)))) else (some false)) else (none)) else (if x6 ≥ (x1.length : Int) then (if 0 ≤ x6 then (if (rd x5 x6) = 165 then (busbarlaw0_StaysBytes.l0 k x1 x5 (wrap64 (x6 + 1))) else (some false)) else (none)) else (busbarlaw0_StaysBytes.l0 k x1 x5 (wrap64 (x6 + 1))))) else (some true)
def busbarlaw0_StaysBytes.f (k : Nat) (l0 : List Int) (l1 : List Int) : Option (Bool) := if (l0.length : Int) = (l1.length : Int) then (if 0 ≤ (wrap64 ((l1.length : Int) + 3)) then (if (wrap64 ((l1.length : Int) + 3)) = ((l0 ++ Kd.marks (Kd.int .u8)).length : Int) then (busbarlaw0_StaysBytes.l0 k l1 (l0 ++ Kd.marks (Kd.int .u8)) 0) else (none)) else (none)) else (some false)
theorem busbarlaw0_StaysBytes.mono_l : ∀ k, (∀ y0 y1 y2, LeO (busbarlaw0_StaysBytes.l0 k y0 y1 y2) (busbarlaw0_StaysBytes.l0 (k + 1) y0 y1 y2))
 | 0 => fun _ _ _ r h => by simp [busbarlaw0_StaysBytes.l0] at h
 | k + 1 => by
  have ih0 := busbarlaw0_StaysBytes.mono_l k
  ·
   intro y0 y1 y2
   unfold busbarlaw0_StaysBytes.l0
   repeat' first
   | (with_reducible exact ih0 _ _ _)
   | (with_reducible exact LeO.refl _)
   | (with_reducible exact LeO.none _)
   | (with_reducible refine LeO.ite ?_ ?_)
   | (with_reducible refine LeO.bind ?_ (fun _ => ?_))
   | exact ih0 _ _ _
   | exact LeO.none _
   | refine LeO.ite ?_ ?_
   | refine LeO.bind ?_ (fun _ => ?_)
theorem busbarlaw0_StaysBytes.mono : ∀ a0 a1 k, LeO (busbarlaw0_StaysBytes.f k a0 a1) (busbarlaw0_StaysBytes.f (k + 1) a0 a1) := by
 intro a0 a1 k
 have ih0 := busbarlaw0_StaysBytes.mono_l k
 unfold busbarlaw0_StaysBytes.f
 repeat' first
   | (with_reducible exact ih0 _ _ _)
   | (with_reducible exact LeO.refl _)
   | (with_reducible exact LeO.none _)
   | (with_reducible refine LeO.ite ?_ ?_)
   | (with_reducible refine LeO.bind ?_ (fun _ => ?_))
   | exact ih0 _ _ _
   | exact LeO.none _
   | refine LeO.ite ?_ ?_
   | refine LeO.bind ?_ (fun _ => ?_)
set_option maxHeartbeats 8000000 in
set_option maxRecDepth 100000 in
theorem busbarlaw0_StaysBytes.calls (k : Nat) (A0 : Option Addr) (c0 : Nat) (l0 : List Int) (A1 : Option Addr) (c1 : Nat) (l1 : List Int) (r : Bool) (w : World) (hr0 : Kd.C (Kd.int .u8) w A0 (l0 ++ Kd.marks (Kd.int .u8)).length (l0 ++ Kd.marks (Kd.int .u8))) (hc0 : (l0 ++ Kd.marks (Kd.int .u8)).length ≤ c0) (hr1 : Kd.C (Kd.int .u8) w A1 l1.length l1) (hc1 : l1.length ≤ c1) (h : busbarlaw0_StaysBytes.f k l0 l1 = some r) :
  Calls Try.prog 16 #[.slice A0 l0.length c0, .slice A1 l1.length c1] w fun e w' => e = .returned (.bool r) ∧ Drawn0 w w' := by
 have HX0 := Aside0.mk hr0
 have HXC0 := Aside0.mk hc0
 have HR0 := Aside0.mk (show Kd.C (Kd.int .u8) w A0 l0.length l0 from by have h3_ := Kd.C_take (m := l0.length) hr0 (by simp); rwa [List.take_left] at h3_)
 have HC0 := Aside0.mk (show l0.length ≤ c0 from by rw [List.length_append] at hc0; omega)
 clear hr0 hc0
 have HR1 := Aside0.mk hr1
 have HC1 := Aside0.mk hc1
 clear hr1 hc1
 have H : (if (l0.length : Int) = (l1.length : Int) then (if 0 ≤ (wrap64 ((l1.length : Int) + 3)) then (if (wrap64 ((l1.length : Int) + 3)) = ((l0 ++ Kd.marks (Kd.int .u8)).length : Int) then (busbarlaw0_StaysBytes.l0 k l1 (l0 ++ Kd.marks (Kd.int .u8)) 0) else (none)) else (none)) else (some false)) = some r := h
 clear h
 by_cases c3 : (l0.length : Int) = (l1.length : Int)
 ·
  rw [if_pos c3] at H
  have c3b0 : ((l0.length : Int) == (l1.length : Int)) = true := beq_iff_eq.mpr c3
  have c3b1 : ((l0.length : Int) != (l1.length : Int)) = false := bne_eq_false_iff_eq.mpr c3
  have c3b2 : (l0.length == l1.length) = true := by first | simpa using c3 | (simp at c3 ⊢; omega)
  clear c3
  obtain ⟨ji4, hji4⟩ : ∃ j_ : Int, (wrap64 ((l1.length : Int) + 3)) = j_ := ⟨_, rfl⟩
  replace H : (if 0 ≤ (ji4) then (if (ji4) = ((l0 ++ Kd.marks (Kd.int .u8)).length : Int) then (busbarlaw0_StaysBytes.l0 k l1 (l0 ++ Kd.marks (Kd.int .u8)) 0) else (none)) else (none)) = some r := by first | (rw [hji4] at H; exact H) | (simp only [hji4] at H ⊢; exact H)
  have hji4w : (IntKind.i64.wrap ((l1.length : Int) + 3)) = ji4 := (i64_w _).trans hji4
  by_cases c5 : 0 ≤ (ji4)
  ·
   rw [if_pos c5] at H
   have c5b0 := eq_true c5
   have c5b1 : decide (0 ≤ (ji4)) = true := decide_eq_true c5
   clear c5
   by_cases c6 : (ji4) = ((l0 ++ Kd.marks (Kd.int .u8)).length : Int)
   ·
    rw [if_pos c6] at H
    have c6b0 := eq_true c6
    have c6b1 : decide ((ji4) = ((l0 ++ Kd.marks (Kd.int .u8)).length : Int)) = true := decide_eq_true c6
    obtain ⟨y204, hy204⟩ : ∃ y_ : List Int, y_ = (l0 ++ Kd.marks (Kd.int .u8)) := ⟨_, rfl⟩
    replace H : (busbarlaw0_StaysBytes.l0 k l1 y204 0) = some r := by first | (rw [hy204]; with_reducible exact H) | (have H2_ := (Option.bind_some _ _).symm.trans H; rw [hy204]; with_reducible exact H2_) | (have H2_ := (Option.bind_some _ _).symm.trans H; with_reducible exact H2_) | with_reducible exact H | (rw [hy204]; exact H) | exact H
    have Ny204 := Aside0.mk hy204
    clear hy204
    have H' := Aside0.mk H
    clear H
    obtain ⟨i07, hi07, _, hsz7, _⟩ := info_parts info5
    have hj7 : (ji4) = ((l0 ++ Kd.marks (Kd.int .u8)).length : Int) := of_decide_eq_true (by first | (with_reducible assumption) | assumption)
    rw [← Ny204.out] at hj7
    have HR207 := Aside0.mk (show Kd.C (Kd.int .u8) w A0 y204.length y204 from by rw [Ny204.out]; exact HX0.out)
    have HC207 := Aside0.mk (show y204.length ≤ c0 from by rw [Ny204.out]; exact HXC0.out)
    have hcut7 := cut_over (P := Try.prog) 22 5 .i64 Try.underlying22 hi07 A0 l0.length y204.length c0 (ji4) hj7 HC207.out
    clear hi07 hsz7 hj7
    (try clear c6b0)
    (try clear c6b1)
    (try clear c6)
    go_enter Try.func16, Try.ntmps16
    go_wp2
    repeat (go_quiet (fail); try go_wp2)
    go_loopg [6] k (fun kq v6 w' => ∃ (x6_1 : Int), v6 = .int .i64 x6_1 ∧ Aside0 (busbarlaw0_StaysBytes.l0 kq l1 y204 x6_1 = some r) ∧ Aside0 (kq ≤ k) ∧ Drawn0 w w')
    case atStart => exact ⟨(0), (by first | rfl | (simp; done) | (simp [*]; done)), H', ⟨Nat.le_refl _⟩, by repeat (first | exact Drawn0.refl _ | apply Drawn0.step)⟩
    case round =>
     clear H'
     try clear c1
     try clear p2
     try clear c3
     try clear c3b0
     try clear c3b1
     try clear c3b2
     try clear c5
     try clear c5b0
     try clear c5b1
     try clear c6
     try clear c6b0
     try clear c6b1
     try clear p6
     obtain ⟨x6_1, rfl, HA, HK1, ⟨m1, rfl⟩⟩ := hrel
     cases gk with
     | zero => exact absurd HA.out (by simp [busbarlaw0_StaysBytes.l0])
     | succ k1 =>
      have H := HA.out
      clear HA
      simp only [busbarlaw0_StaysBytes.l0] at H
      by_cases c8 : x6_1 < (y204.length : Int)
      ·
       rw [if_pos c8] at H
       have c8b0 : decide (x6_1 < (y204.length : Int)) = true := decide_eq_true c8
       clear c8
       by_cases c9 : x6_1 < (l1.length : Int)
       ·
        rw [if_pos c9] at H
        have c9b0 : decide (x6_1 < (l1.length : Int)) = true := decide_eq_true c9
        clear c9
        by_cases c10 : 0 ≤ x6_1
        ·
         rw [if_pos c10] at H
         have c10b0 : decide (0 ≤ x6_1) = true := decide_eq_true c10
         clear c10
         by_cases c11 : (rd y204 x6_1) = (rd l1 x6_1)
         ·
          rw [if_pos c11] at H
          have c11b0 : ((rd y204 x6_1) == (rd l1 x6_1)) = true := beq_iff_eq.mpr c11
          have c11b1 : ((rd y204 x6_1) != (rd l1 x6_1)) = false := bne_eq_false_iff_eq.mpr c11
          clear c11
          by_cases c12 : x6_1 ≥ (l1.length : Int)
          ·
           rw [if_pos c12] at H
           have c12b0 : decide ((l1.length : Int) ≤ x6_1) = true := decide_eq_true c12
           clear c12
           by_cases c13 : (rd y204 x6_1) = 165
           ·
            rw [if_pos c13] at H
            have c13b0 : ((rd y204 x6_1) == 165) = true := beq_iff_eq.mpr c13
            have c13b1 : ((rd y204 x6_1) != 165) = false := bne_eq_false_iff_eq.mpr c13
            clear c13
            have H' := Aside0.mk H
            clear H
            have p208 : 0 ≤ (x6_1 : Int) := of_decide_eq_true (by first | (with_reducible assumption) | assumption)
            have q208 : x6_1 < (y204.length : Int) := of_decide_eq_true (by first | (with_reducible assumption) | assumption)
            obtain ⟨ad208, e208, hx208_0⟩ := Kd.at_int HR207.out x6_1 p208 q208
            cases e208
            replace p208 := eq_true p208
            replace q208 := eq_true q208
            have p209 : 0 ≤ (x6_1 : Int) := of_decide_eq_true (by first | (with_reducible assumption) | assumption)
            have q209 : x6_1 < (l1.length : Int) := of_decide_eq_true (by first | (with_reducible assumption) | assumption)
            obtain ⟨ad209, e209, hx209_0⟩ := Kd.at_int HR1.out x6_1 p209 q209
            cases e209
            replace p209 := eq_true p209
            replace q209 := eq_true q209
            have p210 : 0 ≤ (x6_1 : Int) := of_decide_eq_true (by first | (with_reducible assumption) | assumption)
            have q210 : x6_1 < (y204.length : Int) := of_decide_eq_true (by first | (with_reducible assumption) | assumption)
            obtain ⟨ad210, e210, hx210_0⟩ := Kd.at_int HR207.out x6_1 p210 q210
            obtain rfl : ad208 = ad210 := (by injection e210)
            replace p210 := eq_true p210
            replace q210 := eq_true q210
            go_wp2
            repeat (go_quiet (fail); try go_wp2)
            go_roundg k1
            case measure => have := HK1.out; omega
            case rel => exact ⟨(wrap64 (x6_1 + 1)), (by first | rfl | (simp; done) | (simp [*]; done)), H', ⟨by have := HK1.out; omega⟩, by repeat (first | exact Drawn0.refl _ | apply Drawn0.step)⟩
           ·
            rw [if_neg c13] at H
            have c13b0 : ((rd y204 x6_1) == 165) = false := beq_eq_false_iff_ne.mpr c13
            have c13b1 : ((rd y204 x6_1) != 165) = true := bne_iff_ne.mpr c13
            obtain rfl := Option.some.inj H
            have p208 : 0 ≤ (x6_1 : Int) := of_decide_eq_true (by first | (with_reducible assumption) | assumption)
            have q208 : x6_1 < (y204.length : Int) := of_decide_eq_true (by first | (with_reducible assumption) | assumption)
            obtain ⟨ad208, e208, hx208_0⟩ := Kd.at_int HR207.out x6_1 p208 q208
            cases e208
            replace p208 := eq_true p208
            replace q208 := eq_true q208
            have p209 : 0 ≤ (x6_1 : Int) := of_decide_eq_true (by first | (with_reducible assumption) | assumption)
            have q209 : x6_1 < (l1.length : Int) := of_decide_eq_true (by first | (with_reducible assumption) | assumption)
            obtain ⟨ad209, e209, hx209_0⟩ := Kd.at_int HR1.out x6_1 p209 q209
            cases e209
            replace p209 := eq_true p209
            replace q209 := eq_true q209
            have p210 : 0 ≤ (x6_1 : Int) := of_decide_eq_true (by first | (with_reducible assumption) | assumption)
            have q210 : x6_1 < (y204.length : Int) := of_decide_eq_true (by first | (with_reducible assumption) | assumption)
            obtain ⟨ad210, e210, hx210_0⟩ := Kd.at_int HR207.out x6_1 p210 q210
            obtain rfl : ad208 = ad210 := (by injection e210)
            replace p210 := eq_true p210
            replace q210 := eq_true q210
            go_wp2
            repeat (go_quiet (fail); try go_wp2)
            go_ret
            exact ⟨by first | rfl | (simp; done) | (simp only [← hji4] <;> (first | rfl | simp)) | (simp [*]; done), by repeat (first | exact Drawn0.refl _ | apply Drawn0.step)⟩
          ·
           rw [if_neg c12] at H
           have c12b0 : decide ((l1.length : Int) ≤ x6_1) = false := decide_eq_false c12
           clear c12
           have H' := Aside0.mk H
           clear H
           have p208 : 0 ≤ (x6_1 : Int) := of_decide_eq_true (by first | (with_reducible assumption) | assumption)
           have q208 : x6_1 < (y204.length : Int) := of_decide_eq_true (by first | (with_reducible assumption) | assumption)
           obtain ⟨ad208, e208, hx208_0⟩ := Kd.at_int HR207.out x6_1 p208 q208
           cases e208
           replace p208 := eq_true p208
           replace q208 := eq_true q208
           have p209 : 0 ≤ (x6_1 : Int) := of_decide_eq_true (by first | (with_reducible assumption) | assumption)
           have q209 : x6_1 < (l1.length : Int) := of_decide_eq_true (by first | (with_reducible assumption) | assumption)
           obtain ⟨ad209, e209, hx209_0⟩ := Kd.at_int HR1.out x6_1 p209 q209
           cases e209
           replace p209 := eq_true p209
           replace q209 := eq_true q209
           go_wp2
           repeat (go_quiet (fail); try go_wp2)
           go_roundg k1
           case measure => have := HK1.out; omega
           case rel => exact ⟨(wrap64 (x6_1 + 1)), (by first | rfl | (simp; done) | (simp [*]; done)), H', ⟨by have := HK1.out; omega⟩, by repeat (first | exact Drawn0.refl _ | apply Drawn0.step)⟩
         ·
          rw [if_neg c11] at H
          have c11b0 : ((rd y204 x6_1) == (rd l1 x6_1)) = false := beq_eq_false_iff_ne.mpr c11
          have c11b1 : ((rd y204 x6_1) != (rd l1 x6_1)) = true := bne_iff_ne.mpr c11
          obtain rfl := Option.some.inj H
          have p208 : 0 ≤ (x6_1 : Int) := of_decide_eq_true (by first | (with_reducible assumption) | assumption)
          have q208 : x6_1 < (y204.length : Int) := of_decide_eq_true (by first | (with_reducible assumption) | assumption)
          obtain ⟨ad208, e208, hx208_0⟩ := Kd.at_int HR207.out x6_1 p208 q208
          cases e208
          replace p208 := eq_true p208
          replace q208 := eq_true q208
          have p209 : 0 ≤ (x6_1 : Int) := of_decide_eq_true (by first | (with_reducible assumption) | assumption)
          have q209 : x6_1 < (l1.length : Int) := of_decide_eq_true (by first | (with_reducible assumption) | assumption)
          obtain ⟨ad209, e209, hx209_0⟩ := Kd.at_int HR1.out x6_1 p209 q209
          cases e209
          replace p209 := eq_true p209
          replace q209 := eq_true q209
          go_wp2
          repeat (go_quiet (fail); try go_wp2)
          go_ret
          exact ⟨by first | rfl | (simp; done) | (simp only [← hji4] <;> (first | rfl | simp)) | (simp [*]; done), by repeat (first | exact Drawn0.refl _ | apply Drawn0.step)⟩
        ·
         rw [if_neg c10] at H
         exact absurd H (by simp)
       ·
        rw [if_neg c9] at H
        have c9b0 : decide (x6_1 < (l1.length : Int)) = false := decide_eq_false c9
        clear c9
        by_cases c14 : x6_1 ≥ (l1.length : Int)
        ·
         rw [if_pos c14] at H
         have c14b0 : decide ((l1.length : Int) ≤ x6_1) = true := decide_eq_true c14
         clear c14
         by_cases c15 : 0 ≤ x6_1
         ·
          rw [if_pos c15] at H
          have c15b0 : decide (0 ≤ x6_1) = true := decide_eq_true c15
          clear c15
          by_cases c16 : (rd y204 x6_1) = 165
          ·
           rw [if_pos c16] at H
           have c16b0 : ((rd y204 x6_1) == 165) = true := beq_iff_eq.mpr c16
           have c16b1 : ((rd y204 x6_1) != 165) = false := bne_eq_false_iff_eq.mpr c16
           clear c16
           have H' := Aside0.mk H
           clear H
           have p211 : 0 ≤ (x6_1 : Int) := of_decide_eq_true (by first | (with_reducible assumption) | assumption)
           have q211 : x6_1 < (y204.length : Int) := of_decide_eq_true (by first | (with_reducible assumption) | assumption)
           obtain ⟨ad211, e211, hx211_0⟩ := Kd.at_int HR207.out x6_1 p211 q211
           cases e211
           replace p211 := eq_true p211
           replace q211 := eq_true q211
           go_wp2
           repeat (go_quiet (fail); try go_wp2)
           go_roundg k1
           case measure => have := HK1.out; omega
           case rel => exact ⟨(wrap64 (x6_1 + 1)), (by first | rfl | (simp; done) | (simp [*]; done)), H', ⟨by have := HK1.out; omega⟩, by repeat (first | exact Drawn0.refl _ | apply Drawn0.step)⟩
          ·
           rw [if_neg c16] at H
           have c16b0 : ((rd y204 x6_1) == 165) = false := beq_eq_false_iff_ne.mpr c16
           have c16b1 : ((rd y204 x6_1) != 165) = true := bne_iff_ne.mpr c16
           obtain rfl := Option.some.inj H
           have p211 : 0 ≤ (x6_1 : Int) := of_decide_eq_true (by first | (with_reducible assumption) | assumption)
           have q211 : x6_1 < (y204.length : Int) := of_decide_eq_true (by first | (with_reducible assumption) | assumption)
           obtain ⟨ad211, e211, hx211_0⟩ := Kd.at_int HR207.out x6_1 p211 q211
           cases e211
           replace p211 := eq_true p211
           replace q211 := eq_true q211
           go_wp2
           repeat (go_quiet (fail); try go_wp2)
           go_ret
           exact ⟨by first | rfl | (simp; done) | (simp only [← hji4] <;> (first | rfl | simp)) | (simp [*]; done), by repeat (first | exact Drawn0.refl _ | apply Drawn0.step)⟩
         ·
          rw [if_neg c15] at H
          exact absurd H (by simp)
        ·
         rw [if_neg c14] at H
         have c14b0 : decide ((l1.length : Int) ≤ x6_1) = false := decide_eq_false c14
         clear c14
         have H' := Aside0.mk H
         clear H
         go_wp2
         repeat (go_quiet (fail); try go_wp2)
         go_roundg k1
         case measure => have := HK1.out; omega
         case rel => exact ⟨(wrap64 (x6_1 + 1)), (by first | rfl | (simp; done) | (simp [*]; done)), H', ⟨by have := HK1.out; omega⟩, by repeat (first | exact Drawn0.refl _ | apply Drawn0.step)⟩
      ·
       rw [if_neg c8] at H
       have c8b0 : decide (x6_1 < (y204.length : Int)) = false := decide_eq_false c8
       clear c8
       obtain rfl := Option.some.inj H
       go_wp2
       repeat (go_quiet (fail); try go_wp2)
       go_ret
       exact ⟨by first | rfl | (simp; done) | (simp only [← hji4] <;> (first | rfl | simp)) | (simp [*]; done), by repeat (first | exact Drawn0.refl _ | apply Drawn0.step)⟩
   ·
    rw [if_neg c6] at H
    exact absurd H (by simp)
  ·
   rw [if_neg c5] at H
   exact absurd H (by simp)
 ·
  rw [if_neg c3] at H
  have c3b0 : ((l0.length : Int) == (l1.length : Int)) = false := beq_eq_false_iff_ne.mpr c3
  have c3b1 : ((l0.length : Int) != (l1.length : Int)) = true := bne_iff_ne.mpr c3
  have c3b2 : (l0.length == l1.length) = false := by first | simpa using c3 | (simp at c3 ⊢; omega)
  obtain rfl := Option.some.inj H
  go_enter Try.func16, Try.ntmps16
  go_wp2
  repeat (go_quiet (fail); try go_wp2)
  go_ret
  exact ⟨by first | rfl | (simp; done) | (simp [*]; done), by repeat (first | exact Drawn0.refl _ | apply Drawn0.step)⟩

/-! ### word_Get: function 59 -/
def word_Get.f (l0 : List Int) (a1 : Int) : Option (Int × Bool) := if a1 < 0 then (some (0, false)) else (if (wrap64 ((l0.length : Int) - a1)) < 2 then (some (0, false)) else (if 0 ≤ a1 then (if a1 < (l0.length : Int) then (if 0 ≤ (wrap64 (a1 + 1)) then (if (wrap64 (a1 + 1)) < (l0.length : Int) then (some (Go.bits .or .u16 (IntKind.u16.wrap ((IntKind.u16.wrap (rd l0 a1)) * 256)) (IntKind.u16.wrap (rd l0 (wrap64 (a1 + 1)))), true)) else (none)) else (none)) else (none)) else (none)))
set_option maxHeartbeats 8000000 in
set_option maxRecDepth 100000 in
theorem word_Get.calls (A0 : Option Addr) (c0 : Nat) (l0 : List Int) (a1 : Int) (r1 : Int) (r2 : Bool) (w : World) (hr0 : Kd.C (Kd.int .u8) w A0 l0.length l0) (hc0 : l0.length ≤ c0) (h : word_Get.f l0 a1 = some (r1, r2)) :
  Calls Try.prog 59 #[.slice A0 l0.length c0, .int .i64 a1] w fun e w' => e = .returned (.tuple #[.int .u16 r1, .bool r2]) ∧ Drawn0 w w' := by
 have HR0 := Aside0.mk hr0
 have HC0 := Aside0.mk hc0
 clear hr0 hc0
 have H : (if a1 < 0 then (some (0, false)) else (if (wrap64 ((l0.length : Int) - a1)) < 2 then (some (0, false)) else (if 0 ≤ a1 then (if a1 < (l0.length : Int) then (if 0 ≤ (wrap64 (a1 + 1)) then (if (wrap64 (a1 + 1)) < (l0.length : Int) then (some (Go.bits .or .u16 (IntKind.u16.wrap ((IntKind.u16.wrap (rd l0 a1)) * 256)) (IntKind.u16.wrap (rd l0 (wrap64 (a1 + 1)))), true)) else (none)) else (none)) else (none)) else (none)))) = some (r1, r2) := h
 clear h
 by_cases c3 : a1 < 0
 ·
  rw [if_pos c3] at H
  have c3b0 : decide (a1 < 0) = true := decide_eq_true c3
  clear c3
  simp only [Option.some.injEq, Prod.mk.injEq] at H
  obtain ⟨rfl, rfl⟩ := H
  go_enter Try.func59, Try.ntmps59
  go_wp2
  repeat (go_quiet (fail); try go_wp2)
  go_ret2
  exact ⟨by first | rfl | (simp; done) | (simp [*]; done), by repeat (first | exact Drawn0.refl _ | apply Drawn0.step)⟩
 ·
  rw [if_neg c3] at H
  have c3b0 : decide (a1 < 0) = false := decide_eq_false c3
  clear c3
  by_cases c4 : (wrap64 ((l0.length : Int) - a1)) < 2
  ·
   rw [if_pos c4] at H
   have c4b0 : decide ((wrap64 ((l0.length : Int) - a1)) < 2) = true := decide_eq_true c4
   clear c4
   simp only [Option.some.injEq, Prod.mk.injEq] at H
   obtain ⟨rfl, rfl⟩ := H
   go_enter Try.func59, Try.ntmps59
   go_wp2
   repeat (go_quiet (fail); try go_wp2)
   go_ret2
   exact ⟨by first | rfl | (simp; done) | (simp [*]; done), by repeat (first | exact Drawn0.refl _ | apply Drawn0.step)⟩
  ·
   rw [if_neg c4] at H
   have c4b0 : decide ((wrap64 ((l0.length : Int) - a1)) < 2) = false := decide_eq_false c4
   clear c4
   by_cases c5 : 0 ≤ a1
   ·
    rw [if_pos c5] at H
    have c5b0 : decide (0 ≤ a1) = true := decide_eq_true c5
    clear c5
    by_cases c6 : a1 < (l0.length : Int)
    ·
     rw [if_pos c6] at H
     have c6b0 : decide (a1 < (l0.length : Int)) = true := decide_eq_true c6
     clear c6
     obtain ⟨ji7, hji7⟩ : ∃ j_ : Int, (wrap64 (a1 + 1)) = j_ := ⟨_, rfl⟩
     replace H : (if 0 ≤ (ji7) then (if (ji7) < (l0.length : Int) then (some (Go.bits .or .u16 (IntKind.u16.wrap ((IntKind.u16.wrap (rd l0 a1)) * 256)) (IntKind.u16.wrap (rd l0 (ji7))), true)) else (none)) else (none)) = some (r1, r2) := by first | (rw [hji7] at H; exact H) | (simp only [hji7] at H ⊢; exact H)
     have hji7w : (IntKind.i64.wrap (a1 + 1)) = ji7 := (i64_w _).trans hji7
     by_cases c8 : 0 ≤ (ji7)
     ·
      rw [if_pos c8] at H
      have c8b0 : decide (0 ≤ (ji7)) = true := decide_eq_true c8
      clear c8
      by_cases c9 : (ji7) < (l0.length : Int)
      ·
       rw [if_pos c9] at H
       have c9b0 : decide ((ji7) < (l0.length : Int)) = true := decide_eq_true c9
       clear c9
       simp only [Option.some.injEq, Prod.mk.injEq] at H
       obtain ⟨rfl, rfl⟩ := H
       have p212 : 0 ≤ (a1 : Int) := of_decide_eq_true (by first | (with_reducible assumption) | assumption)
       have q212 : a1 < (l0.length : Int) := of_decide_eq_true (by first | (with_reducible assumption) | assumption)
       obtain ⟨ad212, e212, hx212_0⟩ := Kd.at_int HR0.out a1 p212 q212
       cases e212
       replace p212 := eq_true p212
       replace q212 := eq_true q212
       have p213 : 0 ≤ ((ji7) : Int) := of_decide_eq_true (by first | (with_reducible assumption) | assumption)
       have q213 : (ji7) < (l0.length : Int) := of_decide_eq_true (by first | (with_reducible assumption) | assumption)
       obtain ⟨ad213, e213, hx213_0⟩ := Kd.at_int HR0.out (ji7) p213 q213
       obtain rfl : ad212 = ad213 := (by injection e213)
       replace p213 := eq_true p213
       replace q213 := eq_true q213
       go_enter Try.func59, Try.ntmps59
       go_wp2
       repeat (go_quiet (fail); try go_wp2)
       go_ret2
       exact ⟨by first | rfl | (simp; done) | (simp only [← hji7] <;> (first | rfl | simp)) | (simp [*]; done), by repeat (first | exact Drawn0.refl _ | apply Drawn0.step)⟩
      ·
       rw [if_neg c9] at H
       exact absurd H (by simp)
     ·
      rw [if_neg c8] at H
      exact absurd H (by simp)
    ·
     rw [if_neg c6] at H
     exact absurd H (by simp)
   ·
    rw [if_neg c5] at H
    exact absurd H (by simp)

end Go.Proofs.Ytgbclemmadkcmaa.PAdu
