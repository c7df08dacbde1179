-- written by a program of this session (wip/pp) over the kit's print.py; Lean checks it
import Derived.Test.YtmbkbpaoiilicaaPPlanLx0
import Derived.Test.YtmbkbpaoiilicaaPPlanLx1
namespace Go.Proofs.Ytmbkbpaoiilicaa.PPlanL
open Go.RowKit Go.Proofs.YtmbkbpaoiilicaaW.PrintWords Go.Proofs.YtmbkbpaoiilicaaW.PrintLast Go.Proofs.YtmbkbpaoiilicaaW.PrintMore
attribute [local go_sem] max2_int min2_int max_two min_two max_three min_three max_four min_four plus_setCell_drewN plus_cell_same   -- for this text's walks alone
set_option linter.unusedVariables false
set_option linter.unusedSimpArgs false

attribute [local go_sem high] eqA32
/-! ### busbarlaw0_StaysSpans: function 22 -/
def busbarlaw0_StaysSpans.l0 : Nat → List (S32) → List (S32) → Int → Option (Bool)
 | 0, _, _, _ => none
 | k + 1, x1, x5, x6 => if x6 < (x5.length : Int) then (if x6 < (x1.length : Int) then (if 0 ≤ x6 then (if (!(((rd_T32 x5 x6).f0) == ((rd_T32 x1 x6).f0)) || (!(((rd_T32 x5 x6).f1) == ((rd_T32 x1 x6).f1)) || (!(((rd_T32 x5 x6).f2) == ((rd_T32 x1 x6).f2))))) = true then (some false) else (if x6 ≥ (x1.length : Int) then (if (!(((rd_T32 x5 x6).f0) == 7) || (!(((rd_T32 x5 x6).f1) == 7) || (!(((rd_T32 x5 x6).f2) == 7)))) = true then (some false) else (busbarlaw0_StaysSpans.l0 k x1 x5 (wrap64 (x6 + 1)))) else (busbarlaw0_StaysSpans.l0 k x1 x5 (wrap64 (x6 + 1))))) else (none)) else (if x6 ≥ (x1.length : Int) then (if 0 ≤ x6 then (if (!(((rd_T32 x5 x6).f0) == 7) || (!(((rd_T32 x5 x6).f1) == 7) || (!(((rd_T32 x5 x6).f2) == 7)))) = true then (some false) else (busbarlaw0_StaysSpans.l0 k x1 x5 (wrap64 (x6 + 1)))) else (none)) else (busbarlaw0_StaysSpans.l0 k x1 x5 (wrap64 (x6 + 1))))) else (some true)
def busbarlaw0_StaysSpans.f (k : Nat) (l0 : List (S32)) (l1 : List (S32)) : Option (Bool) := if (l0.length : Int) = (l1.length : Int) then (if 0 ≤ (wrap64 ((l1.length : Int) + 3)) then (if (wrap64 ((l1.length : Int) + 3)) = ((l0 ++ Kd.marks k32).length : Int) then (busbarlaw0_StaysSpans.l0 k l1 (l0 ++ Kd.marks k32) 0) else (none)) else (none)) else (some false)
theorem busbarlaw0_StaysSpans.mono_l : ∀ k, (∀ y0 y1 y2, LeO (busbarlaw0_StaysSpans.l0 k y0 y1 y2) (busbarlaw0_StaysSpans.l0 (k + 1) y0 y1 y2))
 | 0 => fun _ _ _ r h => by simp [busbarlaw0_StaysSpans.l0] at h
 | k + 1 => by
  have ih0 := busbarlaw0_StaysSpans.mono_l k
  ·
   intro y0 y1 y2
   unfold busbarlaw0_StaysSpans.l0
   repeat' first
   | (with_reducible exact ih0 _ _ _)
   | (with_reducible exact LeO.refl _)
   | (with_reducible exact LeO.none _)
   | (with_reducible refine LeO.ite ?_ ?_)
   | (with_reducible refine LeO.bind ?_ (fun _ => ?_))
   | exact ih0 _ _ _
   | exact LeO.none _
   | refine LeO.ite ?_ ?_
   | refine LeO.bind ?_ (fun _ => ?_)
theorem busbarlaw0_StaysSpans.mono : ∀ a0 a1 k, LeO (busbarlaw0_StaysSpans.f k a0 a1) (busbarlaw0_StaysSpans.f (k + 1) a0 a1) := by
 intro a0 a1 k
 have ih0 := busbarlaw0_StaysSpans.mono_l k
 unfold busbarlaw0_StaysSpans.f
 repeat' first
   | (with_reducible exact ih0 _ _ _)
   | (with_reducible exact LeO.refl _)
   | (with_reducible exact LeO.none _)
   | (with_reducible refine LeO.ite ?_ ?_)
   | (with_reducible refine LeO.bind ?_ (fun _ => ?_))
   | exact ih0 _ _ _
   | exact LeO.none _
   | refine LeO.ite ?_ ?_
   | refine LeO.bind ?_ (fun _ => ?_)
set_option maxHeartbeats 8000000 in
set_option maxRecDepth 100000 in
theorem busbarlaw0_StaysSpans.calls (k : Nat) (A0 : Option Addr) (c0 : Nat) (l0 : List (S32)) (A1 : Option Addr) (c1 : Nat) (l1 : List (S32)) (r : Bool) (w : World) (hr0 : Kd.C k32 w A0 (l0 ++ Kd.marks k32).length (l0 ++ Kd.marks k32)) (hc0 : (l0 ++ Kd.marks k32).length ≤ c0) (hr1 : Kd.C k32 w A1 l1.length l1) (hc1 : l1.length ≤ c1) (h : busbarlaw0_StaysSpans.f k l0 l1 = some r) :
  Calls Try.prog 22 #[.slice A0 l0.length c0, .slice A1 l1.length c1] w fun e w' => e = .returned (.bool r) ∧ Drawn0 w w' := by
 have hu32 := Try.underlying32
 have HX0 := Aside0.mk hr0
 have HXC0 := Aside0.mk hc0
 have HR0 := Aside0.mk (show Kd.C k32 w A0 l0.length l0 from by have h3_ := Kd.C_take (m := l0.length) hr0 (by simp); rwa [List.take_left] at h3_)
 have HC0 := Aside0.mk (show l0.length ≤ c0 from by rw [List.length_append] at hc0; omega)
 clear hr0 hc0
 have HR1 := Aside0.mk hr1
 have HC1 := Aside0.mk hc1
 clear hr1 hc1
 have H : (if (l0.length : Int) = (l1.length : Int) then (if 0 ≤ (wrap64 ((l1.length : Int) + 3)) then (if (wrap64 ((l1.length : Int) + 3)) = ((l0 ++ Kd.marks k32).length : Int) then (busbarlaw0_StaysSpans.l0 k l1 (l0 ++ Kd.marks k32) 0) else (none)) else (none)) else (some false)) = some r := h
 clear h
 by_cases c3 : (l0.length : Int) = (l1.length : Int)
 ·
  rw [if_pos c3] at H
  have c3b0 : ((l0.length : Int) == (l1.length : Int)) = true := beq_iff_eq.mpr c3
  have c3b1 : ((l0.length : Int) != (l1.length : Int)) = false := bne_eq_false_iff_eq.mpr c3
  have c3b2 : (l0.length == l1.length) = true := by first | simpa using c3 | (simp at c3 ⊢; omega)
  clear c3
  obtain ⟨ji4, hji4⟩ : ∃ j_ : Int, (wrap64 ((l1.length : Int) + 3)) = j_ := ⟨_, rfl⟩
  replace H : (if 0 ≤ (ji4) then (if (ji4) = ((l0 ++ Kd.marks k32).length : Int) then (busbarlaw0_StaysSpans.l0 k l1 (l0 ++ Kd.marks k32) 0) else (none)) else (none)) = some r := by first | (rw [hji4] at H; exact H) | (simp only [hji4] at H ⊢; exact H)
  have hji4w : (IntKind.i64.wrap ((l1.length : Int) + 3)) = ji4 := (i64_w _).trans hji4
  by_cases c5 : 0 ≤ (ji4)
  ·
   rw [if_pos c5] at H
   have c5b0 := eq_true c5
   have c5b1 : decide (0 ≤ (ji4)) = true := decide_eq_true c5
   clear c5
   by_cases c6 : (ji4) = ((l0 ++ Kd.marks k32).length : Int)
   ·
    rw [if_pos c6] at H
    have c6b0 := eq_true c6
    have c6b1 : decide ((ji4) = ((l0 ++ Kd.marks k32).length : Int)) = true := decide_eq_true c6
    obtain ⟨y210, hy210⟩ : ∃ y_ : List (S32), y_ = (l0 ++ Kd.marks k32) := ⟨_, rfl⟩
    replace H : (busbarlaw0_StaysSpans.l0 k l1 y210 0) = some r := by first | (rw [hy210]; with_reducible exact H) | (have H2_ := (Option.bind_some _ _).symm.trans H; rw [hy210]; with_reducible exact H2_) | (have H2_ := (Option.bind_some _ _).symm.trans H; with_reducible exact H2_) | with_reducible exact H | (rw [hy210]; exact H) | exact H
    have Ny210 := Aside0.mk hy210
    clear hy210
    have H' := Aside0.mk H
    clear H
    obtain ⟨i07, hi07, _, hsz7, _⟩ := info_parts info32
    have hj7 : (ji4) = ((l0 ++ Kd.marks k32).length : Int) := of_decide_eq_true (by first | (with_reducible assumption) | assumption)
    rw [← Ny210.out] at hj7
    have HR213 := Aside0.mk (show Kd.C k32 w A0 y210.length y210 from by rw [Ny210.out]; exact HX0.out)
    have HC213 := Aside0.mk (show y210.length ≤ c0 from by rw [Ny210.out]; exact HXC0.out)
    have hcut7 := cut_over (P := Try.prog) 25 32 .i64 Try.underlying25 hi07 A0 l0.length y210.length c0 (ji4) hj7 HC213.out
    clear hi07 hsz7 hj7
    (try clear c6b0)
    (try clear c6b1)
    (try clear c6)
    go_enter Try.func22, Try.ntmps22
    go_wp2
    repeat (go_quiet (fail); try go_wp2)
    go_loopg [6] k (fun kq v6 w' => ∃ (x6_1 : Int), v6 = .int .i64 x6_1 ∧ Aside0 (busbarlaw0_StaysSpans.l0 kq l1 y210 x6_1 = some r) ∧ Aside0 (kq ≤ k) ∧ Drawn0 w w')
    case atStart => exact ⟨(0), (by first | rfl | (simp; done) | (simp [*]; done)), H', ⟨Nat.le_refl _⟩, by repeat (first | exact Drawn0.refl _ | apply Drawn0.step)⟩
    case round =>
     clear H'
     try clear c1
     try clear c2
     try clear p2
     try clear c3
     try clear c3b0
     try clear c3b1
     try clear c3b2
     try clear c5
     try clear c5b0
     try clear c5b1
     try clear c6
     try clear c6b0
     try clear c6b1
     try clear p6
     obtain ⟨x6_1, rfl, HA, HK1, ⟨m1, rfl⟩⟩ := hrel
     cases gk with
     | zero => exact absurd HA.out (by simp [busbarlaw0_StaysSpans.l0])
     | succ k1 =>
      have H := HA.out
      clear HA
      simp only [busbarlaw0_StaysSpans.l0] at H
      by_cases c8 : x6_1 < (y210.length : Int)
      ·
       rw [if_pos c8] at H
       have c8b0 : decide (x6_1 < (y210.length : Int)) = true := decide_eq_true c8
       clear c8
       by_cases c9 : x6_1 < (l1.length : Int)
       ·
        rw [if_pos c9] at H
        have c9b0 : decide (x6_1 < (l1.length : Int)) = true := decide_eq_true c9
        clear c9
        by_cases c10 : 0 ≤ x6_1
        ·
         rw [if_pos c10] at H
         have c10b0 : decide (0 ≤ x6_1) = true := decide_eq_true c10
         clear c10
         by_cases c11 : (!(((rd_T32 y210 x6_1).f0) == ((rd_T32 l1 x6_1).f0)) || (!(((rd_T32 y210 x6_1).f1) == ((rd_T32 l1 x6_1).f1)) || (!(((rd_T32 y210 x6_1).f2) == ((rd_T32 l1 x6_1).f2))))) = true
         ·
          rw [if_pos c11] at H
          have c11b0 : (!(((rd_T32 y210 x6_1).f0) == ((rd_T32 l1 x6_1).f0)) || (!(((rd_T32 y210 x6_1).f1) == ((rd_T32 l1 x6_1).f1)) || (!(((rd_T32 y210 x6_1).f2) == ((rd_T32 l1 x6_1).f2))))) = true := c11
          clear c11
          obtain rfl := Option.some.inj H
          have p214 : 0 ≤ (x6_1 : Int) := of_decide_eq_true (by first | (with_reducible assumption) | assumption)
          have q214 : x6_1 < (y210.length : Int) := of_decide_eq_true (by first | (with_reducible assumption) | assumption)
          obtain ⟨ad214, e214, hx214_0, hx214_1, hx214_2⟩ := at_T32 HR213.out x6_1 p214 q214
          cases e214
          replace p214 := eq_true p214
          replace q214 := eq_true q214
          have p215 : 0 ≤ (x6_1 : Int) := of_decide_eq_true (by first | (with_reducible assumption) | assumption)
          have q215 : x6_1 < (l1.length : Int) := of_decide_eq_true (by first | (with_reducible assumption) | assumption)
          obtain ⟨ad215, e215, hx215_0, hx215_1, hx215_2⟩ := at_T32 HR1.out x6_1 p215 q215
          cases e215
          replace p215 := eq_true p215
          replace q215 := eq_true q215
          go_wp2
          repeat (go_quiet (fail); try go_wp2)
          go_ret
          exact ⟨by first | rfl | (simp; done) | (simp only [← hji4] <;> (first | rfl | simp)) | (simp [*]; done), by repeat (first | exact Drawn0.refl _ | apply Drawn0.step)⟩
         ·
          rw [if_neg c11] at H
          have c11b0 : (!(((rd_T32 y210 x6_1).f0) == ((rd_T32 l1 x6_1).f0)) || (!(((rd_T32 y210 x6_1).f1) == ((rd_T32 l1 x6_1).f1)) || (!(((rd_T32 y210 x6_1).f2) == ((rd_T32 l1 x6_1).f2))))) = false := by simpa using c11
          clear c11
          by_cases c12 : x6_1 ≥ (l1.length : Int)
          ·
           rw [if_pos c12] at H
           have c12b0 : decide ((l1.length : Int) ≤ x6_1) = true := decide_eq_true c12
           clear c12
           by_cases c13 : (!(((rd_T32 y210 x6_1).f0) == 7) || (!(((rd_T32 y210 x6_1).f1) == 7) || (!(((rd_T32 y210 x6_1).f2) == 7)))) = true
           ·
            rw [if_pos c13] at H
            have c13b0 : (!(((rd_T32 y210 x6_1).f0) == 7) || (!(((rd_T32 y210 x6_1).f1) == 7) || (!(((rd_T32 y210 x6_1).f2) == 7)))) = true := c13
            clear c13
            obtain rfl := Option.some.inj H
            have p214 : 0 ≤ (x6_1 : Int) := of_decide_eq_true (by first | (with_reducible assumption) | assumption)
            have q214 : x6_1 < (y210.length : Int) := of_decide_eq_true (by first | (with_reducible assumption) | assumption)
            obtain ⟨ad214, e214, hx214_0, hx214_1, hx214_2⟩ := at_T32 HR213.out x6_1 p214 q214
            cases e214
            replace p214 := eq_true p214
            replace q214 := eq_true q214
            have p215 : 0 ≤ (x6_1 : Int) := of_decide_eq_true (by first | (with_reducible assumption) | assumption)
            have q215 : x6_1 < (l1.length : Int) := of_decide_eq_true (by first | (with_reducible assumption) | assumption)
            obtain ⟨ad215, e215, hx215_0, hx215_1, hx215_2⟩ := at_T32 HR1.out x6_1 p215 q215
            cases e215
            replace p215 := eq_true p215
            replace q215 := eq_true q215
            have p216 : 0 ≤ (x6_1 : Int) := of_decide_eq_true (by first | (with_reducible assumption) | assumption)
            have q216 : x6_1 < (y210.length : Int) := of_decide_eq_true (by first | (with_reducible assumption) | assumption)
            obtain ⟨ad216, e216, hx216_0, hx216_1, hx216_2⟩ := at_T32 HR213.out x6_1 p216 q216
            obtain rfl : ad214 = ad216 := (by injection e216)
            replace p216 := eq_true p216
            replace q216 := eq_true q216
            go_wp2
            repeat (go_quiet (fail); try go_wp2)
            go_ret
            exact ⟨by first | rfl | (simp; done) | (simp only [← hji4] <;> (first | rfl | simp)) | (simp [*]; done), by repeat (first | exact Drawn0.refl _ | apply Drawn0.step)⟩
           ·
            rw [if_neg c13] at H
            have c13b0 : (!(((rd_T32 y210 x6_1).f0) == 7) || (!(((rd_T32 y210 x6_1).f1) == 7) || (!(((rd_T32 y210 x6_1).f2) == 7)))) = false := by simpa using c13
            clear c13
            have H' := Aside0.mk H
            clear H
            have p214 : 0 ≤ (x6_1 : Int) := of_decide_eq_true (by first | (with_reducible assumption) | assumption)
            have q214 : x6_1 < (y210.length : Int) := of_decide_eq_true (by first | (with_reducible assumption) | assumption)
            obtain ⟨ad214, e214, hx214_0, hx214_1, hx214_2⟩ := at_T32 HR213.out x6_1 p214 q214
            cases e214
            replace p214 := eq_true p214
            replace q214 := eq_true q214
            have p215 : 0 ≤ (x6_1 : Int) := of_decide_eq_true (by first | (with_reducible assumption) | assumption)
            have q215 : x6_1 < (l1.length : Int) := of_decide_eq_true (by first | (with_reducible assumption) | assumption)
            obtain ⟨ad215, e215, hx215_0, hx215_1, hx215_2⟩ := at_T32 HR1.out x6_1 p215 q215
            cases e215
            replace p215 := eq_true p215
            replace q215 := eq_true q215
            have p216 : 0 ≤ (x6_1 : Int) := of_decide_eq_true (by first | (with_reducible assumption) | assumption)
            have q216 : x6_1 < (y210.length : Int) := of_decide_eq_true (by first | (with_reducible assumption) | assumption)
            obtain ⟨ad216, e216, hx216_0, hx216_1, hx216_2⟩ := at_T32 HR213.out x6_1 p216 q216
            obtain rfl : ad214 = ad216 := (by injection e216)
            replace p216 := eq_true p216
            replace q216 := eq_true q216
            go_wp2
            repeat (go_quiet (fail); try go_wp2)
            go_roundg k1
            case measure => have := HK1.out; omega
            case rel => exact ⟨(wrap64 (x6_1 + 1)), (by first | rfl | (simp; done) | (simp [*]; done)), H', ⟨by have := HK1.out; omega⟩, by repeat (first | exact Drawn0.refl _ | apply Drawn0.step)⟩
          ·
           rw [if_neg c12] at H
           have c12b0 : decide ((l1.length : Int) ≤ x6_1) = false := decide_eq_false c12
           clear c12
           have H' := Aside0.mk H
           clear H
           have p214 : 0 ≤ (x6_1 : Int) := of_decide_eq_true (by first | (with_reducible assumption) | assumption)
           have q214 : x6_1 < (y210.length : Int) := of_decide_eq_true (by first | (with_reducible assumption) | assumption)
           obtain ⟨ad214, e214, hx214_0, hx214_1, hx214_2⟩ := at_T32 HR213.out x6_1 p214 q214
           cases e214
           replace p214 := eq_true p214
           replace q214 := eq_true q214
           have p215 : 0 ≤ (x6_1 : Int) := of_decide_eq_true (by first | (with_reducible assumption) | assumption)
           have q215 : x6_1 < (l1.length : Int) := of_decide_eq_true (by first | (with_reducible assumption) | assumption)
           obtain ⟨ad215, e215, hx215_0, hx215_1, hx215_2⟩ := at_T32 HR1.out x6_1 p215 q215
           cases e215
           replace p215 := eq_true p215
           replace q215 := eq_true q215
           go_wp2
           repeat (go_quiet (fail); try go_wp2)
           go_roundg k1
           case measure => have := HK1.out; omega
           case rel => exact ⟨(wrap64 (x6_1 + 1)), (by first | rfl | (simp; done) | (simp [*]; done)), H', ⟨by have := HK1.out; omega⟩, by repeat (first | exact Drawn0.refl _ | apply Drawn0.step)⟩
        ·
         rw [if_neg c10] at H
         exact absurd H (by simp)
       ·
        rw [if_neg c9] at H
        have c9b0 : decide (x6_1 < (l1.length : Int)) = false := decide_eq_false c9
        clear c9
        by_cases c14 : x6_1 ≥ (l1.length : Int)
        ·
         rw [if_pos c14] at H
         have c14b0 : decide ((l1.length : Int) ≤ x6_1) = true := decide_eq_true c14
         clear c14
         by_cases c15 : 0 ≤ x6_1
         ·
          rw [if_pos c15] at H
          have c15b0 : decide (0 ≤ x6_1) = true := decide_eq_true c15
          clear c15
          by_cases c16 : (!(((rd_T32 y210 x6_1).f0) == 7) || (!(((rd_T32 y210 x6_1).f1) == 7) || (!(((rd_T32 y210 x6_1).f2) == 7)))) = true
          ·
           rw [if_pos c16] at H
           have c16b0 : (!(((rd_T32 y210 x6_1).f0) == 7) || (!(((rd_T32 y210 x6_1).f1) == 7) || (!(((rd_T32 y210 x6_1).f2) == 7)))) = true := c16
           clear c16
           obtain rfl := Option.some.inj H
           have p217 : 0 ≤ (x6_1 : Int) := of_decide_eq_true (by first | (with_reducible assumption) | assumption)
           have q217 : x6_1 < (y210.length : Int) := of_decide_eq_true (by first | (with_reducible assumption) | assumption)
           obtain ⟨ad217, e217, hx217_0, hx217_1, hx217_2⟩ := at_T32 HR213.out x6_1 p217 q217
           cases e217
           replace p217 := eq_true p217
           replace q217 := eq_true q217
           go_wp2
           repeat (go_quiet (fail); try go_wp2)
           go_ret
           exact ⟨by first | rfl | (simp; done) | (simp only [← hji4] <;> (first | rfl | simp)) | (simp [*]; done), by repeat (first | exact Drawn0.refl _ | apply Drawn0.step)⟩
          ·
           rw [if_neg c16] at H
           have c16b0 : (!(((rd_T32 y210 x6_1).f0) == 7) || (!(((rd_T32 y210 x6_1).f1) == 7) || (!(((rd_T32 y210 x6_1).f2) == 7)))) = false := by simpa using c16
           clear c16
           have H' := Aside0.mk H
           clear H
           have p217 : 0 ≤ (x6_1 : Int) := of_decide_eq_true (by first | (with_reducible assumption) | assumption)
           have q217 : x6_1 < (y210.length : Int) := of_decide_eq_true (by first | (with_reducible assumption) | assumption)
           obtain ⟨ad217, e217, hx217_0, hx217_1, hx217_2⟩ := at_T32 HR213.out x6_1 p217 q217
           cases e217
           replace p217 := eq_true p217
           replace q217 := eq_true q217
           go_wp2
           repeat (go_quiet (fail); try go_wp2)
           go_roundg k1
           case measure => have := HK1.out; omega
           case rel => exact ⟨(wrap64 (x6_1 + 1)), (by first | rfl | (simp; done) | (simp [*]; done)), H', ⟨by have := HK1.out; omega⟩, by repeat (first | exact Drawn0.refl _ | apply Drawn0.step)⟩
         ·
          rw [if_neg c15] at H
          exact absurd H (by simp)
        ·
         rw [if_neg c14] at H
         have c14b0 : decide ((l1.length : Int) ≤ x6_1) = false := decide_eq_false c14
         clear c14
         have H' := Aside0.mk H
         clear H
         go_wp2
         repeat (go_quiet (fail); try go_wp2)
         go_roundg k1
         case measure => have := HK1.out; omega
         case rel => exact ⟨(wrap64 (x6_1 + 1)), (by first | rfl | (simp; done) | (simp [*]; done)), H', ⟨by have := HK1.out; omega⟩, by repeat (first | exact Drawn0.refl _ | apply Drawn0.step)⟩
      ·
       rw [if_neg c8] at H
       have c8b0 : decide (x6_1 < (y210.length : Int)) = false := decide_eq_false c8
       clear c8
       obtain rfl := Option.some.inj H
       go_wp2
       repeat (go_quiet (fail); try go_wp2)
       go_ret
       exact ⟨by first | rfl | (simp; done) | (simp only [← hji4] <;> (first | rfl | simp)) | (simp [*]; done), by repeat (first | exact Drawn0.refl _ | apply Drawn0.step)⟩
   ·
    rw [if_neg c6] at H
    exact absurd H (by simp)
  ·
   rw [if_neg c5] at H
   exact absurd H (by simp)
 ·
  rw [if_neg c3] at H
  have c3b0 : ((l0.length : Int) == (l1.length : Int)) = false := beq_eq_false_iff_ne.mpr c3
  have c3b1 : ((l0.length : Int) != (l1.length : Int)) = true := bne_iff_ne.mpr c3
  have c3b2 : (l0.length == l1.length) = false := by first | simpa using c3 | (simp at c3 ⊢; omega)
  obtain rfl := Option.some.inj H
  go_enter Try.func22, Try.ntmps22
  go_wp2
  repeat (go_quiet (fail); try go_wp2)
  go_ret
  exact ⟨by first | rfl | (simp; done) | (simp [*]; done), by repeat (first | exact Drawn0.refl _ | apply Drawn0.step)⟩

end Go.Proofs.Ytmbkbpaoiilicaa.PPlanL
