-- written by a program of this session (wip/pp) over the kit's print.py; Lean checks it
import Derived.Test.YtmbkbpaoiilicaaPGroupAx0
import Derived.Test.YtmbkbpaoiilicaaPGroupAx14
import Derived.Test.YtmbkbpaoiilicaaPGroupAx15
namespace Go.Proofs.Ytmbkbpaoiilicaa.PGroupA
open Go.RowKit Go.Proofs.YtmbkbpaoiilicaaW.PrintWords Go.Proofs.YtmbkbpaoiilicaaW.PrintLast Go.Proofs.YtmbkbpaoiilicaaW.PrintMore
attribute [local go_sem] max2_int min2_int max_two min_two max_three min_three max_four min_four plus_setCell_drewN plus_cell_same   -- for this text's walks alone
set_option linter.unusedVariables false
set_option linter.unusedSimpArgs false

/-! ### busbarlaw14_All: function 13 -/
mutual
def busbarlaw14_All.l0 : Nat → List Int → List (S30) → Int → Option ((List (S30)) × (List (S32)))
 | 0, _, _, _ => none
 | k + 1, x0, x4, x5 => if x5 < 4 then (busbarlaw14_All.l1 k x0 x4 x5 0 0) else (some (x4, (([(⟨2, 0, 65536⟩ : S32), (⟨3, 0, 65536⟩ : S32)] : List (S32)))))
def busbarlaw14_All.l1 : Nat → List Int → List (S30) → Int → Int → Int → Option ((List (S30)) × (List (S32)))
 | 0, _, _, _, _, _ => none
 | k + 1, x0, x4, x5, x6, x7 => if x7 < (x0.length : Int) then (busbarlaw14_All.j2 k x0 x4 x5 x6 x7 (decide (x7 < 12))) else (busbarlaw14_All.j2 k x0 x4 x5 x6 x7 false)
def busbarlaw14_All.j2 : Nat → List Int → List (S30) → Int → Int → Int → Bool → Option ((List (S30)) × (List (S32)))
 | 0, _, _, _, _, _, _ => none
 | k + 1, x0, x4, x5, x6, x7, x20 => if x20 = true then (if 0 ≤ x7 then (if x7 < (x0.length : Int) then ((busbarlaw0_Within.f (rd x0 x7) 2).bind fun t154 => (if t154 = (wrap64 (x5 - 2)) then ((busbarlaw0_Digit.f (rd x0 x7) 2 2).bind fun t156 => (if (wrap64 (2 + (wrap64 (2 * t156)))) = 0 then (none) else ((busbarlaw0_Digit.f (rd x0 x7) 4 3).bind fun t158 => (if x4.length < 5864062014805 then (busbarlaw14_All.l1 k x0 (x4 ++ [(⟨x5, wrap64 ((wrap64 ((wrap64 (Int.tdiv (wrap64 ((wrap64 (x6 + (wrap64 (2 + (wrap64 (2 * t156)))))) - 1)) (wrap64 (2 + (wrap64 (2 * t156)))))) * (wrap64 (2 + (wrap64 (2 * t156)))))) + (wrap64 ((wrap64 (2 + (wrap64 (2 * t156)))) * t158))), wrap64 (2 + (wrap64 (2 * t156)))⟩ : S30)]) x5 (wrap64 ((wrap64 ((wrap64 ((wrap64 (Int.tdiv (wrap64 ((wrap64 (x6 + (wrap64 (2 + (wrap64 (2 * t156)))))) - 1)) (wrap64 (2 + (wrap64 (2 * t156)))))) * (wrap64 (2 + (wrap64 (2 * t156)))))) + (wrap64 ((wrap64 (2 + (wrap64 (2 * t156)))) * t158)))) + (wrap64 (2 + (wrap64 (2 * t156)))))) (wrap64 (x7 + 1))) else (none))))) else (busbarlaw14_All.l1 k x0 x4 x5 x6 (wrap64 (x7 + 1))))) else (none)) else (none)) else (busbarlaw14_All.l0 k x0 x4 (wrap64 (x5 + 1)))
end
def busbarlaw14_All.f (k : Nat) (l0 : List Int) : Option ((List (S30)) × (List (S32))) := busbarlaw14_All.l0 k l0 ([] : List (S30)) 2
theorem busbarlaw14_All.mono_l : ∀ k, (∀ y0 y1 y2, LeO (busbarlaw14_All.l0 k y0 y1 y2) (busbarlaw14_All.l0 (k + 1) y0 y1 y2)) ∧ (∀ y0 y1 y2 y3 y4, LeO (busbarlaw14_All.l1 k y0 y1 y2 y3 y4) (busbarlaw14_All.l1 (k + 1) y0 y1 y2 y3 y4)) ∧ (∀ y0 y1 y2 y3 y4 y5, LeO (busbarlaw14_All.j2 k y0 y1 y2 y3 y4 y5) (busbarlaw14_All.j2 (k + 1) y0 y1 y2 y3 y4 y5))
 | 0 => ⟨fun _ _ _ r h => by simp [busbarlaw14_All.l0] at h, fun _ _ _ _ _ r h => by simp [busbarlaw14_All.l1] at h, fun _ _ _ _ _ _ r h => by simp [busbarlaw14_All.j2] at h⟩
 | k + 1 => by
  obtain ⟨ih0, ih1, ih2⟩ := busbarlaw14_All.mono_l k
  refine ⟨?_, ?_, ?_⟩
  ·
   intro y0 y1 y2
   unfold busbarlaw14_All.l0
   repeat' first
   | (with_reducible exact ih0 _ _ _)
   | (with_reducible exact ih1 _ _ _ _ _)
   | (with_reducible exact ih2 _ _ _ _ _ _)
   | (with_reducible exact LeO.refl _)
   | (with_reducible exact LeO.none _)
   | (with_reducible refine LeO.ite ?_ ?_)
   | (with_reducible refine LeO.bind ?_ (fun _ => ?_))
   | exact ih0 _ _ _
   | exact ih1 _ _ _ _ _
   | exact ih2 _ _ _ _ _ _
   | exact LeO.none _
   | refine LeO.ite ?_ ?_
   | refine LeO.bind ?_ (fun _ => ?_)
  ·
   intro y0 y1 y2 y3 y4
   unfold busbarlaw14_All.l1
   repeat' first
   | (with_reducible exact ih0 _ _ _)
   | (with_reducible exact ih1 _ _ _ _ _)
   | (with_reducible exact ih2 _ _ _ _ _ _)
   | (with_reducible exact LeO.refl _)
   | (with_reducible exact LeO.none _)
   | (with_reducible refine LeO.ite ?_ ?_)
   | (with_reducible refine LeO.bind ?_ (fun _ => ?_))
   | exact ih0 _ _ _
   | exact ih1 _ _ _ _ _
   | exact ih2 _ _ _ _ _ _
   | exact LeO.none _
   | refine LeO.ite ?_ ?_
   | refine LeO.bind ?_ (fun _ => ?_)
  ·
   intro y0 y1 y2 y3 y4 y5
   unfold busbarlaw14_All.j2
   repeat' first
   | (with_reducible exact ih0 _ _ _)
   | (with_reducible exact ih1 _ _ _ _ _)
   | (with_reducible exact ih2 _ _ _ _ _ _)
   | (with_reducible exact LeO.refl _)
   | (with_reducible exact LeO.none _)
   | (with_reducible refine LeO.ite ?_ ?_)
   | (with_reducible refine LeO.bind ?_ (fun _ => ?_))
   | exact ih0 _ _ _
   | exact ih1 _ _ _ _ _
   | exact ih2 _ _ _ _ _ _
   | exact LeO.none _
   | refine LeO.ite ?_ ?_
   | refine LeO.bind ?_ (fun _ => ?_)
theorem busbarlaw14_All.mono : ∀ a0 k, LeO (busbarlaw14_All.f k a0) (busbarlaw14_All.f (k + 1) a0) := by
 intro a0 k
 obtain ⟨ih0, ih1, ih2⟩ := busbarlaw14_All.mono_l k
 unfold busbarlaw14_All.f
 repeat' first
   | (with_reducible exact ih0 _ _ _)
   | (with_reducible exact ih1 _ _ _ _ _)
   | (with_reducible exact ih2 _ _ _ _ _ _)
   | (with_reducible exact LeO.refl _)
   | (with_reducible exact LeO.none _)
   | (with_reducible refine LeO.ite ?_ ?_)
   | (with_reducible refine LeO.bind ?_ (fun _ => ?_))
   | exact ih0 _ _ _
   | exact ih1 _ _ _ _ _
   | exact ih2 _ _ _ _ _ _
   | exact LeO.none _
   | refine LeO.ite ?_ ?_
   | refine LeO.bind ?_ (fun _ => ?_)
set_option maxHeartbeats 8000000 in
set_option maxRecDepth 100000 in
theorem busbarlaw14_All.calls (k : Nat) (A0 : Option Addr) (c0 : Nat) (l0 : List Int) (r1 : List (S30)) (r2 : List (S32)) (w : World) (hr0 : Kd.C (Kd.int .i64) w A0 l0.length l0) (hc0 : l0.length ≤ c0) (h : busbarlaw14_All.f k l0 = some (r1, r2)) :
  Calls Try.prog 13 #[.slice A0 l0.length c0] w fun e w' => ∃ v0_ v1_ : Value, e = .returned (.tuple #[v0_, v1_]) ∧ Kd.R k30 30 w' w.heap.size (fun _ => True) v0_ r1 ∧ Kd.R k32 32 w' w.heap.size (fun _ => True) v1_ r2 ∧ Below w.heap.size w w' := by
 have hu30 := Try.underlying30
 have hu32 := Try.underlying32
 have HR0 := Aside0.mk hr0
 have HC0 := Aside0.mk hc0
 clear hr0 hc0
 have HB := Aside0.mk (Below.refl w.heap.size w)
 have H : (busbarlaw14_All.l0 k l0 ([] : List (S30)) 2) = some (r1, r2) := h
 clear h
 have H' := Aside0.mk H
 clear H
 go_enter Try.func13, Try.ntmps13
 go_wp2
 go_loopg [4, 5] k (fun kq v4 v5 w' => ∃ (x4_1 : List (S30)) (x5_1 : Int), v5 = .int .i64 x5_1 ∧ Aside0 (busbarlaw14_All.l0 kq l0 x4_1 x5_1 = some (r1, r2)) ∧ Aside0 (kq ≤ k) ∧ Aside0 (Kd.R k30 30 w' w.heap.size (fun _ => True) v4 x4_1) ∧ Aside0 (Below w.heap.size w w'))
 case atStart => exact ⟨(([] : List (S30))), (2), (by first | rfl | (simp; done) | (simp [*]; done)), H', ⟨Nat.le_refl _⟩, ⟨by first | exact Kd.R_nil _ _ _ _ _ | exact Kd.N_nil _ _ _ _ _ | exact Kd.V_nil _ _ _ _ _ | exact Kd.Q_nil _ _ _ _ _ | exact Kd.S_nil _ _ _ _ _⟩, ⟨by repeat (first | (with_reducible first | exact HB.out | apply below_alloc | apply pw_below_drewN | apply below_drew1) | exact HB.out)⟩⟩
 case round =>
  clear H'
  try clear c1
  obtain ⟨x4_1, x5_1, rfl, HA, HK1, HO_4, HB⟩ := hrel
  cases gk with
  | zero => exact absurd HA.out (by simp [busbarlaw14_All.l0])
  | succ k1 =>
   have H := HA.out
   clear HA
   simp only [busbarlaw14_All.l0] at H
   by_cases c2 : x5_1 < 4
   ·
    rw [if_pos c2] at H
    have c2b0 : decide (x5_1 < 4) = true := decide_eq_true c2
    clear c2
    have H' := Aside0.mk H
    clear H
    go_wp2
    go_loopg [4, 6, 7] k1 (fun kq v4 v6 v7 w' => ∃ (x4_2 : List (S30)) (x6_2 : Int) (x7_2 : Int), v6 = .int .i64 x6_2 ∧ v7 = .int .i64 x7_2 ∧ Aside0 (busbarlaw14_All.l1 kq l0 x4_2 x5_1 x6_2 x7_2 = some (r1, r2)) ∧ Aside0 (kq ≤ k1) ∧ Aside0 (Kd.R k30 30 w' w.heap.size (fun _ => True) v4 x4_2) ∧ Aside0 (Below w.heap.size w w'))
    case atStart => exact ⟨(x4_1), (0), (0), (by first | rfl | (simp; done) | (simp [*]; done)), (by first | rfl | (simp; done) | (simp [*]; done)), H', ⟨Nat.le_refl _⟩, ⟨by (with_reducible repeat (first | apply Kd.R_alloc | apply Kd.R_drewN | apply Kd.R_drew)); exact HO_4.out⟩, ⟨by repeat (first | (with_reducible first | exact HB.out | apply below_alloc | apply pw_below_drewN | apply below_drew1) | exact HB.out)⟩⟩
    case round =>
     clear H'
     try clear c1
     try clear c2
     try clear c2b0
     try clear p2
     obtain ⟨x4_2, x6_2, x7_2, rfl, rfl, HA, HK2, HO_4, HB⟩ := hrel
     cases gk with
     | zero => exact absurd HA.out (by simp [busbarlaw14_All.l1])
     | succ k2 =>
      have H := HA.out
      clear HA
      simp only [busbarlaw14_All.l1] at H
      have HC3 := Aside0.mk H
      clear H
      go_upto_region 7 with (fail)
      go_cut [20] (fun v20 wc => ∃ (kq : Nat) (x20_2 : Bool), v20 = .bool x20_2 ∧ Aside0 (busbarlaw14_All.j2 kq l0 x4_2 x5_1 x6_2 x7_2 x20_2 = some (r1, r2)) ∧ Aside0 (kq ≤ k2) ∧ Aside0 (Kd.R k30 30 wc w.heap.size (fun _ => True) u4 x4_2) ∧ Aside0 (Below w.heap.size w wc))
      case first =>
       have H := HC3.out
       clear HC3
       by_cases c4 : x7_2 < (l0.length : Int)
       ·
        rw [if_pos c4] at H
        have c4b0 : decide (x7_2 < (l0.length : Int)) = true := decide_eq_true c4
        clear c4
        (first | rw [c4b0] | (simp only [i64_w, i32_w]; rw [c4b0]) | skip)
        have H' := Aside0.mk H
        clear H
        go_wp2
        go_meet
        case rel => exact ⟨_, (decide (x7_2 < 12)), (by first | rfl | (simp; done) | (simp [*]; done)), H', ⟨by have := HK1.out; have := HK2.out; first | omega | exact Nat.le_refl _⟩, ⟨by (with_reducible repeat (first | apply Kd.R_alloc | apply Kd.R_drewN | apply Kd.R_drew)); exact HO_4.out⟩, ⟨by repeat (first | (with_reducible first | exact HB.out | apply below_alloc | apply pw_below_drewN | apply below_drew1) | exact HB.out)⟩⟩
       ·
        rw [if_neg c4] at H
        have c4b0 : decide (x7_2 < (l0.length : Int)) = false := decide_eq_false c4
        clear c4
        (first | rw [c4b0] | (simp only [i64_w, i32_w]; rw [c4b0]) | skip)
        have H' := Aside0.mk H
        clear H
        go_wp2
        go_meet
        case rel => exact ⟨_, (false), (by first | rfl | (simp; done) | (simp [*]; done)), H', ⟨by have := HK1.out; have := HK2.out; first | omega | exact Nat.le_refl _⟩, ⟨by (with_reducible repeat (first | apply Kd.R_alloc | apply Kd.R_drewN | apply Kd.R_drew)); exact HO_4.out⟩, ⟨by repeat (first | (with_reducible first | exact HB.out | apply below_alloc | apply pw_below_drewN | apply below_drew1) | exact HB.out)⟩⟩
      case rest =>
       clear HC3
       try clear c1
       try clear c2
       try clear c2b0
       try clear p2
       try clear c4
       try clear c4b0
       try clear p2
       obtain ⟨kq, x20_2, rfl, HA, HJ2, HO_4, HB⟩ := hcut
       cases kq with
       | zero => exact absurd HA.out (by simp [busbarlaw14_All.j2])
       | succ kj2 =>
        have H := HA.out
        clear HA
        simp only [busbarlaw14_All.j2] at H
        by_cases c5 : x20_2 = true
        ·
         subst c5
         have H1 : (if 0 ≤ x7_2 then (if x7_2 < (l0.length : Int) then ((busbarlaw0_Within.f (rd l0 x7_2) 2).bind fun t154 => (if t154 = (wrap64 (x5_1 - 2)) then ((busbarlaw0_Digit.f (rd l0 x7_2) 2 2).bind fun t156 => (if (wrap64 (2 + (wrap64 (2 * t156)))) = 0 then (none) else ((busbarlaw0_Digit.f (rd l0 x7_2) 4 3).bind fun t158 => (if x4_2.length < 5864062014805 then (busbarlaw14_All.l1 kj2 l0 (x4_2 ++ [(⟨x5_1, wrap64 ((wrap64 ((wrap64 (Int.tdiv (wrap64 ((wrap64 (x6_2 + (wrap64 (2 + (wrap64 (2 * t156)))))) - 1)) (wrap64 (2 + (wrap64 (2 * t156)))))) * (wrap64 (2 + (wrap64 (2 * t156)))))) + (wrap64 ((wrap64 (2 + (wrap64 (2 * t156)))) * t158))), wrap64 (2 + (wrap64 (2 * t156)))⟩ : S30)]) x5_1 (wrap64 ((wrap64 ((wrap64 ((wrap64 (Int.tdiv (wrap64 ((wrap64 (x6_2 + (wrap64 (2 + (wrap64 (2 * t156)))))) - 1)) (wrap64 (2 + (wrap64 (2 * t156)))))) * (wrap64 (2 + (wrap64 (2 * t156)))))) + (wrap64 ((wrap64 (2 + (wrap64 (2 * t156)))) * t158)))) + (wrap64 (2 + (wrap64 (2 * t156)))))) (wrap64 (x7_2 + 1))) else (none))))) else (busbarlaw14_All.l1 kj2 l0 x4_2 x5_1 x6_2 (wrap64 (x7_2 + 1))))) else (none)) else (none)) = some (r1, r2) := by rw [if_pos rfl] at H; exact H
         clear H
         have H := H1
         clear H1
         by_cases c6 : 0 ≤ x7_2
         ·
          rw [if_pos c6] at H
          have c6b0 : decide (0 ≤ x7_2) = true := decide_eq_true c6
          clear c6
          by_cases c7 : x7_2 < (l0.length : Int)
          ·
           rw [if_pos c7] at H
           have c7b0 : decide (x7_2 < (l0.length : Int)) = true := decide_eq_true c7
           clear c7
           replace H := Option.bind_eq_some_iff.mp H
           obtain ⟨t154, A80, H⟩ := H
           replace H : (if t154 = (wrap64 (x5_1 - 2)) then ((busbarlaw0_Digit.f (rd l0 x7_2) 2 2).bind fun t156 => (if (wrap64 (2 + (wrap64 (2 * t156)))) = 0 then (none) else ((busbarlaw0_Digit.f (rd l0 x7_2) 4 3).bind fun t158 => (if x4_2.length < 5864062014805 then (busbarlaw14_All.l1 kj2 l0 (x4_2 ++ [(⟨x5_1, wrap64 ((wrap64 ((wrap64 (Int.tdiv (wrap64 ((wrap64 (x6_2 + (wrap64 (2 + (wrap64 (2 * t156)))))) - 1)) (wrap64 (2 + (wrap64 (2 * t156)))))) * (wrap64 (2 + (wrap64 (2 * t156)))))) + (wrap64 ((wrap64 (2 + (wrap64 (2 * t156)))) * t158))), wrap64 (2 + (wrap64 (2 * t156)))⟩ : S30)]) x5_1 (wrap64 ((wrap64 ((wrap64 ((wrap64 (Int.tdiv (wrap64 ((wrap64 (x6_2 + (wrap64 (2 + (wrap64 (2 * t156)))))) - 1)) (wrap64 (2 + (wrap64 (2 * t156)))))) * (wrap64 (2 + (wrap64 (2 * t156)))))) + (wrap64 ((wrap64 (2 + (wrap64 (2 * t156)))) * t158)))) + (wrap64 (2 + (wrap64 (2 * t156)))))) (wrap64 (x7_2 + 1))) else (none))))) else (busbarlaw14_All.l1 kj2 l0 x4_2 x5_1 x6_2 (wrap64 (x7_2 + 1)))) = some (r1, r2) := H
           have A8 := Aside0.mk A80
           clear A80
           by_cases c9 : t154 = (wrap64 (x5_1 - 2))
           ·
            rw [if_pos c9] at H
            have c9b0 : (t154 == (wrap64 (x5_1 - 2))) = true := beq_iff_eq.mpr c9
            have c9b1 : (t154 != (wrap64 (x5_1 - 2))) = false := bne_eq_false_iff_eq.mpr c9
            clear c9
            replace H := Option.bind_eq_some_iff.mp H
            obtain ⟨t156, A100, H⟩ := H
            replace H : (if (wrap64 (2 + (wrap64 (2 * t156)))) = 0 then (none) else ((busbarlaw0_Digit.f (rd l0 x7_2) 4 3).bind fun t158 => (if x4_2.length < 5864062014805 then (busbarlaw14_All.l1 kj2 l0 (x4_2 ++ [(⟨x5_1, wrap64 ((wrap64 ((wrap64 (Int.tdiv (wrap64 ((wrap64 (x6_2 + (wrap64 (2 + (wrap64 (2 * t156)))))) - 1)) (wrap64 (2 + (wrap64 (2 * t156)))))) * (wrap64 (2 + (wrap64 (2 * t156)))))) + (wrap64 ((wrap64 (2 + (wrap64 (2 * t156)))) * t158))), wrap64 (2 + (wrap64 (2 * t156)))⟩ : S30)]) x5_1 (wrap64 ((wrap64 ((wrap64 ((wrap64 (Int.tdiv (wrap64 ((wrap64 (x6_2 + (wrap64 (2 + (wrap64 (2 * t156)))))) - 1)) (wrap64 (2 + (wrap64 (2 * t156)))))) * (wrap64 (2 + (wrap64 (2 * t156)))))) + (wrap64 ((wrap64 (2 + (wrap64 (2 * t156)))) * t158)))) + (wrap64 (2 + (wrap64 (2 * t156)))))) (wrap64 (x7_2 + 1))) else (none)))) = some (r1, r2) := H
            have A10 := Aside0.mk A100
            clear A100
            by_cases c11 : (wrap64 (2 + (wrap64 (2 * t156)))) = 0
            ·
             rw [if_pos c11] at H
             exact absurd H (by simp)
            ·
             rw [if_neg c11] at H
             have c11b0 : ((wrap64 (2 + (wrap64 (2 * t156)))) == 0) = false := beq_eq_false_iff_ne.mpr c11
             have c11b1 : ((wrap64 (2 + (wrap64 (2 * t156)))) != 0) = true := bne_iff_ne.mpr c11
             replace H := Option.bind_eq_some_iff.mp H
             obtain ⟨t158, A120, H⟩ := H
             replace H : (if x4_2.length < 5864062014805 then (busbarlaw14_All.l1 kj2 l0 (x4_2 ++ [(⟨x5_1, wrap64 ((wrap64 ((wrap64 (Int.tdiv (wrap64 ((wrap64 (x6_2 + (wrap64 (2 + (wrap64 (2 * t156)))))) - 1)) (wrap64 (2 + (wrap64 (2 * t156)))))) * (wrap64 (2 + (wrap64 (2 * t156)))))) + (wrap64 ((wrap64 (2 + (wrap64 (2 * t156)))) * t158))), wrap64 (2 + (wrap64 (2 * t156)))⟩ : S30)]) x5_1 (wrap64 ((wrap64 ((wrap64 ((wrap64 (Int.tdiv (wrap64 ((wrap64 (x6_2 + (wrap64 (2 + (wrap64 (2 * t156)))))) - 1)) (wrap64 (2 + (wrap64 (2 * t156)))))) * (wrap64 (2 + (wrap64 (2 * t156)))))) + (wrap64 ((wrap64 (2 + (wrap64 (2 * t156)))) * t158)))) + (wrap64 (2 + (wrap64 (2 * t156)))))) (wrap64 (x7_2 + 1))) else (none)) = some (r1, r2) := H
             have A12 := Aside0.mk A120
             clear A120
             by_cases c13 : x4_2.length < 5864062014805
             ·
              rw [if_pos c13] at H
              have LMc13 := Aside0.mk c13
              clear c13
              obtain ⟨y159, hy159⟩ : ∃ y_ : List (S30), y_ = (x4_2 ++ [(⟨x5_1, wrap64 ((wrap64 ((wrap64 (Int.tdiv (wrap64 ((wrap64 (x6_2 + (wrap64 (2 + (wrap64 (2 * t156)))))) - 1)) (wrap64 (2 + (wrap64 (2 * t156)))))) * (wrap64 (2 + (wrap64 (2 * t156)))))) + (wrap64 ((wrap64 (2 + (wrap64 (2 * t156)))) * t158))), wrap64 (2 + (wrap64 (2 * t156)))⟩ : S30)]) := ⟨_, rfl⟩
              replace H : (busbarlaw14_All.l1 kj2 l0 y159 x5_1 (wrap64 ((wrap64 ((wrap64 ((wrap64 (Int.tdiv (wrap64 ((wrap64 (x6_2 + (wrap64 (2 + (wrap64 (2 * t156)))))) - 1)) (wrap64 (2 + (wrap64 (2 * t156)))))) * (wrap64 (2 + (wrap64 (2 * t156)))))) + (wrap64 ((wrap64 (2 + (wrap64 (2 * t156)))) * t158)))) + (wrap64 (2 + (wrap64 (2 * t156)))))) (wrap64 (x7_2 + 1))) = some (r1, r2) := by first | (rw [hy159]; with_reducible exact H) | (have H2_ := (Option.bind_some _ _).symm.trans H; rw [hy159]; with_reducible exact H2_) | (have H2_ := (Option.bind_some _ _).symm.trans H; with_reducible exact H2_) | with_reducible exact H | (rw [hy159]; exact H) | exact H
              have Ny159 := Aside0.mk hy159
              clear hy159
              have H' := Aside0.mk H
              clear H
              have p153 : 0 ≤ (x7_2 : Int) := of_decide_eq_true (by first | (with_reducible assumption) | assumption)
              have q153 : x7_2 < (l0.length : Int) := of_decide_eq_true (by first | (with_reducible assumption) | assumption)
              obtain ⟨ad153, e153, hx153_0⟩ := Kd.at_int HR0.out x7_2 p153 q153
              cases e153
              replace hx153_0 := (HB.out.cell (World.block_lt_of_cell? w _ hx153_0)).trans hx153_0
              replace p153 := eq_true p153
              replace q153 := eq_true q153
              go_wp2_with (first | ((with_reducible refine gate_callee (f := 14) rfl ?_); refine goesL_ (some 27) rfl rfl Try.func14 (by kernel_rfl) rfl #[.int .i64 (rd l0 x7_2), .int .i64 2] rfl (by (try simp only [List.map_toArray, List.map_cons, List.map_nil]); first | done | rfl | (simp only [List.length_drop, List.length_take]; rfl)) ?_; (with_reducible refine (busbarlaw0_Within.calls (rd l0 x7_2) 2 t154 _ A8.out).mono ?_); rintro e w' ⟨rfl, ⟨nd, rfl⟩⟩; refine ⟨_, rfl, ?_⟩; have p155 : 0 ≤ (x7_2 : Int) := of_decide_eq_true (by first | (with_reducible assumption) | assumption); have q155 : x7_2 < (l0.length : Int) := of_decide_eq_true (by first | (with_reducible assumption) | assumption); obtain ⟨ad155, e155, hx155_0⟩ := Kd.at_int HR0.out x7_2 p155 q155; obtain rfl : ad153 = ad155 := (by injection e155); replace hx155_0 := (HB.out.cell (World.block_lt_of_cell? w _ hx155_0)).trans hx155_0; replace p155 := eq_true p155; replace q155 := eq_true q155) | ((with_reducible refine gate_callee (f := 17) rfl ?_); refine goesL_ (some 35) rfl rfl Try.func17 (by kernel_rfl) rfl #[.int .i64 (rd l0 x7_2), .int .i64 2, .int .i64 2] rfl (by (try simp only [List.map_toArray, List.map_cons, List.map_nil]); first | done | rfl | (simp only [List.length_drop, List.length_take]; rfl)) ?_; (with_reducible refine (busbarlaw0_Digit.calls (rd l0 x7_2) 2 2 t156 _ A10.out).mono ?_); rintro e w' ⟨rfl, ⟨nd, rfl⟩⟩; refine ⟨_, rfl, ?_⟩; have p157 : 0 ≤ (x7_2 : Int) := of_decide_eq_true (by first | (with_reducible assumption) | assumption); have q157 : x7_2 < (l0.length : Int) := of_decide_eq_true (by first | (with_reducible assumption) | assumption); obtain ⟨ad157, e157, hx157_0⟩ := Kd.at_int HR0.out x7_2 p157 q157; obtain rfl : ad153 = ad157 := (by injection e157); replace hx157_0 := (HB.out.cell (World.block_lt_of_cell? w _ hx157_0)).trans hx157_0; replace p157 := eq_true p157; replace q157 := eq_true q157) | ((with_reducible refine gate_callee (f := 17) rfl ?_); refine goesL_ (some 52) rfl rfl Try.func17 (by kernel_rfl) rfl #[.int .i64 (rd l0 x7_2), .int .i64 4, .int .i64 3] rfl (by (try simp only [List.map_toArray, List.map_cons, List.map_nil]); first | done | rfl | (simp only [List.length_drop, List.length_take]; rfl)) ?_; (with_reducible refine (busbarlaw0_Digit.calls (rd l0 x7_2) 4 3 t158 _ A12.out).mono ?_); rintro e w' ⟨rfl, ⟨nd, rfl⟩⟩; refine ⟨_, rfl, ?_⟩) | ((with_reducible refine gate_builtin (b := .append) (xs := #[.tmp 55, .tmp 60]) rfl ?_); at_builtin; refine Kd.R_append k30 (w0 := w) w.heap.size rfl (.tmp 55) (.tmp 60) 24 30 (.agg #[(.int .i64 0), (.int .i64 0), (.int .i64 0)]) 24 rfl Try.underlying24 info30 rfl (by decide) (by omega) u4 x4_2 (⟨x5_1, wrap64 ((wrap64 ((wrap64 (Int.tdiv (wrap64 ((wrap64 (x6_2 + (wrap64 (2 + (wrap64 (2 * t156)))))) - 1)) (wrap64 (2 + (wrap64 (2 * t156)))))) * (wrap64 (2 + (wrap64 (2 * t156)))))) + (wrap64 ((wrap64 (2 + (wrap64 (2 * t156)))) * t158))), wrap64 (2 + (wrap64 (2 * t156)))⟩ : S30) [.int .i64 x5_1, .int .i64 (wrap64 ((wrap64 ((wrap64 (Int.tdiv (wrap64 ((wrap64 (x6_2 + (wrap64 (2 + (wrap64 (2 * t156)))))) - 1)) (wrap64 (2 + (wrap64 (2 * t156)))))) * (wrap64 (2 + (wrap64 (2 * t156)))))) + (wrap64 ((wrap64 (2 + (wrap64 (2 * t156)))) * t158)))), .int .i64 (wrap64 (2 + (wrap64 (2 * t156))))] (fun _ => True) (fun _ => False) rfl rfl ?aP (fun _ hk => hk.elim) ?aF ?aO ?aB ?aS ?aL ?_; (case aP => exact k30_mkM _ _ _ (⟨x5_1, wrap64 ((wrap64 ((wrap64 (Int.tdiv (wrap64 ((wrap64 (x6_2 + (wrap64 (2 + (wrap64 (2 * t156)))))) - 1)) (wrap64 (2 + (wrap64 (2 * t156)))))) * (wrap64 (2 + (wrap64 (2 * t156)))))) + (wrap64 ((wrap64 (2 + (wrap64 (2 * t156)))) * t158))), wrap64 (2 + (wrap64 (2 * t156)))⟩ : S30)); (case aB => exact (by repeat (first | (with_reducible first | exact HB.out | apply below_alloc | apply pw_below_drewN | apply below_drew1) | exact HB.out))); (case aF => exact (fun _ _ => trivial)); (case aO => exact (by (with_reducible repeat (first | apply Kd.R_alloc | apply Kd.R_drewN | apply Kd.R_drew)); exact HO_4.out)); (case aS => exact (below_size (by repeat (first | (with_reducible first | exact HB.out | apply below_alloc | apply pw_below_drewN | apply below_drew1) | exact HB.out)))); (case aL => have := LMc13.out; omega); intro v160 w14 ho hb hg hat; rw [← Ny159.out] at ho; have n0_ := Aside0.mk (hb); have n1_ := Aside0.mk (ho); clear HB; clear HO_4; have HB := n0_; have HO161 := n1_; clear n0_ n1_; clear ho hb hg hat))
              go_roundg kj2
              case measure => have := HK1.out; have := HK2.out; have := HJ2.out; omega
              case rel => exact ⟨(y159), (wrap64 ((wrap64 ((wrap64 ((wrap64 (Int.tdiv (wrap64 ((wrap64 (x6_2 + (wrap64 (2 + (wrap64 (2 * t156)))))) - 1)) (wrap64 (2 + (wrap64 (2 * t156)))))) * (wrap64 (2 + (wrap64 (2 * t156)))))) + (wrap64 ((wrap64 (2 + (wrap64 (2 * t156)))) * t158)))) + (wrap64 (2 + (wrap64 (2 * t156)))))), (wrap64 (x7_2 + 1)), (by first | rfl | (simp; done) | (simp [*]; done)), (by first | rfl | (simp; done) | (simp [*]; done)), H', ⟨by have := HK1.out; have := HK2.out; have := HJ2.out; omega⟩, ⟨by (with_reducible repeat (first | apply Kd.R_alloc | apply Kd.R_drewN | apply Kd.R_drew)); exact HO161.out⟩, ⟨by repeat (first | (with_reducible first | exact HB.out | apply below_alloc | apply pw_below_drewN | apply below_drew1) | exact HB.out)⟩⟩
             ·
              rw [if_neg c13] at H
              exact absurd H (by simp)
           ·
            rw [if_neg c9] at H
            have c9b0 : (t154 == (wrap64 (x5_1 - 2))) = false := beq_eq_false_iff_ne.mpr c9
            have c9b1 : (t154 != (wrap64 (x5_1 - 2))) = true := bne_iff_ne.mpr c9
            have H' := Aside0.mk H
            clear H
            have p153 : 0 ≤ (x7_2 : Int) := of_decide_eq_true (by first | (with_reducible assumption) | assumption)
            have q153 : x7_2 < (l0.length : Int) := of_decide_eq_true (by first | (with_reducible assumption) | assumption)
            obtain ⟨ad153, e153, hx153_0⟩ := Kd.at_int HR0.out x7_2 p153 q153
            cases e153
            replace hx153_0 := (HB.out.cell (World.block_lt_of_cell? w _ hx153_0)).trans hx153_0
            replace p153 := eq_true p153
            replace q153 := eq_true q153
            go_wp2_with (first | ((with_reducible refine gate_callee (f := 14) rfl ?_); refine goesL_ (some 27) rfl rfl Try.func14 (by kernel_rfl) rfl #[.int .i64 (rd l0 x7_2), .int .i64 2] rfl (by (try simp only [List.map_toArray, List.map_cons, List.map_nil]); first | done | rfl | (simp only [List.length_drop, List.length_take]; rfl)) ?_; (with_reducible refine (busbarlaw0_Within.calls (rd l0 x7_2) 2 t154 _ A8.out).mono ?_); rintro e w' ⟨rfl, ⟨nd, rfl⟩⟩; refine ⟨_, rfl, ?_⟩))
            go_roundg kj2
            case measure => have := HK1.out; have := HK2.out; have := HJ2.out; omega
            case rel => exact ⟨(x4_2), (x6_2), (wrap64 (x7_2 + 1)), (by first | rfl | (simp; done) | (simp [*]; done)), (by first | rfl | (simp; done) | (simp [*]; done)), H', ⟨by have := HK1.out; have := HK2.out; have := HJ2.out; omega⟩, ⟨by (with_reducible repeat (first | apply Kd.R_alloc | apply Kd.R_drewN | apply Kd.R_drew)); exact HO_4.out⟩, ⟨by repeat (first | (with_reducible first | exact HB.out | apply below_alloc | apply pw_below_drewN | apply below_drew1) | exact HB.out)⟩⟩
          ·
           rw [if_neg c7] at H
           exact absurd H (by simp)
         ·
          rw [if_neg c6] at H
          exact absurd H (by simp)
        ·
         replace c5 := Bool.eq_false_iff.mpr c5
         subst c5
         have H1 : (busbarlaw14_All.l0 kj2 l0 x4_2 (wrap64 (x5_1 + 1))) = some (r1, r2) := by rw [if_neg (show ¬ (false = true) by decide)] at H; exact H
         clear H
         have H := H1
         clear H1
         have H' := Aside0.mk H
         clear H
         go_wp2
         go_roundg kj2
         case measure => have := HK1.out; have := HK2.out; have := HJ2.out; omega
         case rel => exact ⟨(x4_2), (wrap64 (x5_1 + 1)), (by first | rfl | (simp; done) | (simp [*]; done)), H', ⟨by have := HK1.out; have := HK2.out; have := HJ2.out; omega⟩, ⟨by (with_reducible repeat (first | apply Kd.R_alloc | apply Kd.R_drewN | apply Kd.R_drew)); exact HO_4.out⟩, ⟨by repeat (first | (with_reducible first | exact HB.out | apply below_alloc | apply pw_below_drewN | apply below_drew1) | exact HB.out)⟩⟩
   ·
    rw [if_neg c2] at H
    have c2b0 : decide (x5_1 < 4) = false := decide_eq_false c2
    clear c2
    obtain ⟨y150, hy150⟩ : ∃ y_ : List (S32), y_ = (([(⟨2, 0, 65536⟩ : S32), (⟨3, 0, 65536⟩ : S32)] : List (S32))) := ⟨_, rfl⟩
    replace H : (some (x4_1, y150)) = some (r1, r2) := by first | (rw [hy150]; with_reducible exact H) | (have H2_ := (Option.bind_some _ _).symm.trans H; rw [hy150]; with_reducible exact H2_) | (have H2_ := (Option.bind_some _ _).symm.trans H; with_reducible exact H2_) | with_reducible exact H | (rw [hy150]; exact H) | exact H
    have Ny150 := Aside0.mk hy150
    clear hy150
    simp only [Option.some.injEq, Prod.mk.injEq] at H
    obtain ⟨rfl, rfl⟩ := H
    go_wp2_with (first | ((with_reducible refine gate_dst (N := 68) rfl ?_); refine Kd.R_lit k32 _ 32 ?hg (N := 68) ?hd (xs := ([(⟨2, 0, 65536⟩ : S32), (⟨3, 0, 65536⟩ : S32)] : List (S32))) (inner := [.int .i64 2, .int .i64 0, .int .i64 65536, .int .i64 3, .int .i64 0, .int .i64 65536]) (ok := fun _ => True) (okp := fun _ => True) ?hr ?hp (fun _ hk => hk) trivial (Below.refl _ _) (Nat.le_refl _) (by simp) ?_; (case hd => rfl); (case hg => rfl); (case hr => first | (go_simp; done) | (go_simp; rfl)); (case hp => exact (Reps.c3 (show Kd.M k32 _ _ _ (⟨2, 0, 65536⟩ : S32) [.int .i64 2, .int .i64 0, .int .i64 65536] from (k32_mkM _ _ _ (⟨2, 0, 65536⟩ : S32) )) (Reps.c3 (show Kd.M k32 _ _ _ (⟨3, 0, 65536⟩ : S32) [.int .i64 3, .int .i64 0, .int .i64 65536] from (k32_mkM _ _ _ (⟨3, 0, 65536⟩ : S32) )) (Reps.none _ _)))); intro v151 w15 ho16 hb hg_ hnew_; clear hg_ hnew_; (first | rw [← Ny150.out] at ho16 | (simp only [Int.reduceToNat] at ho16; rw [← Ny150.out] at ho16)); have n0_ := Aside0.mk (Kd.R_below (by (with_reducible repeat (first | apply Kd.R_alloc | apply Kd.R_drewN | apply Kd.R_drew)); exact HO_4.out) hb); have n1_ := Aside0.mk (Kd.R_lower ho16 (below_size (by repeat (first | (with_reducible first | exact HB.out | apply below_alloc | apply pw_below_drewN | apply below_drew1) | exact HB.out)))); have n2_ := Aside0.mk (below_step (by repeat (first | (with_reducible first | exact HB.out | apply below_alloc | apply pw_below_drewN | apply below_drew1) | exact HB.out)) hb); clear HO_4; clear HB; have HO_4 := n0_; have HO152 := n1_; have HB := n2_; clear n0_ n1_ n2_; clear hb ho16))
    go_ret2
    exact ⟨_, _, by first | rfl | (simp [errW_none, errW_some] <;> rfl) | (simp [*, errW_none, errW_some] <;> rfl), by (with_reducible repeat (first | apply Kd.R_alloc | apply Kd.R_drewN | apply Kd.R_drew)); exact HO_4.out, by (with_reducible repeat (first | apply Kd.R_alloc | apply Kd.R_drewN | apply Kd.R_drew)); exact HO152.out, by repeat (first | (with_reducible first | exact HB.out | apply below_alloc | apply pw_below_drewN | apply below_drew1) | exact HB.out)⟩

end Go.Proofs.Ytmbkbpaoiilicaa.PGroupA
