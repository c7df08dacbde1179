-- written by a program of this session (wip/pp) over the kit's print.py; Lean checks it
import Derived.Test.YtgbclemmadkcmaaPAdux0
import Derived.Test.YtgbclemmadkcmaaPAdux4
import Derived.Test.YtgbclemmadkcmaaPAdux5
import Derived.Test.YtgbclemmadkcmaaPAdux12
namespace Go.Proofs.Ytgbclemmadkcmaa.PAdu
open Go.RowKit Go.Proofs.YtgbclemmadkcmaaW.PrintWords Go.Proofs.YtgbclemmadkcmaaW.PrintLast Go.Proofs.YtgbclemmadkcmaaW.PrintMore
attribute [local go_sem] max2_int min2_int max_two min_two max_three min_three max_four min_four plus_setCell_drewN plus_cell_same   -- for this text's walks alone
set_option linter.unusedVariables false
set_option linter.unusedSimpArgs false

/-! ### busbarlaw8_AduFronts: function 6 -/
mutual
def busbarlaw8_AduFronts.j0 : Nat → List Int → Int → Bool → Option (Bool)
 | 0, _, _, _ => none
 | k + 1, x0, x1, x22 => if x22 = true then ((busbarlaw8_awake.f).bind fun t539 => (some t539)) else ((busbarlaw0_Within.f x1 256).bind fun t540 => ((adu_Bytes.f 0 t540 x0).bind fun bt541 => (if bt541.2 = 0 then (busbarlaw8_AduFronts.j1 k bt541.1 ((bt541.1.length : Int) != (wrap64 (7 + (x0.length : Int))))) else (busbarlaw8_AduFronts.j1 k bt541.1 true))))
def busbarlaw8_AduFronts.j1 : Nat → List Int → Bool → Option (Bool)
 | 0, _, _ => none
 | k + 1, x5, x41 => if x41 = true then (some false) else (busbarlaw8_AduFronts.l0 k x5 0)
def busbarlaw8_AduFronts.l0 : Nat → List Int → Int → Option (Bool)
 | 0, _, _ => none
 | k + 1, x5, x7 => if x7 < (x5.length : Int) then (if 0 ≤ x7 then (if x7 ≤ (x5.length : Int) then ((adu_Cut.f k (x5.take (x7 : Int).toNat)).bind fun bt549 => (if bt549.2.2.2.2 = 3 then (if bt549.2.2.2.1 = 0 then (busbarlaw8_AduFronts.l0 k x5 (wrap64 (x7 + 1))) else (some false)) else (some false))) else (none)) else (none)) else (some true)
end
def busbarlaw8_AduFronts.f (k : Nat) (l0 : List Int) (a1 : Int) : Option (Bool) := if (l0.length : Int) < 1 then (busbarlaw8_AduFronts.j0 k l0 a1 true) else (if (l0.length : Int) > 253 then (busbarlaw8_AduFronts.j0 k l0 a1 true) else ((busbarlaw8_awake.f).bind fun t538 => (busbarlaw8_AduFronts.j0 k l0 a1 (!t538))))
theorem busbarlaw8_AduFronts.mono_l : ∀ k, (∀ y0 y1 y2, LeO (busbarlaw8_AduFronts.j0 k y0 y1 y2) (busbarlaw8_AduFronts.j0 (k + 1) y0 y1 y2)) ∧ (∀ y0 y1, LeO (busbarlaw8_AduFronts.j1 k y0 y1) (busbarlaw8_AduFronts.j1 (k + 1) y0 y1)) ∧ (∀ y0 y1, LeO (busbarlaw8_AduFronts.l0 k y0 y1) (busbarlaw8_AduFronts.l0 (k + 1) y0 y1))
 | 0 => ⟨fun _ _ _ r h => by simp [busbarlaw8_AduFronts.j0] at h, fun _ _ r h => by simp [busbarlaw8_AduFronts.j1] at h, fun _ _ r h => by simp [busbarlaw8_AduFronts.l0] at h⟩
 | k + 1 => by
  obtain ⟨ih0, ih1, ih2⟩ := busbarlaw8_AduFronts.mono_l k
  refine ⟨?_, ?_, ?_⟩
  ·
   intro y0 y1 y2
   unfold busbarlaw8_AduFronts.j0
   repeat' first
   | (with_reducible exact ih0 _ _ _)
   | (with_reducible exact ih1 _ _)
   | (with_reducible exact ih2 _ _)
   | (with_reducible exact adu_Cut.mono _ _)
   | (with_reducible exact LeO.refl _)
   | (with_reducible exact LeO.none _)
   | (with_reducible refine LeO.ite ?_ ?_)
   | (with_reducible refine LeO.bind ?_ (fun _ => ?_))
   | exact ih0 _ _ _
   | exact ih1 _ _
   | exact ih2 _ _
   | exact adu_Cut.mono _ _
   | exact LeO.none _
   | refine LeO.ite ?_ ?_
   | refine LeO.bind ?_ (fun _ => ?_)
  ·
   intro y0 y1
   unfold busbarlaw8_AduFronts.j1
   repeat' first
   | (with_reducible exact ih0 _ _ _)
   | (with_reducible exact ih1 _ _)
   | (with_reducible exact ih2 _ _)
   | (with_reducible exact adu_Cut.mono _ _)
   | (with_reducible exact LeO.refl _)
   | (with_reducible exact LeO.none _)
   | (with_reducible refine LeO.ite ?_ ?_)
   | (with_reducible refine LeO.bind ?_ (fun _ => ?_))
   | exact ih0 _ _ _
   | exact ih1 _ _
   | exact ih2 _ _
   | exact adu_Cut.mono _ _
   | exact LeO.none _
   | refine LeO.ite ?_ ?_
   | refine LeO.bind ?_ (fun _ => ?_)
  ·
   intro y0 y1
   unfold busbarlaw8_AduFronts.l0
   repeat' first
   | (with_reducible exact ih0 _ _ _)
   | (with_reducible exact ih1 _ _)
   | (with_reducible exact ih2 _ _)
   | (with_reducible exact adu_Cut.mono _ _)
   | (with_reducible exact LeO.refl _)
   | (with_reducible exact LeO.none _)
   | (with_reducible refine LeO.ite ?_ ?_)
   | (with_reducible refine LeO.bind ?_ (fun _ => ?_))
   | exact ih0 _ _ _
   | exact ih1 _ _
   | exact ih2 _ _
   | exact adu_Cut.mono _ _
   | exact LeO.none _
   | refine LeO.ite ?_ ?_
   | refine LeO.bind ?_ (fun _ => ?_)
theorem busbarlaw8_AduFronts.mono : ∀ a0 a1 k, LeO (busbarlaw8_AduFronts.f k a0 a1) (busbarlaw8_AduFronts.f (k + 1) a0 a1) := by
 intro a0 a1 k
 obtain ⟨ih0, ih1, ih2⟩ := busbarlaw8_AduFronts.mono_l k
 unfold busbarlaw8_AduFronts.f
 repeat' first
   | (with_reducible exact ih0 _ _ _)
   | (with_reducible exact ih1 _ _)
   | (with_reducible exact ih2 _ _)
   | (with_reducible exact adu_Cut.mono _ _)
   | (with_reducible exact LeO.refl _)
   | (with_reducible exact LeO.none _)
   | (with_reducible refine LeO.ite ?_ ?_)
   | (with_reducible refine LeO.bind ?_ (fun _ => ?_))
   | exact ih0 _ _ _
   | exact ih1 _ _
   | exact ih2 _ _
   | exact adu_Cut.mono _ _
   | exact LeO.none _
   | refine LeO.ite ?_ ?_
   | refine LeO.bind ?_ (fun _ => ?_)
set_option maxHeartbeats 8000000 in
set_option maxRecDepth 100000 in
theorem busbarlaw8_AduFronts.calls (k : Nat) (A0 : Option Addr) (c0 : Nat) (l0 : List Int) (a1 : Int) (r : Bool) (w : World) (hr0 : Kd.C (Kd.int .u8) w A0 l0.length l0) (hc0 : l0.length ≤ c0) (h : busbarlaw8_AduFronts.f k l0 a1 = some r) :
  Calls Try.prog 6 #[.slice A0 l0.length c0, .int .i64 a1] w fun e w' => e = .returned (.bool r) ∧ Below w.heap.size w w' := by
 have hu30 := Try.underlying30
 have HR0 := Aside0.mk hr0
 have HC0 := Aside0.mk hc0
 clear hr0 hc0
 have HB := Aside0.mk (Below.refl w.heap.size w)
 have H : (if (l0.length : Int) < 1 then (busbarlaw8_AduFronts.j0 k l0 a1 true) else (if (l0.length : Int) > 253 then (busbarlaw8_AduFronts.j0 k l0 a1 true) else ((busbarlaw8_awake.f).bind fun t538 => (busbarlaw8_AduFronts.j0 k l0 a1 (!t538))))) = some r := h
 clear h
 have HC3 := Aside0.mk H
 clear H
 go_enter Try.func6, Try.ntmps6
 go_upto_region 1 with (fail)
 go_cut [22] (fun v22 wc => ∃ (kq : Nat) (x22_2 : Bool), v22 = .bool x22_2 ∧ Aside0 (busbarlaw8_AduFronts.j0 kq l0 a1 x22_2 = some r) ∧ Aside0 (kq ≤ k) ∧ Aside0 (Below w.heap.size w wc))
 case first =>
  have H := HC3.out
  clear HC3
  by_cases c4 : (l0.length : Int) < 1
  ·
   rw [if_pos c4] at H
   have c4b0 : decide ((l0.length : Int) < 1) = true := decide_eq_true c4
   have c4b1 : decide (l0.length < 1) = true := decide_eq_true (by omega)
   clear c4
   (first | rw [c4b0] | (simp only [i64_w, i32_w]; rw [c4b0]) | skip)
   have H' := Aside0.mk H
   clear H
   go_wp2
   go_meet
   case rel => exact ⟨_, (true), (by first | rfl | (simp; done) | (simp [*]; done)), H', ⟨by first | omega | exact Nat.le_refl _⟩, ⟨by repeat (first | (with_reducible first | exact HB.out | apply below_alloc | apply pw_below_drewN | apply below_drew1) | exact HB.out)⟩⟩
  ·
   rw [if_neg c4] at H
   have c4b0 : decide ((l0.length : Int) < 1) = false := decide_eq_false c4
   have c4b1 : decide (l0.length < 1) = false := decide_eq_false (by omega)
   clear c4
   (first | rw [c4b0] | (simp only [i64_w, i32_w]; rw [c4b0]) | skip)
   by_cases c5 : (l0.length : Int) > 253
   ·
    rw [if_pos c5] at H
    have c5b0 : decide (253 < (l0.length : Int)) = true := decide_eq_true c5
    have c5b1 : decide (253 < l0.length) = true := decide_eq_true (by omega)
    clear c5
    have H' := Aside0.mk H
    clear H
    go_wp2
    go_meet
    case rel => exact ⟨_, (true), (by first | rfl | (simp; done) | (simp [*]; done)), H', ⟨by first | omega | exact Nat.le_refl _⟩, ⟨by repeat (first | (with_reducible first | exact HB.out | apply below_alloc | apply pw_below_drewN | apply below_drew1) | exact HB.out)⟩⟩
   ·
    rw [if_neg c5] at H
    have c5b0 : decide (253 < (l0.length : Int)) = false := decide_eq_false c5
    have c5b1 : decide (253 < l0.length) = false := decide_eq_false (by omega)
    clear c5
    replace H := Option.bind_eq_some_iff.mp H
    obtain ⟨t538, A60, H⟩ := H
    replace H : (busbarlaw8_AduFronts.j0 k l0 a1 (!t538)) = some r := H
    have A6 := Aside0.mk A60
    clear A60
    have H' := Aside0.mk H
    clear H
    go_wp2_with (first | (go_at_call 11; (with_reducible refine (busbarlaw8_awake.calls  t538 _ A6.out).mono ?_); rintro e w7 ⟨rfl, hb⟩; have n0_ := Aside0.mk (below_step (by repeat (first | (with_reducible first | exact HB.out | apply below_alloc | apply pw_below_drewN | apply below_drew1) | exact HB.out)) hb); clear HB; have HB := n0_; clear n0_; (try clear hb); (try clear hb2); (try clear hk); (try clear hi)))
    go_meet
    case rel => exact ⟨_, (!t538), (by first | rfl | (simp; done) | (simp [*]; done)), H', ⟨by first | omega | exact Nat.le_refl _⟩, ⟨by repeat (first | (with_reducible first | exact HB.out | apply below_alloc | apply pw_below_drewN | apply below_drew1) | exact HB.out)⟩⟩
 case rest =>
  clear HC3
  try clear p2
  try clear c4
  try clear c4b0
  try clear c4b1
  try clear c5
  try clear c5b0
  try clear c5b1
  try clear c6
  obtain ⟨kq, x22_2, rfl, HA, HJ2, HB⟩ := hcut
  cases kq with
  | zero => exact absurd HA.out (by simp [busbarlaw8_AduFronts.j0])
  | succ kj2 =>
   have H := HA.out
   clear HA
   simp only [busbarlaw8_AduFronts.j0] at H
   by_cases c8 : x22_2 = true
   ·
    subst c8
    have H1 : ((busbarlaw8_awake.f).bind fun t539 => (some t539)) = some r := by rw [if_pos rfl] at H; exact H
    clear H
    have H := H1
    clear H1
    replace H := Option.bind_eq_some_iff.mp H
    obtain ⟨t539, A90, H⟩ := H
    replace H : (some t539) = some r := H
    have A9 := Aside0.mk A90
    clear A90
    obtain rfl := Option.some.inj H
    go_wp2_with (first | ((with_reducible refine gate_callee (f := 11) rfl ?_); refine goesL_ (some 23) rfl rfl Try.func11 (by kernel_rfl) rfl #[] rfl (by (try simp only [List.map_toArray, List.map_cons, List.map_nil]); first | done | rfl | (simp only [List.length_drop, List.length_take]; rfl)) ?_; (with_reducible refine (busbarlaw8_awake.calls  t539 _ A9.out).mono ?_); rintro e w10 ⟨rfl, hb⟩; refine ⟨_, rfl, ?_⟩; have n0_ := Aside0.mk (below_step (by repeat (first | (with_reducible first | exact HB.out | apply below_alloc | apply pw_below_drewN | apply below_drew1) | exact HB.out)) hb); clear HB; have HB := n0_; clear n0_; (try clear hb); (try clear hb2); (try clear hk); (try clear hi)))
    go_ret
    exact ⟨by first | rfl | (simp [errW_none, errW_some] <;> rfl) | (simp [*, errW_none, errW_some] <;> rfl), by repeat (first | (with_reducible first | exact HB.out | apply below_alloc | apply pw_below_drewN | apply below_drew1) | exact HB.out)⟩
   ·
    replace c8 := Bool.eq_false_iff.mpr c8
    subst c8
    have H1 : ((busbarlaw0_Within.f a1 256).bind fun t540 => ((adu_Bytes.f 0 t540 l0).bind fun bt541 => (if bt541.2 = 0 then (busbarlaw8_AduFronts.j1 kj2 bt541.1 ((bt541.1.length : Int) != (wrap64 (7 + (l0.length : Int))))) else (busbarlaw8_AduFronts.j1 kj2 bt541.1 true)))) = some r := by rw [if_neg (show ¬ (false = true) by decide)] at H; exact H
    clear H
    have H := H1
    clear H1
    replace H := Option.bind_eq_some_iff.mp H
    obtain ⟨t540, A110, H⟩ := H
    replace H : ((adu_Bytes.f 0 t540 l0).bind fun bt541 => (if bt541.2 = 0 then (busbarlaw8_AduFronts.j1 kj2 bt541.1 ((bt541.1.length : Int) != (wrap64 (7 + (l0.length : Int))))) else (busbarlaw8_AduFronts.j1 kj2 bt541.1 true))) = some r := H
    have A11 := Aside0.mk A110
    clear A110
    replace H := Option.bind_eq_some_iff.mp H
    obtain ⟨⟨t541, t544⟩, A120, H⟩ := H
    replace H : (if t544 = 0 then (busbarlaw8_AduFronts.j1 kj2 t541 ((t541.length : Int) != (wrap64 (7 + (l0.length : Int))))) else (busbarlaw8_AduFronts.j1 kj2 t541 true)) = some r := H
    have A12 := Aside0.mk A120
    clear A120
    have HC13 := Aside0.mk H
    clear H
    go_upto_region 4 with (first | ((with_reducible refine gate_callee (f := 12) rfl ?_); refine goesL_ (some 26) rfl rfl Try.func12 (by kernel_rfl) rfl #[.int .i64 a1, .int .i64 256] rfl (by (try simp only [List.map_toArray, List.map_cons, List.map_nil]); first | done | rfl | (simp only [List.length_drop, List.length_take]; rfl)) ?_; (with_reducible refine (busbarlaw0_Within.calls a1 256 t540 _ A11.out).mono ?_); rintro e w' ⟨rfl, ⟨nd, rfl⟩⟩; refine ⟨_, rfl, ?_⟩) | ((with_reducible refine gate_callee (f := 14) rfl ?_); refine goesL_ (some 29) rfl rfl Try.func14 (by kernel_rfl) rfl #[.agg #[.int .i64 0, .int .i64 t540, .slice A0 l0.length c0]] rfl (by (try simp only [List.map_toArray, List.map_cons, List.map_nil]); first | done | rfl | (simp only [List.length_drop, List.length_take]; rfl)) ?_; (with_reducible refine (adu_Bytes.calls 0 t540 _ _ l0 t541 t544 _ ?side1 ?side2 A12.out).mono ?_); (case side1 => repeat (first | exact (Kd.C_below HR0.out (by repeat (first | (with_reducible first | exact HB.out | apply below_alloc | apply pw_below_drewN | apply below_drew1) | exact HB.out))) | (with_reducible refine Kd.C_alloc ?_ _) | (with_reducible refine Kd.C_drewN ?_ _) | (with_reducible refine Kd.C_drew ?_))); (case side2 => exact HC0.out); rintro e w14 ⟨v542, rfl, ho0, hb⟩; refine ⟨_, rfl, ?_⟩; have n0_ := Aside0.mk (Kd.R_lower ho0 (below_size (by repeat (first | (with_reducible first | exact HB.out | apply below_alloc | apply pw_below_drewN | apply below_drew1) | exact HB.out)))); have n1_ := Aside0.mk (below_step (by repeat (first | (with_reducible first | exact HB.out | apply below_alloc | apply pw_below_drewN | apply below_drew1) | exact HB.out)) hb); clear HB; have HO543 := n0_; have HB := n1_; clear n0_ n1_; (try clear hb); (try clear hb2); (try clear hk); (try clear hi); (try clear ho0)))
    (try simp only [Act.put, List.setIfInBounds_toArray, List.set_cons_zero, List.set_cons_succ])
    go_cut [41] (fun v41 wc => ∃ (kq : Nat) (x41_12 : Bool), v41 = .bool x41_12 ∧ Aside0 (busbarlaw8_AduFronts.j1 kq t541 x41_12 = some r) ∧ Aside0 (kq ≤ kj2) ∧ Aside0 (Kd.R (Kd.int .u8) 5 wc w.heap.size (fun _ => True) v542 t541) ∧ Aside0 (Below w.heap.size w wc))
    case first =>
     have H := HC13.out
     clear HC13
     by_cases c15 : t544 = 0
     ·
      rw [if_pos c15] at H
      have c15b0 : (t544 == 0) = true := beq_iff_eq.mpr c15
      have c15b1 : (t544 != 0) = false := bne_eq_false_iff_eq.mpr c15
      clear c15
      (first | rw [c15b0] | (simp only [i64_w, i32_w]; rw [c15b0]) | skip)
      have H' := Aside0.mk H
      clear H
      obtain ⟨Ao16, co16, eo16⟩ := Kd.R_slice HO543.out
      subst eo16
      go_wp2
      go_meet
      case rel => exact ⟨_, (((t541.length : Int) != (wrap64 (7 + (l0.length : Int))))), (by first | rfl | (simp; done) | (simp [*]; done)), H', ⟨by have := HJ2.out; first | omega | exact Nat.le_refl _⟩, ⟨by (with_reducible repeat (first | apply Kd.R_alloc | apply Kd.R_drewN | apply Kd.R_drew)); exact HO543.out⟩, ⟨by repeat (first | (with_reducible first | exact HB.out | apply below_alloc | apply pw_below_drewN | apply below_drew1) | exact HB.out)⟩⟩
     ·
      rw [if_neg c15] at H
      have c15b0 : (t544 == 0) = false := beq_eq_false_iff_ne.mpr c15
      have c15b1 : (t544 != 0) = true := bne_iff_ne.mpr c15
      (first | rw [c15b0] | (simp only [i64_w, i32_w]; rw [c15b0]) | skip)
      have H' := Aside0.mk H
      clear H
      go_wp2
      go_meet
      case rel => exact ⟨_, (true), (by first | rfl | (simp; done) | (simp [*]; done)), H', ⟨by have := HJ2.out; first | omega | exact Nat.le_refl _⟩, ⟨by (with_reducible repeat (first | apply Kd.R_alloc | apply Kd.R_drewN | apply Kd.R_drew)); exact HO543.out⟩, ⟨by repeat (first | (with_reducible first | exact HB.out | apply below_alloc | apply pw_below_drewN | apply below_drew1) | exact HB.out)⟩⟩
    case rest =>
     clear HC13
     try clear c1
     try clear p2
     try clear c4
     try clear c4b0
     try clear c4b1
     try clear c5
     try clear c5b0
     try clear c5b1
     try clear c6
     try clear p6
     try clear c8
     try clear c11
     try clear c12
     try clear c14
     try clear c15
     try clear c15b0
     try clear c15b1
     try clear p2
     obtain ⟨kq, x41_12, rfl, HA, HJ12, HO_5, HB⟩ := hcut
     cases kq with
     | zero => exact absurd HA.out (by simp [busbarlaw8_AduFronts.j1])
     | succ kj12 =>
      have H := HA.out
      clear HA
      simp only [busbarlaw8_AduFronts.j1] at H
      by_cases c17 : x41_12 = true
      ·
       subst c17
       have H1 : (some false) = some r := by rw [if_pos rfl] at H; exact H
       clear H
       have H := H1
       clear H1
       obtain rfl := Option.some.inj H
       go_wp2
       go_ret
       exact ⟨by first | rfl | (simp [errW_none, errW_some] <;> rfl) | (simp [*, errW_none, errW_some] <;> rfl), by repeat (first | (with_reducible first | exact HB.out | apply below_alloc | apply pw_below_drewN | apply below_drew1) | exact HB.out)⟩
      ·
       replace c17 := Bool.eq_false_iff.mpr c17
       subst c17
       have H1 : (busbarlaw8_AduFronts.l0 kj12 t541 0) = some r := by rw [if_neg (show ¬ (false = true) by decide)] at H; exact H
       clear H
       have H := H1
       clear H1
       have H' := Aside0.mk H
       clear H
       go_wp2
       go_loopg [7] kj12 (fun kq v7 w' => ∃ (x7_3 : Int), v7 = .int .i64 x7_3 ∧ Aside0 (busbarlaw8_AduFronts.l0 kq t541 x7_3 = some r) ∧ Aside0 (kq ≤ kj12) ∧ Aside0 (Kd.R (Kd.int .u8) 5 w' w.heap.size (fun _ => True) v542 t541) ∧ Aside0 (Below w.heap.size w w'))
       case atStart => exact ⟨(0), (by first | rfl | (simp; done) | (simp [*]; done)), H', ⟨Nat.le_refl _⟩, ⟨by (with_reducible repeat (first | apply Kd.R_alloc | apply Kd.R_drewN | apply Kd.R_drew)); exact HO_5.out⟩, ⟨by repeat (first | (with_reducible first | exact HB.out | apply below_alloc | apply pw_below_drewN | apply below_drew1) | exact HB.out)⟩⟩
       case round =>
        clear H'
        try clear c1
        try clear p2
        try clear c4
        try clear c4b0
        try clear c4b1
        try clear c5
        try clear c5b0
        try clear c5b1
        try clear c6
        try clear p6
        try clear c8
        try clear c11
        try clear c12
        try clear c14
        try clear c15
        try clear c15b0
        try clear c15b1
        try clear c17
        try clear p2
        try clear p6
        obtain ⟨x7_3, rfl, HA, HK3, HO_5, HB⟩ := hrel
        cases gk with
        | zero => exact absurd HA.out (by simp [busbarlaw8_AduFronts.l0])
        | succ k3 =>
         have H := HA.out
         clear HA
         simp only [busbarlaw8_AduFronts.l0] at H
         by_cases c18 : x7_3 < (t541.length : Int)
         ·
          rw [if_pos c18] at H
          have c18b0 : decide (x7_3 < (t541.length : Int)) = true := decide_eq_true c18
          clear c18
          by_cases c19 : 0 ≤ x7_3
          ·
           rw [if_pos c19] at H
           have c19b0 := eq_true c19
           have c19b1 : decide (0 ≤ x7_3) = true := decide_eq_true c19
           clear c19
           by_cases c20 : x7_3 ≤ (t541.length : Int)
           ·
            rw [if_pos c20] at H
            have c20b0 := eq_true c20
            have c20b1 : decide (x7_3 ≤ (t541.length : Int)) = true := decide_eq_true c20
            clear c20
            obtain ⟨y545, hy545⟩ : ∃ y_ : List Int, y_ = (t541.take (x7_3 : Int).toNat) := ⟨_, rfl⟩
            replace H : ((adu_Cut.f k3 y545).bind fun bt549 => (if bt549.2.2.2.2 = 3 then (if bt549.2.2.2.1 = 0 then (busbarlaw8_AduFronts.l0 k3 t541 (wrap64 (x7_3 + 1))) else (some false)) else (some false))) = some r := by first | (rw [hy545]; with_reducible exact H) | (have H2_ := (Option.bind_some _ _).symm.trans H; rw [hy545]; with_reducible exact H2_) | (have H2_ := (Option.bind_some _ _).symm.trans H; with_reducible exact H2_) | with_reducible exact H | (rw [hy545]; exact H) | exact H
            have Ny545 := Aside0.mk hy545
            clear hy545
            replace H := Option.bind_eq_some_iff.mp H
            obtain ⟨⟨t549, t550, t551, t554, t555⟩, A210, H⟩ := H
            replace H : (if t555 = 3 then (if t554 = 0 then (busbarlaw8_AduFronts.l0 k3 t541 (wrap64 (x7_3 + 1))) else (some false)) else (some false)) = some r := H
            have A21 := Aside0.mk A210
            clear A210
            by_cases c22 : t555 = 3
            ·
             rw [if_pos c22] at H
             have c22b0 : (t555 == 3) = true := beq_iff_eq.mpr c22
             have c22b1 : (t555 != 3) = false := bne_eq_false_iff_eq.mpr c22
             clear c22
             by_cases c23 : t554 = 0
             ·
              rw [if_pos c23] at H
              have c23b0 : (t554 == 0) = true := beq_iff_eq.mpr c23
              have c23b1 : (t554 != 0) = false := bne_eq_false_iff_eq.mpr c23
              clear c23
              have H' := Aside0.mk H
              clear H
              obtain ⟨Ao24, co24, eo24⟩ := Kd.R_slice HO_5.out
              subst eo24
              have q25 : (x7_3 : Int) ≤ ((t541.length : Int) : Int) := of_decide_eq_true (by first | (with_reducible assumption) | assumption)
              obtain ⟨i025, hi025, _, hsz25, _⟩ := info_parts info5
              have hroom25 : t541.length ≤ co24 := (Kd.R_reads' HO_5.out).2.1
              have hC25 : Kd.C (Kd.int .u8) _ Ao24 t541.length t541 := (Kd.R_reads' HO_5.out).2.2
              have hcut25 := cut_to (P := Try.prog) 22 5 .i64 Try.underlying22 hi025 Ao24 t541.length co24 x7_3 (of_decide_eq_true (by first | (with_reducible assumption) | assumption)) q25 hroom25
              have hr25 := Kd.C_take (m := (x7_3 : Int).toNat) hC25 (by omega)
              have hy25 : y545.length = (x7_3 : Int).toNat := (by rw [Ny545.out, List.length_take]; omega)
              rw [← Ny545.out] at hr25
              rw [← hy25] at hcut25
              have HR548 := Aside0.mk hr25
              have HC548 := Aside0.mk (show y545.length ≤ co24 from by omega)
              clear hr25 hC25 hroom25 hi025 hsz25
              have KY25 := Aside0.mk hy25
              clear hy25
              have KL25 := Aside0.mk (show (x7_3 : Int).toNat ≤ t541.length from by omega)
              replace q25 := eq_true q25
              go_wp2_with (first | ((with_reducible refine gate_callee (f := 17) rfl ?_); refine goesL_ (some 52) rfl rfl Try.func17 (by kernel_rfl) rfl #[.slice Ao24 y545.length co24] rfl (by (try simp only [List.map_toArray, List.map_cons, List.map_nil]); first | done | rfl | (simp only [List.length_drop, List.length_take]; rfl)) ?_; (with_reducible refine (adu_Cut.calls k3 _ _ y545 t549 t550 t551 t554 t555 _ ?side1 ?side2 A21.out).mono ?_); (case side1 => repeat (first | exact (by repeat (first | (with_reducible exact HR548.out) | (with_reducible refine Kd.C_alloc ?_ _) | (with_reducible refine Kd.C_drewN ?_ _) | (with_reducible refine Kd.C_drew ?_) | exact HR548.out)) | (with_reducible refine Kd.C_alloc ?_ _) | (with_reducible refine Kd.C_drewN ?_ _) | (with_reducible refine Kd.C_drew ?_))); (case side2 => exact HC548.out); rintro e w26 ⟨v552, rfl, ho0, hb⟩; refine ⟨_, rfl, ?_⟩; have n0_ := Aside0.mk (Kd.R_elder' (by (with_reducible repeat (first | apply Kd.R_alloc | apply Kd.R_drewN | apply Kd.R_drew)); exact HO_5.out) (Kd.R_base ho0) hb); have n1_ := Aside0.mk (Kd.R_lower (Kd.R_new' ho0 (Kd.R_lt (by (with_reducible repeat (first | apply Kd.R_alloc | apply Kd.R_drewN | apply Kd.R_drew)); exact HO_5.out))) (below_size (by repeat (first | (with_reducible first | exact HB.out | apply below_alloc | apply pw_below_drewN | apply below_drew1) | exact HB.out)))); have n2_ := Aside0.mk (Kd.C_below (by repeat (first | (with_reducible exact HR548.out) | (with_reducible refine Kd.C_alloc ?_ _) | (with_reducible refine Kd.C_drewN ?_ _) | (with_reducible refine Kd.C_drew ?_) | exact HR548.out)) hb); have n3_ := Aside0.mk (below_step (by repeat (first | (with_reducible first | exact HB.out | apply below_alloc | apply pw_below_drewN | apply below_drew1) | exact HB.out)) hb); clear HO_5; clear HR548; clear HB; have HO_5 := n0_; have HO553 := n1_; have HR548 := n2_; have HB := n3_; clear n0_ n1_ n2_ n3_; (try clear hb); (try clear hb2); (try clear hk); (try clear hi); (try clear ho0)) | ((with_reducible refine gate_dst (N := 8) rfl ?_); (try (refine gate_guard (by rfl) ?_; dsimp only)); refine box_event ?hg (N := 8) ?hd (cs := #[.int .i64 0, .int .i64 0, .slice none 0 0]) (t := 30) ?hr ?_; (case hd => rfl); (case hg => rfl); (case hr => first | (go_simp; done) | (go_simp; rfl)); intro gb556 hg w27 hbox hb; have n0_ := Aside0.mk (Kd.R_below (by (with_reducible repeat (first | apply Kd.R_alloc | apply Kd.R_drewN | apply Kd.R_drew)); exact HO_5.out) hb); have n1_ := Aside0.mk (Kd.R_below (by (with_reducible repeat (first | apply Kd.R_alloc | apply Kd.R_drewN | apply Kd.R_drew)); exact HO553.out) hb); have n2_ := Aside0.mk (Kd.C_below (by repeat (first | (with_reducible exact HR548.out) | (with_reducible refine Kd.C_alloc ?_ _) | (with_reducible refine Kd.C_drewN ?_ _) | (with_reducible refine Kd.C_drew ?_) | exact HR548.out)) hb); have n3_ := Aside0.mk (below_step (by repeat (first | (with_reducible first | exact HB.out | apply below_alloc | apply pw_below_drewN | apply below_drew1) | exact HB.out)) hb); have n4_ := Aside0.mk (hbox); have n5_ := Aside0.mk ((by rw [hg]; exact (below_size (by repeat (first | (with_reducible first | exact HB.out | apply below_alloc | apply pw_below_drewN | apply below_drew1) | exact HB.out))) : w.heap.size ≤ gb556)); have n6_ := Aside0.mk ((by rw [hg]; exact (below_size (by repeat (first | (with_reducible first | exact HB.out | apply below_alloc | apply pw_below_drewN | apply below_drew1) | exact HB.out))) : w.heap.size ≤ gb556)); clear HO_5; clear HO553; clear HR548; clear HB; have HO_5 := n0_; have HO553 := n1_; have HR548 := n2_; have HB := n3_; have BK556 := n4_; have GW556 := n5_; have GE556 := n6_; clear n0_ n1_ n2_ n3_ n4_ n5_ n6_; clear hb hbox hg; have hcz28_0 : w27.cell? ⟨gb556, 0, none⟩ = some (.int .i64 0) := (blk_cell BK556.out 0).trans rfl; have hcz28_1 : w27.cell? ⟨gb556, 1, none⟩ = some (.int .i64 0) := (blk_cell BK556.out 1).trans rfl; have hcz28_2 : w27.cell? ⟨gb556, 2, none⟩ = some (.slice none 0 0) := (blk_cell BK556.out 2).trans rfl; have hfz28_0 := blk_frozen BK556.out 0; have hfz28_1 := blk_frozen BK556.out 1; have hfz28_2 := blk_frozen BK556.out 2; obtain ⟨Ao29, co29, eo29⟩ := Kd.R_slice HO553.out; subst eo29))
              go_roundg k3
              case measure => have := HJ2.out; have := HJ12.out; have := HK3.out; omega
              case rel => exact ⟨(wrap64 (x7_3 + 1)), (by first | rfl | (simp; done) | (simp [*]; done)), H', ⟨by have := HJ2.out; have := HJ12.out; have := HK3.out; omega⟩, ⟨by (with_reducible repeat (first | apply Kd.R_alloc | apply Kd.R_drewN | apply Kd.R_drew)); exact Kd.R_mono (Kd.R_far (p := ⟨gb556, 2, none⟩) (Kd.R_far (p := ⟨gb556, 1, none⟩) (Kd.R_far (p := ⟨gb556, 0, none⟩) (Kd.R_types HO_5.out BK556.out (by decide)) (fun _ hk => hk.2) (.int .i64 t549)) (fun _ hk => hk.2) (.int .i64 t550)) (fun _ hk => hk.2) (.slice Ao29 t551.length co29)) (fun _ hk => trivial)⟩, ⟨by repeat (first | (with_reducible first | exact HB.out | apply below_alloc | apply pw_below_drewN | apply below_drew1 | refine below_set ?_ GE556.out) | exact HB.out)⟩⟩
             ·
              rw [if_neg c23] at H
              have c23b0 : (t554 == 0) = false := beq_eq_false_iff_ne.mpr c23
              have c23b1 : (t554 != 0) = true := bne_iff_ne.mpr c23
              obtain rfl := Option.some.inj H
              obtain ⟨Ao30, co30, eo30⟩ := Kd.R_slice HO_5.out
              subst eo30
              have q31 : (x7_3 : Int) ≤ ((t541.length : Int) : Int) := of_decide_eq_true (by first | (with_reducible assumption) | assumption)
              obtain ⟨i031, hi031, _, hsz31, _⟩ := info_parts info5
              have hroom31 : t541.length ≤ co30 := (Kd.R_reads' HO_5.out).2.1
              have hC31 : Kd.C (Kd.int .u8) _ Ao30 t541.length t541 := (Kd.R_reads' HO_5.out).2.2
              have hcut31 := cut_to (P := Try.prog) 22 5 .i64 Try.underlying22 hi031 Ao30 t541.length co30 x7_3 (of_decide_eq_true (by first | (with_reducible assumption) | assumption)) q31 hroom31
              have hr31 := Kd.C_take (m := (x7_3 : Int).toNat) hC31 (by omega)
              have hy31 : y545.length = (x7_3 : Int).toNat := (by rw [Ny545.out, List.length_take]; omega)
              rw [← Ny545.out] at hr31
              rw [← hy31] at hcut31
              have HR548 := Aside0.mk hr31
              have HC548 := Aside0.mk (show y545.length ≤ co30 from by omega)
              clear hr31 hC31 hroom31 hi031 hsz31
              have KY31 := Aside0.mk hy31
              clear hy31
              have KL31 := Aside0.mk (show (x7_3 : Int).toNat ≤ t541.length from by omega)
              replace q31 := eq_true q31
              go_wp2_with (first | ((with_reducible refine gate_callee (f := 17) rfl ?_); refine goesL_ (some 52) rfl rfl Try.func17 (by kernel_rfl) rfl #[.slice Ao30 y545.length co30] rfl (by (try simp only [List.map_toArray, List.map_cons, List.map_nil]); first | done | rfl | (simp only [List.length_drop, List.length_take]; rfl)) ?_; (with_reducible refine (adu_Cut.calls k3 _ _ y545 t549 t550 t551 t554 t555 _ ?side1 ?side2 A21.out).mono ?_); (case side1 => repeat (first | exact (by repeat (first | (with_reducible exact HR548.out) | (with_reducible refine Kd.C_alloc ?_ _) | (with_reducible refine Kd.C_drewN ?_ _) | (with_reducible refine Kd.C_drew ?_) | exact HR548.out)) | (with_reducible refine Kd.C_alloc ?_ _) | (with_reducible refine Kd.C_drewN ?_ _) | (with_reducible refine Kd.C_drew ?_))); (case side2 => exact HC548.out); rintro e w32 ⟨v552, rfl, ho0, hb⟩; refine ⟨_, rfl, ?_⟩; have n0_ := Aside0.mk (Kd.R_elder' (by (with_reducible repeat (first | apply Kd.R_alloc | apply Kd.R_drewN | apply Kd.R_drew)); exact HO_5.out) (Kd.R_base ho0) hb); have n1_ := Aside0.mk (Kd.R_lower (Kd.R_new' ho0 (Kd.R_lt (by (with_reducible repeat (first | apply Kd.R_alloc | apply Kd.R_drewN | apply Kd.R_drew)); exact HO_5.out))) (below_size (by repeat (first | (with_reducible first | exact HB.out | apply below_alloc | apply pw_below_drewN | apply below_drew1) | exact HB.out)))); have n2_ := Aside0.mk (Kd.C_below (by repeat (first | (with_reducible exact HR548.out) | (with_reducible refine Kd.C_alloc ?_ _) | (with_reducible refine Kd.C_drewN ?_ _) | (with_reducible refine Kd.C_drew ?_) | exact HR548.out)) hb); have n3_ := Aside0.mk (below_step (by repeat (first | (with_reducible first | exact HB.out | apply below_alloc | apply pw_below_drewN | apply below_drew1) | exact HB.out)) hb); clear HO_5; clear HR548; clear HB; have HO_5 := n0_; have HO553 := n1_; have HR548 := n2_; have HB := n3_; clear n0_ n1_ n2_ n3_; (try clear hb); (try clear hb2); (try clear hk); (try clear hi); (try clear ho0)) | ((with_reducible refine gate_dst (N := 8) rfl ?_); (try (refine gate_guard (by rfl) ?_; dsimp only)); refine box_event ?hg (N := 8) ?hd (cs := #[.int .i64 0, .int .i64 0, .slice none 0 0]) (t := 30) ?hr ?_; (case hd => rfl); (case hg => rfl); (case hr => first | (go_simp; done) | (go_simp; rfl)); intro gb556 hg w33 hbox hb; have n0_ := Aside0.mk (Kd.R_below (by (with_reducible repeat (first | apply Kd.R_alloc | apply Kd.R_drewN | apply Kd.R_drew)); exact HO_5.out) hb); have n1_ := Aside0.mk (Kd.R_below (by (with_reducible repeat (first | apply Kd.R_alloc | apply Kd.R_drewN | apply Kd.R_drew)); exact HO553.out) hb); have n2_ := Aside0.mk (Kd.C_below (by repeat (first | (with_reducible exact HR548.out) | (with_reducible refine Kd.C_alloc ?_ _) | (with_reducible refine Kd.C_drewN ?_ _) | (with_reducible refine Kd.C_drew ?_) | exact HR548.out)) hb); have n3_ := Aside0.mk (below_step (by repeat (first | (with_reducible first | exact HB.out | apply below_alloc | apply pw_below_drewN | apply below_drew1) | exact HB.out)) hb); have n4_ := Aside0.mk (hbox); have n5_ := Aside0.mk ((by rw [hg]; exact (below_size (by repeat (first | (with_reducible first | exact HB.out | apply below_alloc | apply pw_below_drewN | apply below_drew1) | exact HB.out))) : w.heap.size ≤ gb556)); have n6_ := Aside0.mk ((by rw [hg]; exact (below_size (by repeat (first | (with_reducible first | exact HB.out | apply below_alloc | apply pw_below_drewN | apply below_drew1) | exact HB.out))) : w.heap.size ≤ gb556)); clear HO_5; clear HO553; clear HR548; clear HB; have HO_5 := n0_; have HO553 := n1_; have HR548 := n2_; have HB := n3_; have BK556 := n4_; have GW556 := n5_; have GE556 := n6_; clear n0_ n1_ n2_ n3_ n4_ n5_ n6_; clear hb hbox hg; have hcz34_0 : w33.cell? ⟨gb556, 0, none⟩ = some (.int .i64 0) := (blk_cell BK556.out 0).trans rfl; have hcz34_1 : w33.cell? ⟨gb556, 1, none⟩ = some (.int .i64 0) := (blk_cell BK556.out 1).trans rfl; have hcz34_2 : w33.cell? ⟨gb556, 2, none⟩ = some (.slice none 0 0) := (blk_cell BK556.out 2).trans rfl; have hfz34_0 := blk_frozen BK556.out 0; have hfz34_1 := blk_frozen BK556.out 1; have hfz34_2 := blk_frozen BK556.out 2; obtain ⟨Ao35, co35, eo35⟩ := Kd.R_slice HO553.out; subst eo35))
              go_ret
              exact ⟨by first | rfl | (simp [errW_none, errW_some] <;> rfl) | (simp [*, errW_none, errW_some] <;> rfl), by repeat (first | (with_reducible first | exact HB.out | apply below_alloc | apply pw_below_drewN | apply below_drew1 | refine below_set ?_ GE556.out) | exact HB.out)⟩
            ·
             rw [if_neg c22] at H
             have c22b0 : (t555 == 3) = false := beq_eq_false_iff_ne.mpr c22
             have c22b1 : (t555 != 3) = true := bne_iff_ne.mpr c22
             obtain rfl := Option.some.inj H
             obtain ⟨Ao36, co36, eo36⟩ := Kd.R_slice HO_5.out
             subst eo36
             have q37 : (x7_3 : Int) ≤ ((t541.length : Int) : Int) := of_decide_eq_true (by first | (with_reducible assumption) | assumption)
             obtain ⟨i037, hi037, _, hsz37, _⟩ := info_parts info5
             have hroom37 : t541.length ≤ co36 := (Kd.R_reads' HO_5.out).2.1
             have hC37 : Kd.C (Kd.int .u8) _ Ao36 t541.length t541 := (Kd.R_reads' HO_5.out).2.2
             have hcut37 := cut_to (P := Try.prog) 22 5 .i64 Try.underlying22 hi037 Ao36 t541.length co36 x7_3 (of_decide_eq_true (by first | (with_reducible assumption) | assumption)) q37 hroom37
             have hr37 := Kd.C_take (m := (x7_3 : Int).toNat) hC37 (by omega)
             have hy37 : y545.length = (x7_3 : Int).toNat := (by rw [Ny545.out, List.length_take]; omega)
             rw [← Ny545.out] at hr37
             rw [← hy37] at hcut37
             have HR548 := Aside0.mk hr37
             have HC548 := Aside0.mk (show y545.length ≤ co36 from by omega)
             clear hr37 hC37 hroom37 hi037 hsz37
             have KY37 := Aside0.mk hy37
             clear hy37
             have KL37 := Aside0.mk (show (x7_3 : Int).toNat ≤ t541.length from by omega)
             replace q37 := eq_true q37
             go_wp2_with (first | ((with_reducible refine gate_callee (f := 17) rfl ?_); refine goesL_ (some 52) rfl rfl Try.func17 (by kernel_rfl) rfl #[.slice Ao36 y545.length co36] rfl (by (try simp only [List.map_toArray, List.map_cons, List.map_nil]); first | done | rfl | (simp only [List.length_drop, List.length_take]; rfl)) ?_; (with_reducible refine (adu_Cut.calls k3 _ _ y545 t549 t550 t551 t554 t555 _ ?side1 ?side2 A21.out).mono ?_); (case side1 => repeat (first | exact (by repeat (first | (with_reducible exact HR548.out) | (with_reducible refine Kd.C_alloc ?_ _) | (with_reducible refine Kd.C_drewN ?_ _) | (with_reducible refine Kd.C_drew ?_) | exact HR548.out)) | (with_reducible refine Kd.C_alloc ?_ _) | (with_reducible refine Kd.C_drewN ?_ _) | (with_reducible refine Kd.C_drew ?_))); (case side2 => exact HC548.out); rintro e w38 ⟨v552, rfl, ho0, hb⟩; refine ⟨_, rfl, ?_⟩; have n0_ := Aside0.mk (Kd.R_elder' (by (with_reducible repeat (first | apply Kd.R_alloc | apply Kd.R_drewN | apply Kd.R_drew)); exact HO_5.out) (Kd.R_base ho0) hb); have n1_ := Aside0.mk (Kd.R_lower (Kd.R_new' ho0 (Kd.R_lt (by (with_reducible repeat (first | apply Kd.R_alloc | apply Kd.R_drewN | apply Kd.R_drew)); exact HO_5.out))) (below_size (by repeat (first | (with_reducible first | exact HB.out | apply below_alloc | apply pw_below_drewN | apply below_drew1) | exact HB.out)))); have n2_ := Aside0.mk (Kd.C_below (by repeat (first | (with_reducible exact HR548.out) | (with_reducible refine Kd.C_alloc ?_ _) | (with_reducible refine Kd.C_drewN ?_ _) | (with_reducible refine Kd.C_drew ?_) | exact HR548.out)) hb); have n3_ := Aside0.mk (below_step (by repeat (first | (with_reducible first | exact HB.out | apply below_alloc | apply pw_below_drewN | apply below_drew1) | exact HB.out)) hb); clear HO_5; clear HR548; clear HB; have HO_5 := n0_; have HO553 := n1_; have HR548 := n2_; have HB := n3_; clear n0_ n1_ n2_ n3_; (try clear hb); (try clear hb2); (try clear hk); (try clear hi); (try clear ho0)) | ((with_reducible refine gate_dst (N := 8) rfl ?_); (try (refine gate_guard (by rfl) ?_; dsimp only)); refine box_event ?hg (N := 8) ?hd (cs := #[.int .i64 0, .int .i64 0, .slice none 0 0]) (t := 30) ?hr ?_; (case hd => rfl); (case hg => rfl); (case hr => first | (go_simp; done) | (go_simp; rfl)); intro gb556 hg w39 hbox hb; have n0_ := Aside0.mk (Kd.R_below (by (with_reducible repeat (first | apply Kd.R_alloc | apply Kd.R_drewN | apply Kd.R_drew)); exact HO_5.out) hb); have n1_ := Aside0.mk (Kd.R_below (by (with_reducible repeat (first | apply Kd.R_alloc | apply Kd.R_drewN | apply Kd.R_drew)); exact HO553.out) hb); have n2_ := Aside0.mk (Kd.C_below (by repeat (first | (with_reducible exact HR548.out) | (with_reducible refine Kd.C_alloc ?_ _) | (with_reducible refine Kd.C_drewN ?_ _) | (with_reducible refine Kd.C_drew ?_) | exact HR548.out)) hb); have n3_ := Aside0.mk (below_step (by repeat (first | (with_reducible first | exact HB.out | apply below_alloc | apply pw_below_drewN | apply below_drew1) | exact HB.out)) hb); have n4_ := Aside0.mk (hbox); have n5_ := Aside0.mk ((by rw [hg]; exact (below_size (by repeat (first | (with_reducible first | exact HB.out | apply below_alloc | apply pw_below_drewN | apply below_drew1) | exact HB.out))) : w.heap.size ≤ gb556)); have n6_ := Aside0.mk ((by rw [hg]; exact (below_size (by repeat (first | (with_reducible first | exact HB.out | apply below_alloc | apply pw_below_drewN | apply below_drew1) | exact HB.out))) : w.heap.size ≤ gb556)); clear HO_5; clear HO553; clear HR548; clear HB; have HO_5 := n0_; have HO553 := n1_; have HR548 := n2_; have HB := n3_; have BK556 := n4_; have GW556 := n5_; have GE556 := n6_; clear n0_ n1_ n2_ n3_ n4_ n5_ n6_; clear hb hbox hg; have hcz40_0 : w39.cell? ⟨gb556, 0, none⟩ = some (.int .i64 0) := (blk_cell BK556.out 0).trans rfl; have hcz40_1 : w39.cell? ⟨gb556, 1, none⟩ = some (.int .i64 0) := (blk_cell BK556.out 1).trans rfl; have hcz40_2 : w39.cell? ⟨gb556, 2, none⟩ = some (.slice none 0 0) := (blk_cell BK556.out 2).trans rfl; have hfz40_0 := blk_frozen BK556.out 0; have hfz40_1 := blk_frozen BK556.out 1; have hfz40_2 := blk_frozen BK556.out 2; obtain ⟨Ao41, co41, eo41⟩ := Kd.R_slice HO553.out; subst eo41))
             go_ret
             exact ⟨by first | rfl | (simp [errW_none, errW_some] <;> rfl) | (simp [*, errW_none, errW_some] <;> rfl), by repeat (first | (with_reducible first | exact HB.out | apply below_alloc | apply pw_below_drewN | apply below_drew1 | refine below_set ?_ GE556.out) | exact HB.out)⟩
           ·
            rw [if_neg c20] at H
            exact absurd H (by simp)
          ·
           rw [if_neg c19] at H
           exact absurd H (by simp)
         ·
          rw [if_neg c18] at H
          have c18b0 : decide (x7_3 < (t541.length : Int)) = false := decide_eq_false c18
          clear c18
          obtain rfl := Option.some.inj H
          obtain ⟨Ao42, co42, eo42⟩ := Kd.R_slice HO_5.out
          subst eo42
          go_wp2
          go_ret
          exact ⟨by first | rfl | (simp [errW_none, errW_some] <;> rfl) | (simp [*, errW_none, errW_some] <;> rfl), by repeat (first | (with_reducible first | exact HB.out | apply below_alloc | apply pw_below_drewN | apply below_drew1) | exact HB.out)⟩

/-- THE ONE PURE STATEMENT of busbarlaw8_AduFronts: yours. -/
def busbarlaw8_AduFronts.Pure : Prop := ∀ (l0 : List Int) (a1 : Int), l0.length ≤ maxLen → l0.length * 1 ≤ 140737488351232 → (∀ x ∈ l0, (Lit.int .u8 x).wf = true) → (Lit.int .i64 a1).wf = true → ∃ k, busbarlaw8_AduFronts.f k l0 a1 = some true
theorem busbarlaw8_AduFronts.walk (P : busbarlaw8_AduFronts.Pure) (a0 : Option Addr) (len0 cap0 : Nat) (z0 : List Int) (a1 : Int) (w : World) (w0 : (a0 = none ∧ len0 = 0 ∧ cap0 = 0 ∧ z0 = []) ∨ ∃ x, a0 = some x ∧ len0 ≤ cap0 ∧ cap0 ≤ maxLen ∧ z0.length = cap0 ∧ (∀ i, i < z0.length → w.cell? (x.add i) = some (.int .u8 (z0.getD i 0))) ∧ ∀ n ∈ z0, (Lit.int .u8 n).wf = true) (y0 : len0 * 1 ≤ 140737488351232) (w1 : (Lit.int .i64 a1).wf = true) :
  Calls Try.prog 6 #[.slice a0 len0 cap0, .int .i64 a1] w fun e w' => e = .returned (.bool true) ∧ Below w.heap.size w w' := by
 obtain ⟨l0, rfl, hr0, hm0, hw0, hc0⟩ := ReadsInt.ofRowC w0
 obtain ⟨k, h⟩ := P l0 a1 hm0 y0 hw0 w1
 refine (busbarlaw8_AduFronts.calls k _ _ l0 a1 true w (Kd.C_of_reads (d := (0 : Int)) (h1 := fun _ => rfl) hr0) hc0 h).mono ?_
 rintro e w' ⟨rfl, hd⟩
 exact ⟨rfl, hd⟩

end Go.Proofs.Ytgbclemmadkcmaa.PAdu
