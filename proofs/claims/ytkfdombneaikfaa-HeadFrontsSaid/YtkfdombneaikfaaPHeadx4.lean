-- written by a program of this session (wip/pp) over the kit's print.py; Lean checks it
import Derived.Test.YtkfdombneaikfaaPHeadx0
import Derived.Test.YtkfdombneaikfaaPHeadx1
import Derived.Test.YtkfdombneaikfaaPHeadx2
import Derived.Test.YtkfdombneaikfaaPHeadx3
namespace Go.Proofs.Ytkfdombneaikfaa.PHead
open Go.RowKit Go.Proofs.YtkfdombneaikfaaW.PrintWords Go.Proofs.YtkfdombneaikfaaW.PrintLast Go.Proofs.YtkfdombneaikfaaW.PrintMore
attribute [local go_sem] max2_int min2_int max_two min_two max_three min_three max_four min_four   -- for this text's walks alone
set_option linter.unusedVariables false
set_option linter.unusedSimpArgs false

attribute [local go_sem high] eqA64
/-! ### busbarlaw4_HeadPuts: function 12 -/
mutual
def busbarlaw4_HeadPuts.j0 : Nat → Int → Int → Int → List Int → Bool → Option (Bool)
  | 0, _, _, _, _, _ => none
  | k + 1, x0, x1, x2, x3, x21 => if x21 = true then ((busbarlaw4_awake.f k).bind fun t188 => (some t188)) else ((head_Put.f x0 x1 x2).bind fun bt189 => ((busbarref5_PutHead.f k x0 x1 x2).bind fun bt193 => (if bt189.2 = bt193.2 then (busbarlaw4_HeadPuts.j1 k x0 x1 x2 x3 bt189.1 bt189.2 ((strOfNums bt189.1).toList != (strOfNums bt193.1).toList)) else (busbarlaw4_HeadPuts.j1 k x0 x1 x2 x3 bt189.1 bt189.2 true))))
def busbarlaw4_HeadPuts.j1 : Nat → Int → Int → Int → List Int → List Int → Int → Bool → Option (Bool)
  | 0, _, _, _, _, _, _, _ => none
  | k + 1, x0, x1, x2, x3, x9, x10, x48 => if x48 = true then (some false) else (if x10 = 0 then (if ([] : List Int).length + x9.length < 140737488355328 then ((some (([] : List Int) ++ x9 : List Int)).bind fun y197 => (if y197.length + x3.length < 140737488355328 then ((head_Get.f k (y197 ++ x3)).bind fun bt203 => (if bt203.2.2.2 = 0 then (some (bt203.1 == x0 && (bt203.2.1 == x1 && (bt203.2.2.1 == x2)))) else (some false))) else (none))) else (none)) else (some true))
end
def busbarlaw4_HeadPuts.f (k : Nat) (a0 : Int) (a1 : Int) (a2 : Int) (l3 : List Int) : Option (Bool) := if (l3.length : Int) > 40 then (busbarlaw4_HeadPuts.j0 k a0 a1 a2 l3 true) else ((busbarlaw4_awake.f k).bind fun t187 => (busbarlaw4_HeadPuts.j0 k a0 a1 a2 l3 (!t187)))
theorem busbarlaw4_HeadPuts.mono_l : ∀ k, (∀ y0 y1 y2 y3 y4, LeO (busbarlaw4_HeadPuts.j0 k y0 y1 y2 y3 y4) (busbarlaw4_HeadPuts.j0 (k + 1) y0 y1 y2 y3 y4)) ∧ (∀ y0 y1 y2 y3 y4 y5 y6, LeO (busbarlaw4_HeadPuts.j1 k y0 y1 y2 y3 y4 y5 y6) (busbarlaw4_HeadPuts.j1 (k + 1) y0 y1 y2 y3 y4 y5 y6))
  | 0 => ⟨fun _ _ _ _ _ r h => by simp [busbarlaw4_HeadPuts.j0] at h, fun _ _ _ _ _ _ _ r h => by simp [busbarlaw4_HeadPuts.j1] at h⟩
  | k + 1 => by
    obtain ⟨ih0, ih1⟩ := busbarlaw4_HeadPuts.mono_l k
    refine ⟨?_, ?_⟩
    · intro y0 y1 y2 y3 y4
      unfold busbarlaw4_HeadPuts.j0
      repeat' first
      | (with_reducible exact ih0 _ _ _ _ _)
      | (with_reducible exact ih1 _ _ _ _ _ _ _)
      | (with_reducible exact busbarlaw4_awake.mono _)
      | (with_reducible exact busbarref5_PutHead.mono _ _ _ _)
      | (with_reducible exact head_Get.mono _ _)
      | (with_reducible exact LeO.refl _)
      | (with_reducible exact LeO.none _)
      | (with_reducible refine LeO.ite ?_ ?_)
      | (with_reducible refine LeO.bind ?_ (fun _ => ?_))
      | exact ih0 _ _ _ _ _
      | exact ih1 _ _ _ _ _ _ _
      | exact busbarlaw4_awake.mono _
      | exact busbarref5_PutHead.mono _ _ _ _
      | exact head_Get.mono _ _
      | exact LeO.none _
      | refine LeO.ite ?_ ?_
      | refine LeO.bind ?_ (fun _ => ?_)
    · intro y0 y1 y2 y3 y4 y5 y6
      unfold busbarlaw4_HeadPuts.j1
      repeat' first
      | (with_reducible exact ih0 _ _ _ _ _)
      | (with_reducible exact ih1 _ _ _ _ _ _ _)
      | (with_reducible exact busbarlaw4_awake.mono _)
      | (with_reducible exact busbarref5_PutHead.mono _ _ _ _)
      | (with_reducible exact head_Get.mono _ _)
      | (with_reducible exact LeO.refl _)
      | (with_reducible exact LeO.none _)
      | (with_reducible refine LeO.ite ?_ ?_)
      | (with_reducible refine LeO.bind ?_ (fun _ => ?_))
      | exact ih0 _ _ _ _ _
      | exact ih1 _ _ _ _ _ _ _
      | exact busbarlaw4_awake.mono _
      | exact busbarref5_PutHead.mono _ _ _ _
      | exact head_Get.mono _ _
      | exact LeO.none _
      | refine LeO.ite ?_ ?_
      | refine LeO.bind ?_ (fun _ => ?_)
theorem busbarlaw4_HeadPuts.mono : ∀ a0 a1 a2 a3 k, LeO (busbarlaw4_HeadPuts.f k a0 a1 a2 a3) (busbarlaw4_HeadPuts.f (k + 1) a0 a1 a2 a3) := by
  intro a0 a1 a2 a3 k
  obtain ⟨ih0, ih1⟩ := busbarlaw4_HeadPuts.mono_l k
  unfold busbarlaw4_HeadPuts.f
  repeat' first
      | (with_reducible exact ih0 _ _ _ _ _)
      | (with_reducible exact ih1 _ _ _ _ _ _ _)
      | (with_reducible exact busbarlaw4_awake.mono _)
      | (with_reducible exact busbarref5_PutHead.mono _ _ _ _)
      | (with_reducible exact head_Get.mono _ _)
      | (with_reducible exact LeO.refl _)
      | (with_reducible exact LeO.none _)
      | (with_reducible refine LeO.ite ?_ ?_)
      | (with_reducible refine LeO.bind ?_ (fun _ => ?_))
      | exact ih0 _ _ _ _ _
      | exact ih1 _ _ _ _ _ _ _
      | exact busbarlaw4_awake.mono _
      | exact busbarref5_PutHead.mono _ _ _ _
      | exact head_Get.mono _ _
      | exact LeO.none _
      | refine LeO.ite ?_ ?_
      | refine LeO.bind ?_ (fun _ => ?_)
set_option maxHeartbeats 8000000 in
set_option maxRecDepth 100000 in
theorem busbarlaw4_HeadPuts.calls (k : Nat) (a0 : Int) (a1 : Int) (a2 : Int) (A3 : Option Addr) (c3 : Nat) (l3 : List Int) (r : Bool) (w : World) (hr3 : Kd.C (Kd.int .u8) w A3 l3.length l3) (hc3 : l3.length ≤ c3) (h : busbarlaw4_HeadPuts.f k a0 a1 a2 l3 = some r) :
    Calls Try.prog 12 #[.int .i64 a0, .int .i64 a1, .int .i64 a2, .slice A3 l3.length c3] w fun e w' => e = .returned (.bool r) ∧ Below w.heap.size w w' := by
  have hu64 := Try.underlying64
  have hu66 := Try.underlying66
  have HR3 := Aside0.mk hr3
  have HC3 := Aside0.mk hc3
  clear hr3 hc3
  have HB := Aside0.mk (Below.refl w.heap.size w)
  have H : (if (l3.length : Int) > 40 then (busbarlaw4_HeadPuts.j0 k a0 a1 a2 l3 true) else ((busbarlaw4_awake.f k).bind fun t187 => (busbarlaw4_HeadPuts.j0 k a0 a1 a2 l3 (!t187)))) = some r := h
  clear h
  have HC5 := Aside0.mk H
  clear H
  go_enter Try.func12, Try.ntmps12
  go_upto_region 1 with (fail)
  go_cut [21] (fun v21 wc => ∃ (kq : Nat) (x21_4 : Bool), v21 = .bool x21_4 ∧ Aside0 (busbarlaw4_HeadPuts.j0 kq a0 a1 a2 l3 x21_4 = some r) ∧ Aside0 (kq ≤ k) ∧ Aside0 (Below w.heap.size w wc))
  case first =>
    have H := HC5.out
    clear HC5
    by_cases c6 : (l3.length : Int) > 40
    · rw [if_pos c6] at H
      have c6b0 : decide (40 < (l3.length : Int)) = true := decide_eq_true c6
      have c6b1 : decide (40 < l3.length) = true := decide_eq_true (by omega)
      clear c6
      (first | rw [c6b0] | (simp only [i64_w, i32_w]; rw [c6b0]) | skip)
      have H' := Aside0.mk H
      clear H
      go_wp2
      go_meet
      case rel => exact ⟨_, (true), (by first | rfl | (simp; done) | (simp [*]; done)), H', ⟨by first | omega | exact Nat.le_refl _⟩, ⟨by repeat (first | (with_reducible first | exact HB.out | apply below_alloc | apply pw_below_drewN | apply below_drew1) | exact HB.out)⟩⟩
    · rw [if_neg c6] at H
      have c6b0 : decide (40 < (l3.length : Int)) = false := decide_eq_false c6
      have c6b1 : decide (40 < l3.length) = false := decide_eq_false (by omega)
      clear c6
      (first | rw [c6b0] | (simp only [i64_w, i32_w]; rw [c6b0]) | skip)
      replace H := Option.bind_eq_some_iff.mp H
      obtain ⟨t187, A70, H⟩ := H
      replace H : (busbarlaw4_HeadPuts.j0 k a0 a1 a2 l3 (!t187)) = some r := H
      have A7 := Aside0.mk A70
      clear A70
      have H' := Aside0.mk H
      clear H
      go_wp2_with (first | (go_at_call 45; (with_reducible refine (busbarlaw4_awake.calls k  t187 _ A7.out).mono ?_); rintro e w8 ⟨rfl, hb⟩; have n0_ := Aside0.mk (below_step (by repeat (first | (with_reducible first | exact HB.out | apply below_alloc | apply pw_below_drewN | apply below_drew1) | exact HB.out)) hb); clear HB; have HB := n0_; clear n0_; (try clear hb); (try clear hb2); (try clear hk); (try clear hi)))
      go_meet
      case rel => exact ⟨_, (!t187), (by first | rfl | (simp; done) | (simp [*]; done)), H', ⟨by first | omega | exact Nat.le_refl _⟩, ⟨by repeat (first | (with_reducible first | exact HB.out | apply below_alloc | apply pw_below_drewN | apply below_drew1) | exact HB.out)⟩⟩
  case rest =>
    clear HC5
    try clear c1
    try clear p2
    try clear c3
    try clear c6
    try clear c6b0
    try clear c6b1
    obtain ⟨kq, x21_4, rfl, HA, HJ4, HB⟩ := hcut
    cases kq with
    | zero => exact absurd HA.out (by simp [busbarlaw4_HeadPuts.j0])
    | succ kj4 =>
      have H := HA.out
      clear HA
      simp only [busbarlaw4_HeadPuts.j0] at H
      by_cases c9 : x21_4 = true
      · subst c9
        have H1 : ((busbarlaw4_awake.f kj4).bind fun t188 => (some t188)) = some r := by rw [if_pos rfl] at H; exact H
        clear H
        have H := H1
        clear H1
        replace H := Option.bind_eq_some_iff.mp H
        obtain ⟨t188, A100, H⟩ := H
        replace H : (some t188) = some r := H
        have A10 := Aside0.mk A100
        clear A100
        obtain rfl := Option.some.inj H
        go_wp2_with (first | ((with_reducible refine gate_callee (f := 45) rfl ?_); refine goesL_ (some 22) rfl rfl Try.func45 (by kernel_rfl) rfl #[] rfl (by (try simp only [List.map_toArray, List.map_cons, List.map_nil]); first | done | rfl | (simp only [List.length_drop, List.length_take]; rfl)) ?_; (with_reducible refine (busbarlaw4_awake.calls kj4  t188 _ A10.out).mono ?_); rintro e w11 ⟨rfl, hb⟩; refine ⟨_, rfl, ?_⟩; have n0_ := Aside0.mk (below_step (by repeat (first | (with_reducible first | exact HB.out | apply below_alloc | apply pw_below_drewN | apply below_drew1) | exact HB.out)) hb); clear HB; have HB := n0_; clear n0_; (try clear hb); (try clear hb2); (try clear hk); (try clear hi)))
        go_ret
        exact ⟨by first | rfl | (simp [errW_none, errW_some] <;> rfl) | (simp [*, errW_none, errW_some] <;> rfl), by repeat (first | (with_reducible first | exact HB.out | apply below_alloc | apply pw_below_drewN | apply below_drew1) | exact HB.out)⟩
      · replace c9 := Bool.eq_false_iff.mpr c9
        subst c9
        have H1 : ((head_Put.f a0 a1 a2).bind fun bt189 => ((busbarref5_PutHead.f kj4 a0 a1 a2).bind fun bt193 => (if bt189.2 = bt193.2 then (busbarlaw4_HeadPuts.j1 kj4 a0 a1 a2 l3 bt189.1 bt189.2 ((strOfNums bt189.1).toList != (strOfNums bt193.1).toList)) else (busbarlaw4_HeadPuts.j1 kj4 a0 a1 a2 l3 bt189.1 bt189.2 true)))) = some r := by rw [if_neg (show ¬ (false = true) by decide)] at H; exact H
        clear H
        have H := H1
        clear H1
        replace H := Option.bind_eq_some_iff.mp H
        obtain ⟨⟨t189, t192⟩, A120, H⟩ := H
        replace H : ((busbarref5_PutHead.f kj4 a0 a1 a2).bind fun bt193 => (if t192 = bt193.2 then (busbarlaw4_HeadPuts.j1 kj4 a0 a1 a2 l3 t189 t192 ((strOfNums t189).toList != (strOfNums bt193.1).toList)) else (busbarlaw4_HeadPuts.j1 kj4 a0 a1 a2 l3 t189 t192 true))) = some r := H
        have A12 := Aside0.mk A120
        clear A120
        replace H := Option.bind_eq_some_iff.mp H
        obtain ⟨⟨t193, t196⟩, A130, H⟩ := H
        replace H : (if t192 = t196 then (busbarlaw4_HeadPuts.j1 kj4 a0 a1 a2 l3 t189 t192 ((strOfNums t189).toList != (strOfNums t193).toList)) else (busbarlaw4_HeadPuts.j1 kj4 a0 a1 a2 l3 t189 t192 true)) = some r := H
        have A13 := Aside0.mk A130
        clear A130
        have HC14 := Aside0.mk H
        clear H
        go_upto_region 5 with (first | ((with_reducible refine gate_callee (f := 46) rfl ?_); refine goesL_ (some 28) rfl rfl Try.func46 (by kernel_rfl) rfl #[.agg #[.int .i64 a0, .int .i64 a1, .int .i64 a2]] rfl (by (try simp only [List.map_toArray, List.map_cons, List.map_nil]); first | done | rfl | (simp only [List.length_drop, List.length_take]; rfl)) ?_; (with_reducible refine (head_Put.calls a0 a1 a2 t189 t192 _ A12.out).mono ?_); rintro e w15 ⟨v190, rfl, ho0, hb⟩; refine ⟨_, rfl, ?_⟩; have n0_ := Aside0.mk (Kd.R_lower ho0 (below_size (by repeat (first | (with_reducible first | exact HB.out | apply below_alloc | apply pw_below_drewN | apply below_drew1) | exact HB.out)))); have n1_ := Aside0.mk (below_step (by repeat (first | (with_reducible first | exact HB.out | apply below_alloc | apply pw_below_drewN | apply below_drew1) | exact HB.out)) hb); clear HB; have HO191 := n0_; have HB := n1_; clear n0_ n1_; (try clear hb); (try clear hb2); (try clear hk); (try clear hi); (try clear ho0)) | ((with_reducible refine gate_callee (f := 47) rfl ?_); refine goesL_ (some 36) rfl rfl Try.func47 (by kernel_rfl) rfl #[.agg #[.int .i64 a0, .int .i64 a1, .int .i64 a2]] rfl (by (try simp only [List.map_toArray, List.map_cons, List.map_nil]); first | done | rfl | (simp only [List.length_drop, List.length_take]; rfl)) ?_; (with_reducible refine (busbarref5_PutHead.calls kj4 a0 a1 a2 t193 t196 _ A13.out).mono ?_); rintro e w16 ⟨v194, rfl, ho0, hb⟩; refine ⟨_, rfl, ?_⟩; have n0_ := Aside0.mk (Kd.R_elder' (by (with_reducible repeat (first | apply Kd.R_alloc | apply Kd.R_drewN | apply Kd.R_drew)); exact HO191.out) (Kd.R_base ho0) hb); have n1_ := Aside0.mk (Kd.R_lower (Kd.R_new' ho0 (Kd.R_lt (by (with_reducible repeat (first | apply Kd.R_alloc | apply Kd.R_drewN | apply Kd.R_drew)); exact HO191.out))) (below_size (by repeat (first | (with_reducible first | exact HB.out | apply below_alloc | apply pw_below_drewN | apply below_drew1) | exact HB.out)))); have n2_ := Aside0.mk (below_step (by repeat (first | (with_reducible first | exact HB.out | apply below_alloc | apply pw_below_drewN | apply below_drew1) | exact HB.out)) hb); clear HO191; clear HB; have HO191 := n0_; have HO195 := n1_; have HB := n2_; clear n0_ n1_ n2_; (try clear hb); (try clear hb2); (try clear hk); (try clear hi); (try clear ho0)))
        (try simp only [Act.put, List.setIfInBounds_toArray, List.set_cons_zero, List.set_cons_succ])
        go_cut [48] (fun v48 wc => ∃ (kq : Nat) (x48_13 : Bool), v48 = .bool x48_13 ∧ Aside0 (busbarlaw4_HeadPuts.j1 kq a0 a1 a2 l3 t189 t192 x48_13 = some r) ∧ Aside0 (kq ≤ kj4) ∧ Aside0 (Kd.R (Kd.int .u8) 5 wc w.heap.size (fun _ => True) v190 t189) ∧ Aside0 (Below w.heap.size w wc))
        case first =>
          have H := HC14.out
          clear HC14
          by_cases c17 : t192 = t196
          · rw [if_pos c17] at H
            have c17b0 : (t192 == t196) = true := beq_iff_eq.mpr c17
            have c17b1 : (t192 != t196) = false := bne_eq_false_iff_eq.mpr c17
            clear c17
            (first | rw [c17b0] | (simp only [i64_w, i32_w]; rw [c17b0]) | skip)
            have H' := Aside0.mk H
            clear H
            have hcv18 := own_string (P := Try.prog) Try.underlying29 Try.underlying5 Try.underlying9 (Kd.own_of_R (h1 := fun _ => rfl) HO191.out)
            have hcv19 := own_string (P := Try.prog) Try.underlying29 Try.underlying5 Try.underlying9 (Kd.own_of_R (h1 := fun _ => rfl) HO195.out)
            go_wp2
            go_meet
            case rel => exact ⟨_, (((strOfNums t189).toList != (strOfNums t193).toList)), (by first | rfl | (simp; done) | (simp [*]; done)), H', ⟨by have := HJ4.out; first | omega | exact Nat.le_refl _⟩, ⟨by (with_reducible repeat (first | apply Kd.R_alloc | apply Kd.R_drewN | apply Kd.R_drew)); exact Kd.R_mono HO191.out (fun _ hk => trivial)⟩, ⟨by repeat (first | (with_reducible first | exact HB.out | apply below_alloc | apply pw_below_drewN | apply below_drew1) | exact HB.out)⟩⟩
          · rw [if_neg c17] at H
            have c17b0 : (t192 == t196) = false := beq_eq_false_iff_ne.mpr c17
            have c17b1 : (t192 != t196) = true := bne_iff_ne.mpr c17
            (first | rw [c17b0] | (simp only [i64_w, i32_w]; rw [c17b0]) | skip)
            have H' := Aside0.mk H
            clear H
            go_wp2
            go_meet
            case rel => exact ⟨_, (true), (by first | rfl | (simp; done) | (simp [*]; done)), H', ⟨by have := HJ4.out; first | omega | exact Nat.le_refl _⟩, ⟨by (with_reducible repeat (first | apply Kd.R_alloc | apply Kd.R_drewN | apply Kd.R_drew)); exact Kd.R_mono HO191.out (fun _ hk => trivial)⟩, ⟨by repeat (first | (with_reducible first | exact HB.out | apply below_alloc | apply pw_below_drewN | apply below_drew1) | exact HB.out)⟩⟩
        case rest =>
          clear HC14
          try clear c1
          try clear hcv1
          try clear p2
          try clear c3
          try clear c4
          try clear c6
          try clear c6b0
          try clear c6b1
          try clear c9
          try clear c12
          try clear c17
          try clear c17b0
          try clear c17b1
          try clear hcv18
          try clear hcv19
          try clear p2
          obtain ⟨kq, x48_13, rfl, HA, HJ13, HO_9, HB⟩ := hcut
          cases kq with
          | zero => exact absurd HA.out (by simp [busbarlaw4_HeadPuts.j1])
          | succ kj13 =>
            have H := HA.out
            clear HA
            simp only [busbarlaw4_HeadPuts.j1] at H
            by_cases c20 : x48_13 = true
            · subst c20
              have H1 : (some false) = some r := by rw [if_pos rfl] at H; exact H
              clear H
              have H := H1
              clear H1
              obtain rfl := Option.some.inj H
              go_wp2
              go_ret
              exact ⟨by first | rfl | (simp [errW_none, errW_some] <;> rfl) | (simp [*, errW_none, errW_some] <;> rfl), by repeat (first | (with_reducible first | exact HB.out | apply below_alloc | apply pw_below_drewN | apply below_drew1) | exact HB.out)⟩
            · replace c20 := Bool.eq_false_iff.mpr c20
              subst c20
              have H1 : (if t192 = 0 then (if ([] : List Int).length + t189.length < 140737488355328 then ((some (([] : List Int) ++ t189 : List Int)).bind fun y197 => (if y197.length + l3.length < 140737488355328 then ((head_Get.f kj13 (y197 ++ l3)).bind fun bt203 => (if bt203.2.2.2 = 0 then (some (bt203.1 == a0 && (bt203.2.1 == a1 && (bt203.2.2.1 == a2)))) else (some false))) else (none))) else (none)) else (some true)) = some r := by rw [if_neg (show ¬ (false = true) by decide)] at H; exact H
              clear H
              have H := H1
              clear H1
              by_cases c21 : t192 = 0
              · rw [if_pos c21] at H
                have c21b0 : (t192 == 0) = true := beq_iff_eq.mpr c21
                have c21b1 : (t192 != 0) = false := bne_eq_false_iff_eq.mpr c21
                clear c21
                by_cases c22 : ([] : List Int).length + t189.length < 140737488355328
                · rw [if_pos c22] at H
                  have LMc22 := Aside0.mk c22
                  clear c22
                  obtain ⟨y197, hy197⟩ : ∃ y_ : List Int, y_ = (([] : List Int) ++ t189) := ⟨_, rfl⟩
                  replace H : (if y197.length + l3.length < 140737488355328 then ((head_Get.f kj13 (y197 ++ l3)).bind fun bt203 => (if bt203.2.2.2 = 0 then (some (bt203.1 == a0 && (bt203.2.1 == a1 && (bt203.2.2.1 == a2)))) else (some false))) else (none)) = some r := by first | (rw [hy197]; with_reducible exact H) | (have H2_ := (Option.bind_some _ _).symm.trans H; rw [hy197]; with_reducible exact H2_) | (have H2_ := (Option.bind_some _ _).symm.trans H; with_reducible exact H2_) | with_reducible exact H | (rw [hy197]; exact H) | exact H
                  have Ny197 := Aside0.mk hy197
                  clear hy197
                  by_cases c23 : y197.length + l3.length < 140737488355328
                  · rw [if_pos c23] at H
                    have LMc23 := Aside0.mk c23
                    clear c23
                    obtain ⟨y200, hy200⟩ : ∃ y_ : List Int, y_ = (y197 ++ l3) := ⟨_, rfl⟩
                    replace H : ((head_Get.f kj13 y200).bind fun bt203 => (if bt203.2.2.2 = 0 then (some (bt203.1 == a0 && (bt203.2.1 == a1 && (bt203.2.2.1 == a2)))) else (some false))) = some r := by first | (rw [hy200]; with_reducible exact H) | (have H2_ := (Option.bind_some _ _).symm.trans H; rw [hy200]; with_reducible exact H2_) | (have H2_ := (Option.bind_some _ _).symm.trans H; with_reducible exact H2_) | with_reducible exact H | (rw [hy200]; exact H) | exact H
                    have Ny200 := Aside0.mk hy200
                    clear hy200
                    replace H := Option.bind_eq_some_iff.mp H
                    obtain ⟨⟨t203, t204, t205, t206⟩, A240, H⟩ := H
                    replace H : (if t206 = 0 then (some (t203 == a0 && (t204 == a1 && (t205 == a2)))) else (some false)) = some r := H
                    have A24 := Aside0.mk A240
                    clear A240
                    by_cases c25 : t206 = 0
                    · rw [if_pos c25] at H
                      have c25b0 : (t206 == 0) = true := beq_iff_eq.mpr c25
                      have c25b1 : (t206 != 0) = false := bne_eq_false_iff_eq.mpr c25
                      clear c25
                      obtain rfl := Option.some.inj H
                      obtain ⟨Ao27, co27, eo27⟩ := Kd.R_slice HO_9.out
                      subst eo27
                      go_wp2_with (first | ((with_reducible refine gate_builtin (b := .append) (xs := #[.const (.slice none 0 0), .tmp 52]) rfl ?_); at_builtin; refine Kd.R_append_rows (Kd.int .u8) (w0 := w) w.heap.size rfl (.const (.slice none 0 0)) (.tmp 52) 29 5 (.int .u8 0) 1 rfl Try.underlying29 info5 rfl (by decide) (by omega) (.slice none 0 0) ([] : List Int) t189 _ _ _ (fun k_ => some k_ ≠ (.slice Ao27 t189.length co27 : Value).ownBlock) (fun _ => False) rfl rfl ?aO ?aR (fun _ _ h => h) (fun _ h => h.elim) ?aF ?aB ?aS ?aL ?_; (case aR => repeat (first | exact (Kd.R_reads' HO_9.out).2.2 | (with_reducible refine Kd.C_alloc ?_ _) | (with_reducible refine Kd.C_drewN ?_ _) | (with_reducible refine Kd.C_drew ?_))); (case aB => exact (by repeat (first | (with_reducible first | exact HB.out | apply below_alloc | apply pw_below_drewN | apply below_drew1) | exact HB.out))); (case aF => exact (fun k_ hk => Kd.fresh' (Kd.R_lt (by (with_reducible repeat (first | apply Kd.R_alloc | apply Kd.R_drewN | apply Kd.R_drew)); exact HO_9.out)) k_ hk)); (case aO => exact ((Kd.R_nil _ _ _ _ (fun k_ => some k_ ≠ (.slice Ao27 t189.length co27 : Value).ownBlock)))); (case aS => exact (below_size (by repeat (first | (with_reducible first | exact HB.out | apply below_alloc | apply pw_below_drewN | apply below_drew1) | exact HB.out)))); (case aL => have := LMc22.out; omega); intro v198 w26 ho hb hg hat; rw [← Ny197.out] at ho; have n0_ := Aside0.mk (Kd.R_after (Kd.R_apart_nil (by (with_reducible repeat (first | apply Kd.R_alloc | apply Kd.R_drewN | apply Kd.R_drew)); exact HO_9.out)) hg hat); have n1_ := Aside0.mk (hb); have n2_ := Aside0.mk (ho); clear HO_9; clear HB; have HO_9 := n0_; have HB := n1_; have HO199 := n2_; clear n0_ n1_ n2_; clear ho hb hg hat) | ((with_reducible refine gate_builtin (b := .append) (xs := #[.tmp 53, .tmp 54]) rfl ?_); at_builtin; refine Kd.R_append_rows (Kd.int .u8) (w0 := w) w.heap.size rfl (.tmp 53) (.tmp 54) 29 5 (.int .u8 0) 1 rfl Try.underlying29 info5 rfl (by decide) (by omega) v198 y197 l3 _ _ _ (fun k_ => some k_ ≠ (.slice Ao27 t189.length co27 : Value).ownBlock) (fun _ => False) rfl rfl ?aO ?aR (fun _ _ h => h) (fun _ h => h.elim) ?aF ?aB ?aS ?aL ?_; (case aR => repeat (first | exact (Kd.C_below HR3.out HB.out) | (with_reducible refine Kd.C_alloc ?_ _) | (with_reducible refine Kd.C_drewN ?_ _) | (with_reducible refine Kd.C_drew ?_))); (case aB => exact (by repeat (first | (with_reducible first | exact HB.out | apply below_alloc | apply pw_below_drewN | apply below_drew1) | exact HB.out))); (case aF => exact (fun k_ hk => Kd.fresh' (Kd.R_lt (by (with_reducible repeat (first | apply Kd.R_alloc | apply Kd.R_drewN | apply Kd.R_drew)); exact HO_9.out)) k_ hk)); (case aO => exact (by (with_reducible repeat (first | apply Kd.R_alloc | apply Kd.R_drewN | apply Kd.R_drew)); exact HO199.out)); (case aS => exact (below_size (by repeat (first | (with_reducible first | exact HB.out | apply below_alloc | apply pw_below_drewN | apply below_drew1) | exact HB.out)))); (case aL => have := LMc23.out; omega); intro v201 w28 ho hb hg hat; rw [← Ny200.out] at ho; have n0_ := Aside0.mk (Kd.R_after (ok := (fun _ => True)) (by (with_reducible repeat (first | apply Kd.R_alloc | apply Kd.R_drewN | apply Kd.R_drew)); exact HO_9.out) hg hat); have n1_ := Aside0.mk (hb); have n2_ := Aside0.mk (ho); clear HO_9; clear HB; clear HO199; have HO_9 := n0_; have HB := n1_; have HO202 := n2_; clear n0_ n1_ n2_; clear ho hb hg hat; obtain ⟨Ao29, co29, eo29⟩ := Kd.R_slice HO202.out; subst eo29) | ((with_reducible refine gate_callee (f := 48) rfl ?_); refine goesL_ (some 56) rfl rfl Try.func48 (by kernel_rfl) rfl #[.slice Ao29 y200.length co29] rfl (by (try simp only [List.map_toArray, List.map_cons, List.map_nil]); first | done | rfl | (simp only [List.length_drop, List.length_take]; rfl)) ?_; (with_reducible refine (head_Get.calls kj13 _ _ y200 t203 t204 t205 t206 _ ?side1 ?side2 A24.out).mono ?_); (case side1 => repeat (first | exact (Kd.R_reads' HO202.out).2.2 | (with_reducible refine Kd.C_alloc ?_ _) | (with_reducible refine Kd.C_drewN ?_ _) | (with_reducible refine Kd.C_drew ?_))); (case side2 => exact (Kd.R_reads' HO202.out).2.1); rintro e w30 ⟨rfl, hb⟩; refine ⟨_, rfl, ?_⟩; have n0_ := Aside0.mk (Kd.R_below (by (with_reducible repeat (first | apply Kd.R_alloc | apply Kd.R_drewN | apply Kd.R_drew)); exact HO_9.out) hb); have n1_ := Aside0.mk (Kd.R_below (by (with_reducible repeat (first | apply Kd.R_alloc | apply Kd.R_drewN | apply Kd.R_drew)); exact HO202.out) hb); have n2_ := Aside0.mk (below_step (by repeat (first | (with_reducible first | exact HB.out | apply below_alloc | apply pw_below_drewN | apply below_drew1) | exact HB.out)) hb); clear HO_9; clear HO202; clear HB; have HO_9 := n0_; have HO202 := n1_; have HB := n2_; clear n0_ n1_ n2_; (try clear hb); (try clear hb2); (try clear hk); (try clear hi)) | ((with_reducible refine gate_dst (N := 13) rfl ?_); refine box_event ?hg (N := 13) ?hd (cs := #[.int .i64 0, .int .i64 0, .int .i64 0]) (t := 64) ?hr ?_; (case hd => rfl); (case hg => rfl); (case hr => first | (go_simp; done) | (go_simp; rfl)); intro gb207 hg w31 hbox hb; have n0_ := Aside0.mk (Kd.R_below (by (with_reducible repeat (first | apply Kd.R_alloc | apply Kd.R_drewN | apply Kd.R_drew)); exact HO_9.out) hb); have n1_ := Aside0.mk (Kd.R_below (by (with_reducible repeat (first | apply Kd.R_alloc | apply Kd.R_drewN | apply Kd.R_drew)); exact HO202.out) hb); have n2_ := Aside0.mk (below_step (by repeat (first | (with_reducible first | exact HB.out | apply below_alloc | apply pw_below_drewN | apply below_drew1) | exact HB.out)) hb); have n3_ := Aside0.mk (hbox); have n4_ := Aside0.mk ((by rw [hg]; exact (below_size (by repeat (first | (with_reducible first | exact HB.out | apply below_alloc | apply pw_below_drewN | apply below_drew1) | exact HB.out))) : w.heap.size ≤ gb207)); have n5_ := Aside0.mk ((by rw [hg]; exact (below_size (by repeat (first | (with_reducible first | exact HB.out | apply below_alloc | apply pw_below_drewN | apply below_drew1) | exact HB.out))) : w.heap.size ≤ gb207)); clear HO_9; clear HO202; clear HB; have HO_9 := n0_; have HO202 := n1_; have HB := n2_; have BK207 := n3_; have GW207 := n4_; have GE207 := n5_; clear n0_ n1_ n2_ n3_ n4_ n5_; clear hb hbox hg; have hcz32_0 : w31.cell? ⟨gb207, 0, none⟩ = some (.int .i64 0) := (blk_cell BK207.out 0).trans rfl; have hcz32_1 : w31.cell? ⟨gb207, 1, none⟩ = some (.int .i64 0) := (blk_cell BK207.out 1).trans rfl; have hcz32_2 : w31.cell? ⟨gb207, 2, none⟩ = some (.int .i64 0) := (blk_cell BK207.out 2).trans rfl; have hfz32_0 := blk_frozen BK207.out 0; have hfz32_1 := blk_frozen BK207.out 1; have hfz32_2 := blk_frozen BK207.out 2))
                      go_ret
                      exact ⟨by first | rfl | (simp [errW_none, errW_some] <;> rfl) | (simp [*, errW_none, errW_some] <;> rfl), by repeat (first | (with_reducible first | exact HB.out | apply below_alloc | apply pw_below_drewN | apply below_drew1 | refine below_set ?_ GE207.out) | exact HB.out)⟩
                    · rw [if_neg c25] at H
                      have c25b0 : (t206 == 0) = false := beq_eq_false_iff_ne.mpr c25
                      have c25b1 : (t206 != 0) = true := bne_iff_ne.mpr c25
                      obtain rfl := Option.some.inj H
                      obtain ⟨Ao34, co34, eo34⟩ := Kd.R_slice HO_9.out
                      subst eo34
                      go_wp2_with (first | ((with_reducible refine gate_builtin (b := .append) (xs := #[.const (.slice none 0 0), .tmp 52]) rfl ?_); at_builtin; refine Kd.R_append_rows (Kd.int .u8) (w0 := w) w.heap.size rfl (.const (.slice none 0 0)) (.tmp 52) 29 5 (.int .u8 0) 1 rfl Try.underlying29 info5 rfl (by decide) (by omega) (.slice none 0 0) ([] : List Int) t189 _ _ _ (fun k_ => some k_ ≠ (.slice Ao34 t189.length co34 : Value).ownBlock) (fun _ => False) rfl rfl ?aO ?aR (fun _ _ h => h) (fun _ h => h.elim) ?aF ?aB ?aS ?aL ?_; (case aR => repeat (first | exact (Kd.R_reads' HO_9.out).2.2 | (with_reducible refine Kd.C_alloc ?_ _) | (with_reducible refine Kd.C_drewN ?_ _) | (with_reducible refine Kd.C_drew ?_))); (case aB => exact (by repeat (first | (with_reducible first | exact HB.out | apply below_alloc | apply pw_below_drewN | apply below_drew1) | exact HB.out))); (case aF => exact (fun k_ hk => Kd.fresh' (Kd.R_lt (by (with_reducible repeat (first | apply Kd.R_alloc | apply Kd.R_drewN | apply Kd.R_drew)); exact HO_9.out)) k_ hk)); (case aO => exact ((Kd.R_nil _ _ _ _ (fun k_ => some k_ ≠ (.slice Ao34 t189.length co34 : Value).ownBlock)))); (case aS => exact (below_size (by repeat (first | (with_reducible first | exact HB.out | apply below_alloc | apply pw_below_drewN | apply below_drew1) | exact HB.out)))); (case aL => have := LMc22.out; omega); intro v198 w33 ho hb hg hat; rw [← Ny197.out] at ho; have n0_ := Aside0.mk (Kd.R_after (Kd.R_apart_nil (by (with_reducible repeat (first | apply Kd.R_alloc | apply Kd.R_drewN | apply Kd.R_drew)); exact HO_9.out)) hg hat); have n1_ := Aside0.mk (hb); have n2_ := Aside0.mk (ho); clear HO_9; clear HB; have HO_9 := n0_; have HB := n1_; have HO199 := n2_; clear n0_ n1_ n2_; clear ho hb hg hat) | ((with_reducible refine gate_builtin (b := .append) (xs := #[.tmp 53, .tmp 54]) rfl ?_); at_builtin; refine Kd.R_append_rows (Kd.int .u8) (w0 := w) w.heap.size rfl (.tmp 53) (.tmp 54) 29 5 (.int .u8 0) 1 rfl Try.underlying29 info5 rfl (by decide) (by omega) v198 y197 l3 _ _ _ (fun k_ => some k_ ≠ (.slice Ao34 t189.length co34 : Value).ownBlock) (fun _ => False) rfl rfl ?aO ?aR (fun _ _ h => h) (fun _ h => h.elim) ?aF ?aB ?aS ?aL ?_; (case aR => repeat (first | exact (Kd.C_below HR3.out HB.out) | (with_reducible refine Kd.C_alloc ?_ _) | (with_reducible refine Kd.C_drewN ?_ _) | (with_reducible refine Kd.C_drew ?_))); (case aB => exact (by repeat (first | (with_reducible first | exact HB.out | apply below_alloc | apply pw_below_drewN | apply below_drew1) | exact HB.out))); (case aF => exact (fun k_ hk => Kd.fresh' (Kd.R_lt (by (with_reducible repeat (first | apply Kd.R_alloc | apply Kd.R_drewN | apply Kd.R_drew)); exact HO_9.out)) k_ hk)); (case aO => exact (by (with_reducible repeat (first | apply Kd.R_alloc | apply Kd.R_drewN | apply Kd.R_drew)); exact HO199.out)); (case aS => exact (below_size (by repeat (first | (with_reducible first | exact HB.out | apply below_alloc | apply pw_below_drewN | apply below_drew1) | exact HB.out)))); (case aL => have := LMc23.out; omega); intro v201 w35 ho hb hg hat; rw [← Ny200.out] at ho; have n0_ := Aside0.mk (Kd.R_after (ok := (fun _ => True)) (by (with_reducible repeat (first | apply Kd.R_alloc | apply Kd.R_drewN | apply Kd.R_drew)); exact HO_9.out) hg hat); have n1_ := Aside0.mk (hb); have n2_ := Aside0.mk (ho); clear HO_9; clear HB; clear HO199; have HO_9 := n0_; have HB := n1_; have HO202 := n2_; clear n0_ n1_ n2_; clear ho hb hg hat; obtain ⟨Ao36, co36, eo36⟩ := Kd.R_slice HO202.out; subst eo36) | ((with_reducible refine gate_callee (f := 48) rfl ?_); refine goesL_ (some 56) rfl rfl Try.func48 (by kernel_rfl) rfl #[.slice Ao36 y200.length co36] rfl (by (try simp only [List.map_toArray, List.map_cons, List.map_nil]); first | done | rfl | (simp only [List.length_drop, List.length_take]; rfl)) ?_; (with_reducible refine (head_Get.calls kj13 _ _ y200 t203 t204 t205 t206 _ ?side1 ?side2 A24.out).mono ?_); (case side1 => repeat (first | exact (Kd.R_reads' HO202.out).2.2 | (with_reducible refine Kd.C_alloc ?_ _) | (with_reducible refine Kd.C_drewN ?_ _) | (with_reducible refine Kd.C_drew ?_))); (case side2 => exact (Kd.R_reads' HO202.out).2.1); rintro e w37 ⟨rfl, hb⟩; refine ⟨_, rfl, ?_⟩; have n0_ := Aside0.mk (Kd.R_below (by (with_reducible repeat (first | apply Kd.R_alloc | apply Kd.R_drewN | apply Kd.R_drew)); exact HO_9.out) hb); have n1_ := Aside0.mk (Kd.R_below (by (with_reducible repeat (first | apply Kd.R_alloc | apply Kd.R_drewN | apply Kd.R_drew)); exact HO202.out) hb); have n2_ := Aside0.mk (below_step (by repeat (first | (with_reducible first | exact HB.out | apply below_alloc | apply pw_below_drewN | apply below_drew1) | exact HB.out)) hb); clear HO_9; clear HO202; clear HB; have HO_9 := n0_; have HO202 := n1_; have HB := n2_; clear n0_ n1_ n2_; (try clear hb); (try clear hb2); (try clear hk); (try clear hi)) | ((with_reducible refine gate_dst (N := 13) rfl ?_); refine box_event ?hg (N := 13) ?hd (cs := #[.int .i64 0, .int .i64 0, .int .i64 0]) (t := 64) ?hr ?_; (case hd => rfl); (case hg => rfl); (case hr => first | (go_simp; done) | (go_simp; rfl)); intro gb207 hg w38 hbox hb; have n0_ := Aside0.mk (Kd.R_below (by (with_reducible repeat (first | apply Kd.R_alloc | apply Kd.R_drewN | apply Kd.R_drew)); exact HO_9.out) hb); have n1_ := Aside0.mk (Kd.R_below (by (with_reducible repeat (first | apply Kd.R_alloc | apply Kd.R_drewN | apply Kd.R_drew)); exact HO202.out) hb); have n2_ := Aside0.mk (below_step (by repeat (first | (with_reducible first | exact HB.out | apply below_alloc | apply pw_below_drewN | apply below_drew1) | exact HB.out)) hb); have n3_ := Aside0.mk (hbox); have n4_ := Aside0.mk ((by rw [hg]; exact (below_size (by repeat (first | (with_reducible first | exact HB.out | apply below_alloc | apply pw_below_drewN | apply below_drew1) | exact HB.out))) : w.heap.size ≤ gb207)); have n5_ := Aside0.mk ((by rw [hg]; exact (below_size (by repeat (first | (with_reducible first | exact HB.out | apply below_alloc | apply pw_below_drewN | apply below_drew1) | exact HB.out))) : w.heap.size ≤ gb207)); clear HO_9; clear HO202; clear HB; have HO_9 := n0_; have HO202 := n1_; have HB := n2_; have BK207 := n3_; have GW207 := n4_; have GE207 := n5_; clear n0_ n1_ n2_ n3_ n4_ n5_; clear hb hbox hg; have hcz39_0 : w38.cell? ⟨gb207, 0, none⟩ = some (.int .i64 0) := (blk_cell BK207.out 0).trans rfl; have hcz39_1 : w38.cell? ⟨gb207, 1, none⟩ = some (.int .i64 0) := (blk_cell BK207.out 1).trans rfl; have hcz39_2 : w38.cell? ⟨gb207, 2, none⟩ = some (.int .i64 0) := (blk_cell BK207.out 2).trans rfl; have hfz39_0 := blk_frozen BK207.out 0; have hfz39_1 := blk_frozen BK207.out 1; have hfz39_2 := blk_frozen BK207.out 2))
                      go_ret
                      exact ⟨by first | rfl | (simp [errW_none, errW_some] <;> rfl) | (simp [*, errW_none, errW_some] <;> rfl), by repeat (first | (with_reducible first | exact HB.out | apply below_alloc | apply pw_below_drewN | apply below_drew1 | refine below_set ?_ GE207.out) | exact HB.out)⟩
                  · rw [if_neg c23] at H
                    exact absurd H (by simp)
                · rw [if_neg c22] at H
                  exact absurd H (by simp)
              · rw [if_neg c21] at H
                have c21b0 : (t192 == 0) = false := beq_eq_false_iff_ne.mpr c21
                have c21b1 : (t192 != 0) = true := bne_iff_ne.mpr c21
                obtain rfl := Option.some.inj H
                go_wp2
                go_ret
                exact ⟨by first | rfl | (simp [errW_none, errW_some] <;> rfl) | (simp [*, errW_none, errW_some] <;> rfl), by repeat (first | (with_reducible first | exact HB.out | apply below_alloc | apply pw_below_drewN | apply below_drew1) | exact HB.out)⟩

/-- THE ONE PURE STATEMENT of busbarlaw4_HeadPuts: yours. -/
def busbarlaw4_HeadPuts.Pure : Prop := ∀ (a0 : Int) (a1 : Int) (a2 : Int) (l3 : List Int), (Lit.int .i64 a0).wf = true → (Lit.int .i64 a1).wf = true → (Lit.int .i64 a2).wf = true → l3.length ≤ maxLen → l3.length * 1 ≤ 140737488351232 → (∀ x ∈ l3, (Lit.int .u8 x).wf = true) → ∃ k, busbarlaw4_HeadPuts.f k a0 a1 a2 l3 = some true
theorem busbarlaw4_HeadPuts.walk (P : busbarlaw4_HeadPuts.Pure) (a0 : Int) (a1 : Int) (a2 : Int) (a3 : Option Addr) (len3 cap3 : Nat) (z3 : List Int) (w : World) (w0 : (Lit.int .i64 a0).wf = true) (w1 : (Lit.int .i64 a1).wf = true) (w2 : (Lit.int .i64 a2).wf = true) (w3 : (a3 = none ∧ len3 = 0 ∧ cap3 = 0 ∧ z3 = []) ∨ ∃ x, a3 = some x ∧ len3 ≤ cap3 ∧ cap3 ≤ maxLen ∧ z3.length = cap3 ∧ (∀ i, i < z3.length → w.cell? (x.add i) = some (.int .u8 (z3.getD i 0))) ∧ ∀ n ∈ z3, (Lit.int .u8 n).wf = true) (y3 : len3 * 1 ≤ 140737488351232) :
    Calls Try.prog 12 #[.int .i64 a0, .int .i64 a1, .int .i64 a2, .slice a3 len3 cap3] w fun e w' => e = .returned (.bool true) ∧ Below w.heap.size w w' := by
  obtain ⟨l3, rfl, hr3, hm3, hw3, hc3⟩ := ReadsInt.ofRowC w3
  obtain ⟨k, h⟩ := P a0 a1 a2 l3 w0 w1 w2 hm3 y3 hw3
  refine (busbarlaw4_HeadPuts.calls k a0 a1 a2 _ _ l3 true w (Kd.C_of_reads (d := (0 : Int)) (h1 := fun _ => rfl) hr3) hc3 h).mono ?_
  rintro e w' ⟨rfl, hd⟩
  exact ⟨rfl, hd⟩

/-! ### busbarlaw0_Within: function 32 -/
def busbarlaw0_Within.f (a0 : Int) (a1 : Int) : Option (Int) := if a1 = 0 then (none) else (if (Int.tmod a0 a1) < 0 then (some (wrap64 ((Int.tmod a0 a1) + a1))) else (some (Int.tmod a0 a1)))
set_option maxHeartbeats 8000000 in
set_option maxRecDepth 100000 in
theorem busbarlaw0_Within.calls (a0 : Int) (a1 : Int) (r : Int) (w : World) (h : busbarlaw0_Within.f a0 a1 = some r) :
    Calls Try.prog 32 #[.int .i64 a0, .int .i64 a1] w fun e w' => e = .returned (.int .i64 r) ∧ Drawn0 w w' := by
  have H : (if a1 = 0 then (none) else (if (Int.tmod a0 a1) < 0 then (some (wrap64 ((Int.tmod a0 a1) + a1))) else (some (Int.tmod a0 a1)))) = some r := h
  clear h
  by_cases c3 : a1 = 0
  · rw [if_pos c3] at H
    exact absurd H (by simp)
  · rw [if_neg c3] at H
    have c3b0 : (a1 == 0) = false := beq_eq_false_iff_ne.mpr c3
    have c3b1 : (a1 != 0) = true := bne_iff_ne.mpr c3
    by_cases c4 : (Int.tmod a0 a1) < 0
    · rw [if_pos c4] at H
      have c4b0 : decide ((Int.tmod a0 a1) < 0) = true := decide_eq_true c4
      clear c4
      obtain rfl := Option.some.inj H
      go_enter Try.func32, Try.ntmps32
      go_wp2
      go_ret
      exact ⟨by first | rfl | (simp; done) | (simp [*]; done), by repeat (first | exact Drawn0.refl _ | apply Drawn0.step)⟩
    · rw [if_neg c4] at H
      have c4b0 : decide ((Int.tmod a0 a1) < 0) = false := decide_eq_false c4
      clear c4
      obtain rfl := Option.some.inj H
      go_enter Try.func32, Try.ntmps32
      go_wp2
      go_ret
      exact ⟨by first | rfl | (simp; done) | (simp [*]; done), by repeat (first | exact Drawn0.refl _ | apply Drawn0.step)⟩

/-! ### busbarlaw4_HeadFronts: function 14 -/
mutual
def busbarlaw4_HeadFronts.j0 : Nat → Int → List Int → Bool → Option (Bool)
  | 0, _, _, _ => none
  | k + 1, x3, x9, x46 => if x46 = true then (some false) else (busbarlaw4_HeadFronts.l0 k x3 x9 0)
def busbarlaw4_HeadFronts.l0 : Nat → Int → List Int → Int → Option (Bool)
  | 0, _, _, _ => none
  | k + 1, x3, x9, x11 => if x11 < 7 then (if 0 ≤ x11 then (if x11 ≤ (x9.length : Int) then ((head_Get.f k (x9.take (x11 : Int).toNat)).bind fun bt220 => (if bt220.2.2.2 = 3 then (busbarlaw4_HeadFronts.l0 k x3 x9 (wrap64 (x11 + 1))) else (some false))) else (none)) else (none)) else (busbarlaw4_HeadFronts.l1 k x3 x9 2)
def busbarlaw4_HeadFronts.l1 : Nat → Int → List Int → Int → Option (Bool)
  | 0, _, _, _ => none
  | k + 1, x3, x9, x14 => if x14 < 4 then (if ([] : List Int).length + x9.length < 140737488355328 then ((some (([] : List Int) ++ x9 : List Int)).bind fun y225 => (if 0 ≤ x14 then (if x14 < (y225.length : Int) then ((head_Get.f k (y225.set (x14 : Int).toNat (((rd y225 x14) + x3) % 256))).bind fun bt230 => (if ((bt230.2.2.2 == 2) != (x3 != 0)) = true then (some false) else (busbarlaw4_HeadFronts.l1 k x3 x9 (wrap64 (x14 + 1))))) else (none)) else (none))) else (none)) else (if ([] : List Int).length + x9.length < 140737488355328 then ((some (([] : List Int) ++ x9 : List Int)).bind fun y235 => (if 4 < (y235.length : Int) then ((some (y235.set (4 : Int).toNat (((rd y235 4) + x3) % 256) : List Int)).bind fun y239 => ((head_Get.f k y239).bind fun bt240 => (if 5 < (y235.length : Int) then ((head_Get.f k ((y239.set (4 : Int).toNat 0).set (5 : Int).toNat (Int.tmod x3 2))).bind fun bt247 => (if ((bt240.2.2.2 == 2) == (x3 != 0)) = true then (some (bt247.2.2.2 == 2)) else (some false))) else (none)))) else (none))) else (none))
end
def busbarlaw4_HeadFronts.f (k : Nat) (a0 : Int) (a1 : Int) (a2 : Int) (a3 : Int) : Option (Bool) := (busbarlaw4_awake.f k).bind fun t208 => (if t208 = true then ((busbarlaw0_Within.f a0 65536).bind fun t209 => ((busbarlaw0_Within.f a1 253).bind fun t210 => ((busbarlaw0_Within.f a2 256).bind fun t211 => ((head_Put.f t209 (wrap64 (2 + t210)) t211).bind fun bt212 => (if bt212.2 = 0 then (busbarlaw4_HeadFronts.j0 k a3 bt212.1 ((bt212.1.length : Int) != 7)) else (busbarlaw4_HeadFronts.j0 k a3 bt212.1 true)))))) else (some false))
theorem busbarlaw4_HeadFronts.mono_l : ∀ k, (∀ y0 y1 y2, LeO (busbarlaw4_HeadFronts.j0 k y0 y1 y2) (busbarlaw4_HeadFronts.j0 (k + 1) y0 y1 y2)) ∧ (∀ y0 y1 y2, LeO (busbarlaw4_HeadFronts.l0 k y0 y1 y2) (busbarlaw4_HeadFronts.l0 (k + 1) y0 y1 y2)) ∧ (∀ y0 y1 y2, LeO (busbarlaw4_HeadFronts.l1 k y0 y1 y2) (busbarlaw4_HeadFronts.l1 (k + 1) y0 y1 y2))
  | 0 => ⟨fun _ _ _ r h => by simp [busbarlaw4_HeadFronts.j0] at h, fun _ _ _ r h => by simp [busbarlaw4_HeadFronts.l0] at h, fun _ _ _ r h => by simp [busbarlaw4_HeadFronts.l1] at h⟩
  | k + 1 => by
    obtain ⟨ih0, ih1, ih2⟩ := busbarlaw4_HeadFronts.mono_l k
    refine ⟨?_, ?_, ?_⟩
    · intro y0 y1 y2
      unfold busbarlaw4_HeadFronts.j0
      repeat' first
      | (with_reducible exact ih0 _ _ _)
      | (with_reducible exact ih1 _ _ _)
      | (with_reducible exact ih2 _ _ _)
      | (with_reducible exact busbarlaw4_awake.mono _)
      | (with_reducible exact head_Get.mono _ _)
      | (with_reducible exact LeO.refl _)
      | (with_reducible exact LeO.none _)
      | (with_reducible refine LeO.ite ?_ ?_)
      | (with_reducible refine LeO.bind ?_ (fun _ => ?_))
      | exact ih0 _ _ _
      | exact ih1 _ _ _
      | exact ih2 _ _ _
      | exact busbarlaw4_awake.mono _
      | exact head_Get.mono _ _
      | exact LeO.none _
      | refine LeO.ite ?_ ?_
      | refine LeO.bind ?_ (fun _ => ?_)
    · intro y0 y1 y2
      unfold busbarlaw4_HeadFronts.l0
      repeat' first
      | (with_reducible exact ih0 _ _ _)
      | (with_reducible exact ih1 _ _ _)
      | (with_reducible exact ih2 _ _ _)
      | (with_reducible exact busbarlaw4_awake.mono _)
      | (with_reducible exact head_Get.mono _ _)
      | (with_reducible exact LeO.refl _)
      | (with_reducible exact LeO.none _)
      | (with_reducible refine LeO.ite ?_ ?_)
      | (with_reducible refine LeO.bind ?_ (fun _ => ?_))
      | exact ih0 _ _ _
      | exact ih1 _ _ _
      | exact ih2 _ _ _
      | exact busbarlaw4_awake.mono _
      | exact head_Get.mono _ _
      | exact LeO.none _
      | refine LeO.ite ?_ ?_
      | refine LeO.bind ?_ (fun _ => ?_)
    · intro y0 y1 y2
      unfold busbarlaw4_HeadFronts.l1
      repeat' first
      | (with_reducible exact ih0 _ _ _)
      | (with_reducible exact ih1 _ _ _)
      | (with_reducible exact ih2 _ _ _)
      | (with_reducible exact busbarlaw4_awake.mono _)
      | (with_reducible exact head_Get.mono _ _)
      | (with_reducible exact LeO.refl _)
      | (with_reducible exact LeO.none _)
      | (with_reducible refine LeO.ite ?_ ?_)
      | (with_reducible refine LeO.bind ?_ (fun _ => ?_))
      | exact ih0 _ _ _
      | exact ih1 _ _ _
      | exact ih2 _ _ _
      | exact busbarlaw4_awake.mono _
      | exact head_Get.mono _ _
      | exact LeO.none _
      | refine LeO.ite ?_ ?_
      | refine LeO.bind ?_ (fun _ => ?_)
theorem busbarlaw4_HeadFronts.mono : ∀ a0 a1 a2 a3 k, LeO (busbarlaw4_HeadFronts.f k a0 a1 a2 a3) (busbarlaw4_HeadFronts.f (k + 1) a0 a1 a2 a3) := by
  intro a0 a1 a2 a3 k
  obtain ⟨ih0, ih1, ih2⟩ := busbarlaw4_HeadFronts.mono_l k
  unfold busbarlaw4_HeadFronts.f
  repeat' first
      | (with_reducible exact ih0 _ _ _)
      | (with_reducible exact ih1 _ _ _)
      | (with_reducible exact ih2 _ _ _)
      | (with_reducible exact busbarlaw4_awake.mono _)
      | (with_reducible exact head_Get.mono _ _)
      | (with_reducible exact LeO.refl _)
      | (with_reducible exact LeO.none _)
      | (with_reducible refine LeO.ite ?_ ?_)
      | (with_reducible refine LeO.bind ?_ (fun _ => ?_))
      | exact ih0 _ _ _
      | exact ih1 _ _ _
      | exact ih2 _ _ _
      | exact busbarlaw4_awake.mono _
      | exact head_Get.mono _ _
      | exact LeO.none _
      | refine LeO.ite ?_ ?_
      | refine LeO.bind ?_ (fun _ => ?_)
set_option maxHeartbeats 8000000 in
set_option maxRecDepth 100000 in
theorem busbarlaw4_HeadFronts.calls (k : Nat) (a0 : Int) (a1 : Int) (a2 : Int) (a3 : Int) (r : Bool) (w : World) (h : busbarlaw4_HeadFronts.f k a0 a1 a2 a3 = some r) :
    Calls Try.prog 14 #[.int .i64 a0, .int .i64 a1, .int .i64 a2, .int .u8 a3] w fun e w' => e = .returned (.bool r) ∧ Below w.heap.size w w' := by
  have hu64 := Try.underlying64
  have HB := Aside0.mk (Below.refl w.heap.size w)
  have H : ((busbarlaw4_awake.f k).bind fun t208 => (if t208 = true then ((busbarlaw0_Within.f a0 65536).bind fun t209 => ((busbarlaw0_Within.f a1 253).bind fun t210 => ((busbarlaw0_Within.f a2 256).bind fun t211 => ((head_Put.f t209 (wrap64 (2 + t210)) t211).bind fun bt212 => (if bt212.2 = 0 then (busbarlaw4_HeadFronts.j0 k a3 bt212.1 ((bt212.1.length : Int) != 7)) else (busbarlaw4_HeadFronts.j0 k a3 bt212.1 true)))))) else (some false))) = some r := h
  clear h
  replace H := Option.bind_eq_some_iff.mp H
  obtain ⟨t208, A50, H⟩ := H
  replace H : (if t208 = true then ((busbarlaw0_Within.f a0 65536).bind fun t209 => ((busbarlaw0_Within.f a1 253).bind fun t210 => ((busbarlaw0_Within.f a2 256).bind fun t211 => ((head_Put.f t209 (wrap64 (2 + t210)) t211).bind fun bt212 => (if bt212.2 = 0 then (busbarlaw4_HeadFronts.j0 k a3 bt212.1 ((bt212.1.length : Int) != 7)) else (busbarlaw4_HeadFronts.j0 k a3 bt212.1 true)))))) else (some false)) = some r := H
  have A5 := Aside0.mk A50
  clear A50
  by_cases c6 : t208 = true
  · subst c6
    have H1 : ((busbarlaw0_Within.f a0 65536).bind fun t209 => ((busbarlaw0_Within.f a1 253).bind fun t210 => ((busbarlaw0_Within.f a2 256).bind fun t211 => ((head_Put.f t209 (wrap64 (2 + t210)) t211).bind fun bt212 => (if bt212.2 = 0 then (busbarlaw4_HeadFronts.j0 k a3 bt212.1 ((bt212.1.length : Int) != 7)) else (busbarlaw4_HeadFronts.j0 k a3 bt212.1 true)))))) = some r := by rw [if_pos rfl] at H; exact H
    clear H
    have H := H1
    clear H1
    replace H := Option.bind_eq_some_iff.mp H
    obtain ⟨t209, A70, H⟩ := H
    replace H : ((busbarlaw0_Within.f a1 253).bind fun t210 => ((busbarlaw0_Within.f a2 256).bind fun t211 => ((head_Put.f t209 (wrap64 (2 + t210)) t211).bind fun bt212 => (if bt212.2 = 0 then (busbarlaw4_HeadFronts.j0 k a3 bt212.1 ((bt212.1.length : Int) != 7)) else (busbarlaw4_HeadFronts.j0 k a3 bt212.1 true))))) = some r := H
    have A7 := Aside0.mk A70
    clear A70
    replace H := Option.bind_eq_some_iff.mp H
    obtain ⟨t210, A80, H⟩ := H
    replace H : ((busbarlaw0_Within.f a2 256).bind fun t211 => ((head_Put.f t209 (wrap64 (2 + t210)) t211).bind fun bt212 => (if bt212.2 = 0 then (busbarlaw4_HeadFronts.j0 k a3 bt212.1 ((bt212.1.length : Int) != 7)) else (busbarlaw4_HeadFronts.j0 k a3 bt212.1 true)))) = some r := H
    have A8 := Aside0.mk A80
    clear A80
    replace H := Option.bind_eq_some_iff.mp H
    obtain ⟨t211, A90, H⟩ := H
    replace H : ((head_Put.f t209 (wrap64 (2 + t210)) t211).bind fun bt212 => (if bt212.2 = 0 then (busbarlaw4_HeadFronts.j0 k a3 bt212.1 ((bt212.1.length : Int) != 7)) else (busbarlaw4_HeadFronts.j0 k a3 bt212.1 true))) = some r := H
    have A9 := Aside0.mk A90
    clear A90
    replace H := Option.bind_eq_some_iff.mp H
    obtain ⟨⟨t212, t215⟩, A100, H⟩ := H
    replace H : (if t215 = 0 then (busbarlaw4_HeadFronts.j0 k a3 t212 ((t212.length : Int) != 7)) else (busbarlaw4_HeadFronts.j0 k a3 t212 true)) = some r := H
    have A10 := Aside0.mk A100
    clear A100
    have HC11 := Aside0.mk H
    clear H
    go_enter Try.func14, Try.ntmps14
    go_upto_region 5 with (first | ((with_reducible refine gate_callee (f := 45) rfl ?_); refine goesL_ (some 23) rfl rfl Try.func45 (by kernel_rfl) rfl #[] rfl (by (try simp only [List.map_toArray, List.map_cons, List.map_nil]); first | done | rfl | (simp only [List.length_drop, List.length_take]; rfl)) ?_; (with_reducible refine (busbarlaw4_awake.calls k  true _ A5.out).mono ?_); rintro e w12 ⟨rfl, hb⟩; refine ⟨_, rfl, ?_⟩; have n0_ := Aside0.mk (below_step (by repeat (first | (with_reducible first | exact HB.out | apply below_alloc | apply pw_below_drewN | apply below_drew1) | exact HB.out)) hb); clear HB; have HB := n0_; clear n0_; (try clear hb); (try clear hb2); (try clear hk); (try clear hi)) | ((with_reducible refine gate_callee (f := 32) rfl ?_); refine goesL_ (some 26) rfl rfl Try.func32 (by kernel_rfl) rfl #[.int .i64 a0, .int .i64 65536] rfl (by (try simp only [List.map_toArray, List.map_cons, List.map_nil]); first | done | rfl | (simp only [List.length_drop, List.length_take]; rfl)) ?_; (with_reducible refine (busbarlaw0_Within.calls a0 65536 t209 _ A7.out).mono ?_); rintro e w' ⟨rfl, ⟨nd, rfl⟩⟩; refine ⟨_, rfl, ?_⟩) | ((with_reducible refine gate_callee (f := 32) rfl ?_); refine goesL_ (some 28) rfl rfl Try.func32 (by kernel_rfl) rfl #[.int .i64 a1, .int .i64 253] rfl (by (try simp only [List.map_toArray, List.map_cons, List.map_nil]); first | done | rfl | (simp only [List.length_drop, List.length_take]; rfl)) ?_; (with_reducible refine (busbarlaw0_Within.calls a1 253 t210 _ A8.out).mono ?_); rintro e w' ⟨rfl, ⟨nd, rfl⟩⟩; refine ⟨_, rfl, ?_⟩) | ((with_reducible refine gate_callee (f := 32) rfl ?_); refine goesL_ (some 31) rfl rfl Try.func32 (by kernel_rfl) rfl #[.int .i64 a2, .int .i64 256] rfl (by (try simp only [List.map_toArray, List.map_cons, List.map_nil]); first | done | rfl | (simp only [List.length_drop, List.length_take]; rfl)) ?_; (with_reducible refine (busbarlaw0_Within.calls a2 256 t211 _ A9.out).mono ?_); rintro e w' ⟨rfl, ⟨nd, rfl⟩⟩; refine ⟨_, rfl, ?_⟩) | ((with_reducible refine gate_callee (f := 46) rfl ?_); refine goesL_ (some 37) rfl rfl Try.func46 (by kernel_rfl) rfl #[.agg #[.int .i64 t209, .int .i64 (wrap64 (2 + t210)), .int .i64 t211]] rfl (by (try simp only [List.map_toArray, List.map_cons, List.map_nil]); first | done | rfl | (simp only [List.length_drop, List.length_take]; rfl)) ?_; (with_reducible refine (head_Put.calls t209 (wrap64 (2 + t210)) t211 t212 t215 _ A10.out).mono ?_); rintro e w13 ⟨v213, rfl, ho0, hb⟩; refine ⟨_, rfl, ?_⟩; have n0_ := Aside0.mk (Kd.R_lower ho0 (below_size (by repeat (first | (with_reducible first | exact HB.out | apply below_alloc | apply pw_below_drewN | apply below_drew1) | exact HB.out)))); have n1_ := Aside0.mk (below_step (by repeat (first | (with_reducible first | exact HB.out | apply below_alloc | apply pw_below_drewN | apply below_drew1) | exact HB.out)) hb); clear HB; have HO214 := n0_; have HB := n1_; clear n0_ n1_; (try clear hb); (try clear hb2); (try clear hk); (try clear hi); (try clear ho0)))
    (try simp only [Act.put, List.setIfInBounds_toArray, List.set_cons_zero, List.set_cons_succ])
    go_cut [46] (fun v46 wc => ∃ (kq : Nat) (x46_10 : Bool), v46 = .bool x46_10 ∧ Aside0 (busbarlaw4_HeadFronts.j0 kq a3 t212 x46_10 = some r) ∧ Aside0 (kq ≤ k) ∧ Aside0 (Kd.R (Kd.int .u8) 5 wc w.heap.size (fun _ => True) v213 t212) ∧ Aside0 (Below w.heap.size w wc))
    case first =>
      have H := HC11.out
      clear HC11
      by_cases c14 : t215 = 0
      · rw [if_pos c14] at H
        have c14b0 : (t215 == 0) = true := beq_iff_eq.mpr c14
        have c14b1 : (t215 != 0) = false := bne_eq_false_iff_eq.mpr c14
        clear c14
        (first | rw [c14b0] | (simp only [i64_w, i32_w]; rw [c14b0]) | skip)
        have H' := Aside0.mk H
        clear H
        obtain ⟨Ao15, co15, eo15⟩ := Kd.R_slice HO214.out
        subst eo15
        go_wp2
        go_meet
        case rel => exact ⟨_, (((t212.length : Int) != 7)), (by first | rfl | (simp; done) | (simp [*]; done)), H', ⟨by first | omega | exact Nat.le_refl _⟩, ⟨by (with_reducible repeat (first | apply Kd.R_alloc | apply Kd.R_drewN | apply Kd.R_drew)); exact HO214.out⟩, ⟨by repeat (first | (with_reducible first | exact HB.out | apply below_alloc | apply pw_below_drewN | apply below_drew1) | exact HB.out)⟩⟩
      · rw [if_neg c14] at H
        have c14b0 : (t215 == 0) = false := beq_eq_false_iff_ne.mpr c14
        have c14b1 : (t215 != 0) = true := bne_iff_ne.mpr c14
        (first | rw [c14b0] | (simp only [i64_w, i32_w]; rw [c14b0]) | skip)
        have H' := Aside0.mk H
        clear H
        go_wp2
        go_meet
        case rel => exact ⟨_, (true), (by first | rfl | (simp; done) | (simp [*]; done)), H', ⟨by first | omega | exact Nat.le_refl _⟩, ⟨by (with_reducible repeat (first | apply Kd.R_alloc | apply Kd.R_drewN | apply Kd.R_drew)); exact HO214.out⟩, ⟨by repeat (first | (with_reducible first | exact HB.out | apply below_alloc | apply pw_below_drewN | apply below_drew1) | exact HB.out)⟩⟩
    case rest =>
      clear HC11
      try clear c1
      try clear p2
      try clear c3
      try clear c4
      try clear c6
      try clear p6
      try clear c14
      try clear c14b0
      try clear c14b1
      obtain ⟨kq, x46_10, rfl, HA, HJ10, HO_9, HB⟩ := hcut
      cases kq with
      | zero => exact absurd HA.out (by simp [busbarlaw4_HeadFronts.j0])
      | succ kj10 =>
        have H := HA.out
        clear HA
        simp only [busbarlaw4_HeadFronts.j0] at H
        by_cases c16 : x46_10 = true
        · subst c16
          have H1 : (some false) = some r := by rw [if_pos rfl] at H; exact H
          clear H
          have H := H1
          clear H1
          obtain rfl := Option.some.inj H
          go_wp2
          go_ret
          exact ⟨by first | rfl | (simp [errW_none, errW_some] <;> rfl) | (simp [*, errW_none, errW_some] <;> rfl), by repeat (first | (with_reducible first | exact HB.out | apply below_alloc | apply pw_below_drewN | apply below_drew1) | exact HB.out)⟩
        · replace c16 := Bool.eq_false_iff.mpr c16
          subst c16
          have H1 : (busbarlaw4_HeadFronts.l0 kj10 a3 t212 0) = some r := by rw [if_neg (show ¬ (false = true) by decide)] at H; exact H
          clear H
          have H := H1
          clear H1
          have H' := Aside0.mk H
          clear H
          go_wp2
          go_loopg [11] kj10 (fun kq v11 w' => ∃ (x11_2 : Int), v11 = .int .i64 x11_2 ∧ Aside0 (busbarlaw4_HeadFronts.l0 kq a3 t212 x11_2 = some r) ∧ Aside0 (kq ≤ kj10) ∧ Aside0 (Kd.R (Kd.int .u8) 5 w' w.heap.size (fun _ => True) v213 t212) ∧ Aside0 (Below w.heap.size w w'))
          case atStart => exact ⟨(0), (by first | rfl | (simp; done) | (simp [*]; done)), H', ⟨Nat.le_refl _⟩, ⟨by (with_reducible repeat (first | apply Kd.R_alloc | apply Kd.R_drewN | apply Kd.R_drew)); exact HO_9.out⟩, ⟨by repeat (first | (with_reducible first | exact HB.out | apply below_alloc | apply pw_below_drewN | apply below_drew1) | exact HB.out)⟩⟩
          case round =>
            clear H'
            try clear c1
            try clear p2
            try clear c3
            try clear c4
            try clear c6
            try clear p6
            try clear c14
            try clear c14b0
            try clear c14b1
            try clear c16
            try clear p2
            try clear p6
            obtain ⟨x11_2, rfl, HA, HK2, HO_9, HB⟩ := hrel
            cases gk with
            | zero => exact absurd HA.out (by simp [busbarlaw4_HeadFronts.l0])
            | succ k2 =>
              have H := HA.out
              clear HA
              simp only [busbarlaw4_HeadFronts.l0] at H
              by_cases c17 : x11_2 < 7
              · rw [if_pos c17] at H
                have c17b0 : decide (x11_2 < 7) = true := decide_eq_true c17
                clear c17
                by_cases c18 : 0 ≤ x11_2
                · rw [if_pos c18] at H
                  have c18b0 := eq_true c18
                  have c18b1 : decide (0 ≤ x11_2) = true := decide_eq_true c18
                  clear c18
                  by_cases c19 : x11_2 ≤ (t212.length : Int)
                  · rw [if_pos c19] at H
                    have c19b0 := eq_true c19
                    have c19b1 : decide (x11_2 ≤ (t212.length : Int)) = true := decide_eq_true c19
                    clear c19
                    obtain ⟨y216, hy216⟩ : ∃ y_ : List Int, y_ = (t212.take (x11_2 : Int).toNat) := ⟨_, rfl⟩
                    replace H : ((head_Get.f k2 y216).bind fun bt220 => (if bt220.2.2.2 = 3 then (busbarlaw4_HeadFronts.l0 k2 a3 t212 (wrap64 (x11_2 + 1))) else (some false))) = some r := by first | (rw [hy216]; with_reducible exact H) | (have H2_ := (Option.bind_some _ _).symm.trans H; rw [hy216]; with_reducible exact H2_) | (have H2_ := (Option.bind_some _ _).symm.trans H; with_reducible exact H2_) | with_reducible exact H | (rw [hy216]; exact H) | exact H
                    have Ny216 := Aside0.mk hy216
                    clear hy216
                    replace H := Option.bind_eq_some_iff.mp H
                    obtain ⟨⟨t220, t221, t222, t223⟩, A200, H⟩ := H
                    replace H : (if t223 = 3 then (busbarlaw4_HeadFronts.l0 k2 a3 t212 (wrap64 (x11_2 + 1))) else (some false)) = some r := H
                    have A20 := Aside0.mk A200
                    clear A200
                    by_cases c21 : t223 = 3
                    · rw [if_pos c21] at H
                      have c21b0 : (t223 == 3) = true := beq_iff_eq.mpr c21
                      have c21b1 : (t223 != 3) = false := bne_eq_false_iff_eq.mpr c21
                      clear c21
                      have H' := Aside0.mk H
                      clear H
                      obtain ⟨Ao23, co23, eo23⟩ := Kd.R_slice HO_9.out
                      subst eo23
                      have q22 : (x11_2 : Int) ≤ ((t212.length : Int) : Int) := of_decide_eq_true (by first | (with_reducible assumption) | assumption)
                      obtain ⟨i022, hi022, _, hsz22, _⟩ := info_parts info5
                      have hroom22 : t212.length ≤ co23 := (Kd.R_reads' HO_9.out).2.1
                      have hC22 : Kd.C (Kd.int .u8) _ Ao23 t212.length t212 := (Kd.R_reads' HO_9.out).2.2
                      have hcut22 := cut_to (P := Try.prog) 29 5 .i64 Try.underlying29 hi022 Ao23 t212.length co23 x11_2 (of_decide_eq_true (by first | (with_reducible assumption) | assumption)) q22 hroom22
                      have hr22 := Kd.C_take (m := (x11_2 : Int).toNat) hC22 (by omega)
                      have hy22 : y216.length = (x11_2 : Int).toNat := (by rw [Ny216.out, List.length_take]; omega)
                      rw [← Ny216.out] at hr22
                      rw [← hy22] at hcut22
                      have HR219 := Aside0.mk hr22
                      have HC219 := Aside0.mk (show y216.length ≤ co23 from by omega)
                      clear hr22 hC22 hroom22 hi022 hsz22
                      have KY22 := Aside0.mk hy22
                      clear hy22
                      have KL22 := Aside0.mk (show (x11_2 : Int).toNat ≤ t212.length from by omega)
                      replace q22 := eq_true q22
                      go_wp2_with (first | ((with_reducible refine gate_callee (f := 48) rfl ?_); refine goesL_ (some 55) rfl rfl Try.func48 (by kernel_rfl) rfl #[.slice Ao23 y216.length co23] rfl (by (try simp only [List.map_toArray, List.map_cons, List.map_nil]); first | done | rfl | (simp only [List.length_drop, List.length_take]; rfl)) ?_; (with_reducible refine (head_Get.calls k2 _ _ y216 t220 t221 t222 t223 _ ?side1 ?side2 A20.out).mono ?_); (case side1 => repeat (first | exact (by repeat (first | (with_reducible exact HR219.out) | (with_reducible refine Kd.C_alloc ?_ _) | (with_reducible refine Kd.C_drewN ?_ _) | (with_reducible refine Kd.C_drew ?_) | exact HR219.out)) | (with_reducible refine Kd.C_alloc ?_ _) | (with_reducible refine Kd.C_drewN ?_ _) | (with_reducible refine Kd.C_drew ?_))); (case side2 => exact HC219.out); rintro e w24 ⟨rfl, hb⟩; refine ⟨_, rfl, ?_⟩; have n0_ := Aside0.mk (Kd.R_below (by (with_reducible repeat (first | apply Kd.R_alloc | apply Kd.R_drewN | apply Kd.R_drew)); exact HO_9.out) hb); have n1_ := Aside0.mk (Kd.C_below (by repeat (first | (with_reducible exact HR219.out) | (with_reducible refine Kd.C_alloc ?_ _) | (with_reducible refine Kd.C_drewN ?_ _) | (with_reducible refine Kd.C_drew ?_) | exact HR219.out)) hb); have n2_ := Aside0.mk (below_step (by repeat (first | (with_reducible first | exact HB.out | apply below_alloc | apply pw_below_drewN | apply below_drew1) | exact HB.out)) hb); clear HO_9; clear HR219; clear HB; have HO_9 := n0_; have HR219 := n1_; have HB := n2_; clear n0_ n1_ n2_; (try clear hb); (try clear hb2); (try clear hk); (try clear hi)) | ((with_reducible refine gate_dst (N := 12) rfl ?_); (try (refine gate_guard (by rfl) ?_; dsimp only)); refine box_event ?hg (N := 12) ?hd (cs := #[.int .i64 0, .int .i64 0, .int .i64 0]) (t := 64) ?hr ?_; (case hd => rfl); (case hg => rfl); (case hr => first | (go_simp; done) | (go_simp; rfl)); intro gb224 hg w25 hbox hb; have n0_ := Aside0.mk (Kd.R_below (by (with_reducible repeat (first | apply Kd.R_alloc | apply Kd.R_drewN | apply Kd.R_drew)); exact HO_9.out) hb); have n1_ := Aside0.mk (Kd.C_below (by repeat (first | (with_reducible exact HR219.out) | (with_reducible refine Kd.C_alloc ?_ _) | (with_reducible refine Kd.C_drewN ?_ _) | (with_reducible refine Kd.C_drew ?_) | exact HR219.out)) hb); have n2_ := Aside0.mk (below_step (by repeat (first | (with_reducible first | exact HB.out | apply below_alloc | apply pw_below_drewN | apply below_drew1) | exact HB.out)) hb); have n3_ := Aside0.mk (hbox); have n4_ := Aside0.mk ((by rw [hg]; exact (below_size (by repeat (first | (with_reducible first | exact HB.out | apply below_alloc | apply pw_below_drewN | apply below_drew1) | exact HB.out))) : w.heap.size ≤ gb224)); have n5_ := Aside0.mk ((by rw [hg]; exact (below_size (by repeat (first | (with_reducible first | exact HB.out | apply below_alloc | apply pw_below_drewN | apply below_drew1) | exact HB.out))) : w.heap.size ≤ gb224)); clear HO_9; clear HR219; clear HB; have HO_9 := n0_; have HR219 := n1_; have HB := n2_; have BK224 := n3_; have GW224 := n4_; have GE224 := n5_; clear n0_ n1_ n2_ n3_ n4_ n5_; clear hb hbox hg; have hcz26_0 : w25.cell? ⟨gb224, 0, none⟩ = some (.int .i64 0) := (blk_cell BK224.out 0).trans rfl; have hcz26_1 : w25.cell? ⟨gb224, 1, none⟩ = some (.int .i64 0) := (blk_cell BK224.out 1).trans rfl; have hcz26_2 : w25.cell? ⟨gb224, 2, none⟩ = some (.int .i64 0) := (blk_cell BK224.out 2).trans rfl; have hfz26_0 := blk_frozen BK224.out 0; have hfz26_1 := blk_frozen BK224.out 1; have hfz26_2 := blk_frozen BK224.out 2))
                      go_roundg k2
                      case measure => have := HJ10.out; have := HK2.out; omega
                      case rel => exact ⟨(wrap64 (x11_2 + 1)), (by first | rfl | (simp; done) | (simp [*]; done)), H', ⟨by have := HJ10.out; have := HK2.out; omega⟩, ⟨by (with_reducible repeat (first | apply Kd.R_alloc | apply Kd.R_drewN | apply Kd.R_drew)); exact Kd.R_mono (Kd.R_far (p := ⟨gb224, 2, none⟩) (Kd.R_far (p := ⟨gb224, 1, none⟩) (Kd.R_far (p := ⟨gb224, 0, none⟩) (Kd.R_types HO_9.out BK224.out (by decide)) (fun _ hk => hk.2) (.int .i64 t220)) (fun _ hk => hk.2) (.int .i64 t221)) (fun _ hk => hk.2) (.int .i64 t222)) (fun _ hk => trivial)⟩, ⟨by repeat (first | (with_reducible first | exact HB.out | apply below_alloc | apply pw_below_drewN | apply below_drew1 | refine below_set ?_ GE224.out) | exact HB.out)⟩⟩
                    · rw [if_neg c21] at H
                      have c21b0 : (t223 == 3) = false := beq_eq_false_iff_ne.mpr c21
                      have c21b1 : (t223 != 3) = true := bne_iff_ne.mpr c21
                      obtain rfl := Option.some.inj H
                      obtain ⟨Ao28, co28, eo28⟩ := Kd.R_slice HO_9.out
                      subst eo28
                      have q27 : (x11_2 : Int) ≤ ((t212.length : Int) : Int) := of_decide_eq_true (by first | (with_reducible assumption) | assumption)
                      obtain ⟨i027, hi027, _, hsz27, _⟩ := info_parts info5
                      have hroom27 : t212.length ≤ co28 := (Kd.R_reads' HO_9.out).2.1
                      have hC27 : Kd.C (Kd.int .u8) _ Ao28 t212.length t212 := (Kd.R_reads' HO_9.out).2.2
                      have hcut27 := cut_to (P := Try.prog) 29 5 .i64 Try.underlying29 hi027 Ao28 t212.length co28 x11_2 (of_decide_eq_true (by first | (with_reducible assumption) | assumption)) q27 hroom27
                      have hr27 := Kd.C_take (m := (x11_2 : Int).toNat) hC27 (by omega)
                      have hy27 : y216.length = (x11_2 : Int).toNat := (by rw [Ny216.out, List.length_take]; omega)
                      rw [← Ny216.out] at hr27
                      rw [← hy27] at hcut27
                      have HR219 := Aside0.mk hr27
                      have HC219 := Aside0.mk (show y216.length ≤ co28 from by omega)
                      clear hr27 hC27 hroom27 hi027 hsz27
                      have KY27 := Aside0.mk hy27
                      clear hy27
                      have KL27 := Aside0.mk (show (x11_2 : Int).toNat ≤ t212.length from by omega)
                      replace q27 := eq_true q27
                      go_wp2_with (first | ((with_reducible refine gate_callee (f := 48) rfl ?_); refine goesL_ (some 55) rfl rfl Try.func48 (by kernel_rfl) rfl #[.slice Ao28 y216.length co28] rfl (by (try simp only [List.map_toArray, List.map_cons, List.map_nil]); first | done | rfl | (simp only [List.length_drop, List.length_take]; rfl)) ?_; (with_reducible refine (head_Get.calls k2 _ _ y216 t220 t221 t222 t223 _ ?side1 ?side2 A20.out).mono ?_); (case side1 => repeat (first | exact (by repeat (first | (with_reducible exact HR219.out) | (with_reducible refine Kd.C_alloc ?_ _) | (with_reducible refine Kd.C_drewN ?_ _) | (with_reducible refine Kd.C_drew ?_) | exact HR219.out)) | (with_reducible refine Kd.C_alloc ?_ _) | (with_reducible refine Kd.C_drewN ?_ _) | (with_reducible refine Kd.C_drew ?_))); (case side2 => exact HC219.out); rintro e w29 ⟨rfl, hb⟩; refine ⟨_, rfl, ?_⟩; have n0_ := Aside0.mk (Kd.R_below (by (with_reducible repeat (first | apply Kd.R_alloc | apply Kd.R_drewN | apply Kd.R_drew)); exact HO_9.out) hb); have n1_ := Aside0.mk (Kd.C_below (by repeat (first | (with_reducible exact HR219.out) | (with_reducible refine Kd.C_alloc ?_ _) | (with_reducible refine Kd.C_drewN ?_ _) | (with_reducible refine Kd.C_drew ?_) | exact HR219.out)) hb); have n2_ := Aside0.mk (below_step (by repeat (first | (with_reducible first | exact HB.out | apply below_alloc | apply pw_below_drewN | apply below_drew1) | exact HB.out)) hb); clear HO_9; clear HR219; clear HB; have HO_9 := n0_; have HR219 := n1_; have HB := n2_; clear n0_ n1_ n2_; (try clear hb); (try clear hb2); (try clear hk); (try clear hi)) | ((with_reducible refine gate_dst (N := 12) rfl ?_); (try (refine gate_guard (by rfl) ?_; dsimp only)); refine box_event ?hg (N := 12) ?hd (cs := #[.int .i64 0, .int .i64 0, .int .i64 0]) (t := 64) ?hr ?_; (case hd => rfl); (case hg => rfl); (case hr => first | (go_simp; done) | (go_simp; rfl)); intro gb224 hg w30 hbox hb; have n0_ := Aside0.mk (Kd.R_below (by (with_reducible repeat (first | apply Kd.R_alloc | apply Kd.R_drewN | apply Kd.R_drew)); exact HO_9.out) hb); have n1_ := Aside0.mk (Kd.C_below (by repeat (first | (with_reducible exact HR219.out) | (with_reducible refine Kd.C_alloc ?_ _) | (with_reducible refine Kd.C_drewN ?_ _) | (with_reducible refine Kd.C_drew ?_) | exact HR219.out)) hb); have n2_ := Aside0.mk (below_step (by repeat (first | (with_reducible first | exact HB.out | apply below_alloc | apply pw_below_drewN | apply below_drew1) | exact HB.out)) hb); have n3_ := Aside0.mk (hbox); have n4_ := Aside0.mk ((by rw [hg]; exact (below_size (by repeat (first | (with_reducible first | exact HB.out | apply below_alloc | apply pw_below_drewN | apply below_drew1) | exact HB.out))) : w.heap.size ≤ gb224)); have n5_ := Aside0.mk ((by rw [hg]; exact (below_size (by repeat (first | (with_reducible first | exact HB.out | apply below_alloc | apply pw_below_drewN | apply below_drew1) | exact HB.out))) : w.heap.size ≤ gb224)); clear HO_9; clear HR219; clear HB; have HO_9 := n0_; have HR219 := n1_; have HB := n2_; have BK224 := n3_; have GW224 := n4_; have GE224 := n5_; clear n0_ n1_ n2_ n3_ n4_ n5_; clear hb hbox hg; have hcz31_0 : w30.cell? ⟨gb224, 0, none⟩ = some (.int .i64 0) := (blk_cell BK224.out 0).trans rfl; have hcz31_1 : w30.cell? ⟨gb224, 1, none⟩ = some (.int .i64 0) := (blk_cell BK224.out 1).trans rfl; have hcz31_2 : w30.cell? ⟨gb224, 2, none⟩ = some (.int .i64 0) := (blk_cell BK224.out 2).trans rfl; have hfz31_0 := blk_frozen BK224.out 0; have hfz31_1 := blk_frozen BK224.out 1; have hfz31_2 := blk_frozen BK224.out 2))
                      go_ret
                      exact ⟨by first | rfl | (simp [errW_none, errW_some] <;> rfl) | (simp [*, errW_none, errW_some] <;> rfl), by repeat (first | (with_reducible first | exact HB.out | apply below_alloc | apply pw_below_drewN | apply below_drew1 | refine below_set ?_ GE224.out) | exact HB.out)⟩
                  · rw [if_neg c19] at H
                    exact absurd H (by simp)
                · rw [if_neg c18] at H
                  exact absurd H (by simp)
              · rw [if_neg c17] at H
                have c17b0 : decide (x11_2 < 7) = false := decide_eq_false c17
                clear c17
                have H' := Aside0.mk H
                clear H
                go_wp2
                go_loopg [14] k2 (fun kq v14 w' => ∃ (x9_3 : List Int) (x14_3 : Int), v14 = .int .i64 x14_3 ∧ Aside0 (busbarlaw4_HeadFronts.l1 kq a3 x9_3 x14_3 = some r) ∧ Aside0 (kq ≤ k2) ∧ Aside0 (Kd.R (Kd.int .u8) 5 w' w.heap.size (fun _ => True) v213 x9_3) ∧ Aside0 (Below w.heap.size w w'))
                case atStart => exact ⟨(t212), (2), (by first | rfl | (simp; done) | (simp [*]; done)), H', ⟨Nat.le_refl _⟩, ⟨by (with_reducible repeat (first | apply Kd.R_alloc | apply Kd.R_drewN | apply Kd.R_drew)); exact HO_9.out⟩, ⟨by repeat (first | (with_reducible first | exact HB.out | apply below_alloc | apply pw_below_drewN | apply below_drew1) | exact HB.out)⟩⟩
                case round =>
                  clear H'
                  try clear c1
                  try clear c2
                  try clear p2
                  try clear q2
                  try clear c3
                  try clear c4
                  try clear c6
                  try clear p6
                  try clear c14
                  try clear c14b0
                  try clear c14b1
                  try clear c16
                  try clear c17
                  try clear c17b0
                  try clear c18
                  try clear c18b0
                  try clear c18b1
                  try clear c19
                  try clear c19b0
                  try clear c19b1
                  try clear c21
                  try clear c21b0
                  try clear c21b1
                  try clear q22
                  try clear q27
                  try clear hcz26_0
                  try clear hcz26_1
                  try clear hcz26_2
                  try clear hcz31_0
                  try clear hcz31_1
                  try clear hcz31_2
                  try clear hfz26_0
                  try clear hfz26_1
                  try clear hfz26_2
                  try clear hfz31_0
                  try clear hfz31_1
                  try clear hfz31_2
                  try clear p2
                  try clear p6
                  try clear q22
                  try clear q27
                  obtain ⟨x9_3, x14_3, rfl, HA, HK3, HO_9, HB⟩ := hrel
                  cases gk with
                  | zero => exact absurd HA.out (by simp [busbarlaw4_HeadFronts.l1])
                  | succ k3 =>
                    have H := HA.out
                    clear HA
                    simp only [busbarlaw4_HeadFronts.l1] at H
                    by_cases c32 : x14_3 < 4
                    · rw [if_pos c32] at H
                      have c32b0 : decide (x14_3 < 4) = true := decide_eq_true c32
                      clear c32
                      by_cases c33 : ([] : List Int).length + x9_3.length < 140737488355328
                      · rw [if_pos c33] at H
                        have LMc33 := Aside0.mk c33
                        clear c33
                        obtain ⟨y225, hy225⟩ : ∃ y_ : List Int, y_ = (([] : List Int) ++ x9_3) := ⟨_, rfl⟩
                        replace H : (if 0 ≤ x14_3 then (if x14_3 < (y225.length : Int) then ((head_Get.f k3 (y225.set (x14_3 : Int).toNat (((rd y225 x14_3) + a3) % 256))).bind fun bt230 => (if ((bt230.2.2.2 == 2) != (a3 != 0)) = true then (some false) else (busbarlaw4_HeadFronts.l1 k3 a3 x9_3 (wrap64 (x14_3 + 1))))) else (none)) else (none)) = some r := by first | (rw [hy225]; with_reducible exact H) | (have H2_ := (Option.bind_some _ _).symm.trans H; rw [hy225]; with_reducible exact H2_) | (have H2_ := (Option.bind_some _ _).symm.trans H; with_reducible exact H2_) | with_reducible exact H | (rw [hy225]; exact H) | exact H
                        have Ny225 := Aside0.mk hy225
                        clear hy225
                        by_cases c34 : 0 ≤ x14_3
                        · rw [if_pos c34] at H
                          have c34b0 : decide (0 ≤ x14_3) = true := decide_eq_true c34
                          clear c34
                          by_cases c35 : x14_3 < (y225.length : Int)
                          · rw [if_pos c35] at H
                            have c35b0 : decide (x14_3 < (y225.length : Int)) = true := decide_eq_true c35
                            clear c35
                            obtain ⟨y229, hy229⟩ : ∃ y_ : List Int, y_ = (y225.set (x14_3 : Int).toNat (((rd y225 x14_3) + a3) % 256)) := ⟨_, rfl⟩
                            replace H : ((head_Get.f k3 y229).bind fun bt230 => (if ((bt230.2.2.2 == 2) != (a3 != 0)) = true then (some false) else (busbarlaw4_HeadFronts.l1 k3 a3 x9_3 (wrap64 (x14_3 + 1))))) = some r := by first | (rw [hy229]; with_reducible exact H) | (have H2_ := (Option.bind_some _ _).symm.trans H; rw [hy229]; with_reducible exact H2_) | (have H2_ := (Option.bind_some _ _).symm.trans H; with_reducible exact H2_) | with_reducible exact H | (rw [hy229]; exact H) | exact H
                            have Ny229 := Aside0.mk hy229
                            clear hy229
                            replace H := Option.bind_eq_some_iff.mp H
                            obtain ⟨⟨t230, t231, t232, t233⟩, A370, H⟩ := H
                            replace H : (if ((t233 == 2) != (a3 != 0)) = true then (some false) else (busbarlaw4_HeadFronts.l1 k3 a3 x9_3 (wrap64 (x14_3 + 1)))) = some r := H
                            have A37 := Aside0.mk A370
                            clear A370
                            by_cases c38 : ((t233 == 2) != (a3 != 0)) = true
                            · rw [if_pos c38] at H
                              have c38b0 : ((t233 == 2) != (a3 != 0)) = true := c38
                              (try (have c38b1 : decide ((t233 == 2) = (a3 != 0)) = false := by simpa using c38))
                              (try (have c38b2 : ((t233 == 2) == (a3 != 0)) = false := by simpa using c38))
                              (try (have c38b3 : ¬ ((t233 == 2) = (a3 != 0)) := by simpa using c38))
                              clear c38
                              obtain rfl := Option.some.inj H
                              obtain ⟨Ao40, co40, eo40⟩ := Kd.R_slice HO_9.out
                              subst eo40
                              go_wp2_with (first | ((with_reducible refine gate_builtin (b := .append) (xs := #[.const (.slice none 0 0), .tmp 64]) rfl ?_); (try (refine gate_guard (by rfl) ?_; dsimp only)); at_builtin; refine Kd.R_append_rows (Kd.int .u8) (w0 := w) w.heap.size rfl (.const (.slice none 0 0)) (.tmp 64) 29 5 (.int .u8 0) 1 rfl Try.underlying29 info5 rfl (by decide) (by omega) (.slice none 0 0) ([] : List Int) x9_3 _ _ _ (fun k_ => some k_ ≠ (.slice Ao40 x9_3.length co40 : Value).ownBlock) (fun _ => False) rfl rfl ?aO ?aR (fun _ _ h => h) (fun _ h => h.elim) ?aF ?aB ?aS ?aL ?_; (case aR => repeat (first | exact (Kd.R_reads' HO_9.out).2.2 | (with_reducible refine Kd.C_alloc ?_ _) | (with_reducible refine Kd.C_drewN ?_ _) | (with_reducible refine Kd.C_drew ?_))); (case aB => exact (by repeat (first | (with_reducible first | exact HB.out | apply below_alloc | apply pw_below_drewN | apply below_drew1) | exact HB.out))); (case aF => exact (fun k_ hk => Kd.fresh' (Kd.R_lt (by (with_reducible repeat (first | apply Kd.R_alloc | apply Kd.R_drewN | apply Kd.R_drew)); exact HO_9.out)) k_ hk)); (case aO => exact ((Kd.R_nil _ _ _ _ (fun k_ => some k_ ≠ (.slice Ao40 x9_3.length co40 : Value).ownBlock)))); (case aS => exact (below_size (by repeat (first | (with_reducible first | exact HB.out | apply below_alloc | apply pw_below_drewN | apply below_drew1) | exact HB.out)))); (case aL => have := LMc33.out; omega); intro v226 w39 ho hb hg hat; rw [← Ny225.out] at ho; have n0_ := Aside0.mk (Kd.R_after (Kd.R_apart_nil (by (with_reducible repeat (first | apply Kd.R_alloc | apply Kd.R_drewN | apply Kd.R_drew)); exact HO_9.out)) hg hat); have n1_ := Aside0.mk (hb); have n2_ := Aside0.mk (ho); clear HO_9; clear HB; have HO_9 := n0_; have HB := n1_; have HO227 := n2_; clear n0_ n1_ n2_; clear ho hb hg hat; obtain ⟨Ao41, co41, eo41⟩ := Kd.R_slice HO227.out; subst eo41; have p228 : 0 ≤ (x14_3 : Int) := of_decide_eq_true (by first | (with_reducible assumption) | assumption); have q228 : x14_3 < (y225.length : Int) := of_decide_eq_true (by first | (with_reducible assumption) | assumption); obtain ⟨ad228, e228, hx228_0⟩ := Kd.at_int (Kd.R_reads' HO227.out).2.2 x14_3 p228 q228; cases e228; replace p228 := eq_true p228; replace q228 := eq_true q228; have p36 : 0 ≤ (x14_3 : Int) := of_decide_eq_true (by first | (with_reducible assumption) | assumption); have q36 : (x14_3 : Int) < ((y225.length : Int) : Int) := of_decide_eq_true (by first | (with_reducible assumption) | assumption); obtain ⟨go36, co36, eo36, gb36, gl36, cl36, HG36⟩ := Kd.R_form HO227.out (by omega); (first | cases eo36 | (injection eo36 with ea_ en_ ec_; (first | subst ea_ | (injection ea_ with ea_; subst ea_)); subst ec_; clear en_)); have GB36 := Aside0.mk gb36; have GG36 := Aside0.mk HG36; clear gb36 gl36 HG36; (first | simp only [add_plain] at hx228_0 | skip); obtain ⟨hx36_0, hf36_0⟩ := Kd.R_celln 0 HO227.out (x14_3 : Int) p36 q36; replace p36 := eq_true p36; replace q36 := eq_true q36; obtain ⟨hy42_, hz42_⟩ := Kd.R_celln 0 HO227.out (x14_3 : Int) (of_decide_eq_true (by first | (with_reducible assumption) | assumption)) (of_decide_eq_true (by first | (with_reducible assumption) | assumption)); have HP42 := Kd.R_putg HO227.out (x14_3 : Int) (((rd y225 x14_3) + a3) % 256)) | ((with_reducible refine gate_store (t := 5) (p := 72) rfl ?_); refine store_event (t := 5) (p := 72) (v := ?vo_w43) (w1 := (w39.setCell ⟨go36, (x14_3 : Int).toNat, none⟩ (.int .u8 (((rd y225 x14_3) + a3) % 256)))) ?hg ?ho ?hn ?hr ?_; (case ho => rfl); (case hg => rfl); (case hn => rfl); (case hr => first | (go_simp; done) | (go_simp; rfl)); intro w43 hw; have hg : w39.grownBy w43 (some go36) := (by rw [hw]; exact HP42.2); have hp_ : Kd.R (Kd.int .u8) 5 w43 w.heap.size (fun k_ => some k_ ≠ (.slice Ao40 x9_3.length co40 : Value).ownBlock) (.slice (some ⟨go36, 0, none⟩) y225.length co41) y229 := (by rw [hw, Ny229.out]; exact HP42.1); clear HP42; have n0_ := Aside0.mk (Kd.R_after (v := (.slice (some ⟨go36, 0, none⟩) y225.length co41)) (v1 := (.slice (some ⟨go36, 0, none⟩) y225.length co41)) (ok := (fun _ => True)) (by (with_reducible repeat (first | apply Kd.R_alloc | apply Kd.R_drewN | apply Kd.R_drew)); exact HO_9.out) hg (.inl rfl)); have n1_ := Aside0.mk (hp_); have n2_ := Aside0.mk ((by rw [hw]; exact below_set (HB.out) GB36.out : Below w.heap.size w w43)); clear HO_9; clear HO227; clear HB; have HO_9 := n0_; have HO227 := n1_; have HB := n2_; clear n0_ n1_ n2_; clear hg hw hp_) | ((with_reducible refine gate_callee (f := 48) rfl ?_); refine goesL_ (some 75) rfl rfl Try.func48 (by kernel_rfl) rfl #[.slice (some ⟨go36, 0, none⟩) y229.length co41] rfl (by (try simp only [List.map_toArray, List.map_cons, List.map_nil]); first | done | (rw [show y229.length = y225.length from (Kd.R_reads' HO227.out).1.symm] <;> rfl) | rfl | (simp only [List.length_drop, List.length_take]; rfl)) ?_; (with_reducible refine (head_Get.calls k3 _ _ y229 t230 t231 t232 t233 _ ?side1 ?side2 A37.out).mono ?_); (case side1 => repeat (first | exact (Kd.R_reads' HO227.out).2.2 | (with_reducible refine Kd.C_alloc ?_ _) | (with_reducible refine Kd.C_drewN ?_ _) | (with_reducible refine Kd.C_drew ?_))); (case side2 => rw [show y229.length = y225.length from (Kd.R_reads' HO227.out).1.symm]; exact (Kd.R_reads' HO227.out).2.1); rintro e w44 ⟨rfl, hb⟩; refine ⟨_, rfl, ?_⟩; have n0_ := Aside0.mk (Kd.R_below (by (with_reducible repeat (first | apply Kd.R_alloc | apply Kd.R_drewN | apply Kd.R_drew)); exact HO_9.out) hb); have n1_ := Aside0.mk (Kd.R_below (by (with_reducible repeat (first | apply Kd.R_alloc | apply Kd.R_drewN | apply Kd.R_drew)); exact HO227.out) hb); have n2_ := Aside0.mk (below_step (by repeat (first | (with_reducible first | exact HB.out | apply below_alloc | apply pw_below_drewN | apply below_drew1) | exact HB.out)) hb); clear HO_9; clear HO227; clear HB; have HO_9 := n0_; have HO227 := n1_; have HB := n2_; clear n0_ n1_ n2_; (try clear hb); (try clear hb2); (try clear hk); (try clear hi)) | ((with_reducible refine gate_dst (N := 16) rfl ?_); (try (refine gate_guard (by rfl) ?_; dsimp only)); refine box_event ?hg (N := 16) ?hd (cs := #[.int .i64 0, .int .i64 0, .int .i64 0]) (t := 64) ?hr ?_; (case hd => rfl); (case hg => rfl); (case hr => first | (go_simp; done) | (go_simp; rfl)); intro gb234 hg w45 hbox hb; have n0_ := Aside0.mk (Kd.R_below (by (with_reducible repeat (first | apply Kd.R_alloc | apply Kd.R_drewN | apply Kd.R_drew)); exact HO_9.out) hb); have n1_ := Aside0.mk (Kd.R_below (by (with_reducible repeat (first | apply Kd.R_alloc | apply Kd.R_drewN | apply Kd.R_drew)); exact HO227.out) hb); have n2_ := Aside0.mk (below_step (by repeat (first | (with_reducible first | exact HB.out | apply below_alloc | apply pw_below_drewN | apply below_drew1) | exact HB.out)) hb); have n3_ := Aside0.mk (hbox); have n4_ := Aside0.mk ((by rw [hg]; exact (below_size (by repeat (first | (with_reducible first | exact HB.out | apply below_alloc | apply pw_below_drewN | apply below_drew1) | exact HB.out))) : w.heap.size ≤ gb234)); have n5_ := Aside0.mk ((by rw [hg]; exact (below_size (by repeat (first | (with_reducible first | exact HB.out | apply below_alloc | apply pw_below_drewN | apply below_drew1) | exact HB.out))) : w.heap.size ≤ gb234)); clear HO_9; clear HO227; clear HB; have HO_9 := n0_; have HO227 := n1_; have HB := n2_; have BK234 := n3_; have GW234 := n4_; have GE234 := n5_; clear n0_ n1_ n2_ n3_ n4_ n5_; clear hb hbox hg; have hcz46_0 : w45.cell? ⟨gb234, 0, none⟩ = some (.int .i64 0) := (blk_cell BK234.out 0).trans rfl; have hcz46_1 : w45.cell? ⟨gb234, 1, none⟩ = some (.int .i64 0) := (blk_cell BK234.out 1).trans rfl; have hcz46_2 : w45.cell? ⟨gb234, 2, none⟩ = some (.int .i64 0) := (blk_cell BK234.out 2).trans rfl; have hfz46_0 := blk_frozen BK234.out 0; have hfz46_1 := blk_frozen BK234.out 1; have hfz46_2 := blk_frozen BK234.out 2))
                              go_ret
                              exact ⟨by first | rfl | (simp [errW_none, errW_some] <;> rfl) | (simp [*, errW_none, errW_some] <;> rfl), by repeat (first | (with_reducible first | exact HB.out | apply below_alloc | apply pw_below_drewN | apply below_drew1 | refine below_set ?_ GE234.out) | exact HB.out)⟩
                            · rw [if_neg c38] at H
                              have c38b0 : ((t233 == 2) != (a3 != 0)) = false := by simpa using c38
                              (try (have c38b1 : decide ((t233 == 2) = (a3 != 0)) = true := by simpa using c38))
                              (try (have c38b2 : ((t233 == 2) == (a3 != 0)) = true := by simpa using c38))
                              clear c38
                              have H' := Aside0.mk H
                              clear H
                              obtain ⟨Ao48, co48, eo48⟩ := Kd.R_slice HO_9.out
                              subst eo48
                              go_wp2_with (first | ((with_reducible refine gate_builtin (b := .append) (xs := #[.const (.slice none 0 0), .tmp 64]) rfl ?_); (try (refine gate_guard (by rfl) ?_; dsimp only)); at_builtin; refine Kd.R_append_rows (Kd.int .u8) (w0 := w) w.heap.size rfl (.const (.slice none 0 0)) (.tmp 64) 29 5 (.int .u8 0) 1 rfl Try.underlying29 info5 rfl (by decide) (by omega) (.slice none 0 0) ([] : List Int) x9_3 _ _ _ (fun k_ => some k_ ≠ (.slice Ao48 x9_3.length co48 : Value).ownBlock) (fun _ => False) rfl rfl ?aO ?aR (fun _ _ h => h) (fun _ h => h.elim) ?aF ?aB ?aS ?aL ?_; (case aR => repeat (first | exact (Kd.R_reads' HO_9.out).2.2 | (with_reducible refine Kd.C_alloc ?_ _) | (with_reducible refine Kd.C_drewN ?_ _) | (with_reducible refine Kd.C_drew ?_))); (case aB => exact (by repeat (first | (with_reducible first | exact HB.out | apply below_alloc | apply pw_below_drewN | apply below_drew1) | exact HB.out))); (case aF => exact (fun k_ hk => Kd.fresh' (Kd.R_lt (by (with_reducible repeat (first | apply Kd.R_alloc | apply Kd.R_drewN | apply Kd.R_drew)); exact HO_9.out)) k_ hk)); (case aO => exact ((Kd.R_nil _ _ _ _ (fun k_ => some k_ ≠ (.slice Ao48 x9_3.length co48 : Value).ownBlock)))); (case aS => exact (below_size (by repeat (first | (with_reducible first | exact HB.out | apply below_alloc | apply pw_below_drewN | apply below_drew1) | exact HB.out)))); (case aL => have := LMc33.out; omega); intro v226 w47 ho hb hg hat; rw [← Ny225.out] at ho; have n0_ := Aside0.mk (Kd.R_after (Kd.R_apart_nil (by (with_reducible repeat (first | apply Kd.R_alloc | apply Kd.R_drewN | apply Kd.R_drew)); exact HO_9.out)) hg hat); have n1_ := Aside0.mk (hb); have n2_ := Aside0.mk (ho); clear HO_9; clear HB; have HO_9 := n0_; have HB := n1_; have HO227 := n2_; clear n0_ n1_ n2_; clear ho hb hg hat; obtain ⟨Ao49, co49, eo49⟩ := Kd.R_slice HO227.out; subst eo49; have p228 : 0 ≤ (x14_3 : Int) := of_decide_eq_true (by first | (with_reducible assumption) | assumption); have q228 : x14_3 < (y225.length : Int) := of_decide_eq_true (by first | (with_reducible assumption) | assumption); obtain ⟨ad228, e228, hx228_0⟩ := Kd.at_int (Kd.R_reads' HO227.out).2.2 x14_3 p228 q228; cases e228; replace p228 := eq_true p228; replace q228 := eq_true q228; have p36 : 0 ≤ (x14_3 : Int) := of_decide_eq_true (by first | (with_reducible assumption) | assumption); have q36 : (x14_3 : Int) < ((y225.length : Int) : Int) := of_decide_eq_true (by first | (with_reducible assumption) | assumption); obtain ⟨go36, co36, eo36, gb36, gl36, cl36, HG36⟩ := Kd.R_form HO227.out (by omega); (first | cases eo36 | (injection eo36 with ea_ en_ ec_; (first | subst ea_ | (injection ea_ with ea_; subst ea_)); subst ec_; clear en_)); have GB36 := Aside0.mk gb36; have GG36 := Aside0.mk HG36; clear gb36 gl36 HG36; (first | simp only [add_plain] at hx228_0 | skip); obtain ⟨hx36_0, hf36_0⟩ := Kd.R_celln 0 HO227.out (x14_3 : Int) p36 q36; replace p36 := eq_true p36; replace q36 := eq_true q36; obtain ⟨hy50_, hz50_⟩ := Kd.R_celln 0 HO227.out (x14_3 : Int) (of_decide_eq_true (by first | (with_reducible assumption) | assumption)) (of_decide_eq_true (by first | (with_reducible assumption) | assumption)); have HP50 := Kd.R_putg HO227.out (x14_3 : Int) (((rd y225 x14_3) + a3) % 256)) | ((with_reducible refine gate_store (t := 5) (p := 72) rfl ?_); refine store_event (t := 5) (p := 72) (v := ?vo_w51) (w1 := (w47.setCell ⟨go36, (x14_3 : Int).toNat, none⟩ (.int .u8 (((rd y225 x14_3) + a3) % 256)))) ?hg ?ho ?hn ?hr ?_; (case ho => rfl); (case hg => rfl); (case hn => rfl); (case hr => first | (go_simp; done) | (go_simp; rfl)); intro w51 hw; have hg : w47.grownBy w51 (some go36) := (by rw [hw]; exact HP50.2); have hp_ : Kd.R (Kd.int .u8) 5 w51 w.heap.size (fun k_ => some k_ ≠ (.slice Ao48 x9_3.length co48 : Value).ownBlock) (.slice (some ⟨go36, 0, none⟩) y225.length co49) y229 := (by rw [hw, Ny229.out]; exact HP50.1); clear HP50; have n0_ := Aside0.mk (Kd.R_after (v := (.slice (some ⟨go36, 0, none⟩) y225.length co49)) (v1 := (.slice (some ⟨go36, 0, none⟩) y225.length co49)) (ok := (fun _ => True)) (by (with_reducible repeat (first | apply Kd.R_alloc | apply Kd.R_drewN | apply Kd.R_drew)); exact HO_9.out) hg (.inl rfl)); have n1_ := Aside0.mk (hp_); have n2_ := Aside0.mk ((by rw [hw]; exact below_set (HB.out) GB36.out : Below w.heap.size w w51)); clear HO_9; clear HO227; clear HB; have HO_9 := n0_; have HO227 := n1_; have HB := n2_; clear n0_ n1_ n2_; clear hg hw hp_) | ((with_reducible refine gate_callee (f := 48) rfl ?_); refine goesL_ (some 75) rfl rfl Try.func48 (by kernel_rfl) rfl #[.slice (some ⟨go36, 0, none⟩) y229.length co49] rfl (by (try simp only [List.map_toArray, List.map_cons, List.map_nil]); first | done | (rw [show y229.length = y225.length from (Kd.R_reads' HO227.out).1.symm] <;> rfl) | rfl | (simp only [List.length_drop, List.length_take]; rfl)) ?_; (with_reducible refine (head_Get.calls k3 _ _ y229 t230 t231 t232 t233 _ ?side1 ?side2 A37.out).mono ?_); (case side1 => repeat (first | exact (Kd.R_reads' HO227.out).2.2 | (with_reducible refine Kd.C_alloc ?_ _) | (with_reducible refine Kd.C_drewN ?_ _) | (with_reducible refine Kd.C_drew ?_))); (case side2 => rw [show y229.length = y225.length from (Kd.R_reads' HO227.out).1.symm]; exact (Kd.R_reads' HO227.out).2.1); rintro e w52 ⟨rfl, hb⟩; refine ⟨_, rfl, ?_⟩; have n0_ := Aside0.mk (Kd.R_below (by (with_reducible repeat (first | apply Kd.R_alloc | apply Kd.R_drewN | apply Kd.R_drew)); exact HO_9.out) hb); have n1_ := Aside0.mk (Kd.R_below (by (with_reducible repeat (first | apply Kd.R_alloc | apply Kd.R_drewN | apply Kd.R_drew)); exact HO227.out) hb); have n2_ := Aside0.mk (below_step (by repeat (first | (with_reducible first | exact HB.out | apply below_alloc | apply pw_below_drewN | apply below_drew1) | exact HB.out)) hb); clear HO_9; clear HO227; clear HB; have HO_9 := n0_; have HO227 := n1_; have HB := n2_; clear n0_ n1_ n2_; (try clear hb); (try clear hb2); (try clear hk); (try clear hi)) | ((with_reducible refine gate_dst (N := 16) rfl ?_); (try (refine gate_guard (by rfl) ?_; dsimp only)); refine box_event ?hg (N := 16) ?hd (cs := #[.int .i64 0, .int .i64 0, .int .i64 0]) (t := 64) ?hr ?_; (case hd => rfl); (case hg => rfl); (case hr => first | (go_simp; done) | (go_simp; rfl)); intro gb234 hg w53 hbox hb; have n0_ := Aside0.mk (Kd.R_below (by (with_reducible repeat (first | apply Kd.R_alloc | apply Kd.R_drewN | apply Kd.R_drew)); exact HO_9.out) hb); have n1_ := Aside0.mk (Kd.R_below (by (with_reducible repeat (first | apply Kd.R_alloc | apply Kd.R_drewN | apply Kd.R_drew)); exact HO227.out) hb); have n2_ := Aside0.mk (below_step (by repeat (first | (with_reducible first | exact HB.out | apply below_alloc | apply pw_below_drewN | apply below_drew1) | exact HB.out)) hb); have n3_ := Aside0.mk (hbox); have n4_ := Aside0.mk ((by rw [hg]; exact (below_size (by repeat (first | (with_reducible first | exact HB.out | apply below_alloc | apply pw_below_drewN | apply below_drew1) | exact HB.out))) : w.heap.size ≤ gb234)); have n5_ := Aside0.mk ((by rw [hg]; exact (below_size (by repeat (first | (with_reducible first | exact HB.out | apply below_alloc | apply pw_below_drewN | apply below_drew1) | exact HB.out))) : w.heap.size ≤ gb234)); clear HO_9; clear HO227; clear HB; have HO_9 := n0_; have HO227 := n1_; have HB := n2_; have BK234 := n3_; have GW234 := n4_; have GE234 := n5_; clear n0_ n1_ n2_ n3_ n4_ n5_; clear hb hbox hg; have hcz54_0 : w53.cell? ⟨gb234, 0, none⟩ = some (.int .i64 0) := (blk_cell BK234.out 0).trans rfl; have hcz54_1 : w53.cell? ⟨gb234, 1, none⟩ = some (.int .i64 0) := (blk_cell BK234.out 1).trans rfl; have hcz54_2 : w53.cell? ⟨gb234, 2, none⟩ = some (.int .i64 0) := (blk_cell BK234.out 2).trans rfl; have hfz54_0 := blk_frozen BK234.out 0; have hfz54_1 := blk_frozen BK234.out 1; have hfz54_2 := blk_frozen BK234.out 2))
                              go_roundg k3
                              case measure => have := HJ10.out; have := HK2.out; have := HK3.out; omega
                              case rel => exact ⟨(x9_3), (wrap64 (x14_3 + 1)), (by first | rfl | (simp; done) | (simp [*]; done)), H', ⟨by have := HJ10.out; have := HK2.out; have := HK3.out; omega⟩, ⟨by (with_reducible repeat (first | apply Kd.R_alloc | apply Kd.R_drewN | apply Kd.R_drew)); exact Kd.R_mono (Kd.R_far (p := ⟨gb234, 2, none⟩) (Kd.R_far (p := ⟨gb234, 1, none⟩) (Kd.R_far (p := ⟨gb234, 0, none⟩) (Kd.R_types HO_9.out BK234.out (by decide)) (fun _ hk => hk.2) (.int .i64 t230)) (fun _ hk => hk.2) (.int .i64 t231)) (fun _ hk => hk.2) (.int .i64 t232)) (fun _ hk => trivial)⟩, ⟨by repeat (first | (with_reducible first | exact HB.out | apply below_alloc | apply pw_below_drewN | apply below_drew1 | refine below_set ?_ GE234.out) | exact HB.out)⟩⟩
                          · rw [if_neg c35] at H
                            exact absurd H (by simp)
                        · rw [if_neg c34] at H
                          exact absurd H (by simp)
                      · rw [if_neg c33] at H
                        exact absurd H (by simp)
                    · rw [if_neg c32] at H
                      have c32b0 : decide (x14_3 < 4) = false := decide_eq_false c32
                      clear c32
                      by_cases c55 : ([] : List Int).length + x9_3.length < 140737488355328
                      · rw [if_pos c55] at H
                        have LMc55 := Aside0.mk c55
                        clear c55
                        obtain ⟨y235, hy235⟩ : ∃ y_ : List Int, y_ = (([] : List Int) ++ x9_3) := ⟨_, rfl⟩
                        replace H : (if 4 < (y235.length : Int) then ((some (y235.set (4 : Int).toNat (((rd y235 4) + a3) % 256) : List Int)).bind fun y239 => ((head_Get.f k3 y239).bind fun bt240 => (if 5 < (y235.length : Int) then ((head_Get.f k3 ((y239.set (4 : Int).toNat 0).set (5 : Int).toNat (Int.tmod a3 2))).bind fun bt247 => (if ((bt240.2.2.2 == 2) == (a3 != 0)) = true then (some (bt247.2.2.2 == 2)) else (some false))) else (none)))) else (none)) = some r := by first | (rw [hy235]; with_reducible exact H) | (have H2_ := (Option.bind_some _ _).symm.trans H; rw [hy235]; with_reducible exact H2_) | (have H2_ := (Option.bind_some _ _).symm.trans H; with_reducible exact H2_) | with_reducible exact H | (rw [hy235]; exact H) | exact H
                        have Ny235 := Aside0.mk hy235
                        clear hy235
                        by_cases c56 : 4 < (y235.length : Int)
                        · rw [if_pos c56] at H
                          have c56b0 : decide (4 < (y235.length : Int)) = true := decide_eq_true c56
                          have c56b1 : decide (4 < y235.length) = true := decide_eq_true (by omega)
                          clear c56
                          obtain ⟨y239, hy239⟩ : ∃ y_ : List Int, y_ = (y235.set (4 : Int).toNat (((rd y235 4) + a3) % 256)) := ⟨_, rfl⟩
                          replace H : ((head_Get.f k3 y239).bind fun bt240 => (if 5 < (y235.length : Int) then ((head_Get.f k3 ((y239.set (4 : Int).toNat 0).set (5 : Int).toNat (Int.tmod a3 2))).bind fun bt247 => (if ((bt240.2.2.2 == 2) == (a3 != 0)) = true then (some (bt247.2.2.2 == 2)) else (some false))) else (none))) = some r := by first | (rw [hy239]; with_reducible exact H) | (have H2_ := (Option.bind_some _ _).symm.trans H; rw [hy239]; with_reducible exact H2_) | (have H2_ := (Option.bind_some _ _).symm.trans H; with_reducible exact H2_) | with_reducible exact H | (rw [hy239]; exact H) | exact H
                          have Ny239 := Aside0.mk hy239
                          clear hy239
                          replace H := Option.bind_eq_some_iff.mp H
                          obtain ⟨⟨t240, t241, t242, t243⟩, A580, H⟩ := H
                          replace H : (if 5 < (y235.length : Int) then ((head_Get.f k3 ((y239.set (4 : Int).toNat 0).set (5 : Int).toNat (Int.tmod a3 2))).bind fun bt247 => (if ((t243 == 2) == (a3 != 0)) = true then (some (bt247.2.2.2 == 2)) else (some false))) else (none)) = some r := H
                          have A58 := Aside0.mk A580
                          clear A580
                          obtain ⟨y245, hy245⟩ : ∃ y_ : List Int, y_ = (y239.set (4 : Int).toNat 0) := ⟨_, rfl⟩
                          replace H : (if 5 < (y235.length : Int) then ((head_Get.f k3 (y245.set (5 : Int).toNat (Int.tmod a3 2))).bind fun bt247 => (if ((t243 == 2) == (a3 != 0)) = true then (some (bt247.2.2.2 == 2)) else (some false))) else (none)) = some r := by first | (rw [hy245]; with_reducible exact H) | (have H2_ := (Option.bind_some _ _).symm.trans H; rw [hy245]; with_reducible exact H2_) | (have H2_ := (Option.bind_some _ _).symm.trans H; with_reducible exact H2_) | with_reducible exact H | (rw [hy245]; exact H) | exact H
                          have Ny245 := Aside0.mk hy245
                          clear hy245
                          by_cases c60 : 5 < (y235.length : Int)
                          · rw [if_pos c60] at H
                            have c60b0 : decide (5 < (y235.length : Int)) = true := decide_eq_true c60
                            have c60b1 : decide (5 < y235.length) = true := decide_eq_true (by omega)
                            clear c60
                            obtain ⟨y246, hy246⟩ : ∃ y_ : List Int, y_ = (y245.set (5 : Int).toNat (Int.tmod a3 2)) := ⟨_, rfl⟩
                            replace H : ((head_Get.f k3 y246).bind fun bt247 => (if ((t243 == 2) == (a3 != 0)) = true then (some (bt247.2.2.2 == 2)) else (some false))) = some r := by first | (rw [hy246]; with_reducible exact H) | (have H2_ := (Option.bind_some _ _).symm.trans H; rw [hy246]; with_reducible exact H2_) | (have H2_ := (Option.bind_some _ _).symm.trans H; with_reducible exact H2_) | with_reducible exact H | (rw [hy246]; exact H) | exact H
                            have Ny246 := Aside0.mk hy246
                            clear hy246
                            replace H := Option.bind_eq_some_iff.mp H
                            obtain ⟨⟨t247, t248, t249, t250⟩, A620, H⟩ := H
                            replace H : (if ((t243 == 2) == (a3 != 0)) = true then (some (t250 == 2)) else (some false)) = some r := H
                            have A62 := Aside0.mk A620
                            clear A620
                            by_cases c63 : ((t243 == 2) == (a3 != 0)) = true
                            · rw [if_pos c63] at H
                              have c63b0 : ((t243 == 2) == (a3 != 0)) = true := c63
                              (try (have c63b1 : decide ((t243 == 2) = (a3 != 0)) = true := by simpa using c63))
                              (try (have c63b2 : ((t243 == 2) == (a3 != 0)) = true := by simpa using c63))
                              clear c63
                              obtain rfl := Option.some.inj H
                              obtain ⟨Ao65, co65, eo65⟩ := Kd.R_slice HO_9.out
                              subst eo65
                              go_wp2_with (first | ((with_reducible refine gate_builtin (b := .append) (xs := #[.const (.slice none 0 0), .tmp 83]) rfl ?_); (try (refine gate_guard (by rfl) ?_; dsimp only)); at_builtin; refine Kd.R_append_rows (Kd.int .u8) (w0 := w) w.heap.size rfl (.const (.slice none 0 0)) (.tmp 83) 29 5 (.int .u8 0) 1 rfl Try.underlying29 info5 rfl (by decide) (by omega) (.slice none 0 0) ([] : List Int) x9_3 _ _ _ (fun k_ => some k_ ≠ (.slice Ao65 x9_3.length co65 : Value).ownBlock) (fun _ => False) rfl rfl ?aO ?aR (fun _ _ h => h) (fun _ h => h.elim) ?aF ?aB ?aS ?aL ?_; (case aR => repeat (first | exact (Kd.R_reads' HO_9.out).2.2 | (with_reducible refine Kd.C_alloc ?_ _) | (with_reducible refine Kd.C_drewN ?_ _) | (with_reducible refine Kd.C_drew ?_))); (case aB => exact (by repeat (first | (with_reducible first | exact HB.out | apply below_alloc | apply pw_below_drewN | apply below_drew1) | exact HB.out))); (case aF => exact (fun k_ hk => Kd.fresh' (Kd.R_lt (by (with_reducible repeat (first | apply Kd.R_alloc | apply Kd.R_drewN | apply Kd.R_drew)); exact HO_9.out)) k_ hk)); (case aO => exact ((Kd.R_nil _ _ _ _ (fun k_ => some k_ ≠ (.slice Ao65 x9_3.length co65 : Value).ownBlock)))); (case aS => exact (below_size (by repeat (first | (with_reducible first | exact HB.out | apply below_alloc | apply pw_below_drewN | apply below_drew1) | exact HB.out)))); (case aL => have := LMc55.out; omega); intro v236 w64 ho hb hg hat; rw [← Ny235.out] at ho; have n0_ := Aside0.mk (Kd.R_after (Kd.R_apart_nil (by (with_reducible repeat (first | apply Kd.R_alloc | apply Kd.R_drewN | apply Kd.R_drew)); exact HO_9.out)) hg hat); have n1_ := Aside0.mk (hb); have n2_ := Aside0.mk (ho); clear HO_9; clear HB; have HO_9 := n0_; have HB := n1_; have HO237 := n2_; clear n0_ n1_ n2_; clear ho hb hg hat; obtain ⟨Ao66, co66, eo66⟩ := Kd.R_slice HO237.out; subst eo66; have p238 : 0 ≤ (4 : Int) := (by omega); have q238 : 4 < (y235.length : Int) := of_decide_eq_true (by first | (with_reducible assumption) | assumption); obtain ⟨ad238, e238, hx238_0⟩ := Kd.at_int (Kd.R_reads' HO237.out).2.2 4 p238 q238; cases e238; (try simp only [show (4 : Int).toNat = 4 from rfl, Nat.reduceMul, Nat.reduceEqDiff, Go.Addr.add, ↓reduceIte] at hx238_0); have qi238 : (4 < y235.length) = True := eq_true (by omega); (try rw [show ((4 : Int)).toNat = 4 from rfl] at hx238_0); replace p238 := eq_true p238; replace q238 := eq_true q238; have p57 : 0 ≤ (4 : Int) := (by omega); have q57 : (4 : Int) < ((y235.length : Int) : Int) := of_decide_eq_true (by first | (with_reducible assumption) | assumption); have qi57 : (4 < y235.length) = True := eq_true (by omega); obtain ⟨go57, co57, eo57, gb57, gl57, cl57, HG57⟩ := Kd.R_form HO237.out (by omega); (first | cases eo57 | (injection eo57 with ea_ en_ ec_; (first | subst ea_ | (injection ea_ with ea_; subst ea_)); subst ec_; clear en_)); have GB57 := Aside0.mk gb57; have GG57 := Aside0.mk HG57; clear gb57 gl57 HG57; (first | simp only [add_plain] at hx238_0 | skip); obtain ⟨hx57_0, hf57_0⟩ := Kd.R_celln 0 HO237.out (4 : Int) p57 q57; (try rw [show ((4 : Int)).toNat = 4 from rfl] at hx57_0); (try simp only [Nat.reduceMul, Nat.zero_mul, Nat.zero_add, Nat.reduceAdd] at hx57_0); (try rw [show ((4 : Int)).toNat = 4 from rfl] at hf57_0); (try simp only [Nat.reduceMul, Nat.zero_mul, Nat.zero_add, Nat.reduceAdd] at hf57_0); replace p57 := eq_true p57; replace q57 := eq_true q57; obtain ⟨hy67_, hz67_⟩ := Kd.R_celln 0 HO237.out (4 : Int) (by omega) (of_decide_eq_true (by first | (with_reducible assumption) | assumption)); (try simp only [Int.reduceToNat, Int.toNat_zero, Int.toNat_ofNat, Nat.reduceMul, Nat.zero_mul, Nat.zero_add] at hy67_ hz67_); (try rw [show ((4 : Int)).toNat = 4 from rfl] at hy67_); (try rw [show ((4 : Int)).toNat = 4 from rfl] at hz67_); have HP67 := Kd.R_putg HO237.out (4 : Int) (((rd y235 4) + a3) % 256)) | ((with_reducible refine gate_store (t := 5) (p := 90) rfl ?_); refine store_event (t := 5) (p := 90) (v := ?vo_w68) (w1 := (w64.setCell ⟨go57, (4 : Int).toNat, none⟩ (.int .u8 (((rd y235 4) + a3) % 256)))) ?hg ?ho ?hn ?hr ?_; (case ho => rfl); (case hg => rfl); (case hn => rfl); (case hr => first | (go_simp; done) | (go_simp; rfl)); intro w68 hw; have hg : w64.grownBy w68 (some go57) := (by rw [hw]; exact HP67.2); have hp_ : Kd.R (Kd.int .u8) 5 w68 w.heap.size (fun k_ => some k_ ≠ (.slice Ao65 x9_3.length co65 : Value).ownBlock) (.slice (some ⟨go57, 0, none⟩) y235.length co66) y239 := (by rw [hw, Ny239.out]; exact HP67.1); clear HP67; have n0_ := Aside0.mk (Kd.R_after (v := (.slice (some ⟨go57, 0, none⟩) y235.length co66)) (v1 := (.slice (some ⟨go57, 0, none⟩) y235.length co66)) (ok := (fun _ => True)) (by (with_reducible repeat (first | apply Kd.R_alloc | apply Kd.R_drewN | apply Kd.R_drew)); exact HO_9.out) hg (.inl rfl)); have n1_ := Aside0.mk (hp_); have n2_ := Aside0.mk ((by rw [hw]; exact below_set (HB.out) GB57.out : Below w.heap.size w w68)); clear HO_9; clear HO237; clear HB; have HO_9 := n0_; have HO237 := n1_; have HB := n2_; clear n0_ n1_ n2_; clear hg hw hp_) | ((with_reducible refine gate_callee (f := 48) rfl ?_); refine goesL_ (some 93) rfl rfl Try.func48 (by kernel_rfl) rfl #[.slice (some ⟨go57, 0, none⟩) y239.length co66] rfl (by (try simp only [List.map_toArray, List.map_cons, List.map_nil]); first | done | (rw [show y239.length = y235.length from (Kd.R_reads' HO237.out).1.symm] <;> rfl) | rfl | (simp only [List.length_drop, List.length_take]; rfl)) ?_; (with_reducible refine (head_Get.calls k3 _ _ y239 t240 t241 t242 t243 _ ?side1 ?side2 A58.out).mono ?_); (case side1 => repeat (first | exact (Kd.R_reads' HO237.out).2.2 | (with_reducible refine Kd.C_alloc ?_ _) | (with_reducible refine Kd.C_drewN ?_ _) | (with_reducible refine Kd.C_drew ?_))); (case side2 => rw [show y239.length = y235.length from (Kd.R_reads' HO237.out).1.symm]; exact (Kd.R_reads' HO237.out).2.1); rintro e w69 ⟨rfl, hb⟩; refine ⟨_, rfl, ?_⟩; have n0_ := Aside0.mk (Kd.R_below (by (with_reducible repeat (first | apply Kd.R_alloc | apply Kd.R_drewN | apply Kd.R_drew)); exact HO_9.out) hb); have n1_ := Aside0.mk (Kd.R_below (by (with_reducible repeat (first | apply Kd.R_alloc | apply Kd.R_drewN | apply Kd.R_drew)); exact HO237.out) hb); have n2_ := Aside0.mk (below_step (by repeat (first | (with_reducible first | exact HB.out | apply below_alloc | apply pw_below_drewN | apply below_drew1) | exact HB.out)) hb); clear HO_9; clear HO237; clear HB; have HO_9 := n0_; have HO237 := n1_; have HB := n2_; clear n0_ n1_ n2_; (try clear hb); (try clear hb2); (try clear hk); (try clear hi)) | ((with_reducible refine gate_dst (N := 19) rfl ?_); (try (refine gate_guard (by rfl) ?_; dsimp only)); refine box_event ?hg (N := 19) ?hd (cs := #[.int .i64 0, .int .i64 0, .int .i64 0]) (t := 64) ?hr ?_; (case hd => rfl); (case hg => rfl); (case hr => first | (go_simp; done) | (go_simp; rfl)); intro gb244 hg w70 hbox hb; have n0_ := Aside0.mk (Kd.R_below (by (with_reducible repeat (first | apply Kd.R_alloc | apply Kd.R_drewN | apply Kd.R_drew)); exact HO_9.out) hb); have n1_ := Aside0.mk (Kd.R_below (by (with_reducible repeat (first | apply Kd.R_alloc | apply Kd.R_drewN | apply Kd.R_drew)); exact HO237.out) hb); have n2_ := Aside0.mk (below_step (by repeat (first | (with_reducible first | exact HB.out | apply below_alloc | apply pw_below_drewN | apply below_drew1) | exact HB.out)) hb); have n3_ := Aside0.mk (hbox); have n4_ := Aside0.mk ((by rw [hg]; exact (below_size (by repeat (first | (with_reducible first | exact HB.out | apply below_alloc | apply pw_below_drewN | apply below_drew1) | exact HB.out))) : w.heap.size ≤ gb244)); have n5_ := Aside0.mk ((by rw [hg]; exact (below_size (by repeat (first | (with_reducible first | exact HB.out | apply below_alloc | apply pw_below_drewN | apply below_drew1) | exact HB.out))) : w.heap.size ≤ gb244)); clear HO_9; clear HO237; clear HB; have HO_9 := n0_; have HO237 := n1_; have HB := n2_; have BK244 := n3_; have GW244 := n4_; have GE244 := n5_; clear n0_ n1_ n2_ n3_ n4_ n5_; clear hb hbox hg; have hcz71_0 : w70.cell? ⟨gb244, 0, none⟩ = some (.int .i64 0) := (blk_cell BK244.out 0).trans rfl; have hcz71_1 : w70.cell? ⟨gb244, 1, none⟩ = some (.int .i64 0) := (blk_cell BK244.out 1).trans rfl; have hcz71_2 : w70.cell? ⟨gb244, 2, none⟩ = some (.int .i64 0) := (blk_cell BK244.out 2).trans rfl; have hfz71_0 := blk_frozen BK244.out 0; have hfz71_1 := blk_frozen BK244.out 1; have hfz71_2 := blk_frozen BK244.out 2) | ((with_reducible refine gate_store (t := 64) (p := 19) rfl ?_); refine store_event (t := 64) (p := 19) (v := ?vo_w72) (w1 := (((w70.setCell ⟨gb244, 0, none⟩ (.int .i64 t240)).setCell ⟨gb244, 1, none⟩ (.int .i64 t241)).setCell ⟨gb244, 2, none⟩ (.int .i64 t242))) ?hg ?ho ?hn ?hr ?_; (case ho => rfl); (case hg => rfl); (case hn => rfl); (case hr => first | (go_simp; done) | (go_simp; rfl)); intro w72 hw; have n0_ : Aside0 (Kd.R (Kd.int .u8) 5 w72 w.heap.size (fun k_ => some k_ ≠ (.slice (some ⟨go57, 0, none⟩) y235.length co66 : Value).ownBlock) (.slice Ao65 x9_3.length co65) x9_3) := ⟨(by rw [hw]; exact (by (with_reducible repeat (first | apply Kd.R_alloc | apply Kd.R_drewN | apply Kd.R_drew)); exact Kd.R_mono (Kd.R_far (p := ⟨gb244, 2, none⟩) (Kd.R_far (p := ⟨gb244, 1, none⟩) (Kd.R_far (p := ⟨gb244, 0, none⟩) (Kd.R_types HO_9.out BK244.out (by decide)) (fun _ hk => hk.2) (.int .i64 t240)) (fun _ hk => hk.2) (.int .i64 t241)) (fun _ hk => hk.2) (.int .i64 t242)) (fun _ hk => hk.1.2)))⟩; have n1_ : Aside0 (Kd.R (Kd.int .u8) 5 w72 w.heap.size (fun k_ => some k_ ≠ (.slice Ao65 x9_3.length co65 : Value).ownBlock) (.slice (some ⟨go57, 0, none⟩) y235.length co66) y239) := ⟨(by rw [hw]; exact (by (with_reducible repeat (first | apply Kd.R_alloc | apply Kd.R_drewN | apply Kd.R_drew)); exact Kd.R_mono (Kd.R_far (p := ⟨gb244, 2, none⟩) (Kd.R_far (p := ⟨gb244, 1, none⟩) (Kd.R_far (p := ⟨gb244, 0, none⟩) (Kd.R_types HO237.out BK244.out (by decide)) (fun _ hk => hk.2) (.int .i64 t240)) (fun _ hk => hk.2) (.int .i64 t241)) (fun _ hk => hk.2) (.int .i64 t242)) (fun _ hk => hk.1)))⟩; have n2_ : Aside0 (w72.heap[gb244]? = some (.cells #[.int .i64 t240, .int .i64 t241, .int .i64 t242] 64 (0, 0))) := ⟨(by rw [hw]; exact (by (with_reducible repeat (first | refine blk_drewN ?_ _ | refine blk_drew ?_ | refine blk_alloc ?_ _)); refine blk_put (cs := #[.int .i64 t240, .int .i64 t241, .int .i64 0]) ?_ 2 _ rfl; (with_reducible repeat (first | refine blk_drewN ?_ _ | refine blk_drew ?_ | refine blk_alloc ?_ _)); refine blk_put (cs := #[.int .i64 t240, .int .i64 0, .int .i64 0]) ?_ 1 _ rfl; (with_reducible repeat (first | refine blk_drewN ?_ _ | refine blk_drew ?_ | refine blk_alloc ?_ _)); refine blk_put (cs := #[.int .i64 0, .int .i64 0, .int .i64 0]) ?_ 0 _ rfl; (with_reducible repeat (first | refine blk_drewN ?_ _ | refine blk_drew ?_ | refine blk_alloc ?_ _)); exact BK244.out))⟩; have n3_ : Aside0 (Below w.heap.size w w72) := ⟨(by rw [hw]; exact (by repeat (first | (with_reducible first | exact HB.out | apply below_alloc | apply pw_below_drewN | apply below_drew1 | refine below_set ?_ GE244.out) | exact HB.out)))⟩; clear hw; clear HO_9; clear HO237; clear BK244; clear HB; have HO_9 := n0_; have HO237 := n1_; have BK244 := n2_; have HB := n3_; clear n0_ n1_ n2_ n3_; have p59 : 0 ≤ (4 : Int) := (by omega); have q59 : (4 : Int) < ((y235.length : Int) : Int) := of_decide_eq_true (by first | (with_reducible assumption) | assumption); have qi59 : (4 < y235.length) = True := eq_true (by omega); obtain ⟨hx59_0, hf59_0⟩ := Kd.R_celln 0 HO237.out (4 : Int) p59 q59; (try rw [show ((4 : Int)).toNat = 4 from rfl] at hx59_0); (try simp only [Nat.reduceMul, Nat.zero_mul, Nat.zero_add, Nat.reduceAdd] at hx59_0); (try rw [show ((4 : Int)).toNat = 4 from rfl] at hf59_0); (try simp only [Nat.reduceMul, Nat.zero_mul, Nat.zero_add, Nat.reduceAdd] at hf59_0); replace p59 := eq_true p59; replace q59 := eq_true q59; obtain ⟨hy73_, hz73_⟩ := Kd.R_celln 0 HO237.out (4 : Int) (by omega) (of_decide_eq_true (by first | (with_reducible assumption) | assumption)); (try simp only [Int.reduceToNat, Int.toNat_zero, Int.toNat_ofNat, Nat.reduceMul, Nat.zero_mul, Nat.zero_add] at hy73_ hz73_); (try rw [show ((4 : Int)).toNat = 4 from rfl] at hy73_); (try rw [show ((4 : Int)).toNat = 4 from rfl] at hz73_); have HP73 := Kd.R_putg HO237.out (4 : Int) 0) | ((with_reducible refine gate_store (t := 5) (p := 100) rfl ?_); refine store_event (t := 5) (p := 100) (v := ?vo_w74) (w1 := (w72.setCell ⟨go57, (4 : Int).toNat, none⟩ (.int .u8 0))) ?hg ?ho ?hn ?hr ?_; (case ho => rfl); (case hg => rfl); (case hn => rfl); (case hr => first | (go_simp; done) | (go_simp; rfl)); intro w74 hw; have hg : w72.grownBy w74 (some go57) := (by rw [hw]; exact HP73.2); have hp_ : Kd.R (Kd.int .u8) 5 w74 w.heap.size (fun k_ => some k_ ≠ (.slice Ao65 x9_3.length co65 : Value).ownBlock) (.slice (some ⟨go57, 0, none⟩) y235.length co66) y245 := (by rw [hw, Ny245.out]; exact HP73.1); clear HP73; have n0_ := Aside0.mk (Kd.R_after (v := (.slice (some ⟨go57, 0, none⟩) y235.length co66)) (v1 := (.slice (some ⟨go57, 0, none⟩) y235.length co66)) (ok := (fun _ => True)) (by (with_reducible repeat (first | apply Kd.R_alloc | apply Kd.R_drewN | apply Kd.R_drew)); exact Kd.R_mono HO_9.out (fun _ hk => ⟨trivial, hk⟩)) hg (.inl rfl)); have n1_ := Aside0.mk (hp_); have n2_ := Aside0.mk (blk_grown (g := gb244) (o := .cells #[.int .i64 t240, .int .i64 t241, .int .i64 t242] 64 (0, 0)) (by (with_reducible repeat (first | refine blk_drewN ?_ _ | refine blk_drew ?_ | refine blk_alloc ?_ _)); exact BK244.out) hg (Kd.R_ne HO237.out BK244.out (by decide))); have n3_ := Aside0.mk ((by rw [hw]; exact below_set (HB.out) GB57.out : Below w.heap.size w w74)); clear HO_9; clear HO237; clear BK244; clear HB; have HO_9 := n0_; have HO237 := n1_; have BK244 := n2_; have HB := n3_; clear n0_ n1_ n2_ n3_; clear hg hw hp_; have p61 : 0 ≤ (5 : Int) := (by omega); have q61 : (5 : Int) < ((y235.length : Int) : Int) := of_decide_eq_true (by first | (with_reducible assumption) | assumption); have qi61 : (5 < y235.length) = True := eq_true (by omega); obtain ⟨hx61_0, hf61_0⟩ := Kd.R_celln 0 HO237.out (5 : Int) p61 q61; (try rw [show ((5 : Int)).toNat = 5 from rfl] at hx61_0); (try simp only [Nat.reduceMul, Nat.zero_mul, Nat.zero_add, Nat.reduceAdd] at hx61_0); (try rw [show ((5 : Int)).toNat = 5 from rfl] at hf61_0); (try simp only [Nat.reduceMul, Nat.zero_mul, Nat.zero_add, Nat.reduceAdd] at hf61_0); replace p61 := eq_true p61; replace q61 := eq_true q61; obtain ⟨hy75_, hz75_⟩ := Kd.R_celln 0 HO237.out (5 : Int) (by omega) (of_decide_eq_true (by first | (with_reducible assumption) | assumption)); (try simp only [Int.reduceToNat, Int.toNat_zero, Int.toNat_ofNat, Nat.reduceMul, Nat.zero_mul, Nat.zero_add] at hy75_ hz75_); (try rw [show ((5 : Int)).toNat = 5 from rfl] at hy75_); (try rw [show ((5 : Int)).toNat = 5 from rfl] at hz75_); have HP75 := Kd.R_putg HO237.out (5 : Int) (Int.tmod a3 2)) | ((with_reducible refine gate_store (t := 5) (p := 101) rfl ?_); refine store_event (t := 5) (p := 101) (v := ?vo_w76) (w1 := (w74.setCell ⟨go57, (5 : Int).toNat, none⟩ (.int .u8 (Int.tmod a3 2)))) ?hg ?ho ?hn ?hr ?_; (case ho => rfl); (case hg => rfl); (case hn => rfl); (case hr => first | (go_simp; done) | (go_simp; rfl)); intro w76 hw; have hg : w74.grownBy w76 (some go57) := (by rw [hw]; exact HP75.2); have hp_ : Kd.R (Kd.int .u8) 5 w76 w.heap.size (fun k_ => some k_ ≠ (.slice Ao65 x9_3.length co65 : Value).ownBlock) (.slice (some ⟨go57, 0, none⟩) y235.length co66) y246 := (by rw [hw, Ny246.out]; exact HP75.1); clear HP75; have n0_ := Aside0.mk (Kd.R_after (v := (.slice (some ⟨go57, 0, none⟩) y235.length co66)) (v1 := (.slice (some ⟨go57, 0, none⟩) y235.length co66)) (ok := (fun _ => True)) (by (with_reducible repeat (first | apply Kd.R_alloc | apply Kd.R_drewN | apply Kd.R_drew)); exact HO_9.out) hg (.inl rfl)); have n1_ := Aside0.mk (hp_); have n2_ := Aside0.mk (blk_grown (g := gb244) (o := .cells #[.int .i64 t240, .int .i64 t241, .int .i64 t242] 64 (0, 0)) (by (with_reducible repeat (first | refine blk_drewN ?_ _ | refine blk_drew ?_ | refine blk_alloc ?_ _)); exact BK244.out) hg (Kd.R_ne HO237.out BK244.out (by decide))); have n3_ := Aside0.mk ((by rw [hw]; exact below_set (HB.out) GB57.out : Below w.heap.size w w76)); clear HO_9; clear HO237; clear BK244; clear HB; have HO_9 := n0_; have HO237 := n1_; have BK244 := n2_; have HB := n3_; clear n0_ n1_ n2_ n3_; clear hg hw hp_) | ((with_reducible refine gate_callee (f := 48) rfl ?_); refine goesL_ (some 104) rfl rfl Try.func48 (by kernel_rfl) rfl #[.slice (some ⟨go57, 0, none⟩) y246.length co66] rfl (by (try simp only [List.map_toArray, List.map_cons, List.map_nil]); first | done | (rw [show y246.length = y235.length from (Kd.R_reads' HO237.out).1.symm] <;> rfl) | rfl | (simp only [List.length_drop, List.length_take]; rfl)) ?_; (with_reducible refine (head_Get.calls k3 _ _ y246 t247 t248 t249 t250 _ ?side1 ?side2 A62.out).mono ?_); (case side1 => repeat (first | exact (Kd.R_reads' HO237.out).2.2 | (with_reducible refine Kd.C_alloc ?_ _) | (with_reducible refine Kd.C_drewN ?_ _) | (with_reducible refine Kd.C_drew ?_))); (case side2 => rw [show y246.length = y235.length from (Kd.R_reads' HO237.out).1.symm]; exact (Kd.R_reads' HO237.out).2.1); rintro e w77 ⟨rfl, hb⟩; refine ⟨_, rfl, ?_⟩; have n0_ := Aside0.mk (Kd.R_below (by (with_reducible repeat (first | apply Kd.R_alloc | apply Kd.R_drewN | apply Kd.R_drew)); exact HO_9.out) hb); have n1_ := Aside0.mk (Kd.R_below (by (with_reducible repeat (first | apply Kd.R_alloc | apply Kd.R_drewN | apply Kd.R_drew)); exact HO237.out) hb); have n2_ := Aside0.mk (blk_below (g := gb244) (o := .cells #[.int .i64 t240, .int .i64 t241, .int .i64 t242] 64 (0, 0)) (by (with_reducible repeat (first | refine blk_drewN ?_ _ | refine blk_drew ?_ | refine blk_alloc ?_ _)); exact BK244.out) hb); have n3_ := Aside0.mk (below_step (by repeat (first | (with_reducible first | exact HB.out | apply below_alloc | apply pw_below_drewN | apply below_drew1 | refine below_set ?_ GE244.out) | exact HB.out)) hb); clear HO_9; clear HO237; clear BK244; clear HB; have HO_9 := n0_; have HO237 := n1_; have BK244 := n2_; have HB := n3_; clear n0_ n1_ n2_ n3_; (try clear hb); (try clear hb2); (try clear hk); (try clear hi)) | ((with_reducible refine gate_dst (N := 21) rfl ?_); (try (refine gate_guard (by rfl) ?_; dsimp only)); refine box_event ?hg (N := 21) ?hd (cs := #[.int .i64 0, .int .i64 0, .int .i64 0]) (t := 64) ?hr ?_; (case hd => rfl); (case hg => rfl); (case hr => first | (go_simp; done) | (go_simp; rfl)); intro gb251 hg w78 hbox hb; have n0_ := Aside0.mk (Kd.R_below (by (with_reducible repeat (first | apply Kd.R_alloc | apply Kd.R_drewN | apply Kd.R_drew)); exact HO_9.out) hb); have n1_ := Aside0.mk (Kd.R_below (by (with_reducible repeat (first | apply Kd.R_alloc | apply Kd.R_drewN | apply Kd.R_drew)); exact HO237.out) hb); have n2_ := Aside0.mk (blk_below (g := gb244) (o := .cells #[.int .i64 t240, .int .i64 t241, .int .i64 t242] 64 (0, 0)) (by (with_reducible repeat (first | refine blk_drewN ?_ _ | refine blk_drew ?_ | refine blk_alloc ?_ _)); exact BK244.out) hb); have n3_ := Aside0.mk (below_step (by repeat (first | (with_reducible first | exact HB.out | apply below_alloc | apply pw_below_drewN | apply below_drew1 | refine below_set ?_ GE244.out) | exact HB.out)) hb); have n4_ := Aside0.mk (hbox); have n5_ := Aside0.mk ((by rw [hg]; exact (below_size (by repeat (first | (with_reducible first | exact HB.out | apply below_alloc | apply pw_below_drewN | apply below_drew1 | refine below_set ?_ GE244.out) | exact HB.out))) : w.heap.size ≤ gb251)); have n6_ := Aside0.mk ((by rw [hg]; exact (below_size (by repeat (first | (with_reducible first | exact HB.out | apply below_alloc | apply pw_below_drewN | apply below_drew1 | refine below_set ?_ GE244.out) | exact HB.out))) : w.heap.size ≤ gb251)); have n7_ := Aside0.mk ((by rw [hg]; exact Nat.ne_of_lt (blk_lt (g := gb244) (o := .cells #[.int .i64 t240, .int .i64 t241, .int .i64 t242] 64 (0, 0)) (by (with_reducible repeat (first | refine blk_drewN ?_ _ | refine blk_drew ?_ | refine blk_alloc ?_ _)); exact BK244.out)) : gb244 ≠ gb251)); have n8_ := Aside0.mk ((by rw [hg]; exact Nat.ne_of_gt (blk_lt (g := gb244) (o := .cells #[.int .i64 t240, .int .i64 t241, .int .i64 t242] 64 (0, 0)) (by (with_reducible repeat (first | refine blk_drewN ?_ _ | refine blk_drew ?_ | refine blk_alloc ?_ _)); exact BK244.out)) : gb251 ≠ gb244)); clear HO_9; clear HO237; clear BK244; clear HB; have HO_9 := n0_; have HO237 := n1_; have BK244 := n2_; have HB := n3_; have BK251 := n4_; have GW251 := n5_; have GE251 := n6_; have NB244_251 := n7_; have NB251_244 := n8_; clear n0_ n1_ n2_ n3_ n4_ n5_ n6_ n7_ n8_; clear hb hbox hg; have hnb79 := NB251_244.out; have hnc79 := NB244_251.out; have hcz80_0 : w78.cell? ⟨gb251, 0, none⟩ = some (.int .i64 0) := (blk_cell BK251.out 0).trans rfl; have hcz80_1 : w78.cell? ⟨gb251, 1, none⟩ = some (.int .i64 0) := (blk_cell BK251.out 1).trans rfl; have hcz80_2 : w78.cell? ⟨gb251, 2, none⟩ = some (.int .i64 0) := (blk_cell BK251.out 2).trans rfl; have hfz80_0 := blk_frozen BK251.out 0; have hfz80_1 := blk_frozen BK251.out 1; have hfz80_2 := blk_frozen BK251.out 2))
                              go_ret
                              exact ⟨by first | rfl | (simp [errW_none, errW_some] <;> rfl) | (simp [*, errW_none, errW_some] <;> rfl), by repeat (first | (with_reducible first | exact HB.out | apply below_alloc | apply pw_below_drewN | apply below_drew1 | refine below_set ?_ GE244.out | refine below_set ?_ GE251.out) | exact HB.out)⟩
                            · rw [if_neg c63] at H
                              have c63b0 : ((t243 == 2) == (a3 != 0)) = false := by simpa using c63
                              (try (have c63b1 : decide ((t243 == 2) = (a3 != 0)) = false := by simpa using c63))
                              (try (have c63b2 : ((t243 == 2) == (a3 != 0)) = false := by simpa using c63))
                              (try (have c63b3 : ¬ ((t243 == 2) = (a3 != 0)) := by simpa using c63))
                              clear c63
                              obtain rfl := Option.some.inj H
                              obtain ⟨Ao82, co82, eo82⟩ := Kd.R_slice HO_9.out
                              subst eo82
                              go_wp2_with (first | ((with_reducible refine gate_builtin (b := .append) (xs := #[.const (.slice none 0 0), .tmp 83]) rfl ?_); (try (refine gate_guard (by rfl) ?_; dsimp only)); at_builtin; refine Kd.R_append_rows (Kd.int .u8) (w0 := w) w.heap.size rfl (.const (.slice none 0 0)) (.tmp 83) 29 5 (.int .u8 0) 1 rfl Try.underlying29 info5 rfl (by decide) (by omega) (.slice none 0 0) ([] : List Int) x9_3 _ _ _ (fun k_ => some k_ ≠ (.slice Ao82 x9_3.length co82 : Value).ownBlock) (fun _ => False) rfl rfl ?aO ?aR (fun _ _ h => h) (fun _ h => h.elim) ?aF ?aB ?aS ?aL ?_; (case aR => repeat (first | exact (Kd.R_reads' HO_9.out).2.2 | (with_reducible refine Kd.C_alloc ?_ _) | (with_reducible refine Kd.C_drewN ?_ _) | (with_reducible refine Kd.C_drew ?_))); (case aB => exact (by repeat (first | (with_reducible first | exact HB.out | apply below_alloc | apply pw_below_drewN | apply below_drew1) | exact HB.out))); (case aF => exact (fun k_ hk => Kd.fresh' (Kd.R_lt (by (with_reducible repeat (first | apply Kd.R_alloc | apply Kd.R_drewN | apply Kd.R_drew)); exact HO_9.out)) k_ hk)); (case aO => exact ((Kd.R_nil _ _ _ _ (fun k_ => some k_ ≠ (.slice Ao82 x9_3.length co82 : Value).ownBlock)))); (case aS => exact (below_size (by repeat (first | (with_reducible first | exact HB.out | apply below_alloc | apply pw_below_drewN | apply below_drew1) | exact HB.out)))); (case aL => have := LMc55.out; omega); intro v236 w81 ho hb hg hat; rw [← Ny235.out] at ho; have n0_ := Aside0.mk (Kd.R_after (Kd.R_apart_nil (by (with_reducible repeat (first | apply Kd.R_alloc | apply Kd.R_drewN | apply Kd.R_drew)); exact HO_9.out)) hg hat); have n1_ := Aside0.mk (hb); have n2_ := Aside0.mk (ho); clear HO_9; clear HB; have HO_9 := n0_; have HB := n1_; have HO237 := n2_; clear n0_ n1_ n2_; clear ho hb hg hat; obtain ⟨Ao83, co83, eo83⟩ := Kd.R_slice HO237.out; subst eo83; have p238 : 0 ≤ (4 : Int) := (by omega); have q238 : 4 < (y235.length : Int) := of_decide_eq_true (by first | (with_reducible assumption) | assumption); obtain ⟨ad238, e238, hx238_0⟩ := Kd.at_int (Kd.R_reads' HO237.out).2.2 4 p238 q238; cases e238; (try simp only [show (4 : Int).toNat = 4 from rfl, Nat.reduceMul, Nat.reduceEqDiff, Go.Addr.add, ↓reduceIte] at hx238_0); have qi238 : (4 < y235.length) = True := eq_true (by omega); (try rw [show ((4 : Int)).toNat = 4 from rfl] at hx238_0); replace p238 := eq_true p238; replace q238 := eq_true q238; have p57 : 0 ≤ (4 : Int) := (by omega); have q57 : (4 : Int) < ((y235.length : Int) : Int) := of_decide_eq_true (by first | (with_reducible assumption) | assumption); have qi57 : (4 < y235.length) = True := eq_true (by omega); obtain ⟨go57, co57, eo57, gb57, gl57, cl57, HG57⟩ := Kd.R_form HO237.out (by omega); (first | cases eo57 | (injection eo57 with ea_ en_ ec_; (first | subst ea_ | (injection ea_ with ea_; subst ea_)); subst ec_; clear en_)); have GB57 := Aside0.mk gb57; have GG57 := Aside0.mk HG57; clear gb57 gl57 HG57; (first | simp only [add_plain] at hx238_0 | skip); obtain ⟨hx57_0, hf57_0⟩ := Kd.R_celln 0 HO237.out (4 : Int) p57 q57; (try rw [show ((4 : Int)).toNat = 4 from rfl] at hx57_0); (try simp only [Nat.reduceMul, Nat.zero_mul, Nat.zero_add, Nat.reduceAdd] at hx57_0); (try rw [show ((4 : Int)).toNat = 4 from rfl] at hf57_0); (try simp only [Nat.reduceMul, Nat.zero_mul, Nat.zero_add, Nat.reduceAdd] at hf57_0); replace p57 := eq_true p57; replace q57 := eq_true q57; obtain ⟨hy84_, hz84_⟩ := Kd.R_celln 0 HO237.out (4 : Int) (by omega) (of_decide_eq_true (by first | (with_reducible assumption) | assumption)); (try simp only [Int.reduceToNat, Int.toNat_zero, Int.toNat_ofNat, Nat.reduceMul, Nat.zero_mul, Nat.zero_add] at hy84_ hz84_); (try rw [show ((4 : Int)).toNat = 4 from rfl] at hy84_); (try rw [show ((4 : Int)).toNat = 4 from rfl] at hz84_); have HP84 := Kd.R_putg HO237.out (4 : Int) (((rd y235 4) + a3) % 256)) | ((with_reducible refine gate_store (t := 5) (p := 90) rfl ?_); refine store_event (t := 5) (p := 90) (v := ?vo_w85) (w1 := (w81.setCell ⟨go57, (4 : Int).toNat, none⟩ (.int .u8 (((rd y235 4) + a3) % 256)))) ?hg ?ho ?hn ?hr ?_; (case ho => rfl); (case hg => rfl); (case hn => rfl); (case hr => first | (go_simp; done) | (go_simp; rfl)); intro w85 hw; have hg : w81.grownBy w85 (some go57) := (by rw [hw]; exact HP84.2); have hp_ : Kd.R (Kd.int .u8) 5 w85 w.heap.size (fun k_ => some k_ ≠ (.slice Ao82 x9_3.length co82 : Value).ownBlock) (.slice (some ⟨go57, 0, none⟩) y235.length co83) y239 := (by rw [hw, Ny239.out]; exact HP84.1); clear HP84; have n0_ := Aside0.mk (Kd.R_after (v := (.slice (some ⟨go57, 0, none⟩) y235.length co83)) (v1 := (.slice (some ⟨go57, 0, none⟩) y235.length co83)) (ok := (fun _ => True)) (by (with_reducible repeat (first | apply Kd.R_alloc | apply Kd.R_drewN | apply Kd.R_drew)); exact HO_9.out) hg (.inl rfl)); have n1_ := Aside0.mk (hp_); have n2_ := Aside0.mk ((by rw [hw]; exact below_set (HB.out) GB57.out : Below w.heap.size w w85)); clear HO_9; clear HO237; clear HB; have HO_9 := n0_; have HO237 := n1_; have HB := n2_; clear n0_ n1_ n2_; clear hg hw hp_) | ((with_reducible refine gate_callee (f := 48) rfl ?_); refine goesL_ (some 93) rfl rfl Try.func48 (by kernel_rfl) rfl #[.slice (some ⟨go57, 0, none⟩) y239.length co83] rfl (by (try simp only [List.map_toArray, List.map_cons, List.map_nil]); first | done | (rw [show y239.length = y235.length from (Kd.R_reads' HO237.out).1.symm] <;> rfl) | rfl | (simp only [List.length_drop, List.length_take]; rfl)) ?_; (with_reducible refine (head_Get.calls k3 _ _ y239 t240 t241 t242 t243 _ ?side1 ?side2 A58.out).mono ?_); (case side1 => repeat (first | exact (Kd.R_reads' HO237.out).2.2 | (with_reducible refine Kd.C_alloc ?_ _) | (with_reducible refine Kd.C_drewN ?_ _) | (with_reducible refine Kd.C_drew ?_))); (case side2 => rw [show y239.length = y235.length from (Kd.R_reads' HO237.out).1.symm]; exact (Kd.R_reads' HO237.out).2.1); rintro e w86 ⟨rfl, hb⟩; refine ⟨_, rfl, ?_⟩; have n0_ := Aside0.mk (Kd.R_below (by (with_reducible repeat (first | apply Kd.R_alloc | apply Kd.R_drewN | apply Kd.R_drew)); exact HO_9.out) hb); have n1_ := Aside0.mk (Kd.R_below (by (with_reducible repeat (first | apply Kd.R_alloc | apply Kd.R_drewN | apply Kd.R_drew)); exact HO237.out) hb); have n2_ := Aside0.mk (below_step (by repeat (first | (with_reducible first | exact HB.out | apply below_alloc | apply pw_below_drewN | apply below_drew1) | exact HB.out)) hb); clear HO_9; clear HO237; clear HB; have HO_9 := n0_; have HO237 := n1_; have HB := n2_; clear n0_ n1_ n2_; (try clear hb); (try clear hb2); (try clear hk); (try clear hi)) | ((with_reducible refine gate_dst (N := 19) rfl ?_); (try (refine gate_guard (by rfl) ?_; dsimp only)); refine box_event ?hg (N := 19) ?hd (cs := #[.int .i64 0, .int .i64 0, .int .i64 0]) (t := 64) ?hr ?_; (case hd => rfl); (case hg => rfl); (case hr => first | (go_simp; done) | (go_simp; rfl)); intro gb244 hg w87 hbox hb; have n0_ := Aside0.mk (Kd.R_below (by (with_reducible repeat (first | apply Kd.R_alloc | apply Kd.R_drewN | apply Kd.R_drew)); exact HO_9.out) hb); have n1_ := Aside0.mk (Kd.R_below (by (with_reducible repeat (first | apply Kd.R_alloc | apply Kd.R_drewN | apply Kd.R_drew)); exact HO237.out) hb); have n2_ := Aside0.mk (below_step (by repeat (first | (with_reducible first | exact HB.out | apply below_alloc | apply pw_below_drewN | apply below_drew1) | exact HB.out)) hb); have n3_ := Aside0.mk (hbox); have n4_ := Aside0.mk ((by rw [hg]; exact (below_size (by repeat (first | (with_reducible first | exact HB.out | apply below_alloc | apply pw_below_drewN | apply below_drew1) | exact HB.out))) : w.heap.size ≤ gb244)); have n5_ := Aside0.mk ((by rw [hg]; exact (below_size (by repeat (first | (with_reducible first | exact HB.out | apply below_alloc | apply pw_below_drewN | apply below_drew1) | exact HB.out))) : w.heap.size ≤ gb244)); clear HO_9; clear HO237; clear HB; have HO_9 := n0_; have HO237 := n1_; have HB := n2_; have BK244 := n3_; have GW244 := n4_; have GE244 := n5_; clear n0_ n1_ n2_ n3_ n4_ n5_; clear hb hbox hg; have hcz88_0 : w87.cell? ⟨gb244, 0, none⟩ = some (.int .i64 0) := (blk_cell BK244.out 0).trans rfl; have hcz88_1 : w87.cell? ⟨gb244, 1, none⟩ = some (.int .i64 0) := (blk_cell BK244.out 1).trans rfl; have hcz88_2 : w87.cell? ⟨gb244, 2, none⟩ = some (.int .i64 0) := (blk_cell BK244.out 2).trans rfl; have hfz88_0 := blk_frozen BK244.out 0; have hfz88_1 := blk_frozen BK244.out 1; have hfz88_2 := blk_frozen BK244.out 2) | ((with_reducible refine gate_store (t := 64) (p := 19) rfl ?_); refine store_event (t := 64) (p := 19) (v := ?vo_w89) (w1 := (((w87.setCell ⟨gb244, 0, none⟩ (.int .i64 t240)).setCell ⟨gb244, 1, none⟩ (.int .i64 t241)).setCell ⟨gb244, 2, none⟩ (.int .i64 t242))) ?hg ?ho ?hn ?hr ?_; (case ho => rfl); (case hg => rfl); (case hn => rfl); (case hr => first | (go_simp; done) | (go_simp; rfl)); intro w89 hw; have n0_ : Aside0 (Kd.R (Kd.int .u8) 5 w89 w.heap.size (fun k_ => some k_ ≠ (.slice (some ⟨go57, 0, none⟩) y235.length co83 : Value).ownBlock) (.slice Ao82 x9_3.length co82) x9_3) := ⟨(by rw [hw]; exact (by (with_reducible repeat (first | apply Kd.R_alloc | apply Kd.R_drewN | apply Kd.R_drew)); exact Kd.R_mono (Kd.R_far (p := ⟨gb244, 2, none⟩) (Kd.R_far (p := ⟨gb244, 1, none⟩) (Kd.R_far (p := ⟨gb244, 0, none⟩) (Kd.R_types HO_9.out BK244.out (by decide)) (fun _ hk => hk.2) (.int .i64 t240)) (fun _ hk => hk.2) (.int .i64 t241)) (fun _ hk => hk.2) (.int .i64 t242)) (fun _ hk => hk.1.2)))⟩; have n1_ : Aside0 (Kd.R (Kd.int .u8) 5 w89 w.heap.size (fun k_ => some k_ ≠ (.slice Ao82 x9_3.length co82 : Value).ownBlock) (.slice (some ⟨go57, 0, none⟩) y235.length co83) y239) := ⟨(by rw [hw]; exact (by (with_reducible repeat (first | apply Kd.R_alloc | apply Kd.R_drewN | apply Kd.R_drew)); exact Kd.R_mono (Kd.R_far (p := ⟨gb244, 2, none⟩) (Kd.R_far (p := ⟨gb244, 1, none⟩) (Kd.R_far (p := ⟨gb244, 0, none⟩) (Kd.R_types HO237.out BK244.out (by decide)) (fun _ hk => hk.2) (.int .i64 t240)) (fun _ hk => hk.2) (.int .i64 t241)) (fun _ hk => hk.2) (.int .i64 t242)) (fun _ hk => hk.1)))⟩; have n2_ : Aside0 (w89.heap[gb244]? = some (.cells #[.int .i64 t240, .int .i64 t241, .int .i64 t242] 64 (0, 0))) := ⟨(by rw [hw]; exact (by (with_reducible repeat (first | refine blk_drewN ?_ _ | refine blk_drew ?_ | refine blk_alloc ?_ _)); refine blk_put (cs := #[.int .i64 t240, .int .i64 t241, .int .i64 0]) ?_ 2 _ rfl; (with_reducible repeat (first | refine blk_drewN ?_ _ | refine blk_drew ?_ | refine blk_alloc ?_ _)); refine blk_put (cs := #[.int .i64 t240, .int .i64 0, .int .i64 0]) ?_ 1 _ rfl; (with_reducible repeat (first | refine blk_drewN ?_ _ | refine blk_drew ?_ | refine blk_alloc ?_ _)); refine blk_put (cs := #[.int .i64 0, .int .i64 0, .int .i64 0]) ?_ 0 _ rfl; (with_reducible repeat (first | refine blk_drewN ?_ _ | refine blk_drew ?_ | refine blk_alloc ?_ _)); exact BK244.out))⟩; have n3_ : Aside0 (Below w.heap.size w w89) := ⟨(by rw [hw]; exact (by repeat (first | (with_reducible first | exact HB.out | apply below_alloc | apply pw_below_drewN | apply below_drew1 | refine below_set ?_ GE244.out) | exact HB.out)))⟩; clear hw; clear HO_9; clear HO237; clear BK244; clear HB; have HO_9 := n0_; have HO237 := n1_; have BK244 := n2_; have HB := n3_; clear n0_ n1_ n2_ n3_; have p59 : 0 ≤ (4 : Int) := (by omega); have q59 : (4 : Int) < ((y235.length : Int) : Int) := of_decide_eq_true (by first | (with_reducible assumption) | assumption); have qi59 : (4 < y235.length) = True := eq_true (by omega); obtain ⟨hx59_0, hf59_0⟩ := Kd.R_celln 0 HO237.out (4 : Int) p59 q59; (try rw [show ((4 : Int)).toNat = 4 from rfl] at hx59_0); (try simp only [Nat.reduceMul, Nat.zero_mul, Nat.zero_add, Nat.reduceAdd] at hx59_0); (try rw [show ((4 : Int)).toNat = 4 from rfl] at hf59_0); (try simp only [Nat.reduceMul, Nat.zero_mul, Nat.zero_add, Nat.reduceAdd] at hf59_0); replace p59 := eq_true p59; replace q59 := eq_true q59; obtain ⟨hy90_, hz90_⟩ := Kd.R_celln 0 HO237.out (4 : Int) (by omega) (of_decide_eq_true (by first | (with_reducible assumption) | assumption)); (try simp only [Int.reduceToNat, Int.toNat_zero, Int.toNat_ofNat, Nat.reduceMul, Nat.zero_mul, Nat.zero_add] at hy90_ hz90_); (try rw [show ((4 : Int)).toNat = 4 from rfl] at hy90_); (try rw [show ((4 : Int)).toNat = 4 from rfl] at hz90_); have HP90 := Kd.R_putg HO237.out (4 : Int) 0) | ((with_reducible refine gate_store (t := 5) (p := 100) rfl ?_); refine store_event (t := 5) (p := 100) (v := ?vo_w91) (w1 := (w89.setCell ⟨go57, (4 : Int).toNat, none⟩ (.int .u8 0))) ?hg ?ho ?hn ?hr ?_; (case ho => rfl); (case hg => rfl); (case hn => rfl); (case hr => first | (go_simp; done) | (go_simp; rfl)); intro w91 hw; have hg : w89.grownBy w91 (some go57) := (by rw [hw]; exact HP90.2); have hp_ : Kd.R (Kd.int .u8) 5 w91 w.heap.size (fun k_ => some k_ ≠ (.slice Ao82 x9_3.length co82 : Value).ownBlock) (.slice (some ⟨go57, 0, none⟩) y235.length co83) y245 := (by rw [hw, Ny245.out]; exact HP90.1); clear HP90; have n0_ := Aside0.mk (Kd.R_after (v := (.slice (some ⟨go57, 0, none⟩) y235.length co83)) (v1 := (.slice (some ⟨go57, 0, none⟩) y235.length co83)) (ok := (fun _ => True)) (by (with_reducible repeat (first | apply Kd.R_alloc | apply Kd.R_drewN | apply Kd.R_drew)); exact Kd.R_mono HO_9.out (fun _ hk => ⟨trivial, hk⟩)) hg (.inl rfl)); have n1_ := Aside0.mk (hp_); have n2_ := Aside0.mk (blk_grown (g := gb244) (o := .cells #[.int .i64 t240, .int .i64 t241, .int .i64 t242] 64 (0, 0)) (by (with_reducible repeat (first | refine blk_drewN ?_ _ | refine blk_drew ?_ | refine blk_alloc ?_ _)); exact BK244.out) hg (Kd.R_ne HO237.out BK244.out (by decide))); have n3_ := Aside0.mk ((by rw [hw]; exact below_set (HB.out) GB57.out : Below w.heap.size w w91)); clear HO_9; clear HO237; clear BK244; clear HB; have HO_9 := n0_; have HO237 := n1_; have BK244 := n2_; have HB := n3_; clear n0_ n1_ n2_ n3_; clear hg hw hp_; have p61 : 0 ≤ (5 : Int) := (by omega); have q61 : (5 : Int) < ((y235.length : Int) : Int) := of_decide_eq_true (by first | (with_reducible assumption) | assumption); have qi61 : (5 < y235.length) = True := eq_true (by omega); obtain ⟨hx61_0, hf61_0⟩ := Kd.R_celln 0 HO237.out (5 : Int) p61 q61; (try rw [show ((5 : Int)).toNat = 5 from rfl] at hx61_0); (try simp only [Nat.reduceMul, Nat.zero_mul, Nat.zero_add, Nat.reduceAdd] at hx61_0); (try rw [show ((5 : Int)).toNat = 5 from rfl] at hf61_0); (try simp only [Nat.reduceMul, Nat.zero_mul, Nat.zero_add, Nat.reduceAdd] at hf61_0); replace p61 := eq_true p61; replace q61 := eq_true q61; obtain ⟨hy92_, hz92_⟩ := Kd.R_celln 0 HO237.out (5 : Int) (by omega) (of_decide_eq_true (by first | (with_reducible assumption) | assumption)); (try simp only [Int.reduceToNat, Int.toNat_zero, Int.toNat_ofNat, Nat.reduceMul, Nat.zero_mul, Nat.zero_add] at hy92_ hz92_); (try rw [show ((5 : Int)).toNat = 5 from rfl] at hy92_); (try rw [show ((5 : Int)).toNat = 5 from rfl] at hz92_); have HP92 := Kd.R_putg HO237.out (5 : Int) (Int.tmod a3 2)) | ((with_reducible refine gate_store (t := 5) (p := 101) rfl ?_); refine store_event (t := 5) (p := 101) (v := ?vo_w93) (w1 := (w91.setCell ⟨go57, (5 : Int).toNat, none⟩ (.int .u8 (Int.tmod a3 2)))) ?hg ?ho ?hn ?hr ?_; (case ho => rfl); (case hg => rfl); (case hn => rfl); (case hr => first | (go_simp; done) | (go_simp; rfl)); intro w93 hw; have hg : w91.grownBy w93 (some go57) := (by rw [hw]; exact HP92.2); have hp_ : Kd.R (Kd.int .u8) 5 w93 w.heap.size (fun k_ => some k_ ≠ (.slice Ao82 x9_3.length co82 : Value).ownBlock) (.slice (some ⟨go57, 0, none⟩) y235.length co83) y246 := (by rw [hw, Ny246.out]; exact HP92.1); clear HP92; have n0_ := Aside0.mk (Kd.R_after (v := (.slice (some ⟨go57, 0, none⟩) y235.length co83)) (v1 := (.slice (some ⟨go57, 0, none⟩) y235.length co83)) (ok := (fun _ => True)) (by (with_reducible repeat (first | apply Kd.R_alloc | apply Kd.R_drewN | apply Kd.R_drew)); exact HO_9.out) hg (.inl rfl)); have n1_ := Aside0.mk (hp_); have n2_ := Aside0.mk (blk_grown (g := gb244) (o := .cells #[.int .i64 t240, .int .i64 t241, .int .i64 t242] 64 (0, 0)) (by (with_reducible repeat (first | refine blk_drewN ?_ _ | refine blk_drew ?_ | refine blk_alloc ?_ _)); exact BK244.out) hg (Kd.R_ne HO237.out BK244.out (by decide))); have n3_ := Aside0.mk ((by rw [hw]; exact below_set (HB.out) GB57.out : Below w.heap.size w w93)); clear HO_9; clear HO237; clear BK244; clear HB; have HO_9 := n0_; have HO237 := n1_; have BK244 := n2_; have HB := n3_; clear n0_ n1_ n2_ n3_; clear hg hw hp_) | ((with_reducible refine gate_callee (f := 48) rfl ?_); refine goesL_ (some 104) rfl rfl Try.func48 (by kernel_rfl) rfl #[.slice (some ⟨go57, 0, none⟩) y246.length co83] rfl (by (try simp only [List.map_toArray, List.map_cons, List.map_nil]); first | done | (rw [show y246.length = y235.length from (Kd.R_reads' HO237.out).1.symm] <;> rfl) | rfl | (simp only [List.length_drop, List.length_take]; rfl)) ?_; (with_reducible refine (head_Get.calls k3 _ _ y246 t247 t248 t249 t250 _ ?side1 ?side2 A62.out).mono ?_); (case side1 => repeat (first | exact (Kd.R_reads' HO237.out).2.2 | (with_reducible refine Kd.C_alloc ?_ _) | (with_reducible refine Kd.C_drewN ?_ _) | (with_reducible refine Kd.C_drew ?_))); (case side2 => rw [show y246.length = y235.length from (Kd.R_reads' HO237.out).1.symm]; exact (Kd.R_reads' HO237.out).2.1); rintro e w94 ⟨rfl, hb⟩; refine ⟨_, rfl, ?_⟩; have n0_ := Aside0.mk (Kd.R_below (by (with_reducible repeat (first | apply Kd.R_alloc | apply Kd.R_drewN | apply Kd.R_drew)); exact HO_9.out) hb); have n1_ := Aside0.mk (Kd.R_below (by (with_reducible repeat (first | apply Kd.R_alloc | apply Kd.R_drewN | apply Kd.R_drew)); exact HO237.out) hb); have n2_ := Aside0.mk (blk_below (g := gb244) (o := .cells #[.int .i64 t240, .int .i64 t241, .int .i64 t242] 64 (0, 0)) (by (with_reducible repeat (first | refine blk_drewN ?_ _ | refine blk_drew ?_ | refine blk_alloc ?_ _)); exact BK244.out) hb); have n3_ := Aside0.mk (below_step (by repeat (first | (with_reducible first | exact HB.out | apply below_alloc | apply pw_below_drewN | apply below_drew1 | refine below_set ?_ GE244.out) | exact HB.out)) hb); clear HO_9; clear HO237; clear BK244; clear HB; have HO_9 := n0_; have HO237 := n1_; have BK244 := n2_; have HB := n3_; clear n0_ n1_ n2_ n3_; (try clear hb); (try clear hb2); (try clear hk); (try clear hi)) | ((with_reducible refine gate_dst (N := 21) rfl ?_); (try (refine gate_guard (by rfl) ?_; dsimp only)); refine box_event ?hg (N := 21) ?hd (cs := #[.int .i64 0, .int .i64 0, .int .i64 0]) (t := 64) ?hr ?_; (case hd => rfl); (case hg => rfl); (case hr => first | (go_simp; done) | (go_simp; rfl)); intro gb251 hg w95 hbox hb; have n0_ := Aside0.mk (Kd.R_below (by (with_reducible repeat (first | apply Kd.R_alloc | apply Kd.R_drewN | apply Kd.R_drew)); exact HO_9.out) hb); have n1_ := Aside0.mk (Kd.R_below (by (with_reducible repeat (first | apply Kd.R_alloc | apply Kd.R_drewN | apply Kd.R_drew)); exact HO237.out) hb); have n2_ := Aside0.mk (blk_below (g := gb244) (o := .cells #[.int .i64 t240, .int .i64 t241, .int .i64 t242] 64 (0, 0)) (by (with_reducible repeat (first | refine blk_drewN ?_ _ | refine blk_drew ?_ | refine blk_alloc ?_ _)); exact BK244.out) hb); have n3_ := Aside0.mk (below_step (by repeat (first | (with_reducible first | exact HB.out | apply below_alloc | apply pw_below_drewN | apply below_drew1 | refine below_set ?_ GE244.out) | exact HB.out)) hb); have n4_ := Aside0.mk (hbox); have n5_ := Aside0.mk ((by rw [hg]; exact (below_size (by repeat (first | (with_reducible first | exact HB.out | apply below_alloc | apply pw_below_drewN | apply below_drew1 | refine below_set ?_ GE244.out) | exact HB.out))) : w.heap.size ≤ gb251)); have n6_ := Aside0.mk ((by rw [hg]; exact (below_size (by repeat (first | (with_reducible first | exact HB.out | apply below_alloc | apply pw_below_drewN | apply below_drew1 | refine below_set ?_ GE244.out) | exact HB.out))) : w.heap.size ≤ gb251)); have n7_ := Aside0.mk ((by rw [hg]; exact Nat.ne_of_lt (blk_lt (g := gb244) (o := .cells #[.int .i64 t240, .int .i64 t241, .int .i64 t242] 64 (0, 0)) (by (with_reducible repeat (first | refine blk_drewN ?_ _ | refine blk_drew ?_ | refine blk_alloc ?_ _)); exact BK244.out)) : gb244 ≠ gb251)); have n8_ := Aside0.mk ((by rw [hg]; exact Nat.ne_of_gt (blk_lt (g := gb244) (o := .cells #[.int .i64 t240, .int .i64 t241, .int .i64 t242] 64 (0, 0)) (by (with_reducible repeat (first | refine blk_drewN ?_ _ | refine blk_drew ?_ | refine blk_alloc ?_ _)); exact BK244.out)) : gb251 ≠ gb244)); clear HO_9; clear HO237; clear BK244; clear HB; have HO_9 := n0_; have HO237 := n1_; have BK244 := n2_; have HB := n3_; have BK251 := n4_; have GW251 := n5_; have GE251 := n6_; have NB244_251 := n7_; have NB251_244 := n8_; clear n0_ n1_ n2_ n3_ n4_ n5_ n6_ n7_ n8_; clear hb hbox hg; have hnb96 := NB251_244.out; have hnc96 := NB244_251.out; have hcz97_0 : w95.cell? ⟨gb251, 0, none⟩ = some (.int .i64 0) := (blk_cell BK251.out 0).trans rfl; have hcz97_1 : w95.cell? ⟨gb251, 1, none⟩ = some (.int .i64 0) := (blk_cell BK251.out 1).trans rfl; have hcz97_2 : w95.cell? ⟨gb251, 2, none⟩ = some (.int .i64 0) := (blk_cell BK251.out 2).trans rfl; have hfz97_0 := blk_frozen BK251.out 0; have hfz97_1 := blk_frozen BK251.out 1; have hfz97_2 := blk_frozen BK251.out 2))
                              go_ret
                              exact ⟨by first | rfl | (simp [errW_none, errW_some] <;> rfl) | (simp [*, errW_none, errW_some] <;> rfl), by repeat (first | (with_reducible first | exact HB.out | apply below_alloc | apply pw_below_drewN | apply below_drew1 | refine below_set ?_ GE244.out | refine below_set ?_ GE251.out) | exact HB.out)⟩
                          · rw [if_neg c60] at H
                            exact absurd H (by simp)
                        · rw [if_neg c56] at H
                          exact absurd H (by simp)
                      · rw [if_neg c55] at H
                        exact absurd H (by simp)
  · replace c6 := Bool.eq_false_iff.mpr c6
    subst c6
    have H1 : (some false) = some r := by rw [if_neg (show ¬ (false = true) by decide)] at H; exact H
    clear H
    have H := H1
    clear H1
    obtain rfl := Option.some.inj H
    go_enter Try.func14, Try.ntmps14
    go_wp2_with (first | ((with_reducible refine gate_callee (f := 45) rfl ?_); refine goesL_ (some 23) rfl rfl Try.func45 (by kernel_rfl) rfl #[] rfl (by (try simp only [List.map_toArray, List.map_cons, List.map_nil]); first | done | rfl | (simp only [List.length_drop, List.length_take]; rfl)) ?_; (with_reducible refine (busbarlaw4_awake.calls k  false _ A5.out).mono ?_); rintro e w98 ⟨rfl, hb⟩; refine ⟨_, rfl, ?_⟩; have n0_ := Aside0.mk (below_step (by repeat (first | (with_reducible first | exact HB.out | apply below_alloc | apply pw_below_drewN | apply below_drew1) | exact HB.out)) hb); clear HB; have HB := n0_; clear n0_; (try clear hb); (try clear hb2); (try clear hk); (try clear hi)))
    go_ret
    exact ⟨by first | rfl | (simp [errW_none, errW_some] <;> rfl) | (simp [*, errW_none, errW_some] <;> rfl), by repeat (first | (with_reducible first | exact HB.out | apply below_alloc | apply pw_below_drewN | apply below_drew1) | exact HB.out)⟩

/-- THE ONE PURE STATEMENT of busbarlaw4_HeadFronts: yours. -/
def busbarlaw4_HeadFronts.Pure : Prop := ∀ (a0 : Int) (a1 : Int) (a2 : Int) (a3 : Int), (Lit.int .i64 a0).wf = true → (Lit.int .i64 a1).wf = true → (Lit.int .i64 a2).wf = true → (Lit.int .u8 a3).wf = true → ∃ k, busbarlaw4_HeadFronts.f k a0 a1 a2 a3 = some true
theorem busbarlaw4_HeadFronts.walk (P : busbarlaw4_HeadFronts.Pure) (a0 : Int) (a1 : Int) (a2 : Int) (a3 : Int) (w : World) (w0 : (Lit.int .i64 a0).wf = true) (w1 : (Lit.int .i64 a1).wf = true) (w2 : (Lit.int .i64 a2).wf = true) (w3 : (Lit.int .u8 a3).wf = true) :
    Calls Try.prog 14 #[.int .i64 a0, .int .i64 a1, .int .i64 a2, .int .u8 a3] w fun e w' => e = .returned (.bool true) ∧ Below w.heap.size w w' := by
  obtain ⟨k, h⟩ := P a0 a1 a2 a3 w0 w1 w2 w3
  refine (busbarlaw4_HeadFronts.calls k a0 a1 a2 a3 true w h).mono ?_
  rintro e w' ⟨rfl, hd⟩
  exact ⟨rfl, hd⟩

-- NOT PRINTED: function 17 (busbarlaw0_LentBytes)

-- NOT PRINTED: function 22 (busbarlaw0_StaysBytes)

end Go.Proofs.Ytkfdombneaikfaa.PHead
