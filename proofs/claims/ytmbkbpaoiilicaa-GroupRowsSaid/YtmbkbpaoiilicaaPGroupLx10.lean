-- written by a program of this session (wip/pp) over the kit's print.py; Lean checks it
import Derived.Test.YtmbkbpaoiilicaaPGroupLx0
import Derived.Test.YtmbkbpaoiilicaaPGroupLx6
import Derived.Test.YtmbkbpaoiilicaaPGroupLx8
import Derived.Test.YtmbkbpaoiilicaaPGroupLx9
namespace Go.Proofs.Ytmbkbpaoiilicaa.PGroupL
open Go.RowKit Go.Proofs.YtmbkbpaoiilicaaW.PrintWords Go.Proofs.YtmbkbpaoiilicaaW.PrintLast Go.Proofs.YtmbkbpaoiilicaaW.PrintMore
attribute [local go_sem] max2_int min2_int max_two min_two max_three min_three max_four min_four plus_setCell_drewN plus_cell_same   -- for this text's walks alone
set_option linter.unusedVariables false
set_option linter.unusedSimpArgs false

/-! ### busbarlaw14_GroupRows: function 3 -/
mutual
def busbarlaw14_GroupRows.j0 : Nat → Int → Int → List (S30) → Option (Bool)
 | 0, _, _, _ => none
 | k + 1, x1, x2, x7 => (busbarlaw0_Within.f x1 (x7.length : Int)).bind fun t169 => ((busbarlaw0_Within.f x2 (x7.length : Int)).bind fun t170 => (if 0 ≤ (mn t169 t170) then (if (mn t169 t170) < (x7.length : Int) then (if 0 ≤ (mx t169 t170) then (if (mx t169 t170) < (x7.length : Int) then (if ((rd_T30 x7 (mn t169 t170)).f0) = ((rd_T30 x7 (mx t169 t170)).f0) then (busbarlaw14_GroupRows.j1 k x7 ((rd_T30 x7 (mn t169 t170)).f0) ((rd_T30 x7 (mn t169 t170)).f1) ((rd_T30 x7 (mn t169 t170)).f2) ((rd_T30 x7 (mx t169 t170)).f0) ((rd_T30 x7 (mx t169 t170)).f1) ((rd_T30 x7 (mx t169 t170)).f2)) else (some true)) else (none)) else (none)) else (none)) else (none)))
def busbarlaw14_GroupRows.j1 : Nat → List (S30) → Int → Int → Int → Int → Int → Int → Option (Bool)
 | 0, _, _, _, _, _, _, _ => none
 | k + 1, x7, x174000, x174001, x174002, x175000, x175001, x175002 => (group_Splits.f k x7 x174000 x174001 (wrap64 (x175001 + x175002))).bind fun t178 => (if t178 = true then (some false) else ((group_Splits.f k x7 x174000 (wrap64 (x174001 + 1)) (wrap64 (x175001 + x175002))).bind fun t179 => (if t179 = true then ((group_Splits.f k x7 x174000 x174001 (wrap64 ((wrap64 (x175001 + x175002)) - 1))).bind fun t180 => (some t180)) else (some false))))
end
def busbarlaw14_GroupRows.f (k : Nat) (l0 : List Int) (a1 : Int) (a2 : Int) : Option (Bool) := (busbarlaw14_awake.f k).bind fun t162 => (if t162 = true then ((busbarlaw14_All.f k l0).bind fun bt163 => (if (bt163.1.length : Int) = 0 then (some true) else (busbarlaw14_GroupRows.j0 k a1 a2 bt163.1))) else (some false))
theorem busbarlaw14_GroupRows.mono_l : ∀ k, (∀ y0 y1 y2, LeO (busbarlaw14_GroupRows.j0 k y0 y1 y2) (busbarlaw14_GroupRows.j0 (k + 1) y0 y1 y2)) ∧ (∀ y0 y1 y2 y3 y4 y5 y6, LeO (busbarlaw14_GroupRows.j1 k y0 y1 y2 y3 y4 y5 y6) (busbarlaw14_GroupRows.j1 (k + 1) y0 y1 y2 y3 y4 y5 y6))
 | 0 => ⟨fun _ _ _ r h => by simp [busbarlaw14_GroupRows.j0] at h, fun _ _ _ _ _ _ _ r h => by simp [busbarlaw14_GroupRows.j1] at h⟩
 | k + 1 => by
  obtain ⟨ih0, ih1⟩ := busbarlaw14_GroupRows.mono_l k
  refine ⟨?_, ?_⟩
  ·
   intro y0 y1 y2
   unfold busbarlaw14_GroupRows.j0
   repeat' first
   | (with_reducible exact ih0 _ _ _)
   | (with_reducible exact ih1 _ _ _ _ _ _ _)
   | (with_reducible exact busbarlaw14_All.mono _ _)
   | (with_reducible exact busbarlaw14_awake.mono _)
   | (with_reducible exact group_Splits.mono _ _ _ _ _)
   | (with_reducible exact LeO.refl _)
   | (with_reducible exact LeO.none _)
   | (with_reducible refine LeO.ite ?_ ?_)
   | (with_reducible refine LeO.bind ?_ (fun _ => ?_))
   | exact ih0 _ _ _
   | exact ih1 _ _ _ _ _ _ _
   | exact busbarlaw14_All.mono _ _
   | exact busbarlaw14_awake.mono _
   | exact group_Splits.mono _ _ _ _ _
   | exact LeO.none _
   | refine LeO.ite ?_ ?_
   | refine LeO.bind ?_ (fun _ => ?_)
  ·
   intro y0 y1 y2 y3 y4 y5 y6
   unfold busbarlaw14_GroupRows.j1
   repeat' first
   | (with_reducible exact ih0 _ _ _)
   | (with_reducible exact ih1 _ _ _ _ _ _ _)
   | (with_reducible exact busbarlaw14_All.mono _ _)
   | (with_reducible exact busbarlaw14_awake.mono _)
   | (with_reducible exact group_Splits.mono _ _ _ _ _)
   | (with_reducible exact LeO.refl _)
   | (with_reducible exact LeO.none _)
   | (with_reducible refine LeO.ite ?_ ?_)
   | (with_reducible refine LeO.bind ?_ (fun _ => ?_))
   | exact ih0 _ _ _
   | exact ih1 _ _ _ _ _ _ _
   | exact busbarlaw14_All.mono _ _
   | exact busbarlaw14_awake.mono _
   | exact group_Splits.mono _ _ _ _ _
   | exact LeO.none _
   | refine LeO.ite ?_ ?_
   | refine LeO.bind ?_ (fun _ => ?_)
theorem busbarlaw14_GroupRows.mono : ∀ a0 a1 a2 k, LeO (busbarlaw14_GroupRows.f k a0 a1 a2) (busbarlaw14_GroupRows.f (k + 1) a0 a1 a2) := by
 intro a0 a1 a2 k
 obtain ⟨ih0, ih1⟩ := busbarlaw14_GroupRows.mono_l k
 unfold busbarlaw14_GroupRows.f
 repeat' first
   | (with_reducible exact ih0 _ _ _)
   | (with_reducible exact ih1 _ _ _ _ _ _ _)
   | (with_reducible exact busbarlaw14_All.mono _ _)
   | (with_reducible exact busbarlaw14_awake.mono _)
   | (with_reducible exact group_Splits.mono _ _ _ _ _)
   | (with_reducible exact LeO.refl _)
   | (with_reducible exact LeO.none _)
   | (with_reducible refine LeO.ite ?_ ?_)
   | (with_reducible refine LeO.bind ?_ (fun _ => ?_))
   | exact ih0 _ _ _
   | exact ih1 _ _ _ _ _ _ _
   | exact busbarlaw14_All.mono _ _
   | exact busbarlaw14_awake.mono _
   | exact group_Splits.mono _ _ _ _ _
   | exact LeO.none _
   | refine LeO.ite ?_ ?_
   | refine LeO.bind ?_ (fun _ => ?_)
def busbarlaw14_GroupRows.T7 : Bool × List (List Nat × List Nat) := (true, [([], []), ([], []), ([], []), ([1, 2], [1, 2]), ([0, 3], [0, 3]), ([4], [4]), ([], []), ([], []), ([], []), ([7, 8], [7, 8]), ([6, 9], [6, 9]), ([10], [10]), ([], []), ([], []), ([12, 5, 0, 1, 2, 3, 4, 5, 12, 13], [5, 12]), ([13, 11, 14, 0, 1, 2, 3, 4, 5, 6, 7, 8, 9, 10, 11, 12, 13, 14], [11, 13])])
def busbarlaw14_GroupRows.B7 : List Nat := [0, 0, 0, 6, 15, 31, 0, 0, 0, 384, 960, 1984, 0, 0, 12351, 32767]
theorem busbarlaw14_GroupRows.tab7 : rtab .any (opsOf Try.f3 7) = busbarlaw14_GroupRows.T7 := by kernel_rfl
theorem busbarlaw14_GroupRows.bits7 : waitsOk busbarlaw14_GroupRows.T7.2 busbarlaw14_GroupRows.B7 = true := by kernel_rfl
set_option maxHeartbeats 8000000 in
set_option maxRecDepth 100000 in
theorem busbarlaw14_GroupRows.calls (k : Nat) (A0 : Option Addr) (c0 : Nat) (l0 : List Int) (a1 : Int) (a2 : Int) (r : Bool) (w : World) (hr0 : Kd.C (Kd.int .i64) w A0 l0.length l0) (hc0 : l0.length ≤ c0) (h : busbarlaw14_GroupRows.f k l0 a1 a2 = some r) :
  Calls Try.prog 3 #[.slice A0 l0.length c0, .int .i64 a1, .int .i64 a2] w fun e w' => e = .returned (.bool r) ∧ Below w.heap.size w w' := by
 have hu30 := Try.underlying30
 have hu32 := Try.underlying32
 have HR0 := Aside0.mk hr0
 have HC0 := Aside0.mk hc0
 clear hr0 hc0
 have HB := Aside0.mk (Below.refl w.heap.size w)
 have H : ((busbarlaw14_awake.f k).bind fun t162 => (if t162 = true then ((busbarlaw14_All.f k l0).bind fun bt163 => (if (bt163.1.length : Int) = 0 then (some true) else (busbarlaw14_GroupRows.j0 k a1 a2 bt163.1))) else (some false))) = some r := h
 clear h
 replace H := Option.bind_eq_some_iff.mp H
 obtain ⟨t162, A40, H⟩ := H
 replace H : (if t162 = true then ((busbarlaw14_All.f k l0).bind fun bt163 => (if (bt163.1.length : Int) = 0 then (some true) else (busbarlaw14_GroupRows.j0 k a1 a2 bt163.1))) else (some false)) = some r := H
 have A4 := Aside0.mk A40
 clear A40
 by_cases c5 : t162 = true
 ·
  subst c5
  have H1 : ((busbarlaw14_All.f k l0).bind fun bt163 => (if (bt163.1.length : Int) = 0 then (some true) else (busbarlaw14_GroupRows.j0 k a1 a2 bt163.1))) = some r := by rw [if_pos rfl] at H; exact H
  clear H
  have H := H1
  clear H1
  replace H := Option.bind_eq_some_iff.mp H
  obtain ⟨⟨t163, t164⟩, A60, H⟩ := H
  replace H : (if (t163.length : Int) = 0 then (some true) else (busbarlaw14_GroupRows.j0 k a1 a2 t163)) = some r := H
  have A6 := Aside0.mk A60
  clear A60
  have HC7 := Aside0.mk H
  clear H
  go_enter Try.func3, Try.ntmps3
  go_upto_if 23 with (first | ((with_reducible refine gate_callee (f := 12) rfl ?_); refine goesL_ (some 14) rfl rfl Try.func12 (by kernel_rfl) rfl #[] rfl (by (try simp only [List.map_toArray, List.map_cons, List.map_nil]); first | done | rfl | (simp only [List.length_drop, List.length_take]; rfl)) ?_; (with_reducible refine (busbarlaw14_awake.calls k  true _ A4.out).mono ?_); rintro e w8 ⟨rfl, hb⟩; refine ⟨_, rfl, ?_⟩; have n0_ := Aside0.mk (below_step (by repeat (first | (with_reducible first | exact HB.out | apply below_alloc | apply pw_below_drewN | apply below_drew1) | exact HB.out)) hb); clear HB; have HB := n0_; clear n0_; (try clear hb); (try clear hb2); (try clear hk); (try clear hi)) | ((with_reducible refine gate_callee (f := 13) rfl ?_); refine goesL_ (some 18) rfl rfl Try.func13 (by kernel_rfl) rfl #[.slice A0 l0.length c0] rfl (by (try simp only [List.map_toArray, List.map_cons, List.map_nil]); first | done | rfl | (simp only [List.length_drop, List.length_take]; rfl)) ?_; (with_reducible refine (busbarlaw14_All.calls k _ _ l0 t163 t164 _ ?side1 ?side2 A6.out).mono ?_); (case side1 => repeat (first | exact (Kd.C_below HR0.out HB.out) | (with_reducible refine Kd.C_alloc ?_ _) | (with_reducible refine Kd.C_drewN ?_ _) | (with_reducible refine Kd.C_drew ?_))); (case side2 => exact HC0.out); rintro e w9 ⟨v165, v167, rfl, ho0, ho1, hb⟩; refine ⟨_, rfl, ?_⟩; have n0_ := Aside0.mk (Kd.R_lower ho0 (below_size (by repeat (first | (with_reducible first | exact HB.out | apply below_alloc | apply pw_below_drewN | apply below_drew1) | exact HB.out)))); have n1_ := Aside0.mk (Kd.R_lower ho1 (below_size (by repeat (first | (with_reducible first | exact HB.out | apply below_alloc | apply pw_below_drewN | apply below_drew1) | exact HB.out)))); have n2_ := Aside0.mk (below_step (by repeat (first | (with_reducible first | exact HB.out | apply below_alloc | apply pw_below_drewN | apply below_drew1) | exact HB.out)) hb); clear HB; have HO166 := n0_; have HO168 := n1_; have HB := n2_; clear n0_ n1_ n2_; (try clear hb); (try clear hb2); (try clear hk); (try clear hi); (try clear ho0); (try clear ho1); obtain ⟨Ao10, co10, eo10⟩ := Kd.R_slice HO166.out; subst eo10))
  (try simp only [Act.put, List.setIfInBounds_toArray, List.set_cons_zero, List.set_cons_succ])
  go_cut [] (fun wc => ∃ (kq : Nat), Aside0 (busbarlaw14_GroupRows.j0 kq a1 a2 t163 = some r) ∧ Aside0 (kq ≤ k) ∧ Aside0 (Kd.R k30 30 wc w.heap.size (fun _ => True) (.slice Ao10 t163.length co10) t163) ∧ Aside0 (Below w.heap.size w wc))
  case first =>
   have H := HC7.out
   clear HC7
   by_cases c11 : (t163.length : Int) = 0
   ·
    rw [if_pos c11] at H
    have c11b0 : ((t163.length : Int) == 0) = true := beq_iff_eq.mpr c11
    have c11b1 : ((t163.length : Int) != 0) = false := bne_eq_false_iff_eq.mpr c11
    clear c11
    (first | rw [c11b0] | (simp only [i64_w, i32_w]; rw [c11b0]) | skip)
    obtain rfl := Option.some.inj H
    go_wp2
    go_ret
    exact ⟨by first | rfl | (simp [errW_none, errW_some] <;> rfl) | (simp [*, errW_none, errW_some] <;> rfl), by repeat (first | (with_reducible first | exact HB.out | apply below_alloc | apply pw_below_drewN | apply below_drew1) | exact HB.out)⟩
   ·
    rw [if_neg c11] at H
    have c11b0 : ((t163.length : Int) == 0) = false := beq_eq_false_iff_ne.mpr c11
    have c11b1 : ((t163.length : Int) != 0) = true := bne_iff_ne.mpr c11
    have c11b2 : ¬ (t163 = []) := fun h_ => c11 (by rw [h_]; rfl)
    (first | rw [c11b0] | (simp only [i64_w, i32_w]; rw [c11b0]) | skip)
    have H' := Aside0.mk H
    clear H
    go_wp2
    go_meet
    case rel => exact ⟨_, H', ⟨by first | omega | exact Nat.le_refl _⟩, ⟨by (with_reducible repeat (first | apply Kd.R_alloc | apply Kd.R_drewN | apply Kd.R_drew)); exact HO166.out⟩, ⟨by repeat (first | (with_reducible first | exact HB.out | apply below_alloc | apply pw_below_drewN | apply below_drew1) | exact HB.out)⟩⟩
  case rest =>
   clear HC7
   try clear c1
   try clear p2
   try clear c3
   try clear c5
   try clear c11
   try clear c11b0
   try clear c11b1
   try clear c11b2
   obtain ⟨kq, HA, HJ6, HO_7, HB⟩ := hcut
   cases kq with
   | zero => exact absurd HA.out (by simp [busbarlaw14_GroupRows.j0])
   | succ kj6 =>
    have H := HA.out
    clear HA
    simp only [busbarlaw14_GroupRows.j0] at H
    replace H := Option.bind_eq_some_iff.mp H
    obtain ⟨t169, A120, H⟩ := H
    replace H : ((busbarlaw0_Within.f a2 (t163.length : Int)).bind fun t170 => (if 0 ≤ (mn t169 t170) then (if (mn t169 t170) < (t163.length : Int) then (if 0 ≤ (mx t169 t170) then (if (mx t169 t170) < (t163.length : Int) then (if ((rd_T30 t163 (mn t169 t170)).f0) = ((rd_T30 t163 (mx t169 t170)).f0) then (busbarlaw14_GroupRows.j1 kj6 t163 ((rd_T30 t163 (mn t169 t170)).f0) ((rd_T30 t163 (mn t169 t170)).f1) ((rd_T30 t163 (mn t169 t170)).f2) ((rd_T30 t163 (mx t169 t170)).f0) ((rd_T30 t163 (mx t169 t170)).f1) ((rd_T30 t163 (mx t169 t170)).f2)) else (some true)) else (none)) else (none)) else (none)) else (none))) = some r := H
    have A12 := Aside0.mk A120
    clear A120
    replace H := Option.bind_eq_some_iff.mp H
    obtain ⟨t170, A130, H⟩ := H
    replace H : (if 0 ≤ (mn t169 t170) then (if (mn t169 t170) < (t163.length : Int) then (if 0 ≤ (mx t169 t170) then (if (mx t169 t170) < (t163.length : Int) then (if ((rd_T30 t163 (mn t169 t170)).f0) = ((rd_T30 t163 (mx t169 t170)).f0) then (busbarlaw14_GroupRows.j1 kj6 t163 ((rd_T30 t163 (mn t169 t170)).f0) ((rd_T30 t163 (mn t169 t170)).f1) ((rd_T30 t163 (mn t169 t170)).f2) ((rd_T30 t163 (mx t169 t170)).f0) ((rd_T30 t163 (mx t169 t170)).f1) ((rd_T30 t163 (mx t169 t170)).f2)) else (some true)) else (none)) else (none)) else (none)) else (none)) = some r := H
    have A13 := Aside0.mk A130
    clear A130
    obtain ⟨ji14, hji14⟩ : ∃ j_ : Int, (mn t169 t170) = j_ := ⟨_, rfl⟩
    replace H : (if 0 ≤ (ji14) then (if (ji14) < (t163.length : Int) then (if 0 ≤ (mx t169 t170) then (if (mx t169 t170) < (t163.length : Int) then (if ((rd_T30 t163 (ji14)).f0) = ((rd_T30 t163 (mx t169 t170)).f0) then (busbarlaw14_GroupRows.j1 kj6 t163 ((rd_T30 t163 (ji14)).f0) ((rd_T30 t163 (ji14)).f1) ((rd_T30 t163 (ji14)).f2) ((rd_T30 t163 (mx t169 t170)).f0) ((rd_T30 t163 (mx t169 t170)).f1) ((rd_T30 t163 (mx t169 t170)).f2)) else (some true)) else (none)) else (none)) else (none)) else (none)) = some r := by first | (rw [hji14] at H; exact H) | (simp only [hji14] at H ⊢; exact H)
    (try rw [hji14] at A12)
    (try rw [hji14] at A13)
    have hji14_ : (if t170 < t169 then t170 else t169) = ji14 := hji14
    by_cases c15 : 0 ≤ (ji14)
    ·
     rw [if_pos c15] at H
     have c15b0 : decide (0 ≤ (ji14)) = true := decide_eq_true c15
     clear c15
     by_cases c16 : (ji14) < (t163.length : Int)
     ·
      rw [if_pos c16] at H
      have c16b0 : decide ((ji14) < (t163.length : Int)) = true := decide_eq_true c16
      clear c16
      obtain ⟨ji17, hji17⟩ : ∃ j_ : Int, (mx t169 t170) = j_ := ⟨_, rfl⟩
      replace H : (if 0 ≤ (ji17) then (if (ji17) < (t163.length : Int) then (if ((rd_T30 t163 (ji14)).f0) = ((rd_T30 t163 (ji17)).f0) then (busbarlaw14_GroupRows.j1 kj6 t163 ((rd_T30 t163 (ji14)).f0) ((rd_T30 t163 (ji14)).f1) ((rd_T30 t163 (ji14)).f2) ((rd_T30 t163 (ji17)).f0) ((rd_T30 t163 (ji17)).f1) ((rd_T30 t163 (ji17)).f2)) else (some true)) else (none)) else (none)) = some r := by first | (rw [hji17] at H; exact H) | (simp only [hji17] at H ⊢; exact H)
      (try rw [hji17] at A12)
      (try rw [hji17] at A13)
      have hji17_ : (if t169 < t170 then t170 else t169) = ji17 := hji17
      by_cases c18 : 0 ≤ (ji17)
      ·
       rw [if_pos c18] at H
       have c18b0 : decide (0 ≤ (ji17)) = true := decide_eq_true c18
       clear c18
       by_cases c19 : (ji17) < (t163.length : Int)
       ·
        rw [if_pos c19] at H
        have c19b0 : decide ((ji17) < (t163.length : Int)) = true := decide_eq_true c19
        clear c19
        have HC20 := Aside0.mk H
        clear H
        try go_wp2_with (first | ((with_reducible refine gate_callee (f := 14) rfl ?_); refine goesL_ (some 27) rfl rfl Try.func14 (by kernel_rfl) rfl #[.int .i64 a1, .int .i64 (t163.length : Int)] rfl (by (try simp only [List.map_toArray, List.map_cons, List.map_nil]); first | done | rfl | (simp only [List.length_drop, List.length_take]; rfl)) ?_; (with_reducible refine (busbarlaw0_Within.calls a1 (t163.length : Int) t169 _ A12.out).mono ?_); rintro e w' ⟨rfl, ⟨nd, rfl⟩⟩; refine ⟨_, rfl, ?_⟩; (try (rw [drewN_self wc]; generalize hq_ : World.drewN wc _ = wc; have n0_ : Aside0 (Kd.R k30 30 wc w.heap.size (fun _ => True) (.slice Ao10 t163.length co10) t163) := ⟨by rw [← hq_]; exact (by (with_reducible repeat (first | apply Kd.R_alloc | apply Kd.R_drewN | apply Kd.R_drew)); exact HO_7.out)⟩; have n1_ : Aside0 (Below w.heap.size w wc) := ⟨by rw [← hq_]; exact (by repeat (first | (with_reducible first | exact HB.out | apply below_alloc | apply pw_below_drewN | apply below_drew1) | exact HB.out))⟩; clear HO_7 HB hq_; have HO_7 := n0_; have HB := n1_; clear n0_ n1_))) | ((with_reducible refine gate_callee (f := 14) rfl ?_); refine goesL_ (some 31) rfl rfl Try.func14 (by kernel_rfl) rfl #[.int .i64 a2, .int .i64 (t163.length : Int)] rfl (by (try simp only [List.map_toArray, List.map_cons, List.map_nil]); first | done | rfl | (simp only [List.length_drop, List.length_take]; rfl)) ?_; (with_reducible refine (busbarlaw0_Within.calls a2 (t163.length : Int) t170 _ A13.out).mono ?_); rintro e w' ⟨rfl, ⟨nd, rfl⟩⟩; refine ⟨_, rfl, ?_⟩; (try (rw [drewN_self wc]; generalize hq_ : World.drewN wc _ = wc; have n0_ : Aside0 (Kd.R k30 30 wc w.heap.size (fun _ => True) (.slice Ao10 t163.length co10) t163) := ⟨by rw [← hq_]; exact (by (with_reducible repeat (first | apply Kd.R_alloc | apply Kd.R_drewN | apply Kd.R_drew)); exact HO_7.out)⟩; have n1_ : Aside0 (Below w.heap.size w wc) := ⟨by rw [← hq_]; exact (by repeat (first | (with_reducible first | exact HB.out | apply below_alloc | apply pw_below_drewN | apply below_drew1) | exact HB.out))⟩; clear HO_7 HB hq_; have HO_7 := n0_; have HB := n1_; clear n0_ n1_))))
        have n0_ := Aside0.mk (Kd.R_drew HO_7.out)
        have n1_ := Aside0.mk (below_drew1 HB.out)
        clear HO_7
        clear HB
        have HO_7 := n0_
        have HB := n1_
        clear n0_ n1_
        have p171 : 0 ≤ ((ji14) : Int) := of_decide_eq_true (by first | (with_reducible assumption) | assumption)
        have q171 : (ji14) < (t163.length : Int) := of_decide_eq_true (by first | (with_reducible assumption) | assumption)
        obtain ⟨ad171, e171, hx171_0, hx171_1, hx171_2⟩ := at_T30 (Kd.R_reads' HO_7.out).2.2 (ji14) p171 q171
        cases e171
        replace p171 := eq_true p171
        replace q171 := eq_true q171
        have p172 : 0 ≤ ((ji17) : Int) := of_decide_eq_true (by first | (with_reducible assumption) | assumption)
        have q172 : (ji17) < (t163.length : Int) := of_decide_eq_true (by first | (with_reducible assumption) | assumption)
        obtain ⟨ad172, e172, hx172_0, hx172_1, hx172_2⟩ := at_T30 (Kd.R_reads' HO_7.out).2.2 (ji17) p172 q172
        obtain rfl : ad171 = ad172 := (by injection e172)
        replace p172 := eq_true p172
        replace q172 := eq_true q172
        refine start_ (n := 16) (S := fun w' => w'.cell? (ad171.add (((ji14)).toNat * 3)) = some (.int .i64 ((rd_T30 t163 (ji14)).f0)) ∧ w'.cell? ⟨(ad171.add (((ji14)).toNat * 3)).block, (ad171.add (((ji14)).toNat * 3)).off + 1, none⟩ = some (.int .i64 ((rd_T30 t163 (ji14)).f1)) ∧ w'.cell? ⟨(ad171.add (((ji14)).toNat * 3)).block, (ad171.add (((ji14)).toNat * 3)).off + 2, none⟩ = some (.int .i64 ((rd_T30 t163 (ji14)).f2)) ∧ w'.cell? (ad171.add (((ji17)).toNat * 3)) = some (.int .i64 ((rd_T30 t163 (ji17)).f0)) ∧ w'.cell? ⟨(ad171.add (((ji17)).toNat * 3)).block, (ad171.add (((ji17)).toNat * 3)).off + 1, none⟩ = some (.int .i64 ((rd_T30 t163 (ji17)).f1)) ∧ w'.cell? ⟨(ad171.add (((ji17)).toNat * 3)).block, (ad171.add (((ji17)).toNat * 3)).off + 2, none⟩ = some (.int .i64 ((rd_T30 t163 (ji17)).f2))) (ds := []) #[false, false, false, false, false, false, false, false, false, false, false, false, false, false, false, false] (by kernel_rfl) rfl rfl ⟨hx171_0, hx171_1, hx171_2, hx172_0, hx172_1, hx172_2⟩ (fun hHeld => ?_); refine with_tabW busbarlaw14_GroupRows.tab7 busbarlaw14_GroupRows.bits7 (fun HT_ HW_ => ?_)
        generalize wc.drew = w21 at HO_7 HB hx171_0 hx171_1 hx171_2 hx172_0 hx172_1 hx172_2 hHeld ⊢
        refine pure_ (i := 0) (N := some 32) (v := ?_) (a' := ?_) #[true, false, false, false, false, false, false, false, false, false, false, false, false, false, false, false] rfl rfl (any_of HT_.out (by kernel_rfl)) (fun _ _ _ h => h) (Or.inl ⟨by rfl, ?_⟩) ?_ ?_
        rotate_left
        ·
         intro w'
         go_simp
         with_reducible rfl
        rotate_left
        ·
         simp only [Act.put, List.setIfInBounds_toArray, List.set_cons_zero, List.set_cons_succ, i64_w, i32_w]
         rfl
        refine pure_ (i := 1) (N := some 33) (v := ?_) (a' := ?_) #[true, true, false, false, false, false, false, false, false, false, false, false, false, false, false, false] rfl rfl (any_of HT_.out (by kernel_rfl)) (fun _ _ _ h => h) (Or.inl ⟨by rfl, ?_⟩) ?_ ?_
        rotate_left
        ·
         intro w'
         go_simp
         with_reducible rfl
        rotate_left
        ·
         simp only [Act.put, List.setIfInBounds_toArray, List.set_cons_zero, List.set_cons_succ, i64_w, i32_w]
         rfl
        refine pure_ (i := 2) (N := some 34) (v := ?_) (a' := ?_) #[true, true, true, false, false, false, false, false, false, false, false, false, false, false, false, false] rfl rfl (any_of HT_.out (by kernel_rfl)) (fun _ _ _ h => h) (Or.inl ⟨by rfl, ?_⟩) ?_ ?_
        rotate_left
        ·
         intro w'
         go_simp
         with_reducible rfl
        rotate_left
        ·
         simp only [Act.put, List.setIfInBounds_toArray, List.set_cons_zero, List.set_cons_succ, i64_w, i32_w]
         rfl
        refine pure_ (i := 3) (N := some 35) (v := ?_) (a' := ?_) #[true, true, true, true, false, false, false, false, false, false, false, false, false, false, false, false] rfl rfl (any_of HT_.out (by kernel_rfl)) (fun _ _ _ h => h) (Or.inl ⟨by rfl, ?_⟩) ?_ ?_
        rotate_left
        ·
         intro w'
         go_simp
         with_reducible rfl
        rotate_left
        ·
         simp only [Act.put, List.setIfInBounds_toArray, List.set_cons_zero, List.set_cons_succ, i64_w, i32_w]
         rfl
        refine pure_ (i := 4) (N := some 36) (v := ?_) (a' := ?_) #[true, true, true, true, true, false, false, false, false, false, false, false, false, false, false, false] rfl rfl (any_of HT_.out (by kernel_rfl)) (fun _ _ _ h => h) (Or.inl ⟨by rfl, ?_⟩) ?_ ?_
        rotate_left
        ·
         intro w'
         go_simp
         with_reducible rfl
        rotate_left
        ·
         simp only [Act.put, List.setIfInBounds_toArray, List.set_cons_zero, List.set_cons_succ, i64_w, i32_w]
         rfl
        refine pure_ (i := 6) (N := some 38) (v := ?_) (a' := ?_) #[true, true, true, true, true, false, true, false, false, false, false, false, false, false, false, false] rfl rfl (any_of HT_.out (by kernel_rfl)) (fun _ _ _ h => h) (Or.inl ⟨by rfl, ?_⟩) ?_ ?_
        rotate_left
        ·
         intro w'
         go_simp
         with_reducible rfl
        rotate_left
        ·
         simp only [Act.put, List.setIfInBounds_toArray, List.set_cons_zero, List.set_cons_succ, i64_w, i32_w]
         rfl
        refine pure_ (i := 7) (N := some 39) (v := ?_) (a' := ?_) #[true, true, true, true, true, false, true, true, false, false, false, false, false, false, false, false] rfl rfl (any_of HT_.out (by kernel_rfl)) (fun _ _ _ h => h) (Or.inl ⟨by rfl, ?_⟩) ?_ ?_
        rotate_left
        ·
         intro w'
         go_simp
         with_reducible rfl
        rotate_left
        ·
         simp only [Act.put, List.setIfInBounds_toArray, List.set_cons_zero, List.set_cons_succ, i64_w, i32_w]
         rfl
        refine pure_ (i := 8) (N := some 40) (v := ?_) (a' := ?_) #[true, true, true, true, true, false, true, true, true, false, false, false, false, false, false, false] rfl rfl (any_of HT_.out (by kernel_rfl)) (fun _ _ _ h => h) (Or.inl ⟨by rfl, ?_⟩) ?_ ?_
        rotate_left
        ·
         intro w'
         go_simp
         with_reducible rfl
        rotate_left
        ·
         simp only [Act.put, List.setIfInBounds_toArray, List.set_cons_zero, List.set_cons_succ, i64_w, i32_w]
         rfl
        refine pure_ (i := 9) (N := some 41) (v := ?_) (a' := ?_) #[true, true, true, true, true, false, true, true, true, true, false, false, false, false, false, false] rfl rfl (any_of HT_.out (by kernel_rfl)) (fun _ _ _ h => h) (Or.inl ⟨by rfl, ?_⟩) ?_ ?_
        rotate_left
        ·
         intro w'
         go_simp
         with_reducible rfl
        rotate_left
        ·
         simp only [Act.put, List.setIfInBounds_toArray, List.set_cons_zero, List.set_cons_succ, i64_w, i32_w]
         rfl
        refine pure_ (i := 10) (N := some 42) (v := ?_) (a' := ?_) #[true, true, true, true, true, false, true, true, true, true, true, false, false, false, false, false] rfl rfl (any_of HT_.out (by kernel_rfl)) (fun _ _ _ h => h) (Or.inl ⟨by rfl, ?_⟩) ?_ ?_
        rotate_left
        ·
         intro w'
         go_simp
         with_reducible rfl
        rotate_left
        ·
         simp only [Act.put, List.setIfInBounds_toArray, List.set_cons_zero, List.set_cons_succ, i64_w, i32_w]
         rfl
        refine take_ (i := 5) (N := some 37) (v := ?_) (a' := ?_) #[true, true, true, true, true, true, true, true, true, true, true, false, false, false, false, false] rfl rfl (take_ofW HT_.out HW_.out (by kernel_rfl)) (fun _ _ _ h => h) (Or.inl ⟨by rfl, ?_⟩) hHeld ?_ ?_
        rotate_left
        ·
         rintro w' ⟨s0, s1, s2, s3, s4, s5⟩
         go_simp
         with_reducible rfl
        rotate_left
        ·
         simp only [Act.put, List.setIfInBounds_toArray, List.set_cons_zero, List.set_cons_succ, i64_w, i32_w]
         rfl
        refine take_ (i := 11) (N := some 43) (v := ?_) (a' := ?_) #[true, true, true, true, true, true, true, true, true, true, true, true, false, false, false, false] rfl rfl (take_ofW HT_.out HW_.out (by kernel_rfl)) (fun _ _ _ h => h) (Or.inl ⟨by rfl, ?_⟩) hHeld ?_ ?_
        rotate_left
        ·
         rintro w' ⟨s0, s1, s2, s3, s4, s5⟩
         go_simp
         with_reducible rfl
        rotate_left
        ·
         simp only [Act.put, List.setIfInBounds_toArray, List.set_cons_zero, List.set_cons_succ, i64_w, i32_w]
         rfl
        refine join_ (σ := Nat × Nat) 2 #[true, true, true, true, true, true, true, true, true, true, true, true, true, true, false, false] (fun s_ => [(9, .pointer (some ⟨s_.1, 0, none⟩)), (10, .pointer (some ⟨s_.2, 0, none⟩))]) (fun s_ w' => (w'.cell? (ad171.add (((ji14)).toNat * 3)) = some (.int .i64 ((rd_T30 t163 (ji14)).f0)) ∧ w'.cell? ⟨(ad171.add (((ji14)).toNat * 3)).block, (ad171.add (((ji14)).toNat * 3)).off + 1, none⟩ = some (.int .i64 ((rd_T30 t163 (ji14)).f1)) ∧ w'.cell? ⟨(ad171.add (((ji14)).toNat * 3)).block, (ad171.add (((ji14)).toNat * 3)).off + 2, none⟩ = some (.int .i64 ((rd_T30 t163 (ji14)).f2)) ∧ w'.cell? (ad171.add (((ji17)).toNat * 3)) = some (.int .i64 ((rd_T30 t163 (ji17)).f0)) ∧ w'.cell? ⟨(ad171.add (((ji17)).toNat * 3)).block, (ad171.add (((ji17)).toNat * 3)).off + 1, none⟩ = some (.int .i64 ((rd_T30 t163 (ji17)).f1)) ∧ w'.cell? ⟨(ad171.add (((ji17)).toNat * 3)).block, (ad171.add (((ji17)).toNat * 3)).off + 2, none⟩ = some (.int .i64 ((rd_T30 t163 (ji17)).f2))) ∧ (Kd.R k30 30 w' w.heap.size (fun k_ => k_ ≠ s_.1 ∧ k_ ≠ s_.2) (.slice (some ad171) t163.length co10) t163) ∧ (w'.heap[s_.1]? = some (.cells #[.int .i64 0, .int .i64 0, .int .i64 0] 30 (0, 0))) ∧ (w'.heap[s_.2]? = some (.cells #[.int .i64 0, .int .i64 0, .int .i64 0] 30 (0, 0))) ∧ (w.heap.size ≤ s_.1) ∧ (w.heap.size ≤ s_.1) ∧ (s_.2 ≠ s_.1) ∧ (s_.1 ≠ s_.2) ∧ (w.heap.size ≤ s_.2) ∧ (w.heap.size ≤ s_.2) ∧ (Below w.heap.size w w')) ?_ ?_
        rotate_left
        ·
         intro hCont
         refine two_ (i := 12) (j := 13) (Ni := some 9) (Nj := some 10) #[true, true, true, true, true, true, true, true, true, true, true, true, true, false, false, false] #[true, true, true, true, true, true, true, true, true, true, true, true, false, true, false, false] rfl rfl rfl rfl (two_of HT_.out (by kernel_rfl)) (by decide) (by decide) (fun K hK => ?_) (fun K hK => ?_)
         ·
          skip
          refine box_step ?hg (N := 9) ?hd (cs := #[.int .i64 0, .int .i64 0, .int .i64 0]) (t := 30) ?hr ?_; (case hd => rfl); (case hg => rfl); (case hr => first | (go_simp; done) | (go_simp; rfl))
          intro gb173 hg w22 hbox hb
          have HS0_ := (hb.cell (World.block_lt_of_cell? _ _ (hHeld.1))).trans (hHeld.1)
          have HS1_ := (hb.cell (World.block_lt_of_cell? _ _ (hHeld.2.1))).trans (hHeld.2.1)
          have HS2_ := (hb.cell (World.block_lt_of_cell? _ _ (hHeld.2.2.1))).trans (hHeld.2.2.1)
          have HS3_ := (hb.cell (World.block_lt_of_cell? _ _ (hHeld.2.2.2.1))).trans (hHeld.2.2.2.1)
          have HS4_ := (hb.cell (World.block_lt_of_cell? _ _ (hHeld.2.2.2.2.1))).trans (hHeld.2.2.2.2.1)
          have HS5_ := (hb.cell (World.block_lt_of_cell? _ _ (hHeld.2.2.2.2.2))).trans (hHeld.2.2.2.2.2)
          have n0_ := Aside0.mk (Kd.R_below (Kd.R_elderB (by (with_reducible repeat (first | apply Kd.R_alloc | apply Kd.R_drewN | apply Kd.R_drew)); exact HO_7.out) gb173 (Nat.le_of_eq hg.symm)) hb)
          have n1_ := Aside0.mk (below_step (by repeat (first | (with_reducible first | exact HB.out | apply below_alloc | apply pw_below_drewN | apply below_drew1) | exact HB.out)) hb)
          have n2_ := Aside0.mk (hbox)
          have n3_ := Aside0.mk ((by rw [hg]; exact (below_size (by repeat (first | (with_reducible first | exact HB.out | apply below_alloc | apply pw_below_drewN | apply below_drew1) | exact HB.out))) : w.heap.size ≤ gb173))
          have n4_ := Aside0.mk ((by rw [hg]; exact (below_size (by repeat (first | (with_reducible first | exact HB.out | apply below_alloc | apply pw_below_drewN | apply below_drew1) | exact HB.out))) : w.heap.size ≤ gb173))
          clear HO_7
          clear HB
          have HO_7 := n0_
          have HB := n1_
          have BK173 := n2_
          have GW173 := n3_
          have GE173 := n4_
          clear n0_ n1_ n2_ n3_ n4_
          clear hb hbox hg
          refine hK.out _ _ ⟨HS0_, HS1_, HS2_, HS3_, HS4_, HS5_⟩ (fun hHeld => ?_)
          clear hK K
          refine norm_ (a' := ?_) ?_ ?_
          rotate_left
          ·
           show Act.put _ (some 9) _ = _
           simp only [Act.put, List.setIfInBounds_toArray, List.set_cons_zero, List.set_cons_succ, i64_w, i32_w]
           rfl
          refine one_ (i := 13) (N := some 10) #[true, true, true, true, true, true, true, true, true, true, true, true, true, true, false, false] rfl rfl (one_of HT_.out (by kernel_rfl)) (by decide) (fun K hK => ?_)
          refine box_step ?hg (N := 10) ?hd (cs := #[.int .i64 0, .int .i64 0, .int .i64 0]) (t := 30) ?hr ?_; (case hd => rfl); (case hg => rfl); (case hr => first | (go_simp; done) | (go_simp; rfl))
          intro gb174 hg w23 hbox hb
          have HS0_ := (hb.cell (World.block_lt_of_cell? _ _ (hHeld.1))).trans (hHeld.1)
          have HS1_ := (hb.cell (World.block_lt_of_cell? _ _ (hHeld.2.1))).trans (hHeld.2.1)
          have HS2_ := (hb.cell (World.block_lt_of_cell? _ _ (hHeld.2.2.1))).trans (hHeld.2.2.1)
          have HS3_ := (hb.cell (World.block_lt_of_cell? _ _ (hHeld.2.2.2.1))).trans (hHeld.2.2.2.1)
          have HS4_ := (hb.cell (World.block_lt_of_cell? _ _ (hHeld.2.2.2.2.1))).trans (hHeld.2.2.2.2.1)
          have HS5_ := (hb.cell (World.block_lt_of_cell? _ _ (hHeld.2.2.2.2.2))).trans (hHeld.2.2.2.2.2)
          have n0_ := Aside0.mk (Kd.R_below (Kd.R_elderB (by (with_reducible repeat (first | apply Kd.R_alloc | apply Kd.R_drewN | apply Kd.R_drew)); exact HO_7.out) gb174 (Nat.le_of_eq hg.symm)) hb)
          have n1_ := Aside0.mk (blk_below (g := gb173) (o := .cells #[.int .i64 0, .int .i64 0, .int .i64 0] 30 (0, 0)) (by (with_reducible repeat (first | refine blk_drewN ?_ _ | refine blk_drew ?_ | refine blk_alloc ?_ _)); exact BK173.out) hb)
          have n2_ := Aside0.mk (below_step (by repeat (first | (with_reducible first | exact HB.out | apply below_alloc | apply pw_below_drewN | apply below_drew1 | refine below_set ?_ GE173.out) | exact HB.out)) hb)
          have n3_ := Aside0.mk (hbox)
          have n4_ := Aside0.mk ((by rw [hg]; exact (below_size (by repeat (first | (with_reducible first | exact HB.out | apply below_alloc | apply pw_below_drewN | apply below_drew1 | refine below_set ?_ GE173.out) | exact HB.out))) : w.heap.size ≤ gb174))
          have n5_ := Aside0.mk ((by rw [hg]; exact (below_size (by repeat (first | (with_reducible first | exact HB.out | apply below_alloc | apply pw_below_drewN | apply below_drew1 | refine below_set ?_ GE173.out) | exact HB.out))) : w.heap.size ≤ gb174))
          have n6_ := Aside0.mk ((by rw [hg]; exact Nat.ne_of_lt (blk_lt (g := gb173) (o := .cells #[.int .i64 0, .int .i64 0, .int .i64 0] 30 (0, 0)) (by (with_reducible repeat (first | refine blk_drewN ?_ _ | refine blk_drew ?_ | refine blk_alloc ?_ _)); exact BK173.out)) : gb173 ≠ gb174))
          have n7_ := Aside0.mk ((by rw [hg]; exact Nat.ne_of_gt (blk_lt (g := gb173) (o := .cells #[.int .i64 0, .int .i64 0, .int .i64 0] 30 (0, 0)) (by (with_reducible repeat (first | refine blk_drewN ?_ _ | refine blk_drew ?_ | refine blk_alloc ?_ _)); exact BK173.out)) : gb174 ≠ gb173))
          clear HO_7
          clear BK173
          clear HB
          have HO_7 := n0_
          have BK173 := n1_
          have HB := n2_
          have BK174 := n3_
          have GW174 := n4_
          have GE174 := n5_
          have NB173_174 := n6_
          have NB174_173 := n7_
          clear n0_ n1_ n2_ n3_ n4_ n5_ n6_ n7_
          clear hb hbox hg
          refine hK.out _ _ ⟨HS0_, HS1_, HS2_, HS3_, HS4_, HS5_⟩ (fun hHeld => ?_)
          clear hK K
          refine norm_ (a' := ?_) ?_ ?_
          rotate_left
          ·
           show Act.put _ (some 10) _ = _
           simp only [Act.put, List.setIfInBounds_toArray, List.set_cons_zero, List.set_cons_succ, i64_w, i32_w]
           rfl
          exact norm_ (by simp only [putAll, Act.put, List.setIfInBounds_toArray, List.set_cons_zero, List.set_cons_succ]) (hCont (gb173, gb174) _ ⟨hHeld, (by (with_reducible repeat (first | apply Kd.R_alloc | apply Kd.R_drewN | apply Kd.R_drew)); exact Kd.R_mono HO_7.out (fun _ hk => ⟨hk.1.2, hk.2⟩)), (by (with_reducible repeat (first | refine blk_drewN ?_ _ | refine blk_drew ?_ | refine blk_alloc ?_ _)); exact BK173.out), (by (with_reducible repeat (first | refine blk_drewN ?_ _ | refine blk_drew ?_ | refine blk_alloc ?_ _)); exact BK174.out), GW173.out, GE173.out, NB174_173.out, NB173_174.out, GW174.out, GE174.out, (by repeat (first | (with_reducible first | exact HB.out | apply below_alloc | apply pw_below_drewN | apply below_drew1 | refine below_set ?_ GE173.out | refine below_set ?_ GE174.out) | exact HB.out))⟩)
         ·
          skip
          refine box_step ?hg (N := 10) ?hd (cs := #[.int .i64 0, .int .i64 0, .int .i64 0]) (t := 30) ?hr ?_; (case hd => rfl); (case hg => rfl); (case hr => first | (go_simp; done) | (go_simp; rfl))
          intro gb174 hg w22 hbox hb
          have HS0_ := (hb.cell (World.block_lt_of_cell? _ _ (hHeld.1))).trans (hHeld.1)
          have HS1_ := (hb.cell (World.block_lt_of_cell? _ _ (hHeld.2.1))).trans (hHeld.2.1)
          have HS2_ := (hb.cell (World.block_lt_of_cell? _ _ (hHeld.2.2.1))).trans (hHeld.2.2.1)
          have HS3_ := (hb.cell (World.block_lt_of_cell? _ _ (hHeld.2.2.2.1))).trans (hHeld.2.2.2.1)
          have HS4_ := (hb.cell (World.block_lt_of_cell? _ _ (hHeld.2.2.2.2.1))).trans (hHeld.2.2.2.2.1)
          have HS5_ := (hb.cell (World.block_lt_of_cell? _ _ (hHeld.2.2.2.2.2))).trans (hHeld.2.2.2.2.2)
          have n0_ := Aside0.mk (Kd.R_below (Kd.R_elderB (by (with_reducible repeat (first | apply Kd.R_alloc | apply Kd.R_drewN | apply Kd.R_drew)); exact HO_7.out) gb174 (Nat.le_of_eq hg.symm)) hb)
          have n1_ := Aside0.mk (below_step (by repeat (first | (with_reducible first | exact HB.out | apply below_alloc | apply pw_below_drewN | apply below_drew1) | exact HB.out)) hb)
          have n2_ := Aside0.mk (hbox)
          have n3_ := Aside0.mk ((by rw [hg]; exact (below_size (by repeat (first | (with_reducible first | exact HB.out | apply below_alloc | apply pw_below_drewN | apply below_drew1) | exact HB.out))) : w.heap.size ≤ gb174))
          have n4_ := Aside0.mk ((by rw [hg]; exact (below_size (by repeat (first | (with_reducible first | exact HB.out | apply below_alloc | apply pw_below_drewN | apply below_drew1) | exact HB.out))) : w.heap.size ≤ gb174))
          clear HO_7
          clear HB
          have HO_7 := n0_
          have HB := n1_
          have BK174 := n2_
          have GW174 := n3_
          have GE174 := n4_
          clear n0_ n1_ n2_ n3_ n4_
          clear hb hbox hg
          refine hK.out _ _ ⟨HS0_, HS1_, HS2_, HS3_, HS4_, HS5_⟩ (fun hHeld => ?_)
          clear hK K
          refine norm_ (a' := ?_) ?_ ?_
          rotate_left
          ·
           show Act.put _ (some 10) _ = _
           simp only [Act.put, List.setIfInBounds_toArray, List.set_cons_zero, List.set_cons_succ, i64_w, i32_w]
           rfl
          refine one_ (i := 12) (N := some 9) #[true, true, true, true, true, true, true, true, true, true, true, true, true, true, false, false] rfl rfl (one_of HT_.out (by kernel_rfl)) (by decide) (fun K hK => ?_)
          refine box_step ?hg (N := 9) ?hd (cs := #[.int .i64 0, .int .i64 0, .int .i64 0]) (t := 30) ?hr ?_; (case hd => rfl); (case hg => rfl); (case hr => first | (go_simp; done) | (go_simp; rfl))
          intro gb173 hg w23 hbox hb
          have HS0_ := (hb.cell (World.block_lt_of_cell? _ _ (hHeld.1))).trans (hHeld.1)
          have HS1_ := (hb.cell (World.block_lt_of_cell? _ _ (hHeld.2.1))).trans (hHeld.2.1)
          have HS2_ := (hb.cell (World.block_lt_of_cell? _ _ (hHeld.2.2.1))).trans (hHeld.2.2.1)
          have HS3_ := (hb.cell (World.block_lt_of_cell? _ _ (hHeld.2.2.2.1))).trans (hHeld.2.2.2.1)
          have HS4_ := (hb.cell (World.block_lt_of_cell? _ _ (hHeld.2.2.2.2.1))).trans (hHeld.2.2.2.2.1)
          have HS5_ := (hb.cell (World.block_lt_of_cell? _ _ (hHeld.2.2.2.2.2))).trans (hHeld.2.2.2.2.2)
          have n0_ := Aside0.mk (Kd.R_below (Kd.R_elderB (by (with_reducible repeat (first | apply Kd.R_alloc | apply Kd.R_drewN | apply Kd.R_drew)); exact HO_7.out) gb173 (Nat.le_of_eq hg.symm)) hb)
          have n1_ := Aside0.mk (blk_below (g := gb174) (o := .cells #[.int .i64 0, .int .i64 0, .int .i64 0] 30 (0, 0)) (by (with_reducible repeat (first | refine blk_drewN ?_ _ | refine blk_drew ?_ | refine blk_alloc ?_ _)); exact BK174.out) hb)
          have n2_ := Aside0.mk (below_step (by repeat (first | (with_reducible first | exact HB.out | apply below_alloc | apply pw_below_drewN | apply below_drew1 | refine below_set ?_ GE174.out) | exact HB.out)) hb)
          have n3_ := Aside0.mk (hbox)
          have n4_ := Aside0.mk ((by rw [hg]; exact (below_size (by repeat (first | (with_reducible first | exact HB.out | apply below_alloc | apply pw_below_drewN | apply below_drew1 | refine below_set ?_ GE174.out) | exact HB.out))) : w.heap.size ≤ gb173))
          have n5_ := Aside0.mk ((by rw [hg]; exact (below_size (by repeat (first | (with_reducible first | exact HB.out | apply below_alloc | apply pw_below_drewN | apply below_drew1 | refine below_set ?_ GE174.out) | exact HB.out))) : w.heap.size ≤ gb173))
          have n6_ := Aside0.mk ((by rw [hg]; exact Nat.ne_of_lt (blk_lt (g := gb174) (o := .cells #[.int .i64 0, .int .i64 0, .int .i64 0] 30 (0, 0)) (by (with_reducible repeat (first | refine blk_drewN ?_ _ | refine blk_drew ?_ | refine blk_alloc ?_ _)); exact BK174.out)) : gb174 ≠ gb173))
          have n7_ := Aside0.mk ((by rw [hg]; exact Nat.ne_of_gt (blk_lt (g := gb174) (o := .cells #[.int .i64 0, .int .i64 0, .int .i64 0] 30 (0, 0)) (by (with_reducible repeat (first | refine blk_drewN ?_ _ | refine blk_drew ?_ | refine blk_alloc ?_ _)); exact BK174.out)) : gb173 ≠ gb174))
          clear HO_7
          clear BK174
          clear HB
          have HO_7 := n0_
          have BK174 := n1_
          have HB := n2_
          have BK173 := n3_
          have GW173 := n4_
          have GE173 := n5_
          have NB174_173 := n6_
          have NB173_174 := n7_
          clear n0_ n1_ n2_ n3_ n4_ n5_ n6_ n7_
          clear hb hbox hg
          refine hK.out _ _ ⟨HS0_, HS1_, HS2_, HS3_, HS4_, HS5_⟩ (fun hHeld => ?_)
          clear hK K
          refine norm_ (a' := ?_) ?_ ?_
          rotate_left
          ·
           show Act.put _ (some 9) _ = _
           simp only [Act.put, List.setIfInBounds_toArray, List.set_cons_zero, List.set_cons_succ, i64_w, i32_w]
           rfl
          exact norm_ (by simp only [putAll, Act.put, List.setIfInBounds_toArray, List.set_cons_zero, List.set_cons_succ]) (hCont (gb173, gb174) _ ⟨hHeld, (by (with_reducible repeat (first | apply Kd.R_alloc | apply Kd.R_drewN | apply Kd.R_drew)); exact Kd.R_mono HO_7.out (fun _ hk => ⟨hk.2, hk.1.2⟩)), (by (with_reducible repeat (first | refine blk_drewN ?_ _ | refine blk_drew ?_ | refine blk_alloc ?_ _)); exact BK173.out), (by (with_reducible repeat (first | refine blk_drewN ?_ _ | refine blk_drew ?_ | refine blk_alloc ?_ _)); exact BK174.out), GW173.out, GE173.out, NB174_173.out, NB173_174.out, GW174.out, GE174.out, (by repeat (first | (with_reducible first | exact HB.out | apply below_alloc | apply pw_below_drewN | apply below_drew1 | refine below_set ?_ GE174.out | refine below_set ?_ GE173.out) | exact HB.out))⟩)
        rintro ⟨gb173, gb174⟩ w24 ⟨hS_, h0_, h1_, h2_, h3_, h4_, h5_, h6_, h7_, h8_, h9_⟩
        have n0_ : Aside0 (Kd.R k30 30 w24 w.heap.size (fun k_ => k_ ≠ gb173 ∧ k_ ≠ gb174) (.slice (some ad171) t163.length co10) t163) := ⟨h0_⟩
        have n1_ : Aside0 (w24.heap[gb173]? = some (.cells #[.int .i64 0, .int .i64 0, .int .i64 0] 30 (0, 0))) := ⟨h1_⟩
        have n2_ : Aside0 (w24.heap[gb174]? = some (.cells #[.int .i64 0, .int .i64 0, .int .i64 0] 30 (0, 0))) := ⟨h2_⟩
        have n3_ : Aside0 (w.heap.size ≤ gb173) := ⟨h3_⟩
        have n4_ : Aside0 (w.heap.size ≤ gb173) := ⟨h4_⟩
        have n5_ : Aside0 (gb174 ≠ gb173) := ⟨h5_⟩
        have n6_ : Aside0 (gb173 ≠ gb174) := ⟨h6_⟩
        have n7_ : Aside0 (w.heap.size ≤ gb174) := ⟨h7_⟩
        have n8_ : Aside0 (w.heap.size ≤ gb174) := ⟨h8_⟩
        have n9_ : Aside0 (Below w.heap.size w w24) := ⟨h9_⟩
        clear HO_7
        clear HB
        clear h0_ h1_ h2_ h3_ h4_ h5_ h6_ h7_ h8_ h9_
        have HO_7 := n0_
        have BK173 := n1_
        have BK174 := n2_
        have GW173 := n3_
        have GE173 := n4_
        have NB174_173 := n5_
        have NB173_174 := n6_
        have GW174 := n7_
        have GE174 := n8_
        have HB := n9_
        clear n0_ n1_ n2_ n3_ n4_ n5_ n6_ n7_ n8_ n9_
        have hHeld : w24.cell? (ad171.add (((ji14)).toNat * 3)) = some (.int .i64 ((rd_T30 t163 (ji14)).f0)) ∧ w24.cell? ⟨(ad171.add (((ji14)).toNat * 3)).block, (ad171.add (((ji14)).toNat * 3)).off + 1, none⟩ = some (.int .i64 ((rd_T30 t163 (ji14)).f1)) ∧ w24.cell? ⟨(ad171.add (((ji14)).toNat * 3)).block, (ad171.add (((ji14)).toNat * 3)).off + 2, none⟩ = some (.int .i64 ((rd_T30 t163 (ji14)).f2)) ∧ w24.cell? (ad171.add (((ji17)).toNat * 3)) = some (.int .i64 ((rd_T30 t163 (ji17)).f0)) ∧ w24.cell? ⟨(ad171.add (((ji17)).toNat * 3)).block, (ad171.add (((ji17)).toNat * 3)).off + 1, none⟩ = some (.int .i64 ((rd_T30 t163 (ji17)).f1)) ∧ w24.cell? ⟨(ad171.add (((ji17)).toNat * 3)).block, (ad171.add (((ji17)).toNat * 3)).off + 2, none⟩ = some (.int .i64 ((rd_T30 t163 (ji17)).f2)) := hS_
        refine norm_ (a' := ?_) ?_ ?_
        rotate_left
        ·
         simp only [putAll, Act.put, List.setIfInBounds_toArray, List.set_cons_zero, List.set_cons_succ]
         rfl
        refine one_ (i := 14) (N := none) #[true, true, true, true, true, true, true, true, true, true, true, true, true, true, true, false] rfl rfl (one_of HT_.out (by kernel_rfl)) (by decide) (fun K hK => ?_)
        have hs25 : w24.cell? ⟨gb173, 0, none⟩ = some (.int .i64 0) := (blk_cell BK173.out 0).trans rfl
        have hfs25 := blk_frozen BK173.out 0
        have hns25_1 := NB174_173.out
        have hms25_1 := NB173_174.out
        have hs26 : w24.cell? ⟨gb173, 1, none⟩ = some (.int .i64 0) := (blk_cell BK173.out 1).trans rfl
        have hfs26 := blk_frozen BK173.out 1
        have hns26_1 := NB174_173.out
        have hms26_1 := NB173_174.out
        have hs27 : w24.cell? ⟨gb173, 2, none⟩ = some (.int .i64 0) := (blk_cell BK173.out 2).trans rfl
        have hfs27 := blk_frozen BK173.out 2
        have hns27_1 := NB174_173.out
        have hms27_1 := NB173_174.out
        refine skip_ (w1 := ?_) (by rfl) rfl ?_ ?_
        rotate_left
        ·
         go_simp
         rfl
        refine hK.out _ _ ⟨((cell_far (p := ⟨gb173, _, none⟩) (by first | exact Kd.own_blk (Kd.R_away HO_7.out (fun _ hk => hk.1)) | (rw [add_block]; exact Kd.own_blk (Kd.R_away HO_7.out (fun _ hk => hk.1))) | (show (Addr.add _ _).block ≠ _; rw [add_block]; exact Kd.own_blk (Kd.R_away HO_7.out (fun _ hk => hk.1))) | (dsimp only; exact Kd.own_blk (Kd.R_away HO_7.out (fun _ hk => hk.1)))) _).trans (((cell_far (p := ⟨gb173, _, none⟩) (by first | exact Kd.own_blk (Kd.R_away HO_7.out (fun _ hk => hk.1)) | (rw [add_block]; exact Kd.own_blk (Kd.R_away HO_7.out (fun _ hk => hk.1))) | (show (Addr.add _ _).block ≠ _; rw [add_block]; exact Kd.own_blk (Kd.R_away HO_7.out (fun _ hk => hk.1))) | (dsimp only; exact Kd.own_blk (Kd.R_away HO_7.out (fun _ hk => hk.1)))) _).trans (((cell_far (p := ⟨gb173, _, none⟩) (by first | exact Kd.own_blk (Kd.R_away HO_7.out (fun _ hk => hk.1)) | (rw [add_block]; exact Kd.own_blk (Kd.R_away HO_7.out (fun _ hk => hk.1))) | (show (Addr.add _ _).block ≠ _; rw [add_block]; exact Kd.own_blk (Kd.R_away HO_7.out (fun _ hk => hk.1))) | (dsimp only; exact Kd.own_blk (Kd.R_away HO_7.out (fun _ hk => hk.1)))) _).trans (hHeld.1)))))), ((cell_far (p := ⟨gb173, _, none⟩) (by first | exact Kd.own_blk (Kd.R_away HO_7.out (fun _ hk => hk.1)) | (rw [add_block]; exact Kd.own_blk (Kd.R_away HO_7.out (fun _ hk => hk.1))) | (show (Addr.add _ _).block ≠ _; rw [add_block]; exact Kd.own_blk (Kd.R_away HO_7.out (fun _ hk => hk.1))) | (dsimp only; exact Kd.own_blk (Kd.R_away HO_7.out (fun _ hk => hk.1)))) _).trans (((cell_far (p := ⟨gb173, _, none⟩) (by first | exact Kd.own_blk (Kd.R_away HO_7.out (fun _ hk => hk.1)) | (rw [add_block]; exact Kd.own_blk (Kd.R_away HO_7.out (fun _ hk => hk.1))) | (show (Addr.add _ _).block ≠ _; rw [add_block]; exact Kd.own_blk (Kd.R_away HO_7.out (fun _ hk => hk.1))) | (dsimp only; exact Kd.own_blk (Kd.R_away HO_7.out (fun _ hk => hk.1)))) _).trans (((cell_far (p := ⟨gb173, _, none⟩) (by first | exact Kd.own_blk (Kd.R_away HO_7.out (fun _ hk => hk.1)) | (rw [add_block]; exact Kd.own_blk (Kd.R_away HO_7.out (fun _ hk => hk.1))) | (show (Addr.add _ _).block ≠ _; rw [add_block]; exact Kd.own_blk (Kd.R_away HO_7.out (fun _ hk => hk.1))) | (dsimp only; exact Kd.own_blk (Kd.R_away HO_7.out (fun _ hk => hk.1)))) _).trans (hHeld.2.1)))))), ((cell_far (p := ⟨gb173, _, none⟩) (by first | exact Kd.own_blk (Kd.R_away HO_7.out (fun _ hk => hk.1)) | (rw [add_block]; exact Kd.own_blk (Kd.R_away HO_7.out (fun _ hk => hk.1))) | (show (Addr.add _ _).block ≠ _; rw [add_block]; exact Kd.own_blk (Kd.R_away HO_7.out (fun _ hk => hk.1))) | (dsimp only; exact Kd.own_blk (Kd.R_away HO_7.out (fun _ hk => hk.1)))) _).trans (((cell_far (p := ⟨gb173, _, none⟩) (by first | exact Kd.own_blk (Kd.R_away HO_7.out (fun _ hk => hk.1)) | (rw [add_block]; exact Kd.own_blk (Kd.R_away HO_7.out (fun _ hk => hk.1))) | (show (Addr.add _ _).block ≠ _; rw [add_block]; exact Kd.own_blk (Kd.R_away HO_7.out (fun _ hk => hk.1))) | (dsimp only; exact Kd.own_blk (Kd.R_away HO_7.out (fun _ hk => hk.1)))) _).trans (((cell_far (p := ⟨gb173, _, none⟩) (by first | exact Kd.own_blk (Kd.R_away HO_7.out (fun _ hk => hk.1)) | (rw [add_block]; exact Kd.own_blk (Kd.R_away HO_7.out (fun _ hk => hk.1))) | (show (Addr.add _ _).block ≠ _; rw [add_block]; exact Kd.own_blk (Kd.R_away HO_7.out (fun _ hk => hk.1))) | (dsimp only; exact Kd.own_blk (Kd.R_away HO_7.out (fun _ hk => hk.1)))) _).trans (hHeld.2.2.1)))))), ((cell_far (p := ⟨gb173, _, none⟩) (by first | exact Kd.own_blk (Kd.R_away HO_7.out (fun _ hk => hk.1)) | (rw [add_block]; exact Kd.own_blk (Kd.R_away HO_7.out (fun _ hk => hk.1))) | (show (Addr.add _ _).block ≠ _; rw [add_block]; exact Kd.own_blk (Kd.R_away HO_7.out (fun _ hk => hk.1))) | (dsimp only; exact Kd.own_blk (Kd.R_away HO_7.out (fun _ hk => hk.1)))) _).trans (((cell_far (p := ⟨gb173, _, none⟩) (by first | exact Kd.own_blk (Kd.R_away HO_7.out (fun _ hk => hk.1)) | (rw [add_block]; exact Kd.own_blk (Kd.R_away HO_7.out (fun _ hk => hk.1))) | (show (Addr.add _ _).block ≠ _; rw [add_block]; exact Kd.own_blk (Kd.R_away HO_7.out (fun _ hk => hk.1))) | (dsimp only; exact Kd.own_blk (Kd.R_away HO_7.out (fun _ hk => hk.1)))) _).trans (((cell_far (p := ⟨gb173, _, none⟩) (by first | exact Kd.own_blk (Kd.R_away HO_7.out (fun _ hk => hk.1)) | (rw [add_block]; exact Kd.own_blk (Kd.R_away HO_7.out (fun _ hk => hk.1))) | (show (Addr.add _ _).block ≠ _; rw [add_block]; exact Kd.own_blk (Kd.R_away HO_7.out (fun _ hk => hk.1))) | (dsimp only; exact Kd.own_blk (Kd.R_away HO_7.out (fun _ hk => hk.1)))) _).trans (hHeld.2.2.2.1)))))), ((cell_far (p := ⟨gb173, _, none⟩) (by first | exact Kd.own_blk (Kd.R_away HO_7.out (fun _ hk => hk.1)) | (rw [add_block]; exact Kd.own_blk (Kd.R_away HO_7.out (fun _ hk => hk.1))) | (show (Addr.add _ _).block ≠ _; rw [add_block]; exact Kd.own_blk (Kd.R_away HO_7.out (fun _ hk => hk.1))) | (dsimp only; exact Kd.own_blk (Kd.R_away HO_7.out (fun _ hk => hk.1)))) _).trans (((cell_far (p := ⟨gb173, _, none⟩) (by first | exact Kd.own_blk (Kd.R_away HO_7.out (fun _ hk => hk.1)) | (rw [add_block]; exact Kd.own_blk (Kd.R_away HO_7.out (fun _ hk => hk.1))) | (show (Addr.add _ _).block ≠ _; rw [add_block]; exact Kd.own_blk (Kd.R_away HO_7.out (fun _ hk => hk.1))) | (dsimp only; exact Kd.own_blk (Kd.R_away HO_7.out (fun _ hk => hk.1)))) _).trans (((cell_far (p := ⟨gb173, _, none⟩) (by first | exact Kd.own_blk (Kd.R_away HO_7.out (fun _ hk => hk.1)) | (rw [add_block]; exact Kd.own_blk (Kd.R_away HO_7.out (fun _ hk => hk.1))) | (show (Addr.add _ _).block ≠ _; rw [add_block]; exact Kd.own_blk (Kd.R_away HO_7.out (fun _ hk => hk.1))) | (dsimp only; exact Kd.own_blk (Kd.R_away HO_7.out (fun _ hk => hk.1)))) _).trans (hHeld.2.2.2.2.1)))))), ((cell_far (p := ⟨gb173, _, none⟩) (by first | exact Kd.own_blk (Kd.R_away HO_7.out (fun _ hk => hk.1)) | (rw [add_block]; exact Kd.own_blk (Kd.R_away HO_7.out (fun _ hk => hk.1))) | (show (Addr.add _ _).block ≠ _; rw [add_block]; exact Kd.own_blk (Kd.R_away HO_7.out (fun _ hk => hk.1))) | (dsimp only; exact Kd.own_blk (Kd.R_away HO_7.out (fun _ hk => hk.1)))) _).trans (((cell_far (p := ⟨gb173, _, none⟩) (by first | exact Kd.own_blk (Kd.R_away HO_7.out (fun _ hk => hk.1)) | (rw [add_block]; exact Kd.own_blk (Kd.R_away HO_7.out (fun _ hk => hk.1))) | (show (Addr.add _ _).block ≠ _; rw [add_block]; exact Kd.own_blk (Kd.R_away HO_7.out (fun _ hk => hk.1))) | (dsimp only; exact Kd.own_blk (Kd.R_away HO_7.out (fun _ hk => hk.1)))) _).trans (((cell_far (p := ⟨gb173, _, none⟩) (by first | exact Kd.own_blk (Kd.R_away HO_7.out (fun _ hk => hk.1)) | (rw [add_block]; exact Kd.own_blk (Kd.R_away HO_7.out (fun _ hk => hk.1))) | (show (Addr.add _ _).block ≠ _; rw [add_block]; exact Kd.own_blk (Kd.R_away HO_7.out (fun _ hk => hk.1))) | (dsimp only; exact Kd.own_blk (Kd.R_away HO_7.out (fun _ hk => hk.1)))) _).trans (hHeld.2.2.2.2.2))))))⟩ (fun hHeld => ?_)
        clear hK K
        refine one_ (i := 15) (N := none) #[true, true, true, true, true, true, true, true, true, true, true, true, true, true, true, true] rfl rfl (one_of HT_.out (by kernel_rfl)) (by decide) (fun K hK => ?_)
        have hs28 : w24.cell? ⟨gb174, 0, none⟩ = some (.int .i64 0) := (blk_cell BK174.out 0).trans rfl
        have hfs28 := blk_frozen BK174.out 0
        have hns28_0 := NB173_174.out
        have hms28_0 := NB174_173.out
        have hs29 : w24.cell? ⟨gb174, 1, none⟩ = some (.int .i64 0) := (blk_cell BK174.out 1).trans rfl
        have hfs29 := blk_frozen BK174.out 1
        have hns29_0 := NB173_174.out
        have hms29_0 := NB174_173.out
        have hs30 : w24.cell? ⟨gb174, 2, none⟩ = some (.int .i64 0) := (blk_cell BK174.out 2).trans rfl
        have hfs30 := blk_frozen BK174.out 2
        have hns30_0 := NB173_174.out
        have hms30_0 := NB174_173.out
        refine skip_ (w1 := ?_) (by rfl) rfl ?_ ?_
        rotate_left
        ·
         go_simp
         rfl
        refine hK.out _ _ ⟨((cell_far (p := ⟨gb174, _, none⟩) (by first | exact Kd.own_blk (Kd.R_away HO_7.out (fun _ hk => hk.2)) | (rw [add_block]; exact Kd.own_blk (Kd.R_away HO_7.out (fun _ hk => hk.2))) | (show (Addr.add _ _).block ≠ _; rw [add_block]; exact Kd.own_blk (Kd.R_away HO_7.out (fun _ hk => hk.2))) | (dsimp only; exact Kd.own_blk (Kd.R_away HO_7.out (fun _ hk => hk.2)))) _).trans (((cell_far (p := ⟨gb174, _, none⟩) (by first | exact Kd.own_blk (Kd.R_away HO_7.out (fun _ hk => hk.2)) | (rw [add_block]; exact Kd.own_blk (Kd.R_away HO_7.out (fun _ hk => hk.2))) | (show (Addr.add _ _).block ≠ _; rw [add_block]; exact Kd.own_blk (Kd.R_away HO_7.out (fun _ hk => hk.2))) | (dsimp only; exact Kd.own_blk (Kd.R_away HO_7.out (fun _ hk => hk.2)))) _).trans (((cell_far (p := ⟨gb174, _, none⟩) (by first | exact Kd.own_blk (Kd.R_away HO_7.out (fun _ hk => hk.2)) | (rw [add_block]; exact Kd.own_blk (Kd.R_away HO_7.out (fun _ hk => hk.2))) | (show (Addr.add _ _).block ≠ _; rw [add_block]; exact Kd.own_blk (Kd.R_away HO_7.out (fun _ hk => hk.2))) | (dsimp only; exact Kd.own_blk (Kd.R_away HO_7.out (fun _ hk => hk.2)))) _).trans (hHeld.1)))))), ((cell_far (p := ⟨gb174, _, none⟩) (by first | exact Kd.own_blk (Kd.R_away HO_7.out (fun _ hk => hk.2)) | (rw [add_block]; exact Kd.own_blk (Kd.R_away HO_7.out (fun _ hk => hk.2))) | (show (Addr.add _ _).block ≠ _; rw [add_block]; exact Kd.own_blk (Kd.R_away HO_7.out (fun _ hk => hk.2))) | (dsimp only; exact Kd.own_blk (Kd.R_away HO_7.out (fun _ hk => hk.2)))) _).trans (((cell_far (p := ⟨gb174, _, none⟩) (by first | exact Kd.own_blk (Kd.R_away HO_7.out (fun _ hk => hk.2)) | (rw [add_block]; exact Kd.own_blk (Kd.R_away HO_7.out (fun _ hk => hk.2))) | (show (Addr.add _ _).block ≠ _; rw [add_block]; exact Kd.own_blk (Kd.R_away HO_7.out (fun _ hk => hk.2))) | (dsimp only; exact Kd.own_blk (Kd.R_away HO_7.out (fun _ hk => hk.2)))) _).trans (((cell_far (p := ⟨gb174, _, none⟩) (by first | exact Kd.own_blk (Kd.R_away HO_7.out (fun _ hk => hk.2)) | (rw [add_block]; exact Kd.own_blk (Kd.R_away HO_7.out (fun _ hk => hk.2))) | (show (Addr.add _ _).block ≠ _; rw [add_block]; exact Kd.own_blk (Kd.R_away HO_7.out (fun _ hk => hk.2))) | (dsimp only; exact Kd.own_blk (Kd.R_away HO_7.out (fun _ hk => hk.2)))) _).trans (hHeld.2.1)))))), ((cell_far (p := ⟨gb174, _, none⟩) (by first | exact Kd.own_blk (Kd.R_away HO_7.out (fun _ hk => hk.2)) | (rw [add_block]; exact Kd.own_blk (Kd.R_away HO_7.out (fun _ hk => hk.2))) | (show (Addr.add _ _).block ≠ _; rw [add_block]; exact Kd.own_blk (Kd.R_away HO_7.out (fun _ hk => hk.2))) | (dsimp only; exact Kd.own_blk (Kd.R_away HO_7.out (fun _ hk => hk.2)))) _).trans (((cell_far (p := ⟨gb174, _, none⟩) (by first | exact Kd.own_blk (Kd.R_away HO_7.out (fun _ hk => hk.2)) | (rw [add_block]; exact Kd.own_blk (Kd.R_away HO_7.out (fun _ hk => hk.2))) | (show (Addr.add _ _).block ≠ _; rw [add_block]; exact Kd.own_blk (Kd.R_away HO_7.out (fun _ hk => hk.2))) | (dsimp only; exact Kd.own_blk (Kd.R_away HO_7.out (fun _ hk => hk.2)))) _).trans (((cell_far (p := ⟨gb174, _, none⟩) (by first | exact Kd.own_blk (Kd.R_away HO_7.out (fun _ hk => hk.2)) | (rw [add_block]; exact Kd.own_blk (Kd.R_away HO_7.out (fun _ hk => hk.2))) | (show (Addr.add _ _).block ≠ _; rw [add_block]; exact Kd.own_blk (Kd.R_away HO_7.out (fun _ hk => hk.2))) | (dsimp only; exact Kd.own_blk (Kd.R_away HO_7.out (fun _ hk => hk.2)))) _).trans (hHeld.2.2.1)))))), ((cell_far (p := ⟨gb174, _, none⟩) (by first | exact Kd.own_blk (Kd.R_away HO_7.out (fun _ hk => hk.2)) | (rw [add_block]; exact Kd.own_blk (Kd.R_away HO_7.out (fun _ hk => hk.2))) | (show (Addr.add _ _).block ≠ _; rw [add_block]; exact Kd.own_blk (Kd.R_away HO_7.out (fun _ hk => hk.2))) | (dsimp only; exact Kd.own_blk (Kd.R_away HO_7.out (fun _ hk => hk.2)))) _).trans (((cell_far (p := ⟨gb174, _, none⟩) (by first | exact Kd.own_blk (Kd.R_away HO_7.out (fun _ hk => hk.2)) | (rw [add_block]; exact Kd.own_blk (Kd.R_away HO_7.out (fun _ hk => hk.2))) | (show (Addr.add _ _).block ≠ _; rw [add_block]; exact Kd.own_blk (Kd.R_away HO_7.out (fun _ hk => hk.2))) | (dsimp only; exact Kd.own_blk (Kd.R_away HO_7.out (fun _ hk => hk.2)))) _).trans (((cell_far (p := ⟨gb174, _, none⟩) (by first | exact Kd.own_blk (Kd.R_away HO_7.out (fun _ hk => hk.2)) | (rw [add_block]; exact Kd.own_blk (Kd.R_away HO_7.out (fun _ hk => hk.2))) | (show (Addr.add _ _).block ≠ _; rw [add_block]; exact Kd.own_blk (Kd.R_away HO_7.out (fun _ hk => hk.2))) | (dsimp only; exact Kd.own_blk (Kd.R_away HO_7.out (fun _ hk => hk.2)))) _).trans (hHeld.2.2.2.1)))))), ((cell_far (p := ⟨gb174, _, none⟩) (by first | exact Kd.own_blk (Kd.R_away HO_7.out (fun _ hk => hk.2)) | (rw [add_block]; exact Kd.own_blk (Kd.R_away HO_7.out (fun _ hk => hk.2))) | (show (Addr.add _ _).block ≠ _; rw [add_block]; exact Kd.own_blk (Kd.R_away HO_7.out (fun _ hk => hk.2))) | (dsimp only; exact Kd.own_blk (Kd.R_away HO_7.out (fun _ hk => hk.2)))) _).trans (((cell_far (p := ⟨gb174, _, none⟩) (by first | exact Kd.own_blk (Kd.R_away HO_7.out (fun _ hk => hk.2)) | (rw [add_block]; exact Kd.own_blk (Kd.R_away HO_7.out (fun _ hk => hk.2))) | (show (Addr.add _ _).block ≠ _; rw [add_block]; exact Kd.own_blk (Kd.R_away HO_7.out (fun _ hk => hk.2))) | (dsimp only; exact Kd.own_blk (Kd.R_away HO_7.out (fun _ hk => hk.2)))) _).trans (((cell_far (p := ⟨gb174, _, none⟩) (by first | exact Kd.own_blk (Kd.R_away HO_7.out (fun _ hk => hk.2)) | (rw [add_block]; exact Kd.own_blk (Kd.R_away HO_7.out (fun _ hk => hk.2))) | (show (Addr.add _ _).block ≠ _; rw [add_block]; exact Kd.own_blk (Kd.R_away HO_7.out (fun _ hk => hk.2))) | (dsimp only; exact Kd.own_blk (Kd.R_away HO_7.out (fun _ hk => hk.2)))) _).trans (hHeld.2.2.2.2.1)))))), ((cell_far (p := ⟨gb174, _, none⟩) (by first | exact Kd.own_blk (Kd.R_away HO_7.out (fun _ hk => hk.2)) | (rw [add_block]; exact Kd.own_blk (Kd.R_away HO_7.out (fun _ hk => hk.2))) | (show (Addr.add _ _).block ≠ _; rw [add_block]; exact Kd.own_blk (Kd.R_away HO_7.out (fun _ hk => hk.2))) | (dsimp only; exact Kd.own_blk (Kd.R_away HO_7.out (fun _ hk => hk.2)))) _).trans (((cell_far (p := ⟨gb174, _, none⟩) (by first | exact Kd.own_blk (Kd.R_away HO_7.out (fun _ hk => hk.2)) | (rw [add_block]; exact Kd.own_blk (Kd.R_away HO_7.out (fun _ hk => hk.2))) | (show (Addr.add _ _).block ≠ _; rw [add_block]; exact Kd.own_blk (Kd.R_away HO_7.out (fun _ hk => hk.2))) | (dsimp only; exact Kd.own_blk (Kd.R_away HO_7.out (fun _ hk => hk.2)))) _).trans (((cell_far (p := ⟨gb174, _, none⟩) (by first | exact Kd.own_blk (Kd.R_away HO_7.out (fun _ hk => hk.2)) | (rw [add_block]; exact Kd.own_blk (Kd.R_away HO_7.out (fun _ hk => hk.2))) | (show (Addr.add _ _).block ≠ _; rw [add_block]; exact Kd.own_blk (Kd.R_away HO_7.out (fun _ hk => hk.2))) | (dsimp only; exact Kd.own_blk (Kd.R_away HO_7.out (fun _ hk => hk.2)))) _).trans (hHeld.2.2.2.2.2))))))⟩ (fun hHeld => ?_)
        clear hK K
        refine done_ (done_of HT_.out (by kernel_rfl)) ?_
        have hnb31 := NB173_174.out
        have hnc31 := NB174_173.out
        have hcz32_0 : w24.cell? ⟨gb173, 0, none⟩ = some (.int .i64 0) := (blk_cell BK173.out 0).trans rfl
        have hcz32_1 : w24.cell? ⟨gb173, 1, none⟩ = some (.int .i64 0) := (blk_cell BK173.out 1).trans rfl
        have hcz32_2 : w24.cell? ⟨gb173, 2, none⟩ = some (.int .i64 0) := (blk_cell BK173.out 2).trans rfl
        have hfz32_0 := blk_frozen BK173.out 0
        have hfz32_1 := blk_frozen BK173.out 1
        have hfz32_2 := blk_frozen BK173.out 2
        have hcz33_0 : w24.cell? ⟨gb174, 0, none⟩ = some (.int .i64 0) := (blk_cell BK174.out 0).trans rfl
        have hcz33_1 : w24.cell? ⟨gb174, 1, none⟩ = some (.int .i64 0) := (blk_cell BK174.out 1).trans rfl
        have hcz33_2 : w24.cell? ⟨gb174, 2, none⟩ = some (.int .i64 0) := (blk_cell BK174.out 2).trans rfl
        have hfz33_0 := blk_frozen BK174.out 0
        have hfz33_1 := blk_frozen BK174.out 1
        have hfz33_2 := blk_frozen BK174.out 2
        go_upto_if 48 with (fail)
        go_cut [] (fun wc => ∃ (kq : Nat), Aside0 (busbarlaw14_GroupRows.j1 kq t163 ((rd_T30 t163 (ji14)).f0) ((rd_T30 t163 (ji14)).f1) ((rd_T30 t163 (ji14)).f2) ((rd_T30 t163 (ji17)).f0) ((rd_T30 t163 (ji17)).f1) ((rd_T30 t163 (ji17)).f2) = some r) ∧ Aside0 (kq ≤ kj6) ∧ Aside0 (Kd.R k30 30 wc w.heap.size (fun k_ => k_ ≠ gb173 ∧ k_ ≠ gb174) (.slice (some ad171) t163.length co10) t163) ∧ Aside0 (wc.heap[gb173]? = some (.cells #[.int .i64 ((rd_T30 t163 (ji14)).f0), .int .i64 ((rd_T30 t163 (ji14)).f1), .int .i64 ((rd_T30 t163 (ji14)).f2)] 30 (0, 0))) ∧ Aside0 (wc.heap[gb174]? = some (.cells #[.int .i64 ((rd_T30 t163 (ji17)).f0), .int .i64 ((rd_T30 t163 (ji17)).f1), .int .i64 ((rd_T30 t163 (ji17)).f2)] 30 (0, 0))) ∧ Aside0 (Below w.heap.size w wc))
        case first =>
         have H := HC20.out
         clear HC20
         by_cases c34 : ((rd_T30 t163 (ji14)).f0) = ((rd_T30 t163 (ji17)).f0)
         ·
          rw [if_pos c34] at H
          have c34b0 : (((rd_T30 t163 (ji14)).f0) == ((rd_T30 t163 (ji17)).f0)) = true := beq_iff_eq.mpr c34
          have c34b1 : (((rd_T30 t163 (ji14)).f0) != ((rd_T30 t163 (ji17)).f0)) = false := bne_eq_false_iff_eq.mpr c34
          clear c34
          (first | rw [c34b0] | (simp only [i64_w, i32_w]; rw [c34b0]) | skip)
          have H' := Aside0.mk H
          clear H
          go_wp2
          go_meet
          case rel => exact ⟨_, H', ⟨by have := HJ6.out; first | omega | exact Nat.le_refl _⟩, ⟨by (with_reducible repeat (first | apply Kd.R_alloc | apply Kd.R_drewN | apply Kd.R_drew)); exact Kd.R_mono (Kd.R_far (p := ⟨gb174, 2, none⟩) (Kd.R_far (p := ⟨gb174, 1, none⟩) (Kd.R_far (p := ⟨gb174, 0, none⟩) (Kd.R_far (p := ⟨gb173, 2, none⟩) (Kd.R_far (p := ⟨gb173, 1, none⟩) (Kd.R_far (p := ⟨gb173, 0, none⟩) (Kd.R_mono (Kd.R_mono HO_7.out (fun k_ hk => (⟨hk, hk.1⟩ : _ ∧ k_ ≠ gb173))) (fun k_ hk => (⟨hk, hk.1.2⟩ : _ ∧ k_ ≠ gb174))) (fun _ hk => hk.1.2) (.int .i64 ((rd_T30 t163 (ji14)).f0))) (fun _ hk => hk.1.2) (.int .i64 ((rd_T30 t163 (ji14)).f1))) (fun _ hk => hk.1.2) (.int .i64 ((rd_T30 t163 (ji14)).f2))) (fun _ hk => hk.2) (.int .i64 ((rd_T30 t163 (ji17)).f0))) (fun _ hk => hk.2) (.int .i64 ((rd_T30 t163 (ji17)).f1))) (fun _ hk => hk.2) (.int .i64 ((rd_T30 t163 (ji17)).f2))) (fun _ hk => ⟨hk.1.1.1, hk.1.1.2⟩)⟩, ⟨by (with_reducible repeat (first | refine blk_drewN ?_ _ | refine blk_drew ?_ | refine blk_alloc ?_ _)); refine blk_far ?_ NB173_174.out _; (with_reducible repeat (first | refine blk_drewN ?_ _ | refine blk_drew ?_ | refine blk_alloc ?_ _)); refine blk_far ?_ NB173_174.out _; (with_reducible repeat (first | refine blk_drewN ?_ _ | refine blk_drew ?_ | refine blk_alloc ?_ _)); refine blk_far ?_ NB173_174.out _; (with_reducible repeat (first | refine blk_drewN ?_ _ | refine blk_drew ?_ | refine blk_alloc ?_ _)); refine blk_put (cs := #[.int .i64 ((rd_T30 t163 (ji14)).f0), .int .i64 ((rd_T30 t163 (ji14)).f1), .int .i64 0]) ?_ 2 _ rfl; (with_reducible repeat (first | refine blk_drewN ?_ _ | refine blk_drew ?_ | refine blk_alloc ?_ _)); refine blk_put (cs := #[.int .i64 ((rd_T30 t163 (ji14)).f0), .int .i64 0, .int .i64 0]) ?_ 1 _ rfl; (with_reducible repeat (first | refine blk_drewN ?_ _ | refine blk_drew ?_ | refine blk_alloc ?_ _)); refine blk_put (cs := #[.int .i64 0, .int .i64 0, .int .i64 0]) ?_ 0 _ rfl; (with_reducible repeat (first | refine blk_drewN ?_ _ | refine blk_drew ?_ | refine blk_alloc ?_ _)); exact BK173.out⟩, ⟨by (with_reducible repeat (first | refine blk_drewN ?_ _ | refine blk_drew ?_ | refine blk_alloc ?_ _)); refine blk_put (cs := #[.int .i64 ((rd_T30 t163 (ji17)).f0), .int .i64 ((rd_T30 t163 (ji17)).f1), .int .i64 0]) ?_ 2 _ rfl; (with_reducible repeat (first | refine blk_drewN ?_ _ | refine blk_drew ?_ | refine blk_alloc ?_ _)); refine blk_put (cs := #[.int .i64 ((rd_T30 t163 (ji17)).f0), .int .i64 0, .int .i64 0]) ?_ 1 _ rfl; (with_reducible repeat (first | refine blk_drewN ?_ _ | refine blk_drew ?_ | refine blk_alloc ?_ _)); refine blk_put (cs := #[.int .i64 0, .int .i64 0, .int .i64 0]) ?_ 0 _ rfl; (with_reducible repeat (first | refine blk_drewN ?_ _ | refine blk_drew ?_ | refine blk_alloc ?_ _)); refine blk_far ?_ NB174_173.out _; (with_reducible repeat (first | refine blk_drewN ?_ _ | refine blk_drew ?_ | refine blk_alloc ?_ _)); refine blk_far ?_ NB174_173.out _; (with_reducible repeat (first | refine blk_drewN ?_ _ | refine blk_drew ?_ | refine blk_alloc ?_ _)); refine blk_far ?_ NB174_173.out _; (with_reducible repeat (first | refine blk_drewN ?_ _ | refine blk_drew ?_ | refine blk_alloc ?_ _)); exact BK174.out⟩, ⟨by repeat (first | (with_reducible first | exact HB.out | apply below_alloc | apply pw_below_drewN | apply below_drew1 | refine below_set ?_ GE173.out | refine below_set ?_ GE174.out) | exact HB.out)⟩⟩
         ·
          rw [if_neg c34] at H
          have c34b0 : (((rd_T30 t163 (ji14)).f0) == ((rd_T30 t163 (ji17)).f0)) = false := beq_eq_false_iff_ne.mpr c34
          have c34b1 : (((rd_T30 t163 (ji14)).f0) != ((rd_T30 t163 (ji17)).f0)) = true := bne_iff_ne.mpr c34
          (first | rw [c34b0] | (simp only [i64_w, i32_w]; rw [c34b0]) | skip)
          obtain rfl := Option.some.inj H
          go_wp2
          go_ret
          exact ⟨by first | rfl | (simp [errW_none, errW_some] <;> rfl) | (simp only [← hji14, ← hji17]; first | rfl | (simp [errW_none, errW_some] <;> rfl)) | (simp [*, errW_none, errW_some] <;> rfl), by repeat (first | (with_reducible first | exact HB.out | apply below_alloc | apply pw_below_drewN | apply below_drew1 | refine below_set ?_ GE173.out | refine below_set ?_ GE174.out) | exact HB.out)⟩
        case rest =>
         clear HC20
         try clear c1
         try clear p1
         try clear q1
         try clear hx1
         try clear p2
         try clear c3
         try clear c5
         try clear c11
         try clear c11b0
         try clear c11b1
         try clear c11b2
         try clear c12
         try clear c13
         try clear c14
         try clear c15
         try clear c15b0
         try clear c16
         try clear c16b0
         try clear p17
         try clear q17
         try clear hx17
         try clear c18
         try clear c18b0
         try clear c19
         try clear c19b0
         try clear c31
         try clear c34
         try clear c34b0
         try clear c34b1
         try clear hcz32_0
         try clear hcz32_1
         try clear hcz32_2
         try clear hcz33_0
         try clear hcz33_1
         try clear hcz33_2
         try clear hfz32_0
         try clear hfz32_1
         try clear hfz32_2
         try clear hfz33_0
         try clear hfz33_1
         try clear hfz33_2
         try clear hx171_0
         try clear hx171_1
         try clear hx171_2
         try clear hx172_0
         try clear hx172_1
         try clear hx172_2
         try clear p171
         try clear p172
         try clear p2
         try clear q171
         try clear q172
         obtain ⟨kq, HA, HJ19, HO_7, BK173, BK174, HB⟩ := hcut
         cases kq with
         | zero => exact absurd HA.out (by simp [busbarlaw14_GroupRows.j1])
         | succ kj19 =>
          have H := HA.out
          clear HA
          simp only [busbarlaw14_GroupRows.j1] at H
          replace H := Option.bind_eq_some_iff.mp H
          obtain ⟨t178, A350, H⟩ := H
          replace H : (if t178 = true then (some false) else ((group_Splits.f kj19 t163 ((rd_T30 t163 (ji14)).f0) (wrap64 (((rd_T30 t163 (ji14)).f1) + 1)) (wrap64 (((rd_T30 t163 (ji17)).f1) + ((rd_T30 t163 (ji17)).f2)))).bind fun t179 => (if t179 = true then ((group_Splits.f kj19 t163 ((rd_T30 t163 (ji14)).f0) ((rd_T30 t163 (ji14)).f1) (wrap64 ((wrap64 (((rd_T30 t163 (ji17)).f1) + ((rd_T30 t163 (ji17)).f2))) - 1))).bind fun t180 => (some t180)) else (some false)))) = some r := H
          have A35 := Aside0.mk A350
          clear A350
          by_cases c36 : t178 = true
          ·
           subst c36
           have H1 : (some false) = some r := by rw [if_pos rfl] at H; exact H
           clear H
           have H := H1
           clear H1
           obtain rfl := Option.some.inj H
           have hnb37 := NB173_174.out
           have hnc37 := NB174_173.out
           have hcz38_0 : wc.cell? ⟨gb173, 0, none⟩ = some (.int .i64 ((rd_T30 t163 (ji14)).f0)) := (blk_cell BK173.out 0).trans rfl
           have hcz38_1 : wc.cell? ⟨gb173, 1, none⟩ = some (.int .i64 ((rd_T30 t163 (ji14)).f1)) := (blk_cell BK173.out 1).trans rfl
           have hcz38_2 : wc.cell? ⟨gb173, 2, none⟩ = some (.int .i64 ((rd_T30 t163 (ji14)).f2)) := (blk_cell BK173.out 2).trans rfl
           have hfz38_0 := blk_frozen BK173.out 0
           have hfz38_1 := blk_frozen BK173.out 1
           have hfz38_2 := blk_frozen BK173.out 2
           have hcz39_0 : wc.cell? ⟨gb174, 0, none⟩ = some (.int .i64 ((rd_T30 t163 (ji17)).f0)) := (blk_cell BK174.out 0).trans rfl
           have hcz39_1 : wc.cell? ⟨gb174, 1, none⟩ = some (.int .i64 ((rd_T30 t163 (ji17)).f1)) := (blk_cell BK174.out 1).trans rfl
           have hcz39_2 : wc.cell? ⟨gb174, 2, none⟩ = some (.int .i64 ((rd_T30 t163 (ji17)).f2)) := (blk_cell BK174.out 2).trans rfl
           have hfz39_0 := blk_frozen BK174.out 0
           have hfz39_1 := blk_frozen BK174.out 1
           have hfz39_2 := blk_frozen BK174.out 2
           try go_wp2_with (first | ((with_reducible refine gate_dst (N := 11) rfl ?_); refine box_event ?hg (N := 11) ?hd (cs := #[.int .i64 0, .int .i64 0, .int .i64 0]) (t := 32) ?hr ?_; (case hd => rfl); (case hg => rfl); (case hr => first | (go_simp; done) | (go_simp; rfl)); intro gb175 hg w40 hbox hb; have n0_ := Aside0.mk (Kd.R_below (by (with_reducible repeat (first | apply Kd.R_alloc | apply Kd.R_drewN | apply Kd.R_drew)); exact HO_7.out) hb); have n1_ := Aside0.mk (blk_below (g := gb173) (o := .cells #[.int .i64 ((rd_T30 t163 (ji14)).f0), .int .i64 ((rd_T30 t163 (ji14)).f1), .int .i64 ((rd_T30 t163 (ji14)).f2)] 30 (0, 0)) (by (with_reducible repeat (first | refine blk_drewN ?_ _ | refine blk_drew ?_ | refine blk_alloc ?_ _)); exact BK173.out) hb); have n2_ := Aside0.mk (blk_below (g := gb174) (o := .cells #[.int .i64 ((rd_T30 t163 (ji17)).f0), .int .i64 ((rd_T30 t163 (ji17)).f1), .int .i64 ((rd_T30 t163 (ji17)).f2)] 30 (0, 0)) (by (with_reducible repeat (first | refine blk_drewN ?_ _ | refine blk_drew ?_ | refine blk_alloc ?_ _)); exact BK174.out) hb); have n3_ := Aside0.mk (below_step (by repeat (first | (with_reducible first | exact HB.out | apply below_alloc | apply pw_below_drewN | apply below_drew1 | refine below_set ?_ GE173.out | refine below_set ?_ GE174.out) | exact HB.out)) hb); have n4_ := Aside0.mk (hbox); have n5_ := Aside0.mk ((by rw [hg]; exact (below_size (by repeat (first | (with_reducible first | exact HB.out | apply below_alloc | apply pw_below_drewN | apply below_drew1 | refine below_set ?_ GE173.out | refine below_set ?_ GE174.out) | exact HB.out))) : w.heap.size ≤ gb175)); have n6_ := Aside0.mk ((by rw [hg]; exact (below_size (by repeat (first | (with_reducible first | exact HB.out | apply below_alloc | apply pw_below_drewN | apply below_drew1 | refine below_set ?_ GE173.out | refine below_set ?_ GE174.out) | exact HB.out))) : w.heap.size ≤ gb175)); have n7_ := Aside0.mk ((by rw [hg]; exact Nat.ne_of_lt (blk_lt (g := gb173) (o := .cells #[.int .i64 ((rd_T30 t163 (ji14)).f0), .int .i64 ((rd_T30 t163 (ji14)).f1), .int .i64 ((rd_T30 t163 (ji14)).f2)] 30 (0, 0)) (by (with_reducible repeat (first | refine blk_drewN ?_ _ | refine blk_drew ?_ | refine blk_alloc ?_ _)); exact BK173.out)) : gb173 ≠ gb175)); have n8_ := Aside0.mk ((by rw [hg]; exact Nat.ne_of_gt (blk_lt (g := gb173) (o := .cells #[.int .i64 ((rd_T30 t163 (ji14)).f0), .int .i64 ((rd_T30 t163 (ji14)).f1), .int .i64 ((rd_T30 t163 (ji14)).f2)] 30 (0, 0)) (by (with_reducible repeat (first | refine blk_drewN ?_ _ | refine blk_drew ?_ | refine blk_alloc ?_ _)); exact BK173.out)) : gb175 ≠ gb173)); have n9_ := Aside0.mk ((by rw [hg]; exact Nat.ne_of_lt (blk_lt (g := gb174) (o := .cells #[.int .i64 ((rd_T30 t163 (ji17)).f0), .int .i64 ((rd_T30 t163 (ji17)).f1), .int .i64 ((rd_T30 t163 (ji17)).f2)] 30 (0, 0)) (by (with_reducible repeat (first | refine blk_drewN ?_ _ | refine blk_drew ?_ | refine blk_alloc ?_ _)); exact BK174.out)) : gb174 ≠ gb175)); have n10_ := Aside0.mk ((by rw [hg]; exact Nat.ne_of_gt (blk_lt (g := gb174) (o := .cells #[.int .i64 ((rd_T30 t163 (ji17)).f0), .int .i64 ((rd_T30 t163 (ji17)).f1), .int .i64 ((rd_T30 t163 (ji17)).f2)] 30 (0, 0)) (by (with_reducible repeat (first | refine blk_drewN ?_ _ | refine blk_drew ?_ | refine blk_alloc ?_ _)); exact BK174.out)) : gb175 ≠ gb174)); clear HO_7; clear BK173; clear BK174; clear HB; have HO_7 := n0_; have BK173 := n1_; have BK174 := n2_; have HB := n3_; have BK175 := n4_; have GW175 := n5_; have GE175 := n6_; have NB173_175 := n7_; have NB175_173 := n8_; have NB174_175 := n9_; have NB175_174 := n10_; clear n0_ n1_ n2_ n3_ n4_ n5_ n6_ n7_ n8_ n9_ n10_; clear hb hbox hg; have hnb41 := NB175_173.out; have hnc41 := NB173_175.out; have hnb42 := NB175_174.out; have hnc42 := NB174_175.out; have hcz43_0 : w40.cell? ⟨gb175, 0, none⟩ = some (.int .i64 0) := (blk_cell BK175.out 0).trans rfl; have hcz43_1 : w40.cell? ⟨gb175, 1, none⟩ = some (.int .i64 0) := (blk_cell BK175.out 1).trans rfl; have hcz43_2 : w40.cell? ⟨gb175, 2, none⟩ = some (.int .i64 0) := (blk_cell BK175.out 2).trans rfl; have hfz43_0 := blk_frozen BK175.out 0; have hfz43_1 := blk_frozen BK175.out 1; have hfz43_2 := blk_frozen BK175.out 2))
           have n0_ : Aside0 (Kd.R k30 30 (((w40.setCell ⟨gb175, 0, none⟩ (.int .i64 ((rd_T30 t163 (ji14)).f0))).setCell ⟨gb175, 1, none⟩ (.int .i64 ((rd_T30 t163 (ji14)).f1))).setCell ⟨gb175, 2, none⟩ (.int .i64 (wrap64 (((rd_T30 t163 (ji17)).f1) + ((rd_T30 t163 (ji17)).f2))))) w.heap.size (fun k_ => k_ ≠ gb173 ∧ k_ ≠ gb174) (.slice (some ad171) t163.length co10) t163) := ⟨by (with_reducible repeat (first | apply Kd.R_alloc | apply Kd.R_drewN | apply Kd.R_drew)); exact Kd.R_mono (Kd.R_far (p := ⟨gb175, 2, none⟩) (Kd.R_far (p := ⟨gb175, 1, none⟩) (Kd.R_far (p := ⟨gb175, 0, none⟩) (Kd.R_types HO_7.out BK175.out (by decide)) (fun _ hk => hk.2) (.int .i64 ((rd_T30 t163 (ji14)).f0))) (fun _ hk => hk.2) (.int .i64 ((rd_T30 t163 (ji14)).f1))) (fun _ hk => hk.2) (.int .i64 (wrap64 (((rd_T30 t163 (ji17)).f1) + ((rd_T30 t163 (ji17)).f2))))) (fun _ hk => ⟨hk.1.1, hk.1.2⟩)⟩
           have n1_ : Aside0 ((((w40.setCell ⟨gb175, 0, none⟩ (.int .i64 ((rd_T30 t163 (ji14)).f0))).setCell ⟨gb175, 1, none⟩ (.int .i64 ((rd_T30 t163 (ji14)).f1))).setCell ⟨gb175, 2, none⟩ (.int .i64 (wrap64 (((rd_T30 t163 (ji17)).f1) + ((rd_T30 t163 (ji17)).f2))))).heap[gb173]? = some (.cells #[.int .i64 ((rd_T30 t163 (ji14)).f0), .int .i64 ((rd_T30 t163 (ji14)).f1), .int .i64 ((rd_T30 t163 (ji14)).f2)] 30 (0, 0))) := ⟨by (with_reducible repeat (first | refine blk_drewN ?_ _ | refine blk_drew ?_ | refine blk_alloc ?_ _)); refine blk_far ?_ NB173_175.out _; (with_reducible repeat (first | refine blk_drewN ?_ _ | refine blk_drew ?_ | refine blk_alloc ?_ _)); refine blk_far ?_ NB173_175.out _; (with_reducible repeat (first | refine blk_drewN ?_ _ | refine blk_drew ?_ | refine blk_alloc ?_ _)); refine blk_far ?_ NB173_175.out _; (with_reducible repeat (first | refine blk_drewN ?_ _ | refine blk_drew ?_ | refine blk_alloc ?_ _)); exact BK173.out⟩
           have n2_ : Aside0 ((((w40.setCell ⟨gb175, 0, none⟩ (.int .i64 ((rd_T30 t163 (ji14)).f0))).setCell ⟨gb175, 1, none⟩ (.int .i64 ((rd_T30 t163 (ji14)).f1))).setCell ⟨gb175, 2, none⟩ (.int .i64 (wrap64 (((rd_T30 t163 (ji17)).f1) + ((rd_T30 t163 (ji17)).f2))))).heap[gb174]? = some (.cells #[.int .i64 ((rd_T30 t163 (ji17)).f0), .int .i64 ((rd_T30 t163 (ji17)).f1), .int .i64 ((rd_T30 t163 (ji17)).f2)] 30 (0, 0))) := ⟨by (with_reducible repeat (first | refine blk_drewN ?_ _ | refine blk_drew ?_ | refine blk_alloc ?_ _)); refine blk_far ?_ NB174_175.out _; (with_reducible repeat (first | refine blk_drewN ?_ _ | refine blk_drew ?_ | refine blk_alloc ?_ _)); refine blk_far ?_ NB174_175.out _; (with_reducible repeat (first | refine blk_drewN ?_ _ | refine blk_drew ?_ | refine blk_alloc ?_ _)); refine blk_far ?_ NB174_175.out _; (with_reducible repeat (first | refine blk_drewN ?_ _ | refine blk_drew ?_ | refine blk_alloc ?_ _)); exact BK174.out⟩
           have n3_ : Aside0 ((((w40.setCell ⟨gb175, 0, none⟩ (.int .i64 ((rd_T30 t163 (ji14)).f0))).setCell ⟨gb175, 1, none⟩ (.int .i64 ((rd_T30 t163 (ji14)).f1))).setCell ⟨gb175, 2, none⟩ (.int .i64 (wrap64 (((rd_T30 t163 (ji17)).f1) + ((rd_T30 t163 (ji17)).f2))))).heap[gb175]? = some (.cells #[.int .i64 ((rd_T30 t163 (ji14)).f0), .int .i64 ((rd_T30 t163 (ji14)).f1), .int .i64 (wrap64 (((rd_T30 t163 (ji17)).f1) + ((rd_T30 t163 (ji17)).f2)))] 32 (0, 0))) := ⟨by (with_reducible repeat (first | refine blk_drewN ?_ _ | refine blk_drew ?_ | refine blk_alloc ?_ _)); refine blk_put (cs := #[.int .i64 ((rd_T30 t163 (ji14)).f0), .int .i64 ((rd_T30 t163 (ji14)).f1), .int .i64 0]) ?_ 2 _ rfl; (with_reducible repeat (first | refine blk_drewN ?_ _ | refine blk_drew ?_ | refine blk_alloc ?_ _)); refine blk_put (cs := #[.int .i64 ((rd_T30 t163 (ji14)).f0), .int .i64 0, .int .i64 0]) ?_ 1 _ rfl; (with_reducible repeat (first | refine blk_drewN ?_ _ | refine blk_drew ?_ | refine blk_alloc ?_ _)); refine blk_put (cs := #[.int .i64 0, .int .i64 0, .int .i64 0]) ?_ 0 _ rfl; (with_reducible repeat (first | refine blk_drewN ?_ _ | refine blk_drew ?_ | refine blk_alloc ?_ _)); exact BK175.out⟩
           have n4_ : Aside0 (Below w.heap.size w (((w40.setCell ⟨gb175, 0, none⟩ (.int .i64 ((rd_T30 t163 (ji14)).f0))).setCell ⟨gb175, 1, none⟩ (.int .i64 ((rd_T30 t163 (ji14)).f1))).setCell ⟨gb175, 2, none⟩ (.int .i64 (wrap64 (((rd_T30 t163 (ji17)).f1) + ((rd_T30 t163 (ji17)).f2)))))) := ⟨by repeat (first | (with_reducible first | exact HB.out | apply below_alloc | apply pw_below_drewN | apply below_drew1 | refine below_set ?_ GE173.out | refine below_set ?_ GE174.out | refine below_set ?_ GE175.out) | exact HB.out)⟩
           (try clear HO_7)
           (try clear BK173)
           (try clear BK174)
           (try clear BK175)
           (try clear HB)
           first | (rw [drewN_self (((w40.setCell ⟨gb175, 0, none⟩ (.int .i64 ((rd_T30 t163 (ji14)).f0))).setCell ⟨gb175, 1, none⟩ (.int .i64 ((rd_T30 t163 (ji14)).f1))).setCell ⟨gb175, 2, none⟩ (.int .i64 (wrap64 (((rd_T30 t163 (ji17)).f1) + ((rd_T30 t163 (ji17)).f2)))))]; generalize hq_ : World.drewN (((w40.setCell ⟨gb175, 0, none⟩ (.int .i64 ((rd_T30 t163 (ji14)).f0))).setCell ⟨gb175, 1, none⟩ (.int .i64 ((rd_T30 t163 (ji14)).f1))).setCell ⟨gb175, 2, none⟩ (.int .i64 (wrap64 (((rd_T30 t163 (ji17)).f1) + ((rd_T30 t163 (ji17)).f2))))) _ = w44; have m0_ : Aside0 (Kd.R k30 30 w44 w.heap.size (fun k_ => k_ ≠ gb173 ∧ k_ ≠ gb174) (.slice (some ad171) t163.length co10) t163) := ⟨by rw [← hq_]; first | exact Kd.R_drewN n0_.out _ | exact Kd.Q_drewN n0_.out _ | exact blk_drewN n0_.out _ | exact pw_below_drewN n0_.out _ | exact Kd.S_drewN n0_.out _ | exact n0_.out⟩; have m1_ : Aside0 (w44.heap[gb173]? = some (.cells #[.int .i64 ((rd_T30 t163 (ji14)).f0), .int .i64 ((rd_T30 t163 (ji14)).f1), .int .i64 ((rd_T30 t163 (ji14)).f2)] 30 (0, 0))) := ⟨by rw [← hq_]; first | exact Kd.R_drewN n1_.out _ | exact Kd.Q_drewN n1_.out _ | exact blk_drewN n1_.out _ | exact pw_below_drewN n1_.out _ | exact Kd.S_drewN n1_.out _ | exact n1_.out⟩; have m2_ : Aside0 (w44.heap[gb174]? = some (.cells #[.int .i64 ((rd_T30 t163 (ji17)).f0), .int .i64 ((rd_T30 t163 (ji17)).f1), .int .i64 ((rd_T30 t163 (ji17)).f2)] 30 (0, 0))) := ⟨by rw [← hq_]; first | exact Kd.R_drewN n2_.out _ | exact Kd.Q_drewN n2_.out _ | exact blk_drewN n2_.out _ | exact pw_below_drewN n2_.out _ | exact Kd.S_drewN n2_.out _ | exact n2_.out⟩; have m3_ : Aside0 (w44.heap[gb175]? = some (.cells #[.int .i64 ((rd_T30 t163 (ji14)).f0), .int .i64 ((rd_T30 t163 (ji14)).f1), .int .i64 (wrap64 (((rd_T30 t163 (ji17)).f1) + ((rd_T30 t163 (ji17)).f2)))] 32 (0, 0))) := ⟨by rw [← hq_]; first | exact Kd.R_drewN n3_.out _ | exact Kd.Q_drewN n3_.out _ | exact blk_drewN n3_.out _ | exact pw_below_drewN n3_.out _ | exact Kd.S_drewN n3_.out _ | exact n3_.out⟩; have m4_ : Aside0 (Below w.heap.size w w44) := ⟨by rw [← hq_]; first | exact Kd.R_drewN n4_.out _ | exact Kd.Q_drewN n4_.out _ | exact blk_drewN n4_.out _ | exact pw_below_drewN n4_.out _ | exact Kd.S_drewN n4_.out _ | exact n4_.out⟩; clear hq_ n0_ n1_ n2_ n3_ n4_; have n0_ := m0_; have n1_ := m1_; have n2_ := m2_; have n3_ := m3_; have n4_ := m4_; clear m0_ m1_ m2_ m3_ m4_) | (generalize (((w40.setCell ⟨gb175, 0, none⟩ (.int .i64 ((rd_T30 t163 (ji14)).f0))).setCell ⟨gb175, 1, none⟩ (.int .i64 ((rd_T30 t163 (ji14)).f1))).setCell ⟨gb175, 2, none⟩ (.int .i64 (wrap64 (((rd_T30 t163 (ji17)).f1) + ((rd_T30 t163 (ji17)).f2))))) = w44 at n0_ n1_ n2_ n3_ n4_ ⊢)
           have HO_7 := n0_
           have BK173 := n1_
           have BK174 := n2_
           have BK175 := n3_
           have HB := n4_
           clear n0_ n1_ n2_ n3_ n4_
           have n0_ := Aside0.mk (Kd.R_drew HO_7.out)
           have n1_ := Aside0.mk (blk_drew BK173.out)
           have n2_ := Aside0.mk (blk_drew BK174.out)
           have n3_ := Aside0.mk (blk_drew BK175.out)
           have n4_ := Aside0.mk (below_drew1 HB.out)
           clear HO_7
           clear BK173
           clear BK174
           clear BK175
           clear HB
           have HO_7 := n0_
           have BK173 := n1_
           have BK174 := n2_
           have BK175 := n3_
           have HB := n4_
           clear n0_ n1_ n2_ n3_ n4_
           refine start_ (n := 6) (S := fun w' => w'.cell? ⟨gb175, 0, none⟩ = some (.int .i64 ((rd_T30 t163 (ji14)).f0)) ∧ w'.cell? ⟨gb175, 1, none⟩ = some (.int .i64 ((rd_T30 t163 (ji14)).f1)) ∧ w'.cell? ⟨gb175, 2, none⟩ = some (.int .i64 (wrap64 (((rd_T30 t163 (ji17)).f1) + ((rd_T30 t163 (ji17)).f2))))) (ds := []) #[false, false, false, false, false, false] (by kernel_rfl) rfl rfl ⟨(blk_cell BK175.out 0).trans rfl, (blk_cell BK175.out 1).trans rfl, (blk_cell BK175.out 2).trans rfl⟩ (fun hHeld => ?_)
           generalize w44.drew = w45 at HO_7 BK173 BK174 BK175 HB hHeld ⊢
           refine take_ (i := 0) (N := some 59) (v := ?_) (a' := ?_) #[true, false, false, false, false, false] rfl rfl (by kernel_rfl) (fun _ _ _ h => h) (Or.inl ⟨by rfl, ?_⟩) hHeld ?_ ?_
           rotate_left
           ·
            rintro w' ⟨s0, s1, s2⟩
            go_simp
            with_reducible rfl
           rotate_left
           ·
            simp only [Act.put, List.setIfInBounds_toArray, List.set_cons_zero, List.set_cons_succ, i64_w, i32_w]
            rfl
           refine take_ (i := 1) (N := some 60) (v := ?_) (a' := ?_) #[true, true, false, false, false, false] rfl rfl (by kernel_rfl) (fun _ _ _ h => h) (Or.inl ⟨by rfl, ?_⟩) hHeld ?_ ?_
           rotate_left
           ·
            rintro w' ⟨s0, s1, s2⟩
            go_simp
            with_reducible rfl
           rotate_left
           ·
            simp only [Act.put, List.setIfInBounds_toArray, List.set_cons_zero, List.set_cons_succ, i64_w, i32_w]
            rfl
           refine join_ (σ := Nat × Nat) 2 #[true, true, true, true, false, false] (fun s_ => [(12, .pointer (some ⟨s_.1, 0, none⟩)), (13, .pointer (some ⟨s_.2, 0, none⟩))]) (fun s_ w' => (w'.cell? ⟨gb175, 0, none⟩ = some (.int .i64 ((rd_T30 t163 (ji14)).f0)) ∧ w'.cell? ⟨gb175, 1, none⟩ = some (.int .i64 ((rd_T30 t163 (ji14)).f1)) ∧ w'.cell? ⟨gb175, 2, none⟩ = some (.int .i64 (wrap64 (((rd_T30 t163 (ji17)).f1) + ((rd_T30 t163 (ji17)).f2))))) ∧ (Kd.R k30 30 w' w.heap.size (fun k_ => k_ ≠ gb173 ∧ k_ ≠ gb174) (.slice (some ad171) t163.length co10) t163) ∧ (w'.heap[gb173]? = some (.cells #[.int .i64 ((rd_T30 t163 (ji14)).f0), .int .i64 ((rd_T30 t163 (ji14)).f1), .int .i64 ((rd_T30 t163 (ji14)).f2)] 30 (0, 0))) ∧ (w'.heap[gb174]? = some (.cells #[.int .i64 ((rd_T30 t163 (ji17)).f0), .int .i64 ((rd_T30 t163 (ji17)).f1), .int .i64 ((rd_T30 t163 (ji17)).f2)] 30 (0, 0))) ∧ (w'.heap[gb175]? = some (.cells #[.int .i64 ((rd_T30 t163 (ji14)).f0), .int .i64 ((rd_T30 t163 (ji14)).f1), .int .i64 (wrap64 (((rd_T30 t163 (ji17)).f1) + ((rd_T30 t163 (ji17)).f2)))] 32 (0, 0))) ∧ (w'.heap[s_.1]? = some (.cells #[.int .i64 0, .int .i64 0, .int .i64 0] 32 (0, 0))) ∧ (w'.heap[s_.2]? = some (.cells #[.int .i64 0, .int .i64 0, .int .i64 0] 32 (0, 0))) ∧ (w.heap.size ≤ s_.1) ∧ (w.heap.size ≤ s_.1) ∧ (gb173 ≠ s_.1) ∧ (s_.1 ≠ gb173) ∧ (gb174 ≠ s_.1) ∧ (s_.1 ≠ gb174) ∧ (gb175 ≠ s_.1) ∧ (s_.1 ≠ gb175) ∧ (s_.2 ≠ s_.1) ∧ (s_.1 ≠ s_.2) ∧ (w.heap.size ≤ s_.2) ∧ (w.heap.size ≤ s_.2) ∧ (gb173 ≠ s_.2) ∧ (s_.2 ≠ gb173) ∧ (gb174 ≠ s_.2) ∧ (s_.2 ≠ gb174) ∧ (gb175 ≠ s_.2) ∧ (s_.2 ≠ gb175) ∧ (Below w.heap.size w w')) ?_ ?_
           rotate_left
           ·
            intro hCont
            refine two_ (i := 2) (j := 3) (Ni := some 12) (Nj := some 13) #[true, true, true, false, false, false] #[true, true, false, true, false, false] rfl rfl rfl rfl (by kernel_rfl) (by decide) (by decide) (fun K hK => ?_) (fun K hK => ?_)
            ·
             skip
             refine box_step ?hg (N := 12) ?hd (cs := #[.int .i64 0, .int .i64 0, .int .i64 0]) (t := 32) ?hr ?_; (case hd => rfl); (case hg => rfl); (case hr => first | (go_simp; done) | (go_simp; rfl))
             intro gb176 hg w46 hbox hb
             have n0_ := Aside0.mk (Kd.R_below (by (with_reducible repeat (first | apply Kd.R_alloc | apply Kd.R_drewN | apply Kd.R_drew)); exact HO_7.out) hb)
             have n1_ := Aside0.mk (blk_below (g := gb173) (o := .cells #[.int .i64 ((rd_T30 t163 (ji14)).f0), .int .i64 ((rd_T30 t163 (ji14)).f1), .int .i64 ((rd_T30 t163 (ji14)).f2)] 30 (0, 0)) (by (with_reducible repeat (first | refine blk_drewN ?_ _ | refine blk_drew ?_ | refine blk_alloc ?_ _)); exact BK173.out) hb)
             have n2_ := Aside0.mk (blk_below (g := gb174) (o := .cells #[.int .i64 ((rd_T30 t163 (ji17)).f0), .int .i64 ((rd_T30 t163 (ji17)).f1), .int .i64 ((rd_T30 t163 (ji17)).f2)] 30 (0, 0)) (by (with_reducible repeat (first | refine blk_drewN ?_ _ | refine blk_drew ?_ | refine blk_alloc ?_ _)); exact BK174.out) hb)
             have n3_ := Aside0.mk (blk_below (g := gb175) (o := .cells #[.int .i64 ((rd_T30 t163 (ji14)).f0), .int .i64 ((rd_T30 t163 (ji14)).f1), .int .i64 (wrap64 (((rd_T30 t163 (ji17)).f1) + ((rd_T30 t163 (ji17)).f2)))] 32 (0, 0)) (by (with_reducible repeat (first | refine blk_drewN ?_ _ | refine blk_drew ?_ | refine blk_alloc ?_ _)); exact BK175.out) hb)
             have n4_ := Aside0.mk (below_step (by repeat (first | (with_reducible first | exact HB.out | apply below_alloc | apply pw_below_drewN | apply below_drew1 | refine below_set ?_ GE173.out | refine below_set ?_ GE174.out | refine below_set ?_ GE175.out) | exact HB.out)) hb)
             have n5_ := Aside0.mk (hbox)
             have n6_ := Aside0.mk ((by rw [hg]; exact (below_size (by repeat (first | (with_reducible first | exact HB.out | apply below_alloc | apply pw_below_drewN | apply below_drew1 | refine below_set ?_ GE173.out | refine below_set ?_ GE174.out | refine below_set ?_ GE175.out) | exact HB.out))) : w.heap.size ≤ gb176))
             have n7_ := Aside0.mk ((by rw [hg]; exact (below_size (by repeat (first | (with_reducible first | exact HB.out | apply below_alloc | apply pw_below_drewN | apply below_drew1 | refine below_set ?_ GE173.out | refine below_set ?_ GE174.out | refine below_set ?_ GE175.out) | exact HB.out))) : w.heap.size ≤ gb176))
             have n8_ := Aside0.mk ((by rw [hg]; exact Nat.ne_of_lt (blk_lt (g := gb173) (o := .cells #[.int .i64 ((rd_T30 t163 (ji14)).f0), .int .i64 ((rd_T30 t163 (ji14)).f1), .int .i64 ((rd_T30 t163 (ji14)).f2)] 30 (0, 0)) (by (with_reducible repeat (first | refine blk_drewN ?_ _ | refine blk_drew ?_ | refine blk_alloc ?_ _)); exact BK173.out)) : gb173 ≠ gb176))
             have n9_ := Aside0.mk ((by rw [hg]; exact Nat.ne_of_gt (blk_lt (g := gb173) (o := .cells #[.int .i64 ((rd_T30 t163 (ji14)).f0), .int .i64 ((rd_T30 t163 (ji14)).f1), .int .i64 ((rd_T30 t163 (ji14)).f2)] 30 (0, 0)) (by (with_reducible repeat (first | refine blk_drewN ?_ _ | refine blk_drew ?_ | refine blk_alloc ?_ _)); exact BK173.out)) : gb176 ≠ gb173))
             have n10_ := Aside0.mk ((by rw [hg]; exact Nat.ne_of_lt (blk_lt (g := gb174) (o := .cells #[.int .i64 ((rd_T30 t163 (ji17)).f0), .int .i64 ((rd_T30 t163 (ji17)).f1), .int .i64 ((rd_T30 t163 (ji17)).f2)] 30 (0, 0)) (by (with_reducible repeat (first | refine blk_drewN ?_ _ | refine blk_drew ?_ | refine blk_alloc ?_ _)); exact BK174.out)) : gb174 ≠ gb176))
             have n11_ := Aside0.mk ((by rw [hg]; exact Nat.ne_of_gt (blk_lt (g := gb174) (o := .cells #[.int .i64 ((rd_T30 t163 (ji17)).f0), .int .i64 ((rd_T30 t163 (ji17)).f1), .int .i64 ((rd_T30 t163 (ji17)).f2)] 30 (0, 0)) (by (with_reducible repeat (first | refine blk_drewN ?_ _ | refine blk_drew ?_ | refine blk_alloc ?_ _)); exact BK174.out)) : gb176 ≠ gb174))
             have n12_ := Aside0.mk ((by rw [hg]; exact Nat.ne_of_lt (blk_lt (g := gb175) (o := .cells #[.int .i64 ((rd_T30 t163 (ji14)).f0), .int .i64 ((rd_T30 t163 (ji14)).f1), .int .i64 (wrap64 (((rd_T30 t163 (ji17)).f1) + ((rd_T30 t163 (ji17)).f2)))] 32 (0, 0)) (by (with_reducible repeat (first | refine blk_drewN ?_ _ | refine blk_drew ?_ | refine blk_alloc ?_ _)); exact BK175.out)) : gb175 ≠ gb176))
             have n13_ := Aside0.mk ((by rw [hg]; exact Nat.ne_of_gt (blk_lt (g := gb175) (o := .cells #[.int .i64 ((rd_T30 t163 (ji14)).f0), .int .i64 ((rd_T30 t163 (ji14)).f1), .int .i64 (wrap64 (((rd_T30 t163 (ji17)).f1) + ((rd_T30 t163 (ji17)).f2)))] 32 (0, 0)) (by (with_reducible repeat (first | refine blk_drewN ?_ _ | refine blk_drew ?_ | refine blk_alloc ?_ _)); exact BK175.out)) : gb176 ≠ gb175))
             clear HO_7
             clear BK173
             clear BK174
             clear BK175
             clear HB
             have HO_7 := n0_
             have BK173 := n1_
             have BK174 := n2_
             have BK175 := n3_
             have HB := n4_
             have BK176 := n5_
             have GW176 := n6_
             have GE176 := n7_
             have NB173_176 := n8_
             have NB176_173 := n9_
             have NB174_176 := n10_
             have NB176_174 := n11_
             have NB175_176 := n12_
             have NB176_175 := n13_
             clear n0_ n1_ n2_ n3_ n4_ n5_ n6_ n7_ n8_ n9_ n10_ n11_ n12_ n13_
             clear hb hbox hg
             refine hK.out _ _ ⟨(blk_cell BK175.out 0).trans rfl, (blk_cell BK175.out 1).trans rfl, (blk_cell BK175.out 2).trans rfl⟩ (fun hHeld => ?_)
             clear hK K
             refine norm_ (a' := ?_) ?_ ?_
             rotate_left
             ·
              show Act.put _ (some 12) _ = _
              simp only [Act.put, List.setIfInBounds_toArray, List.set_cons_zero, List.set_cons_succ, i64_w, i32_w]
              rfl
             refine one_ (i := 3) (N := some 13) #[true, true, true, true, false, false] rfl rfl (by kernel_rfl) (by decide) (fun K hK => ?_)
             refine box_step ?hg (N := 13) ?hd (cs := #[.int .i64 0, .int .i64 0, .int .i64 0]) (t := 32) ?hr ?_; (case hd => rfl); (case hg => rfl); (case hr => first | (go_simp; done) | (go_simp; rfl))
             intro gb177 hg w47 hbox hb
             have n0_ := Aside0.mk (Kd.R_below (by (with_reducible repeat (first | apply Kd.R_alloc | apply Kd.R_drewN | apply Kd.R_drew)); exact HO_7.out) hb)
             have n1_ := Aside0.mk (blk_below (g := gb173) (o := .cells #[.int .i64 ((rd_T30 t163 (ji14)).f0), .int .i64 ((rd_T30 t163 (ji14)).f1), .int .i64 ((rd_T30 t163 (ji14)).f2)] 30 (0, 0)) (by (with_reducible repeat (first | refine blk_drewN ?_ _ | refine blk_drew ?_ | refine blk_alloc ?_ _)); exact BK173.out) hb)
             have n2_ := Aside0.mk (blk_below (g := gb174) (o := .cells #[.int .i64 ((rd_T30 t163 (ji17)).f0), .int .i64 ((rd_T30 t163 (ji17)).f1), .int .i64 ((rd_T30 t163 (ji17)).f2)] 30 (0, 0)) (by (with_reducible repeat (first | refine blk_drewN ?_ _ | refine blk_drew ?_ | refine blk_alloc ?_ _)); exact BK174.out) hb)
             have n3_ := Aside0.mk (blk_below (g := gb175) (o := .cells #[.int .i64 ((rd_T30 t163 (ji14)).f0), .int .i64 ((rd_T30 t163 (ji14)).f1), .int .i64 (wrap64 (((rd_T30 t163 (ji17)).f1) + ((rd_T30 t163 (ji17)).f2)))] 32 (0, 0)) (by (with_reducible repeat (first | refine blk_drewN ?_ _ | refine blk_drew ?_ | refine blk_alloc ?_ _)); exact BK175.out) hb)
             have n4_ := Aside0.mk (blk_below (g := gb176) (o := .cells #[.int .i64 0, .int .i64 0, .int .i64 0] 32 (0, 0)) (by (with_reducible repeat (first | refine blk_drewN ?_ _ | refine blk_drew ?_ | refine blk_alloc ?_ _)); exact BK176.out) hb)
             have n5_ := Aside0.mk (below_step (by repeat (first | (with_reducible first | exact HB.out | apply below_alloc | apply pw_below_drewN | apply below_drew1 | refine below_set ?_ GE173.out | refine below_set ?_ GE174.out | refine below_set ?_ GE175.out | refine below_set ?_ GE176.out) | exact HB.out)) hb)
             have n6_ := Aside0.mk (hbox)
             have n7_ := Aside0.mk ((by rw [hg]; exact (below_size (by repeat (first | (with_reducible first | exact HB.out | apply below_alloc | apply pw_below_drewN | apply below_drew1 | refine below_set ?_ GE173.out | refine below_set ?_ GE174.out | refine below_set ?_ GE175.out | refine below_set ?_ GE176.out) | exact HB.out))) : w.heap.size ≤ gb177))
             have n8_ := Aside0.mk ((by rw [hg]; exact (below_size (by repeat (first | (with_reducible first | exact HB.out | apply below_alloc | apply pw_below_drewN | apply below_drew1 | refine below_set ?_ GE173.out | refine below_set ?_ GE174.out | refine below_set ?_ GE175.out | refine below_set ?_ GE176.out) | exact HB.out))) : w.heap.size ≤ gb177))
             have n9_ := Aside0.mk ((by rw [hg]; exact Nat.ne_of_lt (blk_lt (g := gb173) (o := .cells #[.int .i64 ((rd_T30 t163 (ji14)).f0), .int .i64 ((rd_T30 t163 (ji14)).f1), .int .i64 ((rd_T30 t163 (ji14)).f2)] 30 (0, 0)) (by (with_reducible repeat (first | refine blk_drewN ?_ _ | refine blk_drew ?_ | refine blk_alloc ?_ _)); exact BK173.out)) : gb173 ≠ gb177))
             have n10_ := Aside0.mk ((by rw [hg]; exact Nat.ne_of_gt (blk_lt (g := gb173) (o := .cells #[.int .i64 ((rd_T30 t163 (ji14)).f0), .int .i64 ((rd_T30 t163 (ji14)).f1), .int .i64 ((rd_T30 t163 (ji14)).f2)] 30 (0, 0)) (by (with_reducible repeat (first | refine blk_drewN ?_ _ | refine blk_drew ?_ | refine blk_alloc ?_ _)); exact BK173.out)) : gb177 ≠ gb173))
             have n11_ := Aside0.mk ((by rw [hg]; exact Nat.ne_of_lt (blk_lt (g := gb174) (o := .cells #[.int .i64 ((rd_T30 t163 (ji17)).f0), .int .i64 ((rd_T30 t163 (ji17)).f1), .int .i64 ((rd_T30 t163 (ji17)).f2)] 30 (0, 0)) (by (with_reducible repeat (first | refine blk_drewN ?_ _ | refine blk_drew ?_ | refine blk_alloc ?_ _)); exact BK174.out)) : gb174 ≠ gb177))
             have n12_ := Aside0.mk ((by rw [hg]; exact Nat.ne_of_gt (blk_lt (g := gb174) (o := .cells #[.int .i64 ((rd_T30 t163 (ji17)).f0), .int .i64 ((rd_T30 t163 (ji17)).f1), .int .i64 ((rd_T30 t163 (ji17)).f2)] 30 (0, 0)) (by (with_reducible repeat (first | refine blk_drewN ?_ _ | refine blk_drew ?_ | refine blk_alloc ?_ _)); exact BK174.out)) : gb177 ≠ gb174))
             have n13_ := Aside0.mk ((by rw [hg]; exact Nat.ne_of_lt (blk_lt (g := gb175) (o := .cells #[.int .i64 ((rd_T30 t163 (ji14)).f0), .int .i64 ((rd_T30 t163 (ji14)).f1), .int .i64 (wrap64 (((rd_T30 t163 (ji17)).f1) + ((rd_T30 t163 (ji17)).f2)))] 32 (0, 0)) (by (with_reducible repeat (first | refine blk_drewN ?_ _ | refine blk_drew ?_ | refine blk_alloc ?_ _)); exact BK175.out)) : gb175 ≠ gb177))
             have n14_ := Aside0.mk ((by rw [hg]; exact Nat.ne_of_gt (blk_lt (g := gb175) (o := .cells #[.int .i64 ((rd_T30 t163 (ji14)).f0), .int .i64 ((rd_T30 t163 (ji14)).f1), .int .i64 (wrap64 (((rd_T30 t163 (ji17)).f1) + ((rd_T30 t163 (ji17)).f2)))] 32 (0, 0)) (by (with_reducible repeat (first | refine blk_drewN ?_ _ | refine blk_drew ?_ | refine blk_alloc ?_ _)); exact BK175.out)) : gb177 ≠ gb175))
             have n15_ := Aside0.mk ((by rw [hg]; exact Nat.ne_of_lt (blk_lt (g := gb176) (o := .cells #[.int .i64 0, .int .i64 0, .int .i64 0] 32 (0, 0)) (by (with_reducible repeat (first | refine blk_drewN ?_ _ | refine blk_drew ?_ | refine blk_alloc ?_ _)); exact BK176.out)) : gb176 ≠ gb177))
             have n16_ := Aside0.mk ((by rw [hg]; exact Nat.ne_of_gt (blk_lt (g := gb176) (o := .cells #[.int .i64 0, .int .i64 0, .int .i64 0] 32 (0, 0)) (by (with_reducible repeat (first | refine blk_drewN ?_ _ | refine blk_drew ?_ | refine blk_alloc ?_ _)); exact BK176.out)) : gb177 ≠ gb176))
             clear HO_7
             clear BK173
             clear BK174
             clear BK175
             clear BK176
             clear HB
             have HO_7 := n0_
             have BK173 := n1_
             have BK174 := n2_
             have BK175 := n3_
             have BK176 := n4_
             have HB := n5_
             have BK177 := n6_
             have GW177 := n7_
             have GE177 := n8_
             have NB173_177 := n9_
             have NB177_173 := n10_
             have NB174_177 := n11_
             have NB177_174 := n12_
             have NB175_177 := n13_
             have NB177_175 := n14_
             have NB176_177 := n15_
             have NB177_176 := n16_
             clear n0_ n1_ n2_ n3_ n4_ n5_ n6_ n7_ n8_ n9_ n10_ n11_ n12_ n13_ n14_ n15_ n16_
             clear hb hbox hg
             refine hK.out _ _ ⟨(blk_cell BK175.out 0).trans rfl, (blk_cell BK175.out 1).trans rfl, (blk_cell BK175.out 2).trans rfl⟩ (fun hHeld => ?_)
             clear hK K
             refine norm_ (a' := ?_) ?_ ?_
             rotate_left
             ·
              show Act.put _ (some 13) _ = _
              simp only [Act.put, List.setIfInBounds_toArray, List.set_cons_zero, List.set_cons_succ, i64_w, i32_w]
              rfl
             exact norm_ (by simp only [putAll, Act.put, List.setIfInBounds_toArray, List.set_cons_zero, List.set_cons_succ]) (hCont (gb176, gb177) _ ⟨hHeld, (by (with_reducible repeat (first | apply Kd.R_alloc | apply Kd.R_drewN | apply Kd.R_drew)); exact HO_7.out), (by (with_reducible repeat (first | refine blk_drewN ?_ _ | refine blk_drew ?_ | refine blk_alloc ?_ _)); exact BK173.out), (by (with_reducible repeat (first | refine blk_drewN ?_ _ | refine blk_drew ?_ | refine blk_alloc ?_ _)); exact BK174.out), (by (with_reducible repeat (first | refine blk_drewN ?_ _ | refine blk_drew ?_ | refine blk_alloc ?_ _)); exact BK175.out), (by (with_reducible repeat (first | refine blk_drewN ?_ _ | refine blk_drew ?_ | refine blk_alloc ?_ _)); exact BK176.out), (by (with_reducible repeat (first | refine blk_drewN ?_ _ | refine blk_drew ?_ | refine blk_alloc ?_ _)); exact BK177.out), GW176.out, GE176.out, NB173_176.out, NB176_173.out, NB174_176.out, NB176_174.out, NB175_176.out, NB176_175.out, NB177_176.out, NB176_177.out, GW177.out, GE177.out, NB173_177.out, NB177_173.out, NB174_177.out, NB177_174.out, NB175_177.out, NB177_175.out, (by repeat (first | (with_reducible first | exact HB.out | apply below_alloc | apply pw_below_drewN | apply below_drew1 | refine below_set ?_ GE173.out | refine below_set ?_ GE174.out | refine below_set ?_ GE175.out | refine below_set ?_ GE176.out | refine below_set ?_ GE177.out) | exact HB.out))⟩)
            ·
             skip
             refine box_step ?hg (N := 13) ?hd (cs := #[.int .i64 0, .int .i64 0, .int .i64 0]) (t := 32) ?hr ?_; (case hd => rfl); (case hg => rfl); (case hr => first | (go_simp; done) | (go_simp; rfl))
             intro gb177 hg w46 hbox hb
             have n0_ := Aside0.mk (Kd.R_below (by (with_reducible repeat (first | apply Kd.R_alloc | apply Kd.R_drewN | apply Kd.R_drew)); exact HO_7.out) hb)
             have n1_ := Aside0.mk (blk_below (g := gb173) (o := .cells #[.int .i64 ((rd_T30 t163 (ji14)).f0), .int .i64 ((rd_T30 t163 (ji14)).f1), .int .i64 ((rd_T30 t163 (ji14)).f2)] 30 (0, 0)) (by (with_reducible repeat (first | refine blk_drewN ?_ _ | refine blk_drew ?_ | refine blk_alloc ?_ _)); exact BK173.out) hb)
             have n2_ := Aside0.mk (blk_below (g := gb174) (o := .cells #[.int .i64 ((rd_T30 t163 (ji17)).f0), .int .i64 ((rd_T30 t163 (ji17)).f1), .int .i64 ((rd_T30 t163 (ji17)).f2)] 30 (0, 0)) (by (with_reducible repeat (first | refine blk_drewN ?_ _ | refine blk_drew ?_ | refine blk_alloc ?_ _)); exact BK174.out) hb)
             have n3_ := Aside0.mk (blk_below (g := gb175) (o := .cells #[.int .i64 ((rd_T30 t163 (ji14)).f0), .int .i64 ((rd_T30 t163 (ji14)).f1), .int .i64 (wrap64 (((rd_T30 t163 (ji17)).f1) + ((rd_T30 t163 (ji17)).f2)))] 32 (0, 0)) (by (with_reducible repeat (first | refine blk_drewN ?_ _ | refine blk_drew ?_ | refine blk_alloc ?_ _)); exact BK175.out) hb)
             have n4_ := Aside0.mk (below_step (by repeat (first | (with_reducible first | exact HB.out | apply below_alloc | apply pw_below_drewN | apply below_drew1 | refine below_set ?_ GE173.out | refine below_set ?_ GE174.out | refine below_set ?_ GE175.out) | exact HB.out)) hb)
             have n5_ := Aside0.mk (hbox)
             have n6_ := Aside0.mk ((by rw [hg]; exact (below_size (by repeat (first | (with_reducible first | exact HB.out | apply below_alloc | apply pw_below_drewN | apply below_drew1 | refine below_set ?_ GE173.out | refine below_set ?_ GE174.out | refine below_set ?_ GE175.out) | exact HB.out))) : w.heap.size ≤ gb177))
             have n7_ := Aside0.mk ((by rw [hg]; exact (below_size (by repeat (first | (with_reducible first | exact HB.out | apply below_alloc | apply pw_below_drewN | apply below_drew1 | refine below_set ?_ GE173.out | refine below_set ?_ GE174.out | refine below_set ?_ GE175.out) | exact HB.out))) : w.heap.size ≤ gb177))
             have n8_ := Aside0.mk ((by rw [hg]; exact Nat.ne_of_lt (blk_lt (g := gb173) (o := .cells #[.int .i64 ((rd_T30 t163 (ji14)).f0), .int .i64 ((rd_T30 t163 (ji14)).f1), .int .i64 ((rd_T30 t163 (ji14)).f2)] 30 (0, 0)) (by (with_reducible repeat (first | refine blk_drewN ?_ _ | refine blk_drew ?_ | refine blk_alloc ?_ _)); exact BK173.out)) : gb173 ≠ gb177))
             have n9_ := Aside0.mk ((by rw [hg]; exact Nat.ne_of_gt (blk_lt (g := gb173) (o := .cells #[.int .i64 ((rd_T30 t163 (ji14)).f0), .int .i64 ((rd_T30 t163 (ji14)).f1), .int .i64 ((rd_T30 t163 (ji14)).f2)] 30 (0, 0)) (by (with_reducible repeat (first | refine blk_drewN ?_ _ | refine blk_drew ?_ | refine blk_alloc ?_ _)); exact BK173.out)) : gb177 ≠ gb173))
             have n10_ := Aside0.mk ((by rw [hg]; exact Nat.ne_of_lt (blk_lt (g := gb174) (o := .cells #[.int .i64 ((rd_T30 t163 (ji17)).f0), .int .i64 ((rd_T30 t163 (ji17)).f1), .int .i64 ((rd_T30 t163 (ji17)).f2)] 30 (0, 0)) (by (with_reducible repeat (first | refine blk_drewN ?_ _ | refine blk_drew ?_ | refine blk_alloc ?_ _)); exact BK174.out)) : gb174 ≠ gb177))
             have n11_ := Aside0.mk ((by rw [hg]; exact Nat.ne_of_gt (blk_lt (g := gb174) (o := .cells #[.int .i64 ((rd_T30 t163 (ji17)).f0), .int .i64 ((rd_T30 t163 (ji17)).f1), .int .i64 ((rd_T30 t163 (ji17)).f2)] 30 (0, 0)) (by (with_reducible repeat (first | refine blk_drewN ?_ _ | refine blk_drew ?_ | refine blk_alloc ?_ _)); exact BK174.out)) : gb177 ≠ gb174))
             have n12_ := Aside0.mk ((by rw [hg]; exact Nat.ne_of_lt (blk_lt (g := gb175) (o := .cells #[.int .i64 ((rd_T30 t163 (ji14)).f0), .int .i64 ((rd_T30 t163 (ji14)).f1), .int .i64 (wrap64 (((rd_T30 t163 (ji17)).f1) + ((rd_T30 t163 (ji17)).f2)))] 32 (0, 0)) (by (with_reducible repeat (first | refine blk_drewN ?_ _ | refine blk_drew ?_ | refine blk_alloc ?_ _)); exact BK175.out)) : gb175 ≠ gb177))
             have n13_ := Aside0.mk ((by rw [hg]; exact Nat.ne_of_gt (blk_lt (g := gb175) (o := .cells #[.int .i64 ((rd_T30 t163 (ji14)).f0), .int .i64 ((rd_T30 t163 (ji14)).f1), .int .i64 (wrap64 (((rd_T30 t163 (ji17)).f1) + ((rd_T30 t163 (ji17)).f2)))] 32 (0, 0)) (by (with_reducible repeat (first | refine blk_drewN ?_ _ | refine blk_drew ?_ | refine blk_alloc ?_ _)); exact BK175.out)) : gb177 ≠ gb175))
             clear HO_7
             clear BK173
             clear BK174
             clear BK175
             clear HB
             have HO_7 := n0_
             have BK173 := n1_
             have BK174 := n2_
             have BK175 := n3_
             have HB := n4_
             have BK177 := n5_
             have GW177 := n6_
             have GE177 := n7_
             have NB173_177 := n8_
             have NB177_173 := n9_
             have NB174_177 := n10_
             have NB177_174 := n11_
             have NB175_177 := n12_
             have NB177_175 := n13_
             clear n0_ n1_ n2_ n3_ n4_ n5_ n6_ n7_ n8_ n9_ n10_ n11_ n12_ n13_
             clear hb hbox hg
             refine hK.out _ _ ⟨(blk_cell BK175.out 0).trans rfl, (blk_cell BK175.out 1).trans rfl, (blk_cell BK175.out 2).trans rfl⟩ (fun hHeld => ?_)
             clear hK K
             refine norm_ (a' := ?_) ?_ ?_
             rotate_left
             ·
              show Act.put _ (some 13) _ = _
              simp only [Act.put, List.setIfInBounds_toArray, List.set_cons_zero, List.set_cons_succ, i64_w, i32_w]
              rfl
             refine one_ (i := 2) (N := some 12) #[true, true, true, true, false, false] rfl rfl (by kernel_rfl) (by decide) (fun K hK => ?_)
             refine box_step ?hg (N := 12) ?hd (cs := #[.int .i64 0, .int .i64 0, .int .i64 0]) (t := 32) ?hr ?_; (case hd => rfl); (case hg => rfl); (case hr => first | (go_simp; done) | (go_simp; rfl))
             intro gb176 hg w47 hbox hb
             have n0_ := Aside0.mk (Kd.R_below (by (with_reducible repeat (first | apply Kd.R_alloc | apply Kd.R_drewN | apply Kd.R_drew)); exact HO_7.out) hb)
             have n1_ := Aside0.mk (blk_below (g := gb173) (o := .cells #[.int .i64 ((rd_T30 t163 (ji14)).f0), .int .i64 ((rd_T30 t163 (ji14)).f1), .int .i64 ((rd_T30 t163 (ji14)).f2)] 30 (0, 0)) (by (with_reducible repeat (first | refine blk_drewN ?_ _ | refine blk_drew ?_ | refine blk_alloc ?_ _)); exact BK173.out) hb)
             have n2_ := Aside0.mk (blk_below (g := gb174) (o := .cells #[.int .i64 ((rd_T30 t163 (ji17)).f0), .int .i64 ((rd_T30 t163 (ji17)).f1), .int .i64 ((rd_T30 t163 (ji17)).f2)] 30 (0, 0)) (by (with_reducible repeat (first | refine blk_drewN ?_ _ | refine blk_drew ?_ | refine blk_alloc ?_ _)); exact BK174.out) hb)
             have n3_ := Aside0.mk (blk_below (g := gb175) (o := .cells #[.int .i64 ((rd_T30 t163 (ji14)).f0), .int .i64 ((rd_T30 t163 (ji14)).f1), .int .i64 (wrap64 (((rd_T30 t163 (ji17)).f1) + ((rd_T30 t163 (ji17)).f2)))] 32 (0, 0)) (by (with_reducible repeat (first | refine blk_drewN ?_ _ | refine blk_drew ?_ | refine blk_alloc ?_ _)); exact BK175.out) hb)
             have n4_ := Aside0.mk (blk_below (g := gb177) (o := .cells #[.int .i64 0, .int .i64 0, .int .i64 0] 32 (0, 0)) (by (with_reducible repeat (first | refine blk_drewN ?_ _ | refine blk_drew ?_ | refine blk_alloc ?_ _)); exact BK177.out) hb)
             have n5_ := Aside0.mk (below_step (by repeat (first | (with_reducible first | exact HB.out | apply below_alloc | apply pw_below_drewN | apply below_drew1 | refine below_set ?_ GE173.out | refine below_set ?_ GE174.out | refine below_set ?_ GE175.out | refine below_set ?_ GE177.out) | exact HB.out)) hb)
             have n6_ := Aside0.mk (hbox)
             have n7_ := Aside0.mk ((by rw [hg]; exact (below_size (by repeat (first | (with_reducible first | exact HB.out | apply below_alloc | apply pw_below_drewN | apply below_drew1 | refine below_set ?_ GE173.out | refine below_set ?_ GE174.out | refine below_set ?_ GE175.out | refine below_set ?_ GE177.out) | exact HB.out))) : w.heap.size ≤ gb176))
             have n8_ := Aside0.mk ((by rw [hg]; exact (below_size (by repeat (first | (with_reducible first | exact HB.out | apply below_alloc | apply pw_below_drewN | apply below_drew1 | refine below_set ?_ GE173.out | refine below_set ?_ GE174.out | refine below_set ?_ GE175.out | refine below_set ?_ GE177.out) | exact HB.out))) : w.heap.size ≤ gb176))
             have n9_ := Aside0.mk ((by rw [hg]; exact Nat.ne_of_lt (blk_lt (g := gb173) (o := .cells #[.int .i64 ((rd_T30 t163 (ji14)).f0), .int .i64 ((rd_T30 t163 (ji14)).f1), .int .i64 ((rd_T30 t163 (ji14)).f2)] 30 (0, 0)) (by (with_reducible repeat (first | refine blk_drewN ?_ _ | refine blk_drew ?_ | refine blk_alloc ?_ _)); exact BK173.out)) : gb173 ≠ gb176))
             have n10_ := Aside0.mk ((by rw [hg]; exact Nat.ne_of_gt (blk_lt (g := gb173) (o := .cells #[.int .i64 ((rd_T30 t163 (ji14)).f0), .int .i64 ((rd_T30 t163 (ji14)).f1), .int .i64 ((rd_T30 t163 (ji14)).f2)] 30 (0, 0)) (by (with_reducible repeat (first | refine blk_drewN ?_ _ | refine blk_drew ?_ | refine blk_alloc ?_ _)); exact BK173.out)) : gb176 ≠ gb173))
             have n11_ := Aside0.mk ((by rw [hg]; exact Nat.ne_of_lt (blk_lt (g := gb174) (o := .cells #[.int .i64 ((rd_T30 t163 (ji17)).f0), .int .i64 ((rd_T30 t163 (ji17)).f1), .int .i64 ((rd_T30 t163 (ji17)).f2)] 30 (0, 0)) (by (with_reducible repeat (first | refine blk_drewN ?_ _ | refine blk_drew ?_ | refine blk_alloc ?_ _)); exact BK174.out)) : gb174 ≠ gb176))
             have n12_ := Aside0.mk ((by rw [hg]; exact Nat.ne_of_gt (blk_lt (g := gb174) (o := .cells #[.int .i64 ((rd_T30 t163 (ji17)).f0), .int .i64 ((rd_T30 t163 (ji17)).f1), .int .i64 ((rd_T30 t163 (ji17)).f2)] 30 (0, 0)) (by (with_reducible repeat (first | refine blk_drewN ?_ _ | refine blk_drew ?_ | refine blk_alloc ?_ _)); exact BK174.out)) : gb176 ≠ gb174))
             have n13_ := Aside0.mk ((by rw [hg]; exact Nat.ne_of_lt (blk_lt (g := gb175) (o := .cells #[.int .i64 ((rd_T30 t163 (ji14)).f0), .int .i64 ((rd_T30 t163 (ji14)).f1), .int .i64 (wrap64 (((rd_T30 t163 (ji17)).f1) + ((rd_T30 t163 (ji17)).f2)))] 32 (0, 0)) (by (with_reducible repeat (first | refine blk_drewN ?_ _ | refine blk_drew ?_ | refine blk_alloc ?_ _)); exact BK175.out)) : gb175 ≠ gb176))
             have n14_ := Aside0.mk ((by rw [hg]; exact Nat.ne_of_gt (blk_lt (g := gb175) (o := .cells #[.int .i64 ((rd_T30 t163 (ji14)).f0), .int .i64 ((rd_T30 t163 (ji14)).f1), .int .i64 (wrap64 (((rd_T30 t163 (ji17)).f1) + ((rd_T30 t163 (ji17)).f2)))] 32 (0, 0)) (by (with_reducible repeat (first | refine blk_drewN ?_ _ | refine blk_drew ?_ | refine blk_alloc ?_ _)); exact BK175.out)) : gb176 ≠ gb175))
             have n15_ := Aside0.mk ((by rw [hg]; exact Nat.ne_of_lt (blk_lt (g := gb177) (o := .cells #[.int .i64 0, .int .i64 0, .int .i64 0] 32 (0, 0)) (by (with_reducible repeat (first | refine blk_drewN ?_ _ | refine blk_drew ?_ | refine blk_alloc ?_ _)); exact BK177.out)) : gb177 ≠ gb176))
             have n16_ := Aside0.mk ((by rw [hg]; exact Nat.ne_of_gt (blk_lt (g := gb177) (o := .cells #[.int .i64 0, .int .i64 0, .int .i64 0] 32 (0, 0)) (by (with_reducible repeat (first | refine blk_drewN ?_ _ | refine blk_drew ?_ | refine blk_alloc ?_ _)); exact BK177.out)) : gb176 ≠ gb177))
             clear HO_7
             clear BK173
             clear BK174
             clear BK175
             clear BK177
             clear HB
             have HO_7 := n0_
             have BK173 := n1_
             have BK174 := n2_
             have BK175 := n3_
             have BK177 := n4_
             have HB := n5_
             have BK176 := n6_
             have GW176 := n7_
             have GE176 := n8_
             have NB173_176 := n9_
             have NB176_173 := n10_
             have NB174_176 := n11_
             have NB176_174 := n12_
             have NB175_176 := n13_
             have NB176_175 := n14_
             have NB177_176 := n15_
             have NB176_177 := n16_
             clear n0_ n1_ n2_ n3_ n4_ n5_ n6_ n7_ n8_ n9_ n10_ n11_ n12_ n13_ n14_ n15_ n16_
             clear hb hbox hg
             refine hK.out _ _ ⟨(blk_cell BK175.out 0).trans rfl, (blk_cell BK175.out 1).trans rfl, (blk_cell BK175.out 2).trans rfl⟩ (fun hHeld => ?_)
             clear hK K
             refine norm_ (a' := ?_) ?_ ?_
             rotate_left
             ·
              show Act.put _ (some 12) _ = _
              simp only [Act.put, List.setIfInBounds_toArray, List.set_cons_zero, List.set_cons_succ, i64_w, i32_w]
              rfl
             exact norm_ (by simp only [putAll, Act.put, List.setIfInBounds_toArray, List.set_cons_zero, List.set_cons_succ]) (hCont (gb176, gb177) _ ⟨hHeld, (by (with_reducible repeat (first | apply Kd.R_alloc | apply Kd.R_drewN | apply Kd.R_drew)); exact HO_7.out), (by (with_reducible repeat (first | refine blk_drewN ?_ _ | refine blk_drew ?_ | refine blk_alloc ?_ _)); exact BK173.out), (by (with_reducible repeat (first | refine blk_drewN ?_ _ | refine blk_drew ?_ | refine blk_alloc ?_ _)); exact BK174.out), (by (with_reducible repeat (first | refine blk_drewN ?_ _ | refine blk_drew ?_ | refine blk_alloc ?_ _)); exact BK175.out), (by (with_reducible repeat (first | refine blk_drewN ?_ _ | refine blk_drew ?_ | refine blk_alloc ?_ _)); exact BK176.out), (by (with_reducible repeat (first | refine blk_drewN ?_ _ | refine blk_drew ?_ | refine blk_alloc ?_ _)); exact BK177.out), GW176.out, GE176.out, NB173_176.out, NB176_173.out, NB174_176.out, NB176_174.out, NB175_176.out, NB176_175.out, NB177_176.out, NB176_177.out, GW177.out, GE177.out, NB173_177.out, NB177_173.out, NB174_177.out, NB177_174.out, NB175_177.out, NB177_175.out, (by repeat (first | (with_reducible first | exact HB.out | apply below_alloc | apply pw_below_drewN | apply below_drew1 | refine below_set ?_ GE173.out | refine below_set ?_ GE174.out | refine below_set ?_ GE175.out | refine below_set ?_ GE177.out | refine below_set ?_ GE176.out) | exact HB.out))⟩)
           rintro ⟨gb176, gb177⟩ w48 ⟨hS_, h0_, h1_, h2_, h3_, h4_, h5_, h6_, h7_, h8_, h9_, h10_, h11_, h12_, h13_, h14_, h15_, h16_, h17_, h18_, h19_, h20_, h21_, h22_, h23_, h24_⟩
           have n0_ : Aside0 (Kd.R k30 30 w48 w.heap.size (fun k_ => k_ ≠ gb173 ∧ k_ ≠ gb174) (.slice (some ad171) t163.length co10) t163) := ⟨h0_⟩
           have n1_ : Aside0 (w48.heap[gb173]? = some (.cells #[.int .i64 ((rd_T30 t163 (ji14)).f0), .int .i64 ((rd_T30 t163 (ji14)).f1), .int .i64 ((rd_T30 t163 (ji14)).f2)] 30 (0, 0))) := ⟨h1_⟩
           have n2_ : Aside0 (w48.heap[gb174]? = some (.cells #[.int .i64 ((rd_T30 t163 (ji17)).f0), .int .i64 ((rd_T30 t163 (ji17)).f1), .int .i64 ((rd_T30 t163 (ji17)).f2)] 30 (0, 0))) := ⟨h2_⟩
           have n3_ : Aside0 (w48.heap[gb175]? = some (.cells #[.int .i64 ((rd_T30 t163 (ji14)).f0), .int .i64 ((rd_T30 t163 (ji14)).f1), .int .i64 (wrap64 (((rd_T30 t163 (ji17)).f1) + ((rd_T30 t163 (ji17)).f2)))] 32 (0, 0))) := ⟨h3_⟩
           have n4_ : Aside0 (w48.heap[gb176]? = some (.cells #[.int .i64 0, .int .i64 0, .int .i64 0] 32 (0, 0))) := ⟨h4_⟩
           have n5_ : Aside0 (w48.heap[gb177]? = some (.cells #[.int .i64 0, .int .i64 0, .int .i64 0] 32 (0, 0))) := ⟨h5_⟩
           have n6_ : Aside0 (w.heap.size ≤ gb176) := ⟨h6_⟩
           have n7_ : Aside0 (w.heap.size ≤ gb176) := ⟨h7_⟩
           have n8_ : Aside0 (gb173 ≠ gb176) := ⟨h8_⟩
           have n9_ : Aside0 (gb176 ≠ gb173) := ⟨h9_⟩
           have n10_ : Aside0 (gb174 ≠ gb176) := ⟨h10_⟩
           have n11_ : Aside0 (gb176 ≠ gb174) := ⟨h11_⟩
           have n12_ : Aside0 (gb175 ≠ gb176) := ⟨h12_⟩
           have n13_ : Aside0 (gb176 ≠ gb175) := ⟨h13_⟩
           have n14_ : Aside0 (gb177 ≠ gb176) := ⟨h14_⟩
           have n15_ : Aside0 (gb176 ≠ gb177) := ⟨h15_⟩
           have n16_ : Aside0 (w.heap.size ≤ gb177) := ⟨h16_⟩
           have n17_ : Aside0 (w.heap.size ≤ gb177) := ⟨h17_⟩
           have n18_ : Aside0 (gb173 ≠ gb177) := ⟨h18_⟩
           have n19_ : Aside0 (gb177 ≠ gb173) := ⟨h19_⟩
           have n20_ : Aside0 (gb174 ≠ gb177) := ⟨h20_⟩
           have n21_ : Aside0 (gb177 ≠ gb174) := ⟨h21_⟩
           have n22_ : Aside0 (gb175 ≠ gb177) := ⟨h22_⟩
           have n23_ : Aside0 (gb177 ≠ gb175) := ⟨h23_⟩
           have n24_ : Aside0 (Below w.heap.size w w48) := ⟨h24_⟩
           clear HO_7
           clear BK173
           clear BK174
           clear BK175
           clear HB
           clear h0_ h1_ h2_ h3_ h4_ h5_ h6_ h7_ h8_ h9_ h10_ h11_ h12_ h13_ h14_ h15_ h16_ h17_ h18_ h19_ h20_ h21_ h22_ h23_ h24_
           have HO_7 := n0_
           have BK173 := n1_
           have BK174 := n2_
           have BK175 := n3_
           have BK176 := n4_
           have BK177 := n5_
           have GW176 := n6_
           have GE176 := n7_
           have NB173_176 := n8_
           have NB176_173 := n9_
           have NB174_176 := n10_
           have NB176_174 := n11_
           have NB175_176 := n12_
           have NB176_175 := n13_
           have NB177_176 := n14_
           have NB176_177 := n15_
           have GW177 := n16_
           have GE177 := n17_
           have NB173_177 := n18_
           have NB177_173 := n19_
           have NB174_177 := n20_
           have NB177_174 := n21_
           have NB175_177 := n22_
           have NB177_175 := n23_
           have HB := n24_
           clear n0_ n1_ n2_ n3_ n4_ n5_ n6_ n7_ n8_ n9_ n10_ n11_ n12_ n13_ n14_ n15_ n16_ n17_ n18_ n19_ n20_ n21_ n22_ n23_ n24_
           have hHeld : w48.cell? ⟨gb175, 0, none⟩ = some (.int .i64 ((rd_T30 t163 (ji14)).f0)) ∧ w48.cell? ⟨gb175, 1, none⟩ = some (.int .i64 ((rd_T30 t163 (ji14)).f1)) ∧ w48.cell? ⟨gb175, 2, none⟩ = some (.int .i64 (wrap64 (((rd_T30 t163 (ji17)).f1) + ((rd_T30 t163 (ji17)).f2)))) := hS_
           refine norm_ (a' := ?_) ?_ ?_
           rotate_left
           ·
            simp only [putAll, Act.put, List.setIfInBounds_toArray, List.set_cons_zero, List.set_cons_succ]
            rfl
           refine one_ (i := 4) (N := none) #[true, true, true, true, true, false] rfl rfl (by kernel_rfl) (by decide) (fun K hK => ?_)
           have hs49 : w48.cell? ⟨gb176, 0, none⟩ = some (.int .i64 0) := (blk_cell BK176.out 0).trans rfl
           have hfs49 := blk_frozen BK176.out 0
           have hns49_0 := NB173_176.out
           have hns49_1 := NB174_176.out
           have hns49_2 := NB175_176.out
           have hns49_4 := NB177_176.out
           have hms49_0 := NB176_173.out
           have hms49_1 := NB176_174.out
           have hms49_2 := NB176_175.out
           have hms49_4 := NB176_177.out
           have hs50 : w48.cell? ⟨gb176, 1, none⟩ = some (.int .i64 0) := (blk_cell BK176.out 1).trans rfl
           have hfs50 := blk_frozen BK176.out 1
           have hns50_0 := NB173_176.out
           have hns50_1 := NB174_176.out
           have hns50_2 := NB175_176.out
           have hns50_4 := NB177_176.out
           have hms50_0 := NB176_173.out
           have hms50_1 := NB176_174.out
           have hms50_2 := NB176_175.out
           have hms50_4 := NB176_177.out
           have hs51 : w48.cell? ⟨gb176, 2, none⟩ = some (.int .i64 0) := (blk_cell BK176.out 2).trans rfl
           have hfs51 := blk_frozen BK176.out 2
           have hns51_0 := NB173_176.out
           have hns51_1 := NB174_176.out
           have hns51_2 := NB175_176.out
           have hns51_4 := NB177_176.out
           have hms51_0 := NB176_173.out
           have hms51_1 := NB176_174.out
           have hms51_2 := NB176_175.out
           have hms51_4 := NB176_177.out
           refine skip_ (w1 := ?_) (by rfl) rfl ?_ ?_
           rotate_left
           ·
            go_simp
            rfl
           refine hK.out _ _ ⟨((cell_far (p := ⟨gb176, _, none⟩) NB175_176.out _).trans (((cell_far (p := ⟨gb176, _, none⟩) NB175_176.out _).trans (((cell_far (p := ⟨gb176, _, none⟩) NB175_176.out _).trans (hHeld.1)))))), ((cell_far (p := ⟨gb176, _, none⟩) NB175_176.out _).trans (((cell_far (p := ⟨gb176, _, none⟩) NB175_176.out _).trans (((cell_far (p := ⟨gb176, _, none⟩) NB175_176.out _).trans (hHeld.2.1)))))), ((cell_far (p := ⟨gb176, _, none⟩) NB175_176.out _).trans (((cell_far (p := ⟨gb176, _, none⟩) NB175_176.out _).trans (((cell_far (p := ⟨gb176, _, none⟩) NB175_176.out _).trans (hHeld.2.2))))))⟩ (fun hHeld => ?_)
           clear hK K
           refine one_ (i := 5) (N := none) #[true, true, true, true, true, true] rfl rfl (by kernel_rfl) (by decide) (fun K hK => ?_)
           have hs52 : w48.cell? ⟨gb177, 0, none⟩ = some (.int .i64 0) := (blk_cell BK177.out 0).trans rfl
           have hfs52 := blk_frozen BK177.out 0
           have hns52_0 := NB173_177.out
           have hns52_1 := NB174_177.out
           have hns52_2 := NB175_177.out
           have hns52_3 := NB176_177.out
           have hms52_0 := NB177_173.out
           have hms52_1 := NB177_174.out
           have hms52_2 := NB177_175.out
           have hms52_3 := NB177_176.out
           have hs53 : w48.cell? ⟨gb177, 1, none⟩ = some (.int .i64 0) := (blk_cell BK177.out 1).trans rfl
           have hfs53 := blk_frozen BK177.out 1
           have hns53_0 := NB173_177.out
           have hns53_1 := NB174_177.out
           have hns53_2 := NB175_177.out
           have hns53_3 := NB176_177.out
           have hms53_0 := NB177_173.out
           have hms53_1 := NB177_174.out
           have hms53_2 := NB177_175.out
           have hms53_3 := NB177_176.out
           have hs54 : w48.cell? ⟨gb177, 2, none⟩ = some (.int .i64 0) := (blk_cell BK177.out 2).trans rfl
           have hfs54 := blk_frozen BK177.out 2
           have hns54_0 := NB173_177.out
           have hns54_1 := NB174_177.out
           have hns54_2 := NB175_177.out
           have hns54_3 := NB176_177.out
           have hms54_0 := NB177_173.out
           have hms54_1 := NB177_174.out
           have hms54_2 := NB177_175.out
           have hms54_3 := NB177_176.out
           refine skip_ (w1 := ?_) (by rfl) rfl ?_ ?_
           rotate_left
           ·
            go_simp
            rfl
           refine hK.out _ _ ⟨((cell_far (p := ⟨gb177, _, none⟩) NB175_177.out _).trans (((cell_far (p := ⟨gb177, _, none⟩) NB175_177.out _).trans (((cell_far (p := ⟨gb177, _, none⟩) NB175_177.out _).trans (hHeld.1)))))), ((cell_far (p := ⟨gb177, _, none⟩) NB175_177.out _).trans (((cell_far (p := ⟨gb177, _, none⟩) NB175_177.out _).trans (((cell_far (p := ⟨gb177, _, none⟩) NB175_177.out _).trans (hHeld.2.1)))))), ((cell_far (p := ⟨gb177, _, none⟩) NB175_177.out _).trans (((cell_far (p := ⟨gb177, _, none⟩) NB175_177.out _).trans (((cell_far (p := ⟨gb177, _, none⟩) NB175_177.out _).trans (hHeld.2.2))))))⟩ (fun hHeld => ?_)
           clear hK K
           refine done_ (by kernel_rfl) ?_
           have hnb55 := NB176_173.out
           have hnc55 := NB173_176.out
           have hnb56 := NB176_174.out
           have hnc56 := NB174_176.out
           have hnb57 := NB176_175.out
           have hnc57 := NB175_176.out
           have hnb58 := NB176_177.out
           have hnc58 := NB177_176.out
           have hcz59_0 : w48.cell? ⟨gb176, 0, none⟩ = some (.int .i64 0) := (blk_cell BK176.out 0).trans rfl
           have hcz59_1 : w48.cell? ⟨gb176, 1, none⟩ = some (.int .i64 0) := (blk_cell BK176.out 1).trans rfl
           have hcz59_2 : w48.cell? ⟨gb176, 2, none⟩ = some (.int .i64 0) := (blk_cell BK176.out 2).trans rfl
           have hfz59_0 := blk_frozen BK176.out 0
           have hfz59_1 := blk_frozen BK176.out 1
           have hfz59_2 := blk_frozen BK176.out 2
           have hnb60 := NB177_173.out
           have hnc60 := NB173_177.out
           have hnb61 := NB177_174.out
           have hnc61 := NB174_177.out
           have hnb62 := NB177_175.out
           have hnc62 := NB175_177.out
           have hcz63_0 : w48.cell? ⟨gb177, 0, none⟩ = some (.int .i64 0) := (blk_cell BK177.out 0).trans rfl
           have hcz63_1 : w48.cell? ⟨gb177, 1, none⟩ = some (.int .i64 0) := (blk_cell BK177.out 1).trans rfl
           have hcz63_2 : w48.cell? ⟨gb177, 2, none⟩ = some (.int .i64 0) := (blk_cell BK177.out 2).trans rfl
           have hfz63_0 := blk_frozen BK177.out 0
           have hfz63_1 := blk_frozen BK177.out 1
           have hfz63_2 := blk_frozen BK177.out 2
           have hcz64_0 : w48.cell? ⟨gb175, 0, none⟩ = some (.int .i64 ((rd_T30 t163 (ji14)).f0)) := (blk_cell BK175.out 0).trans rfl
           have hcz64_1 : w48.cell? ⟨gb175, 1, none⟩ = some (.int .i64 ((rd_T30 t163 (ji14)).f1)) := (blk_cell BK175.out 1).trans rfl
           have hcz64_2 : w48.cell? ⟨gb175, 2, none⟩ = some (.int .i64 (wrap64 (((rd_T30 t163 (ji17)).f1) + ((rd_T30 t163 (ji17)).f2)))) := (blk_cell BK175.out 2).trans rfl
           have hfz64_0 := blk_frozen BK175.out 0
           have hfz64_1 := blk_frozen BK175.out 1
           have hfz64_2 := blk_frozen BK175.out 2
           try go_wp2_with (first | ((with_reducible refine gate_callee (f := 15) rfl ?_); refine goesL_ (some 71) rfl rfl Try.func15 (by kernel_rfl) rfl #[.slice (some ad171) t163.length co10, .agg #[.int .i64 ((rd_T30 t163 (ji14)).f0), .int .i64 ((rd_T30 t163 (ji14)).f1), .int .i64 (wrap64 (((rd_T30 t163 (ji17)).f1) + ((rd_T30 t163 (ji17)).f2)))]] rfl (by (try simp only [List.map_toArray, List.map_cons, List.map_nil]); first | done | (simp only [hji14, hji17]; rfl) | rfl | (simp only [List.length_drop, List.length_take]; rfl)) ?_; (with_reducible refine (group_Splits.calls kj19 _ _ t163 ((rd_T30 t163 (ji14)).f0) ((rd_T30 t163 (ji14)).f1) (wrap64 (((rd_T30 t163 (ji17)).f1) + ((rd_T30 t163 (ji17)).f2))) true _ ?side1 ?side2 A35.out).mono ?_); (case side1 => refine (Kd.R_reads' (e := 30) (base := w.heap.size) (ok := fun k_ => (k_ ≠ gb173 ∧ k_ ≠ gb174)) (n := t163.length) (c := co10) ?_).2.2; exact (by (with_reducible repeat (first | apply Kd.R_alloc | apply Kd.R_drewN | apply Kd.R_drew)); exact (Kd.R_mono (Kd.R_mono (Kd.R_far (p := ⟨gb177, 2, none⟩) (Kd.R_far (p := ⟨gb176, 1, none⟩) (Kd.R_far (p := ⟨gb177, 2, none⟩) (Kd.R_far (p := ⟨gb177, 1, none⟩) (Kd.R_far (p := ⟨gb177, 0, none⟩) (Kd.R_far (p := ⟨gb176, 2, none⟩) (Kd.R_far (p := ⟨gb176, 1, none⟩) (Kd.R_far (p := ⟨gb176, 0, none⟩) (Kd.R_types (Kd.R_types HO_7.out BK176.out (by decide)) BK177.out (by decide)) (fun _ hk => hk.1.2) (.int .i64 ((rd_T30 t163 (ji14)).f0))) (fun _ hk => hk.1.2) (.int .i64 ((rd_T30 t163 (ji14)).f1))) (fun _ hk => hk.1.2) (.int .i64 (wrap64 (((rd_T30 t163 (ji17)).f1) + ((rd_T30 t163 (ji17)).f2))))) (fun _ hk => hk.2) (.int .i64 ((rd_T30 t163 (ji14)).f0))) (fun _ hk => hk.2) (.int .i64 ((rd_T30 t163 (ji14)).f1))) (fun _ hk => hk.2) (.int .i64 (wrap64 (((rd_T30 t163 (ji17)).f1) + ((rd_T30 t163 (ji17)).f2))))) (fun _ hk => hk.1.2) (.int .i64 (wrap64 (((rd_T30 t163 (ji14)).f1) + 1)))) (fun _ hk => hk.2) (.int .i64 (wrap64 ((wrap64 (((rd_T30 t163 (ji17)).f1) + ((rd_T30 t163 (ji17)).f2))) - 1)))) (fun _ h_ => h_.1)) (fun _ h_ => h_.1)))); (case side2 => exact (Kd.R_reads' HO_7.out).2.1); rintro e w65 ⟨rfl, hb⟩; refine ⟨_, rfl, ?_⟩; have n0_ := Aside0.mk (Kd.R_below (by (with_reducible repeat (first | apply Kd.R_alloc | apply Kd.R_drewN | apply Kd.R_drew)); exact (Kd.R_mono (Kd.R_mono (Kd.R_far (p := ⟨gb177, 2, none⟩) (Kd.R_far (p := ⟨gb176, 1, none⟩) (Kd.R_far (p := ⟨gb177, 2, none⟩) (Kd.R_far (p := ⟨gb177, 1, none⟩) (Kd.R_far (p := ⟨gb177, 0, none⟩) (Kd.R_far (p := ⟨gb176, 2, none⟩) (Kd.R_far (p := ⟨gb176, 1, none⟩) (Kd.R_far (p := ⟨gb176, 0, none⟩) (Kd.R_types (Kd.R_types HO_7.out BK176.out (by decide)) BK177.out (by decide)) (fun _ hk => hk.1.2) (.int .i64 ((rd_T30 t163 (ji14)).f0))) (fun _ hk => hk.1.2) (.int .i64 ((rd_T30 t163 (ji14)).f1))) (fun _ hk => hk.1.2) (.int .i64 (wrap64 (((rd_T30 t163 (ji17)).f1) + ((rd_T30 t163 (ji17)).f2))))) (fun _ hk => hk.2) (.int .i64 ((rd_T30 t163 (ji14)).f0))) (fun _ hk => hk.2) (.int .i64 ((rd_T30 t163 (ji14)).f1))) (fun _ hk => hk.2) (.int .i64 (wrap64 (((rd_T30 t163 (ji17)).f1) + ((rd_T30 t163 (ji17)).f2))))) (fun _ hk => hk.1.2) (.int .i64 (wrap64 (((rd_T30 t163 (ji14)).f1) + 1)))) (fun _ hk => hk.2) (.int .i64 (wrap64 ((wrap64 (((rd_T30 t163 (ji17)).f1) + ((rd_T30 t163 (ji17)).f2))) - 1)))) (fun _ h_ => h_.1)) (fun _ h_ => h_.1))) hb); have n1_ := Aside0.mk (blk_below (g := gb173) (o := .cells #[.int .i64 ((rd_T30 t163 (ji14)).f0), .int .i64 ((rd_T30 t163 (ji14)).f1), .int .i64 ((rd_T30 t163 (ji14)).f2)] 30 (0, 0)) (by (with_reducible repeat (first | refine blk_drewN ?_ _ | refine blk_drew ?_ | refine blk_alloc ?_ _)); refine blk_far ?_ NB173_177.out _; (with_reducible repeat (first | refine blk_drewN ?_ _ | refine blk_drew ?_ | refine blk_alloc ?_ _)); refine blk_far ?_ NB173_176.out _; (with_reducible repeat (first | refine blk_drewN ?_ _ | refine blk_drew ?_ | refine blk_alloc ?_ _)); refine blk_far ?_ NB173_177.out _; (with_reducible repeat (first | refine blk_drewN ?_ _ | refine blk_drew ?_ | refine blk_alloc ?_ _)); refine blk_far ?_ NB173_177.out _; (with_reducible repeat (first | refine blk_drewN ?_ _ | refine blk_drew ?_ | refine blk_alloc ?_ _)); refine blk_far ?_ NB173_177.out _; (with_reducible repeat (first | refine blk_drewN ?_ _ | refine blk_drew ?_ | refine blk_alloc ?_ _)); refine blk_far ?_ NB173_176.out _; (with_reducible repeat (first | refine blk_drewN ?_ _ | refine blk_drew ?_ | refine blk_alloc ?_ _)); refine blk_far ?_ NB173_176.out _; (with_reducible repeat (first | refine blk_drewN ?_ _ | refine blk_drew ?_ | refine blk_alloc ?_ _)); refine blk_far ?_ NB173_176.out _; (with_reducible repeat (first | refine blk_drewN ?_ _ | refine blk_drew ?_ | refine blk_alloc ?_ _)); exact BK173.out) hb); have n2_ := Aside0.mk (blk_below (g := gb174) (o := .cells #[.int .i64 ((rd_T30 t163 (ji17)).f0), .int .i64 ((rd_T30 t163 (ji17)).f1), .int .i64 ((rd_T30 t163 (ji17)).f2)] 30 (0, 0)) (by (with_reducible repeat (first | refine blk_drewN ?_ _ | refine blk_drew ?_ | refine blk_alloc ?_ _)); refine blk_far ?_ NB174_177.out _; (with_reducible repeat (first | refine blk_drewN ?_ _ | refine blk_drew ?_ | refine blk_alloc ?_ _)); refine blk_far ?_ NB174_176.out _; (with_reducible repeat (first | refine blk_drewN ?_ _ | refine blk_drew ?_ | refine blk_alloc ?_ _)); refine blk_far ?_ NB174_177.out _; (with_reducible repeat (first | refine blk_drewN ?_ _ | refine blk_drew ?_ | refine blk_alloc ?_ _)); refine blk_far ?_ NB174_177.out _; (with_reducible repeat (first | refine blk_drewN ?_ _ | refine blk_drew ?_ | refine blk_alloc ?_ _)); refine blk_far ?_ NB174_177.out _; (with_reducible repeat (first | refine blk_drewN ?_ _ | refine blk_drew ?_ | refine blk_alloc ?_ _)); refine blk_far ?_ NB174_176.out _; (with_reducible repeat (first | refine blk_drewN ?_ _ | refine blk_drew ?_ | refine blk_alloc ?_ _)); refine blk_far ?_ NB174_176.out _; (with_reducible repeat (first | refine blk_drewN ?_ _ | refine blk_drew ?_ | refine blk_alloc ?_ _)); refine blk_far ?_ NB174_176.out _; (with_reducible repeat (first | refine blk_drewN ?_ _ | refine blk_drew ?_ | refine blk_alloc ?_ _)); exact BK174.out) hb); have n3_ := Aside0.mk (blk_below (g := gb175) (o := .cells #[.int .i64 ((rd_T30 t163 (ji14)).f0), .int .i64 ((rd_T30 t163 (ji14)).f1), .int .i64 (wrap64 (((rd_T30 t163 (ji17)).f1) + ((rd_T30 t163 (ji17)).f2)))] 32 (0, 0)) (by (with_reducible repeat (first | refine blk_drewN ?_ _ | refine blk_drew ?_ | refine blk_alloc ?_ _)); refine blk_far ?_ NB175_177.out _; (with_reducible repeat (first | refine blk_drewN ?_ _ | refine blk_drew ?_ | refine blk_alloc ?_ _)); refine blk_far ?_ NB175_176.out _; (with_reducible repeat (first | refine blk_drewN ?_ _ | refine blk_drew ?_ | refine blk_alloc ?_ _)); refine blk_far ?_ NB175_177.out _; (with_reducible repeat (first | refine blk_drewN ?_ _ | refine blk_drew ?_ | refine blk_alloc ?_ _)); refine blk_far ?_ NB175_177.out _; (with_reducible repeat (first | refine blk_drewN ?_ _ | refine blk_drew ?_ | refine blk_alloc ?_ _)); refine blk_far ?_ NB175_177.out _; (with_reducible repeat (first | refine blk_drewN ?_ _ | refine blk_drew ?_ | refine blk_alloc ?_ _)); refine blk_far ?_ NB175_176.out _; (with_reducible repeat (first | refine blk_drewN ?_ _ | refine blk_drew ?_ | refine blk_alloc ?_ _)); refine blk_far ?_ NB175_176.out _; (with_reducible repeat (first | refine blk_drewN ?_ _ | refine blk_drew ?_ | refine blk_alloc ?_ _)); refine blk_far ?_ NB175_176.out _; (with_reducible repeat (first | refine blk_drewN ?_ _ | refine blk_drew ?_ | refine blk_alloc ?_ _)); exact BK175.out) hb); have n4_ := Aside0.mk (blk_below (g := gb176) (o := .cells #[.int .i64 ((rd_T30 t163 (ji14)).f0), .int .i64 (wrap64 (((rd_T30 t163 (ji14)).f1) + 1)), .int .i64 (wrap64 (((rd_T30 t163 (ji17)).f1) + ((rd_T30 t163 (ji17)).f2)))] 32 (0, 0)) (by (with_reducible repeat (first | refine blk_drewN ?_ _ | refine blk_drew ?_ | refine blk_alloc ?_ _)); refine blk_far ?_ NB176_177.out _; (with_reducible repeat (first | refine blk_drewN ?_ _ | refine blk_drew ?_ | refine blk_alloc ?_ _)); refine blk_put (cs := #[.int .i64 ((rd_T30 t163 (ji14)).f0), .int .i64 ((rd_T30 t163 (ji14)).f1), .int .i64 (wrap64 (((rd_T30 t163 (ji17)).f1) + ((rd_T30 t163 (ji17)).f2)))]) ?_ 1 _ rfl; (with_reducible repeat (first | refine blk_drewN ?_ _ | refine blk_drew ?_ | refine blk_alloc ?_ _)); refine blk_far ?_ NB176_177.out _; (with_reducible repeat (first | refine blk_drewN ?_ _ | refine blk_drew ?_ | refine blk_alloc ?_ _)); refine blk_far ?_ NB176_177.out _; (with_reducible repeat (first | refine blk_drewN ?_ _ | refine blk_drew ?_ | refine blk_alloc ?_ _)); refine blk_far ?_ NB176_177.out _; (with_reducible repeat (first | refine blk_drewN ?_ _ | refine blk_drew ?_ | refine blk_alloc ?_ _)); refine blk_put (cs := #[.int .i64 ((rd_T30 t163 (ji14)).f0), .int .i64 ((rd_T30 t163 (ji14)).f1), .int .i64 0]) ?_ 2 _ rfl; (with_reducible repeat (first | refine blk_drewN ?_ _ | refine blk_drew ?_ | refine blk_alloc ?_ _)); refine blk_put (cs := #[.int .i64 ((rd_T30 t163 (ji14)).f0), .int .i64 0, .int .i64 0]) ?_ 1 _ rfl; (with_reducible repeat (first | refine blk_drewN ?_ _ | refine blk_drew ?_ | refine blk_alloc ?_ _)); refine blk_put (cs := #[.int .i64 0, .int .i64 0, .int .i64 0]) ?_ 0 _ rfl; (with_reducible repeat (first | refine blk_drewN ?_ _ | refine blk_drew ?_ | refine blk_alloc ?_ _)); exact BK176.out) hb); have n5_ := Aside0.mk (blk_below (g := gb177) (o := .cells #[.int .i64 ((rd_T30 t163 (ji14)).f0), .int .i64 ((rd_T30 t163 (ji14)).f1), .int .i64 (wrap64 ((wrap64 (((rd_T30 t163 (ji17)).f1) + ((rd_T30 t163 (ji17)).f2))) - 1))] 32 (0, 0)) (by (with_reducible repeat (first | refine blk_drewN ?_ _ | refine blk_drew ?_ | refine blk_alloc ?_ _)); refine blk_put (cs := #[.int .i64 ((rd_T30 t163 (ji14)).f0), .int .i64 ((rd_T30 t163 (ji14)).f1), .int .i64 (wrap64 (((rd_T30 t163 (ji17)).f1) + ((rd_T30 t163 (ji17)).f2)))]) ?_ 2 _ rfl; (with_reducible repeat (first | refine blk_drewN ?_ _ | refine blk_drew ?_ | refine blk_alloc ?_ _)); refine blk_far ?_ NB177_176.out _; (with_reducible repeat (first | refine blk_drewN ?_ _ | refine blk_drew ?_ | refine blk_alloc ?_ _)); refine blk_put (cs := #[.int .i64 ((rd_T30 t163 (ji14)).f0), .int .i64 ((rd_T30 t163 (ji14)).f1), .int .i64 0]) ?_ 2 _ rfl; (with_reducible repeat (first | refine blk_drewN ?_ _ | refine blk_drew ?_ | refine blk_alloc ?_ _)); refine blk_put (cs := #[.int .i64 ((rd_T30 t163 (ji14)).f0), .int .i64 0, .int .i64 0]) ?_ 1 _ rfl; (with_reducible repeat (first | refine blk_drewN ?_ _ | refine blk_drew ?_ | refine blk_alloc ?_ _)); refine blk_put (cs := #[.int .i64 0, .int .i64 0, .int .i64 0]) ?_ 0 _ rfl; (with_reducible repeat (first | refine blk_drewN ?_ _ | refine blk_drew ?_ | refine blk_alloc ?_ _)); refine blk_far ?_ NB177_176.out _; (with_reducible repeat (first | refine blk_drewN ?_ _ | refine blk_drew ?_ | refine blk_alloc ?_ _)); refine blk_far ?_ NB177_176.out _; (with_reducible repeat (first | refine blk_drewN ?_ _ | refine blk_drew ?_ | refine blk_alloc ?_ _)); refine blk_far ?_ NB177_176.out _; (with_reducible repeat (first | refine blk_drewN ?_ _ | refine blk_drew ?_ | refine blk_alloc ?_ _)); exact BK177.out) hb); have n6_ := Aside0.mk (below_step (by repeat (first | (with_reducible first | exact HB.out | apply below_alloc | apply pw_below_drewN | apply below_drew1 | refine below_set ?_ GE173.out | refine below_set ?_ GE174.out | refine below_set ?_ GE175.out | refine below_set ?_ GE176.out | refine below_set ?_ GE177.out) | exact HB.out)) hb); clear HO_7; clear BK173; clear BK174; clear BK175; clear BK176; clear BK177; clear HB; have HO_7 := n0_; have BK173 := n1_; have BK174 := n2_; have BK175 := n3_; have BK176 := n4_; have BK177 := n5_; have HB := n6_; clear n0_ n1_ n2_ n3_ n4_ n5_ n6_; (try clear hb); (try clear hb2); (try clear hk); (try clear hi)))
           go_ret
           exact ⟨by first | rfl | (simp [errW_none, errW_some] <;> rfl) | (simp only [← hji14, ← hji17]; first | rfl | (simp [errW_none, errW_some] <;> rfl)) | (simp [*, errW_none, errW_some] <;> rfl), by repeat (first | (with_reducible first | exact HB.out | apply below_alloc | apply pw_below_drewN | apply below_drew1 | refine below_set ?_ GE173.out | refine below_set ?_ GE174.out | refine below_set ?_ GE175.out | refine below_set ?_ GE176.out | refine below_set ?_ GE177.out) | exact HB.out)⟩
          ·
           replace c36 := Bool.eq_false_iff.mpr c36
           subst c36
           have H1 : ((group_Splits.f kj19 t163 ((rd_T30 t163 (ji14)).f0) (wrap64 (((rd_T30 t163 (ji14)).f1) + 1)) (wrap64 (((rd_T30 t163 (ji17)).f1) + ((rd_T30 t163 (ji17)).f2)))).bind fun t179 => (if t179 = true then ((group_Splits.f kj19 t163 ((rd_T30 t163 (ji14)).f0) ((rd_T30 t163 (ji14)).f1) (wrap64 ((wrap64 (((rd_T30 t163 (ji17)).f1) + ((rd_T30 t163 (ji17)).f2))) - 1))).bind fun t180 => (some t180)) else (some false))) = some r := by rw [if_neg (show ¬ (false = true) by decide)] at H; exact H
           clear H
           have H := H1
           clear H1
           replace H := Option.bind_eq_some_iff.mp H
           obtain ⟨t179, A660, H⟩ := H
           replace H : (if t179 = true then ((group_Splits.f kj19 t163 ((rd_T30 t163 (ji14)).f0) ((rd_T30 t163 (ji14)).f1) (wrap64 ((wrap64 (((rd_T30 t163 (ji17)).f1) + ((rd_T30 t163 (ji17)).f2))) - 1))).bind fun t180 => (some t180)) else (some false)) = some r := H
           have A66 := Aside0.mk A660
           clear A660
           by_cases c67 : t179 = true
           ·
            subst c67
            have H1 : ((group_Splits.f kj19 t163 ((rd_T30 t163 (ji14)).f0) ((rd_T30 t163 (ji14)).f1) (wrap64 ((wrap64 (((rd_T30 t163 (ji17)).f1) + ((rd_T30 t163 (ji17)).f2))) - 1))).bind fun t180 => (some t180)) = some r := by rw [if_pos rfl] at H; exact H
            clear H
            have H := H1
            clear H1
            replace H := Option.bind_eq_some_iff.mp H
            obtain ⟨t180, A680, H⟩ := H
            replace H : (some t180) = some r := H
            have A68 := Aside0.mk A680
            clear A680
            obtain rfl := Option.some.inj H
            have hnb69 := NB173_174.out
            have hnc69 := NB174_173.out
            have hcz70_0 : wc.cell? ⟨gb173, 0, none⟩ = some (.int .i64 ((rd_T30 t163 (ji14)).f0)) := (blk_cell BK173.out 0).trans rfl
            have hcz70_1 : wc.cell? ⟨gb173, 1, none⟩ = some (.int .i64 ((rd_T30 t163 (ji14)).f1)) := (blk_cell BK173.out 1).trans rfl
            have hcz70_2 : wc.cell? ⟨gb173, 2, none⟩ = some (.int .i64 ((rd_T30 t163 (ji14)).f2)) := (blk_cell BK173.out 2).trans rfl
            have hfz70_0 := blk_frozen BK173.out 0
            have hfz70_1 := blk_frozen BK173.out 1
            have hfz70_2 := blk_frozen BK173.out 2
            have hcz71_0 : wc.cell? ⟨gb174, 0, none⟩ = some (.int .i64 ((rd_T30 t163 (ji17)).f0)) := (blk_cell BK174.out 0).trans rfl
            have hcz71_1 : wc.cell? ⟨gb174, 1, none⟩ = some (.int .i64 ((rd_T30 t163 (ji17)).f1)) := (blk_cell BK174.out 1).trans rfl
            have hcz71_2 : wc.cell? ⟨gb174, 2, none⟩ = some (.int .i64 ((rd_T30 t163 (ji17)).f2)) := (blk_cell BK174.out 2).trans rfl
            have hfz71_0 := blk_frozen BK174.out 0
            have hfz71_1 := blk_frozen BK174.out 1
            have hfz71_2 := blk_frozen BK174.out 2
            try go_wp2_with (first | ((with_reducible refine gate_dst (N := 11) rfl ?_); refine box_event ?hg (N := 11) ?hd (cs := #[.int .i64 0, .int .i64 0, .int .i64 0]) (t := 32) ?hr ?_; (case hd => rfl); (case hg => rfl); (case hr => first | (go_simp; done) | (go_simp; rfl)); intro gb175 hg w72 hbox hb; have n0_ := Aside0.mk (Kd.R_below (by (with_reducible repeat (first | apply Kd.R_alloc | apply Kd.R_drewN | apply Kd.R_drew)); exact HO_7.out) hb); have n1_ := Aside0.mk (blk_below (g := gb173) (o := .cells #[.int .i64 ((rd_T30 t163 (ji14)).f0), .int .i64 ((rd_T30 t163 (ji14)).f1), .int .i64 ((rd_T30 t163 (ji14)).f2)] 30 (0, 0)) (by (with_reducible repeat (first | refine blk_drewN ?_ _ | refine blk_drew ?_ | refine blk_alloc ?_ _)); exact BK173.out) hb); have n2_ := Aside0.mk (blk_below (g := gb174) (o := .cells #[.int .i64 ((rd_T30 t163 (ji17)).f0), .int .i64 ((rd_T30 t163 (ji17)).f1), .int .i64 ((rd_T30 t163 (ji17)).f2)] 30 (0, 0)) (by (with_reducible repeat (first | refine blk_drewN ?_ _ | refine blk_drew ?_ | refine blk_alloc ?_ _)); exact BK174.out) hb); have n3_ := Aside0.mk (below_step (by repeat (first | (with_reducible first | exact HB.out | apply below_alloc | apply pw_below_drewN | apply below_drew1 | refine below_set ?_ GE173.out | refine below_set ?_ GE174.out) | exact HB.out)) hb); have n4_ := Aside0.mk (hbox); have n5_ := Aside0.mk ((by rw [hg]; exact (below_size (by repeat (first | (with_reducible first | exact HB.out | apply below_alloc | apply pw_below_drewN | apply below_drew1 | refine below_set ?_ GE173.out | refine below_set ?_ GE174.out) | exact HB.out))) : w.heap.size ≤ gb175)); have n6_ := Aside0.mk ((by rw [hg]; exact (below_size (by repeat (first | (with_reducible first | exact HB.out | apply below_alloc | apply pw_below_drewN | apply below_drew1 | refine below_set ?_ GE173.out | refine below_set ?_ GE174.out) | exact HB.out))) : w.heap.size ≤ gb175)); have n7_ := Aside0.mk ((by rw [hg]; exact Nat.ne_of_lt (blk_lt (g := gb173) (o := .cells #[.int .i64 ((rd_T30 t163 (ji14)).f0), .int .i64 ((rd_T30 t163 (ji14)).f1), .int .i64 ((rd_T30 t163 (ji14)).f2)] 30 (0, 0)) (by (with_reducible repeat (first | refine blk_drewN ?_ _ | refine blk_drew ?_ | refine blk_alloc ?_ _)); exact BK173.out)) : gb173 ≠ gb175)); have n8_ := Aside0.mk ((by rw [hg]; exact Nat.ne_of_gt (blk_lt (g := gb173) (o := .cells #[.int .i64 ((rd_T30 t163 (ji14)).f0), .int .i64 ((rd_T30 t163 (ji14)).f1), .int .i64 ((rd_T30 t163 (ji14)).f2)] 30 (0, 0)) (by (with_reducible repeat (first | refine blk_drewN ?_ _ | refine blk_drew ?_ | refine blk_alloc ?_ _)); exact BK173.out)) : gb175 ≠ gb173)); have n9_ := Aside0.mk ((by rw [hg]; exact Nat.ne_of_lt (blk_lt (g := gb174) (o := .cells #[.int .i64 ((rd_T30 t163 (ji17)).f0), .int .i64 ((rd_T30 t163 (ji17)).f1), .int .i64 ((rd_T30 t163 (ji17)).f2)] 30 (0, 0)) (by (with_reducible repeat (first | refine blk_drewN ?_ _ | refine blk_drew ?_ | refine blk_alloc ?_ _)); exact BK174.out)) : gb174 ≠ gb175)); have n10_ := Aside0.mk ((by rw [hg]; exact Nat.ne_of_gt (blk_lt (g := gb174) (o := .cells #[.int .i64 ((rd_T30 t163 (ji17)).f0), .int .i64 ((rd_T30 t163 (ji17)).f1), .int .i64 ((rd_T30 t163 (ji17)).f2)] 30 (0, 0)) (by (with_reducible repeat (first | refine blk_drewN ?_ _ | refine blk_drew ?_ | refine blk_alloc ?_ _)); exact BK174.out)) : gb175 ≠ gb174)); clear HO_7; clear BK173; clear BK174; clear HB; have HO_7 := n0_; have BK173 := n1_; have BK174 := n2_; have HB := n3_; have BK175 := n4_; have GW175 := n5_; have GE175 := n6_; have NB173_175 := n7_; have NB175_173 := n8_; have NB174_175 := n9_; have NB175_174 := n10_; clear n0_ n1_ n2_ n3_ n4_ n5_ n6_ n7_ n8_ n9_ n10_; clear hb hbox hg; have hnb73 := NB175_173.out; have hnc73 := NB173_175.out; have hnb74 := NB175_174.out; have hnc74 := NB174_175.out; have hcz75_0 : w72.cell? ⟨gb175, 0, none⟩ = some (.int .i64 0) := (blk_cell BK175.out 0).trans rfl; have hcz75_1 : w72.cell? ⟨gb175, 1, none⟩ = some (.int .i64 0) := (blk_cell BK175.out 1).trans rfl; have hcz75_2 : w72.cell? ⟨gb175, 2, none⟩ = some (.int .i64 0) := (blk_cell BK175.out 2).trans rfl; have hfz75_0 := blk_frozen BK175.out 0; have hfz75_1 := blk_frozen BK175.out 1; have hfz75_2 := blk_frozen BK175.out 2))
            have n0_ : Aside0 (Kd.R k30 30 (((w72.setCell ⟨gb175, 0, none⟩ (.int .i64 ((rd_T30 t163 (ji14)).f0))).setCell ⟨gb175, 1, none⟩ (.int .i64 ((rd_T30 t163 (ji14)).f1))).setCell ⟨gb175, 2, none⟩ (.int .i64 (wrap64 (((rd_T30 t163 (ji17)).f1) + ((rd_T30 t163 (ji17)).f2))))) w.heap.size (fun k_ => k_ ≠ gb173 ∧ k_ ≠ gb174) (.slice (some ad171) t163.length co10) t163) := ⟨by (with_reducible repeat (first | apply Kd.R_alloc | apply Kd.R_drewN | apply Kd.R_drew)); exact Kd.R_mono (Kd.R_far (p := ⟨gb175, 2, none⟩) (Kd.R_far (p := ⟨gb175, 1, none⟩) (Kd.R_far (p := ⟨gb175, 0, none⟩) (Kd.R_types HO_7.out BK175.out (by decide)) (fun _ hk => hk.2) (.int .i64 ((rd_T30 t163 (ji14)).f0))) (fun _ hk => hk.2) (.int .i64 ((rd_T30 t163 (ji14)).f1))) (fun _ hk => hk.2) (.int .i64 (wrap64 (((rd_T30 t163 (ji17)).f1) + ((rd_T30 t163 (ji17)).f2))))) (fun _ hk => ⟨hk.1.1, hk.1.2⟩)⟩
            have n1_ : Aside0 ((((w72.setCell ⟨gb175, 0, none⟩ (.int .i64 ((rd_T30 t163 (ji14)).f0))).setCell ⟨gb175, 1, none⟩ (.int .i64 ((rd_T30 t163 (ji14)).f1))).setCell ⟨gb175, 2, none⟩ (.int .i64 (wrap64 (((rd_T30 t163 (ji17)).f1) + ((rd_T30 t163 (ji17)).f2))))).heap[gb173]? = some (.cells #[.int .i64 ((rd_T30 t163 (ji14)).f0), .int .i64 ((rd_T30 t163 (ji14)).f1), .int .i64 ((rd_T30 t163 (ji14)).f2)] 30 (0, 0))) := ⟨by (with_reducible repeat (first | refine blk_drewN ?_ _ | refine blk_drew ?_ | refine blk_alloc ?_ _)); refine blk_far ?_ NB173_175.out _; (with_reducible repeat (first | refine blk_drewN ?_ _ | refine blk_drew ?_ | refine blk_alloc ?_ _)); refine blk_far ?_ NB173_175.out _; (with_reducible repeat (first | refine blk_drewN ?_ _ | refine blk_drew ?_ | refine blk_alloc ?_ _)); refine blk_far ?_ NB173_175.out _; (with_reducible repeat (first | refine blk_drewN ?_ _ | refine blk_drew ?_ | refine blk_alloc ?_ _)); exact BK173.out⟩
            have n2_ : Aside0 ((((w72.setCell ⟨gb175, 0, none⟩ (.int .i64 ((rd_T30 t163 (ji14)).f0))).setCell ⟨gb175, 1, none⟩ (.int .i64 ((rd_T30 t163 (ji14)).f1))).setCell ⟨gb175, 2, none⟩ (.int .i64 (wrap64 (((rd_T30 t163 (ji17)).f1) + ((rd_T30 t163 (ji17)).f2))))).heap[gb174]? = some (.cells #[.int .i64 ((rd_T30 t163 (ji17)).f0), .int .i64 ((rd_T30 t163 (ji17)).f1), .int .i64 ((rd_T30 t163 (ji17)).f2)] 30 (0, 0))) := ⟨by (with_reducible repeat (first | refine blk_drewN ?_ _ | refine blk_drew ?_ | refine blk_alloc ?_ _)); refine blk_far ?_ NB174_175.out _; (with_reducible repeat (first | refine blk_drewN ?_ _ | refine blk_drew ?_ | refine blk_alloc ?_ _)); refine blk_far ?_ NB174_175.out _; (with_reducible repeat (first | refine blk_drewN ?_ _ | refine blk_drew ?_ | refine blk_alloc ?_ _)); refine blk_far ?_ NB174_175.out _; (with_reducible repeat (first | refine blk_drewN ?_ _ | refine blk_drew ?_ | refine blk_alloc ?_ _)); exact BK174.out⟩
            have n3_ : Aside0 ((((w72.setCell ⟨gb175, 0, none⟩ (.int .i64 ((rd_T30 t163 (ji14)).f0))).setCell ⟨gb175, 1, none⟩ (.int .i64 ((rd_T30 t163 (ji14)).f1))).setCell ⟨gb175, 2, none⟩ (.int .i64 (wrap64 (((rd_T30 t163 (ji17)).f1) + ((rd_T30 t163 (ji17)).f2))))).heap[gb175]? = some (.cells #[.int .i64 ((rd_T30 t163 (ji14)).f0), .int .i64 ((rd_T30 t163 (ji14)).f1), .int .i64 (wrap64 (((rd_T30 t163 (ji17)).f1) + ((rd_T30 t163 (ji17)).f2)))] 32 (0, 0))) := ⟨by (with_reducible repeat (first | refine blk_drewN ?_ _ | refine blk_drew ?_ | refine blk_alloc ?_ _)); refine blk_put (cs := #[.int .i64 ((rd_T30 t163 (ji14)).f0), .int .i64 ((rd_T30 t163 (ji14)).f1), .int .i64 0]) ?_ 2 _ rfl; (with_reducible repeat (first | refine blk_drewN ?_ _ | refine blk_drew ?_ | refine blk_alloc ?_ _)); refine blk_put (cs := #[.int .i64 ((rd_T30 t163 (ji14)).f0), .int .i64 0, .int .i64 0]) ?_ 1 _ rfl; (with_reducible repeat (first | refine blk_drewN ?_ _ | refine blk_drew ?_ | refine blk_alloc ?_ _)); refine blk_put (cs := #[.int .i64 0, .int .i64 0, .int .i64 0]) ?_ 0 _ rfl; (with_reducible repeat (first | refine blk_drewN ?_ _ | refine blk_drew ?_ | refine blk_alloc ?_ _)); exact BK175.out⟩
            have n4_ : Aside0 (Below w.heap.size w (((w72.setCell ⟨gb175, 0, none⟩ (.int .i64 ((rd_T30 t163 (ji14)).f0))).setCell ⟨gb175, 1, none⟩ (.int .i64 ((rd_T30 t163 (ji14)).f1))).setCell ⟨gb175, 2, none⟩ (.int .i64 (wrap64 (((rd_T30 t163 (ji17)).f1) + ((rd_T30 t163 (ji17)).f2)))))) := ⟨by repeat (first | (with_reducible first | exact HB.out | apply below_alloc | apply pw_below_drewN | apply below_drew1 | refine below_set ?_ GE173.out | refine below_set ?_ GE174.out | refine below_set ?_ GE175.out) | exact HB.out)⟩
            (try clear HO_7)
            (try clear BK173)
            (try clear BK174)
            (try clear BK175)
            (try clear HB)
            first | (rw [drewN_self (((w72.setCell ⟨gb175, 0, none⟩ (.int .i64 ((rd_T30 t163 (ji14)).f0))).setCell ⟨gb175, 1, none⟩ (.int .i64 ((rd_T30 t163 (ji14)).f1))).setCell ⟨gb175, 2, none⟩ (.int .i64 (wrap64 (((rd_T30 t163 (ji17)).f1) + ((rd_T30 t163 (ji17)).f2)))))]; generalize hq_ : World.drewN (((w72.setCell ⟨gb175, 0, none⟩ (.int .i64 ((rd_T30 t163 (ji14)).f0))).setCell ⟨gb175, 1, none⟩ (.int .i64 ((rd_T30 t163 (ji14)).f1))).setCell ⟨gb175, 2, none⟩ (.int .i64 (wrap64 (((rd_T30 t163 (ji17)).f1) + ((rd_T30 t163 (ji17)).f2))))) _ = w76; have m0_ : Aside0 (Kd.R k30 30 w76 w.heap.size (fun k_ => k_ ≠ gb173 ∧ k_ ≠ gb174) (.slice (some ad171) t163.length co10) t163) := ⟨by rw [← hq_]; first | exact Kd.R_drewN n0_.out _ | exact Kd.Q_drewN n0_.out _ | exact blk_drewN n0_.out _ | exact pw_below_drewN n0_.out _ | exact Kd.S_drewN n0_.out _ | exact n0_.out⟩; have m1_ : Aside0 (w76.heap[gb173]? = some (.cells #[.int .i64 ((rd_T30 t163 (ji14)).f0), .int .i64 ((rd_T30 t163 (ji14)).f1), .int .i64 ((rd_T30 t163 (ji14)).f2)] 30 (0, 0))) := ⟨by rw [← hq_]; first | exact Kd.R_drewN n1_.out _ | exact Kd.Q_drewN n1_.out _ | exact blk_drewN n1_.out _ | exact pw_below_drewN n1_.out _ | exact Kd.S_drewN n1_.out _ | exact n1_.out⟩; have m2_ : Aside0 (w76.heap[gb174]? = some (.cells #[.int .i64 ((rd_T30 t163 (ji17)).f0), .int .i64 ((rd_T30 t163 (ji17)).f1), .int .i64 ((rd_T30 t163 (ji17)).f2)] 30 (0, 0))) := ⟨by rw [← hq_]; first | exact Kd.R_drewN n2_.out _ | exact Kd.Q_drewN n2_.out _ | exact blk_drewN n2_.out _ | exact pw_below_drewN n2_.out _ | exact Kd.S_drewN n2_.out _ | exact n2_.out⟩; have m3_ : Aside0 (w76.heap[gb175]? = some (.cells #[.int .i64 ((rd_T30 t163 (ji14)).f0), .int .i64 ((rd_T30 t163 (ji14)).f1), .int .i64 (wrap64 (((rd_T30 t163 (ji17)).f1) + ((rd_T30 t163 (ji17)).f2)))] 32 (0, 0))) := ⟨by rw [← hq_]; first | exact Kd.R_drewN n3_.out _ | exact Kd.Q_drewN n3_.out _ | exact blk_drewN n3_.out _ | exact pw_below_drewN n3_.out _ | exact Kd.S_drewN n3_.out _ | exact n3_.out⟩; have m4_ : Aside0 (Below w.heap.size w w76) := ⟨by rw [← hq_]; first | exact Kd.R_drewN n4_.out _ | exact Kd.Q_drewN n4_.out _ | exact blk_drewN n4_.out _ | exact pw_below_drewN n4_.out _ | exact Kd.S_drewN n4_.out _ | exact n4_.out⟩; clear hq_ n0_ n1_ n2_ n3_ n4_; have n0_ := m0_; have n1_ := m1_; have n2_ := m2_; have n3_ := m3_; have n4_ := m4_; clear m0_ m1_ m2_ m3_ m4_) | (generalize (((w72.setCell ⟨gb175, 0, none⟩ (.int .i64 ((rd_T30 t163 (ji14)).f0))).setCell ⟨gb175, 1, none⟩ (.int .i64 ((rd_T30 t163 (ji14)).f1))).setCell ⟨gb175, 2, none⟩ (.int .i64 (wrap64 (((rd_T30 t163 (ji17)).f1) + ((rd_T30 t163 (ji17)).f2))))) = w76 at n0_ n1_ n2_ n3_ n4_ ⊢)
            have HO_7 := n0_
            have BK173 := n1_
            have BK174 := n2_
            have BK175 := n3_
            have HB := n4_
            clear n0_ n1_ n2_ n3_ n4_
            have n0_ := Aside0.mk (Kd.R_drew HO_7.out)
            have n1_ := Aside0.mk (blk_drew BK173.out)
            have n2_ := Aside0.mk (blk_drew BK174.out)
            have n3_ := Aside0.mk (blk_drew BK175.out)
            have n4_ := Aside0.mk (below_drew1 HB.out)
            clear HO_7
            clear BK173
            clear BK174
            clear BK175
            clear HB
            have HO_7 := n0_
            have BK173 := n1_
            have BK174 := n2_
            have BK175 := n3_
            have HB := n4_
            clear n0_ n1_ n2_ n3_ n4_
            refine start_ (n := 6) (S := fun w' => w'.cell? ⟨gb175, 0, none⟩ = some (.int .i64 ((rd_T30 t163 (ji14)).f0)) ∧ w'.cell? ⟨gb175, 1, none⟩ = some (.int .i64 ((rd_T30 t163 (ji14)).f1)) ∧ w'.cell? ⟨gb175, 2, none⟩ = some (.int .i64 (wrap64 (((rd_T30 t163 (ji17)).f1) + ((rd_T30 t163 (ji17)).f2))))) (ds := []) #[false, false, false, false, false, false] (by kernel_rfl) rfl rfl ⟨(blk_cell BK175.out 0).trans rfl, (blk_cell BK175.out 1).trans rfl, (blk_cell BK175.out 2).trans rfl⟩ (fun hHeld => ?_)
            generalize w76.drew = w77 at HO_7 BK173 BK174 BK175 HB hHeld ⊢
            refine take_ (i := 0) (N := some 59) (v := ?_) (a' := ?_) #[true, false, false, false, false, false] rfl rfl (by kernel_rfl) (fun _ _ _ h => h) (Or.inl ⟨by rfl, ?_⟩) hHeld ?_ ?_
            rotate_left
            ·
             rintro w' ⟨s0, s1, s2⟩
             go_simp
             with_reducible rfl
            rotate_left
            ·
             simp only [Act.put, List.setIfInBounds_toArray, List.set_cons_zero, List.set_cons_succ, i64_w, i32_w]
             rfl
            refine take_ (i := 1) (N := some 60) (v := ?_) (a' := ?_) #[true, true, false, false, false, false] rfl rfl (by kernel_rfl) (fun _ _ _ h => h) (Or.inl ⟨by rfl, ?_⟩) hHeld ?_ ?_
            rotate_left
            ·
             rintro w' ⟨s0, s1, s2⟩
             go_simp
             with_reducible rfl
            rotate_left
            ·
             simp only [Act.put, List.setIfInBounds_toArray, List.set_cons_zero, List.set_cons_succ, i64_w, i32_w]
             rfl
            refine join_ (σ := Nat × Nat) 2 #[true, true, true, true, false, false] (fun s_ => [(12, .pointer (some ⟨s_.1, 0, none⟩)), (13, .pointer (some ⟨s_.2, 0, none⟩))]) (fun s_ w' => (w'.cell? ⟨gb175, 0, none⟩ = some (.int .i64 ((rd_T30 t163 (ji14)).f0)) ∧ w'.cell? ⟨gb175, 1, none⟩ = some (.int .i64 ((rd_T30 t163 (ji14)).f1)) ∧ w'.cell? ⟨gb175, 2, none⟩ = some (.int .i64 (wrap64 (((rd_T30 t163 (ji17)).f1) + ((rd_T30 t163 (ji17)).f2))))) ∧ (Kd.R k30 30 w' w.heap.size (fun k_ => k_ ≠ gb173 ∧ k_ ≠ gb174) (.slice (some ad171) t163.length co10) t163) ∧ (w'.heap[gb173]? = some (.cells #[.int .i64 ((rd_T30 t163 (ji14)).f0), .int .i64 ((rd_T30 t163 (ji14)).f1), .int .i64 ((rd_T30 t163 (ji14)).f2)] 30 (0, 0))) ∧ (w'.heap[gb174]? = some (.cells #[.int .i64 ((rd_T30 t163 (ji17)).f0), .int .i64 ((rd_T30 t163 (ji17)).f1), .int .i64 ((rd_T30 t163 (ji17)).f2)] 30 (0, 0))) ∧ (w'.heap[gb175]? = some (.cells #[.int .i64 ((rd_T30 t163 (ji14)).f0), .int .i64 ((rd_T30 t163 (ji14)).f1), .int .i64 (wrap64 (((rd_T30 t163 (ji17)).f1) + ((rd_T30 t163 (ji17)).f2)))] 32 (0, 0))) ∧ (w'.heap[s_.1]? = some (.cells #[.int .i64 0, .int .i64 0, .int .i64 0] 32 (0, 0))) ∧ (w'.heap[s_.2]? = some (.cells #[.int .i64 0, .int .i64 0, .int .i64 0] 32 (0, 0))) ∧ (w.heap.size ≤ s_.1) ∧ (w.heap.size ≤ s_.1) ∧ (gb173 ≠ s_.1) ∧ (s_.1 ≠ gb173) ∧ (gb174 ≠ s_.1) ∧ (s_.1 ≠ gb174) ∧ (gb175 ≠ s_.1) ∧ (s_.1 ≠ gb175) ∧ (s_.2 ≠ s_.1) ∧ (s_.1 ≠ s_.2) ∧ (w.heap.size ≤ s_.2) ∧ (w.heap.size ≤ s_.2) ∧ (gb173 ≠ s_.2) ∧ (s_.2 ≠ gb173) ∧ (gb174 ≠ s_.2) ∧ (s_.2 ≠ gb174) ∧ (gb175 ≠ s_.2) ∧ (s_.2 ≠ gb175) ∧ (Below w.heap.size w w')) ?_ ?_
            rotate_left
            ·
             intro hCont
             refine two_ (i := 2) (j := 3) (Ni := some 12) (Nj := some 13) #[true, true, true, false, false, false] #[true, true, false, true, false, false] rfl rfl rfl rfl (by kernel_rfl) (by decide) (by decide) (fun K hK => ?_) (fun K hK => ?_)
             ·
              skip
              refine box_step ?hg (N := 12) ?hd (cs := #[.int .i64 0, .int .i64 0, .int .i64 0]) (t := 32) ?hr ?_; (case hd => rfl); (case hg => rfl); (case hr => first | (go_simp; done) | (go_simp; rfl))
              intro gb176 hg w78 hbox hb
              have n0_ := Aside0.mk (Kd.R_below (by (with_reducible repeat (first | apply Kd.R_alloc | apply Kd.R_drewN | apply Kd.R_drew)); exact HO_7.out) hb)
              have n1_ := Aside0.mk (blk_below (g := gb173) (o := .cells #[.int .i64 ((rd_T30 t163 (ji14)).f0), .int .i64 ((rd_T30 t163 (ji14)).f1), .int .i64 ((rd_T30 t163 (ji14)).f2)] 30 (0, 0)) (by (with_reducible repeat (first | refine blk_drewN ?_ _ | refine blk_drew ?_ | refine blk_alloc ?_ _)); exact BK173.out) hb)
              have n2_ := Aside0.mk (blk_below (g := gb174) (o := .cells #[.int .i64 ((rd_T30 t163 (ji17)).f0), .int .i64 ((rd_T30 t163 (ji17)).f1), .int .i64 ((rd_T30 t163 (ji17)).f2)] 30 (0, 0)) (by (with_reducible repeat (first | refine blk_drewN ?_ _ | refine blk_drew ?_ | refine blk_alloc ?_ _)); exact BK174.out) hb)
              have n3_ := Aside0.mk (blk_below (g := gb175) (o := .cells #[.int .i64 ((rd_T30 t163 (ji14)).f0), .int .i64 ((rd_T30 t163 (ji14)).f1), .int .i64 (wrap64 (((rd_T30 t163 (ji17)).f1) + ((rd_T30 t163 (ji17)).f2)))] 32 (0, 0)) (by (with_reducible repeat (first | refine blk_drewN ?_ _ | refine blk_drew ?_ | refine blk_alloc ?_ _)); exact BK175.out) hb)
              have n4_ := Aside0.mk (below_step (by repeat (first | (with_reducible first | exact HB.out | apply below_alloc | apply pw_below_drewN | apply below_drew1 | refine below_set ?_ GE173.out | refine below_set ?_ GE174.out | refine below_set ?_ GE175.out) | exact HB.out)) hb)
              have n5_ := Aside0.mk (hbox)
              have n6_ := Aside0.mk ((by rw [hg]; exact (below_size (by repeat (first | (with_reducible first | exact HB.out | apply below_alloc | apply pw_below_drewN | apply below_drew1 | refine below_set ?_ GE173.out | refine below_set ?_ GE174.out | refine below_set ?_ GE175.out) | exact HB.out))) : w.heap.size ≤ gb176))
              have n7_ := Aside0.mk ((by rw [hg]; exact (below_size (by repeat (first | (with_reducible first | exact HB.out | apply below_alloc | apply pw_below_drewN | apply below_drew1 | refine below_set ?_ GE173.out | refine below_set ?_ GE174.out | refine below_set ?_ GE175.out) | exact HB.out))) : w.heap.size ≤ gb176))
              have n8_ := Aside0.mk ((by rw [hg]; exact Nat.ne_of_lt (blk_lt (g := gb173) (o := .cells #[.int .i64 ((rd_T30 t163 (ji14)).f0), .int .i64 ((rd_T30 t163 (ji14)).f1), .int .i64 ((rd_T30 t163 (ji14)).f2)] 30 (0, 0)) (by (with_reducible repeat (first | refine blk_drewN ?_ _ | refine blk_drew ?_ | refine blk_alloc ?_ _)); exact BK173.out)) : gb173 ≠ gb176))
              have n9_ := Aside0.mk ((by rw [hg]; exact Nat.ne_of_gt (blk_lt (g := gb173) (o := .cells #[.int .i64 ((rd_T30 t163 (ji14)).f0), .int .i64 ((rd_T30 t163 (ji14)).f1), .int .i64 ((rd_T30 t163 (ji14)).f2)] 30 (0, 0)) (by (with_reducible repeat (first | refine blk_drewN ?_ _ | refine blk_drew ?_ | refine blk_alloc ?_ _)); exact BK173.out)) : gb176 ≠ gb173))
              have n10_ := Aside0.mk ((by rw [hg]; exact Nat.ne_of_lt (blk_lt (g := gb174) (o := .cells #[.int .i64 ((rd_T30 t163 (ji17)).f0), .int .i64 ((rd_T30 t163 (ji17)).f1), .int .i64 ((rd_T30 t163 (ji17)).f2)] 30 (0, 0)) (by (with_reducible repeat (first | refine blk_drewN ?_ _ | refine blk_drew ?_ | refine blk_alloc ?_ _)); exact BK174.out)) : gb174 ≠ gb176))
              have n11_ := Aside0.mk ((by rw [hg]; exact Nat.ne_of_gt (blk_lt (g := gb174) (o := .cells #[.int .i64 ((rd_T30 t163 (ji17)).f0), .int .i64 ((rd_T30 t163 (ji17)).f1), .int .i64 ((rd_T30 t163 (ji17)).f2)] 30 (0, 0)) (by (with_reducible repeat (first | refine blk_drewN ?_ _ | refine blk_drew ?_ | refine blk_alloc ?_ _)); exact BK174.out)) : gb176 ≠ gb174))
              have n12_ := Aside0.mk ((by rw [hg]; exact Nat.ne_of_lt (blk_lt (g := gb175) (o := .cells #[.int .i64 ((rd_T30 t163 (ji14)).f0), .int .i64 ((rd_T30 t163 (ji14)).f1), .int .i64 (wrap64 (((rd_T30 t163 (ji17)).f1) + ((rd_T30 t163 (ji17)).f2)))] 32 (0, 0)) (by (with_reducible repeat (first | refine blk_drewN ?_ _ | refine blk_drew ?_ | refine blk_alloc ?_ _)); exact BK175.out)) : gb175 ≠ gb176))
              have n13_ := Aside0.mk ((by rw [hg]; exact Nat.ne_of_gt (blk_lt (g := gb175) (o := .cells #[.int .i64 ((rd_T30 t163 (ji14)).f0), .int .i64 ((rd_T30 t163 (ji14)).f1), .int .i64 (wrap64 (((rd_T30 t163 (ji17)).f1) + ((rd_T30 t163 (ji17)).f2)))] 32 (0, 0)) (by (with_reducible repeat (first | refine blk_drewN ?_ _ | refine blk_drew ?_ | refine blk_alloc ?_ _)); exact BK175.out)) : gb176 ≠ gb175))
              clear HO_7
              clear BK173
              clear BK174
              clear BK175
              clear HB
              have HO_7 := n0_
              have BK173 := n1_
              have BK174 := n2_
              have BK175 := n3_
              have HB := n4_
              have BK176 := n5_
              have GW176 := n6_
              have GE176 := n7_
              have NB173_176 := n8_
              have NB176_173 := n9_
              have NB174_176 := n10_
              have NB176_174 := n11_
              have NB175_176 := n12_
              have NB176_175 := n13_
              clear n0_ n1_ n2_ n3_ n4_ n5_ n6_ n7_ n8_ n9_ n10_ n11_ n12_ n13_
              clear hb hbox hg
              refine hK.out _ _ ⟨(blk_cell BK175.out 0).trans rfl, (blk_cell BK175.out 1).trans rfl, (blk_cell BK175.out 2).trans rfl⟩ (fun hHeld => ?_)
              clear hK K
              refine norm_ (a' := ?_) ?_ ?_
              rotate_left
              ·
               show Act.put _ (some 12) _ = _
               simp only [Act.put, List.setIfInBounds_toArray, List.set_cons_zero, List.set_cons_succ, i64_w, i32_w]
               rfl
              refine one_ (i := 3) (N := some 13) #[true, true, true, true, false, false] rfl rfl (by kernel_rfl) (by decide) (fun K hK => ?_)
              refine box_step ?hg (N := 13) ?hd (cs := #[.int .i64 0, .int .i64 0, .int .i64 0]) (t := 32) ?hr ?_; (case hd => rfl); (case hg => rfl); (case hr => first | (go_simp; done) | (go_simp; rfl))
              intro gb177 hg w79 hbox hb
              have n0_ := Aside0.mk (Kd.R_below (by (with_reducible repeat (first | apply Kd.R_alloc | apply Kd.R_drewN | apply Kd.R_drew)); exact HO_7.out) hb)
              have n1_ := Aside0.mk (blk_below (g := gb173) (o := .cells #[.int .i64 ((rd_T30 t163 (ji14)).f0), .int .i64 ((rd_T30 t163 (ji14)).f1), .int .i64 ((rd_T30 t163 (ji14)).f2)] 30 (0, 0)) (by (with_reducible repeat (first | refine blk_drewN ?_ _ | refine blk_drew ?_ | refine blk_alloc ?_ _)); exact BK173.out) hb)
              have n2_ := Aside0.mk (blk_below (g := gb174) (o := .cells #[.int .i64 ((rd_T30 t163 (ji17)).f0), .int .i64 ((rd_T30 t163 (ji17)).f1), .int .i64 ((rd_T30 t163 (ji17)).f2)] 30 (0, 0)) (by (with_reducible repeat (first | refine blk_drewN ?_ _ | refine blk_drew ?_ | refine blk_alloc ?_ _)); exact BK174.out) hb)
              have n3_ := Aside0.mk (blk_below (g := gb175) (o := .cells #[.int .i64 ((rd_T30 t163 (ji14)).f0), .int .i64 ((rd_T30 t163 (ji14)).f1), .int .i64 (wrap64 (((rd_T30 t163 (ji17)).f1) + ((rd_T30 t163 (ji17)).f2)))] 32 (0, 0)) (by (with_reducible repeat (first | refine blk_drewN ?_ _ | refine blk_drew ?_ | refine blk_alloc ?_ _)); exact BK175.out) hb)
              have n4_ := Aside0.mk (blk_below (g := gb176) (o := .cells #[.int .i64 0, .int .i64 0, .int .i64 0] 32 (0, 0)) (by (with_reducible repeat (first | refine blk_drewN ?_ _ | refine blk_drew ?_ | refine blk_alloc ?_ _)); exact BK176.out) hb)
              have n5_ := Aside0.mk (below_step (by repeat (first | (with_reducible first | exact HB.out | apply below_alloc | apply pw_below_drewN | apply below_drew1 | refine below_set ?_ GE173.out | refine below_set ?_ GE174.out | refine below_set ?_ GE175.out | refine below_set ?_ GE176.out) | exact HB.out)) hb)
              have n6_ := Aside0.mk (hbox)
              have n7_ := Aside0.mk ((by rw [hg]; exact (below_size (by repeat (first | (with_reducible first | exact HB.out | apply below_alloc | apply pw_below_drewN | apply below_drew1 | refine below_set ?_ GE173.out | refine below_set ?_ GE174.out | refine below_set ?_ GE175.out | refine below_set ?_ GE176.out) | exact HB.out))) : w.heap.size ≤ gb177))
              have n8_ := Aside0.mk ((by rw [hg]; exact (below_size (by repeat (first | (with_reducible first | exact HB.out | apply below_alloc | apply pw_below_drewN | apply below_drew1 | refine below_set ?_ GE173.out | refine below_set ?_ GE174.out | refine below_set ?_ GE175.out | refine below_set ?_ GE176.out) | exact HB.out))) : w.heap.size ≤ gb177))
              have n9_ := Aside0.mk ((by rw [hg]; exact Nat.ne_of_lt (blk_lt (g := gb173) (o := .cells #[.int .i64 ((rd_T30 t163 (ji14)).f0), .int .i64 ((rd_T30 t163 (ji14)).f1), .int .i64 ((rd_T30 t163 (ji14)).f2)] 30 (0, 0)) (by (with_reducible repeat (first | refine blk_drewN ?_ _ | refine blk_drew ?_ | refine blk_alloc ?_ _)); exact BK173.out)) : gb173 ≠ gb177))
              have n10_ := Aside0.mk ((by rw [hg]; exact Nat.ne_of_gt (blk_lt (g := gb173) (o := .cells #[.int .i64 ((rd_T30 t163 (ji14)).f0), .int .i64 ((rd_T30 t163 (ji14)).f1), .int .i64 ((rd_T30 t163 (ji14)).f2)] 30 (0, 0)) (by (with_reducible repeat (first | refine blk_drewN ?_ _ | refine blk_drew ?_ | refine blk_alloc ?_ _)); exact BK173.out)) : gb177 ≠ gb173))
              have n11_ := Aside0.mk ((by rw [hg]; exact Nat.ne_of_lt (blk_lt (g := gb174) (o := .cells #[.int .i64 ((rd_T30 t163 (ji17)).f0), .int .i64 ((rd_T30 t163 (ji17)).f1), .int .i64 ((rd_T30 t163 (ji17)).f2)] 30 (0, 0)) (by (with_reducible repeat (first | refine blk_drewN ?_ _ | refine blk_drew ?_ | refine blk_alloc ?_ _)); exact BK174.out)) : gb174 ≠ gb177))
              have n12_ := Aside0.mk ((by rw [hg]; exact Nat.ne_of_gt (blk_lt (g := gb174) (o := .cells #[.int .i64 ((rd_T30 t163 (ji17)).f0), .int .i64 ((rd_T30 t163 (ji17)).f1), .int .i64 ((rd_T30 t163 (ji17)).f2)] 30 (0, 0)) (by (with_reducible repeat (first | refine blk_drewN ?_ _ | refine blk_drew ?_ | refine blk_alloc ?_ _)); exact BK174.out)) : gb177 ≠ gb174))
              have n13_ := Aside0.mk ((by rw [hg]; exact Nat.ne_of_lt (blk_lt (g := gb175) (o := .cells #[.int .i64 ((rd_T30 t163 (ji14)).f0), .int .i64 ((rd_T30 t163 (ji14)).f1), .int .i64 (wrap64 (((rd_T30 t163 (ji17)).f1) + ((rd_T30 t163 (ji17)).f2)))] 32 (0, 0)) (by (with_reducible repeat (first | refine blk_drewN ?_ _ | refine blk_drew ?_ | refine blk_alloc ?_ _)); exact BK175.out)) : gb175 ≠ gb177))
              have n14_ := Aside0.mk ((by rw [hg]; exact Nat.ne_of_gt (blk_lt (g := gb175) (o := .cells #[.int .i64 ((rd_T30 t163 (ji14)).f0), .int .i64 ((rd_T30 t163 (ji14)).f1), .int .i64 (wrap64 (((rd_T30 t163 (ji17)).f1) + ((rd_T30 t163 (ji17)).f2)))] 32 (0, 0)) (by (with_reducible repeat (first | refine blk_drewN ?_ _ | refine blk_drew ?_ | refine blk_alloc ?_ _)); exact BK175.out)) : gb177 ≠ gb175))
              have n15_ := Aside0.mk ((by rw [hg]; exact Nat.ne_of_lt (blk_lt (g := gb176) (o := .cells #[.int .i64 0, .int .i64 0, .int .i64 0] 32 (0, 0)) (by (with_reducible repeat (first | refine blk_drewN ?_ _ | refine blk_drew ?_ | refine blk_alloc ?_ _)); exact BK176.out)) : gb176 ≠ gb177))
              have n16_ := Aside0.mk ((by rw [hg]; exact Nat.ne_of_gt (blk_lt (g := gb176) (o := .cells #[.int .i64 0, .int .i64 0, .int .i64 0] 32 (0, 0)) (by (with_reducible repeat (first | refine blk_drewN ?_ _ | refine blk_drew ?_ | refine blk_alloc ?_ _)); exact BK176.out)) : gb177 ≠ gb176))
              clear HO_7
              clear BK173
              clear BK174
              clear BK175
              clear BK176
              clear HB
              have HO_7 := n0_
              have BK173 := n1_
              have BK174 := n2_
              have BK175 := n3_
              have BK176 := n4_
              have HB := n5_
              have BK177 := n6_
              have GW177 := n7_
              have GE177 := n8_
              have NB173_177 := n9_
              have NB177_173 := n10_
              have NB174_177 := n11_
              have NB177_174 := n12_
              have NB175_177 := n13_
              have NB177_175 := n14_
              have NB176_177 := n15_
              have NB177_176 := n16_
              clear n0_ n1_ n2_ n3_ n4_ n5_ n6_ n7_ n8_ n9_ n10_ n11_ n12_ n13_ n14_ n15_ n16_
              clear hb hbox hg
              refine hK.out _ _ ⟨(blk_cell BK175.out 0).trans rfl, (blk_cell BK175.out 1).trans rfl, (blk_cell BK175.out 2).trans rfl⟩ (fun hHeld => ?_)
              clear hK K
              refine norm_ (a' := ?_) ?_ ?_
              rotate_left
              ·
               show Act.put _ (some 13) _ = _
               simp only [Act.put, List.setIfInBounds_toArray, List.set_cons_zero, List.set_cons_succ, i64_w, i32_w]
               rfl
              exact norm_ (by simp only [putAll, Act.put, List.setIfInBounds_toArray, List.set_cons_zero, List.set_cons_succ]) (hCont (gb176, gb177) _ ⟨hHeld, (by (with_reducible repeat (first | apply Kd.R_alloc | apply Kd.R_drewN | apply Kd.R_drew)); exact HO_7.out), (by (with_reducible repeat (first | refine blk_drewN ?_ _ | refine blk_drew ?_ | refine blk_alloc ?_ _)); exact BK173.out), (by (with_reducible repeat (first | refine blk_drewN ?_ _ | refine blk_drew ?_ | refine blk_alloc ?_ _)); exact BK174.out), (by (with_reducible repeat (first | refine blk_drewN ?_ _ | refine blk_drew ?_ | refine blk_alloc ?_ _)); exact BK175.out), (by (with_reducible repeat (first | refine blk_drewN ?_ _ | refine blk_drew ?_ | refine blk_alloc ?_ _)); exact BK176.out), (by (with_reducible repeat (first | refine blk_drewN ?_ _ | refine blk_drew ?_ | refine blk_alloc ?_ _)); exact BK177.out), GW176.out, GE176.out, NB173_176.out, NB176_173.out, NB174_176.out, NB176_174.out, NB175_176.out, NB176_175.out, NB177_176.out, NB176_177.out, GW177.out, GE177.out, NB173_177.out, NB177_173.out, NB174_177.out, NB177_174.out, NB175_177.out, NB177_175.out, (by repeat (first | (with_reducible first | exact HB.out | apply below_alloc | apply pw_below_drewN | apply below_drew1 | refine below_set ?_ GE173.out | refine below_set ?_ GE174.out | refine below_set ?_ GE175.out | refine below_set ?_ GE176.out | refine below_set ?_ GE177.out) | exact HB.out))⟩)
             ·
              skip
              refine box_step ?hg (N := 13) ?hd (cs := #[.int .i64 0, .int .i64 0, .int .i64 0]) (t := 32) ?hr ?_; (case hd => rfl); (case hg => rfl); (case hr => first | (go_simp; done) | (go_simp; rfl))
              intro gb177 hg w78 hbox hb
              have n0_ := Aside0.mk (Kd.R_below (by (with_reducible repeat (first | apply Kd.R_alloc | apply Kd.R_drewN | apply Kd.R_drew)); exact HO_7.out) hb)
              have n1_ := Aside0.mk (blk_below (g := gb173) (o := .cells #[.int .i64 ((rd_T30 t163 (ji14)).f0), .int .i64 ((rd_T30 t163 (ji14)).f1), .int .i64 ((rd_T30 t163 (ji14)).f2)] 30 (0, 0)) (by (with_reducible repeat (first | refine blk_drewN ?_ _ | refine blk_drew ?_ | refine blk_alloc ?_ _)); exact BK173.out) hb)
              have n2_ := Aside0.mk (blk_below (g := gb174) (o := .cells #[.int .i64 ((rd_T30 t163 (ji17)).f0), .int .i64 ((rd_T30 t163 (ji17)).f1), .int .i64 ((rd_T30 t163 (ji17)).f2)] 30 (0, 0)) (by (with_reducible repeat (first | refine blk_drewN ?_ _ | refine blk_drew ?_ | refine blk_alloc ?_ _)); exact BK174.out) hb)
              have n3_ := Aside0.mk (blk_below (g := gb175) (o := .cells #[.int .i64 ((rd_T30 t163 (ji14)).f0), .int .i64 ((rd_T30 t163 (ji14)).f1), .int .i64 (wrap64 (((rd_T30 t163 (ji17)).f1) + ((rd_T30 t163 (ji17)).f2)))] 32 (0, 0)) (by (with_reducible repeat (first | refine blk_drewN ?_ _ | refine blk_drew ?_ | refine blk_alloc ?_ _)); exact BK175.out) hb)
              have n4_ := Aside0.mk (below_step (by repeat (first | (with_reducible first | exact HB.out | apply below_alloc | apply pw_below_drewN | apply below_drew1 | refine below_set ?_ GE173.out | refine below_set ?_ GE174.out | refine below_set ?_ GE175.out) | exact HB.out)) hb)
              have n5_ := Aside0.mk (hbox)
              have n6_ := Aside0.mk ((by rw [hg]; exact (below_size (by repeat (first | (with_reducible first | exact HB.out | apply below_alloc | apply pw_below_drewN | apply below_drew1 | refine below_set ?_ GE173.out | refine below_set ?_ GE174.out | refine below_set ?_ GE175.out) | exact HB.out))) : w.heap.size ≤ gb177))
              have n7_ := Aside0.mk ((by rw [hg]; exact (below_size (by repeat (first | (with_reducible first | exact HB.out | apply below_alloc | apply pw_below_drewN | apply below_drew1 | refine below_set ?_ GE173.out | refine below_set ?_ GE174.out | refine below_set ?_ GE175.out) | exact HB.out))) : w.heap.size ≤ gb177))
              have n8_ := Aside0.mk ((by rw [hg]; exact Nat.ne_of_lt (blk_lt (g := gb173) (o := .cells #[.int .i64 ((rd_T30 t163 (ji14)).f0), .int .i64 ((rd_T30 t163 (ji14)).f1), .int .i64 ((rd_T30 t163 (ji14)).f2)] 30 (0, 0)) (by (with_reducible repeat (first | refine blk_drewN ?_ _ | refine blk_drew ?_ | refine blk_alloc ?_ _)); exact BK173.out)) : gb173 ≠ gb177))
              have n9_ := Aside0.mk ((by rw [hg]; exact Nat.ne_of_gt (blk_lt (g := gb173) (o := .cells #[.int .i64 ((rd_T30 t163 (ji14)).f0), .int .i64 ((rd_T30 t163 (ji14)).f1), .int .i64 ((rd_T30 t163 (ji14)).f2)] 30 (0, 0)) (by (with_reducible repeat (first | refine blk_drewN ?_ _ | refine blk_drew ?_ | refine blk_alloc ?_ _)); exact BK173.out)) : gb177 ≠ gb173))
              have n10_ := Aside0.mk ((by rw [hg]; exact Nat.ne_of_lt (blk_lt (g := gb174) (o := .cells #[.int .i64 ((rd_T30 t163 (ji17)).f0), .int .i64 ((rd_T30 t163 (ji17)).f1), .int .i64 ((rd_T30 t163 (ji17)).f2)] 30 (0, 0)) (by (with_reducible repeat (first | refine blk_drewN ?_ _ | refine blk_drew ?_ | refine blk_alloc ?_ _)); exact BK174.out)) : gb174 ≠ gb177))
              have n11_ := Aside0.mk ((by rw [hg]; exact Nat.ne_of_gt (blk_lt (g := gb174) (o := .cells #[.int .i64 ((rd_T30 t163 (ji17)).f0), .int .i64 ((rd_T30 t163 (ji17)).f1), .int .i64 ((rd_T30 t163 (ji17)).f2)] 30 (0, 0)) (by (with_reducible repeat (first | refine blk_drewN ?_ _ | refine blk_drew ?_ | refine blk_alloc ?_ _)); exact BK174.out)) : gb177 ≠ gb174))
              have n12_ := Aside0.mk ((by rw [hg]; exact Nat.ne_of_lt (blk_lt (g := gb175) (o := .cells #[.int .i64 ((rd_T30 t163 (ji14)).f0), .int .i64 ((rd_T30 t163 (ji14)).f1), .int .i64 (wrap64 (((rd_T30 t163 (ji17)).f1) + ((rd_T30 t163 (ji17)).f2)))] 32 (0, 0)) (by (with_reducible repeat (first | refine blk_drewN ?_ _ | refine blk_drew ?_ | refine blk_alloc ?_ _)); exact BK175.out)) : gb175 ≠ gb177))
              have n13_ := Aside0.mk ((by rw [hg]; exact Nat.ne_of_gt (blk_lt (g := gb175) (o := .cells #[.int .i64 ((rd_T30 t163 (ji14)).f0), .int .i64 ((rd_T30 t163 (ji14)).f1), .int .i64 (wrap64 (((rd_T30 t163 (ji17)).f1) + ((rd_T30 t163 (ji17)).f2)))] 32 (0, 0)) (by (with_reducible repeat (first | refine blk_drewN ?_ _ | refine blk_drew ?_ | refine blk_alloc ?_ _)); exact BK175.out)) : gb177 ≠ gb175))
              clear HO_7
              clear BK173
              clear BK174
              clear BK175
              clear HB
              have HO_7 := n0_
              have BK173 := n1_
              have BK174 := n2_
              have BK175 := n3_
              have HB := n4_
              have BK177 := n5_
              have GW177 := n6_
              have GE177 := n7_
              have NB173_177 := n8_
              have NB177_173 := n9_
              have NB174_177 := n10_
              have NB177_174 := n11_
              have NB175_177 := n12_
              have NB177_175 := n13_
              clear n0_ n1_ n2_ n3_ n4_ n5_ n6_ n7_ n8_ n9_ n10_ n11_ n12_ n13_
              clear hb hbox hg
              refine hK.out _ _ ⟨(blk_cell BK175.out 0).trans rfl, (blk_cell BK175.out 1).trans rfl, (blk_cell BK175.out 2).trans rfl⟩ (fun hHeld => ?_)
              clear hK K
              refine norm_ (a' := ?_) ?_ ?_
              rotate_left
              ·
               show Act.put _ (some 13) _ = _
               simp only [Act.put, List.setIfInBounds_toArray, List.set_cons_zero, List.set_cons_succ, i64_w, i32_w]
               rfl
              refine one_ (i := 2) (N := some 12) #[true, true, true, true, false, false] rfl rfl (by kernel_rfl) (by decide) (fun K hK => ?_)
              refine box_step ?hg (N := 12) ?hd (cs := #[.int .i64 0, .int .i64 0, .int .i64 0]) (t := 32) ?hr ?_; (case hd => rfl); (case hg => rfl); (case hr => first | (go_simp; done) | (go_simp; rfl))
              intro gb176 hg w79 hbox hb
              have n0_ := Aside0.mk (Kd.R_below (by (with_reducible repeat (first | apply Kd.R_alloc | apply Kd.R_drewN | apply Kd.R_drew)); exact HO_7.out) hb)
              have n1_ := Aside0.mk (blk_below (g := gb173) (o := .cells #[.int .i64 ((rd_T30 t163 (ji14)).f0), .int .i64 ((rd_T30 t163 (ji14)).f1), .int .i64 ((rd_T30 t163 (ji14)).f2)] 30 (0, 0)) (by (with_reducible repeat (first | refine blk_drewN ?_ _ | refine blk_drew ?_ | refine blk_alloc ?_ _)); exact BK173.out) hb)
              have n2_ := Aside0.mk (blk_below (g := gb174) (o := .cells #[.int .i64 ((rd_T30 t163 (ji17)).f0), .int .i64 ((rd_T30 t163 (ji17)).f1), .int .i64 ((rd_T30 t163 (ji17)).f2)] 30 (0, 0)) (by (with_reducible repeat (first | refine blk_drewN ?_ _ | refine blk_drew ?_ | refine blk_alloc ?_ _)); exact BK174.out) hb)
              have n3_ := Aside0.mk (blk_below (g := gb175) (o := .cells #[.int .i64 ((rd_T30 t163 (ji14)).f0), .int .i64 ((rd_T30 t163 (ji14)).f1), .int .i64 (wrap64 (((rd_T30 t163 (ji17)).f1) + ((rd_T30 t163 (ji17)).f2)))] 32 (0, 0)) (by (with_reducible repeat (first | refine blk_drewN ?_ _ | refine blk_drew ?_ | refine blk_alloc ?_ _)); exact BK175.out) hb)
              have n4_ := Aside0.mk (blk_below (g := gb177) (o := .cells #[.int .i64 0, .int .i64 0, .int .i64 0] 32 (0, 0)) (by (with_reducible repeat (first | refine blk_drewN ?_ _ | refine blk_drew ?_ | refine blk_alloc ?_ _)); exact BK177.out) hb)
              have n5_ := Aside0.mk (below_step (by repeat (first | (with_reducible first | exact HB.out | apply below_alloc | apply pw_below_drewN | apply below_drew1 | refine below_set ?_ GE173.out | refine below_set ?_ GE174.out | refine below_set ?_ GE175.out | refine below_set ?_ GE177.out) | exact HB.out)) hb)
              have n6_ := Aside0.mk (hbox)
              have n7_ := Aside0.mk ((by rw [hg]; exact (below_size (by repeat (first | (with_reducible first | exact HB.out | apply below_alloc | apply pw_below_drewN | apply below_drew1 | refine below_set ?_ GE173.out | refine below_set ?_ GE174.out | refine below_set ?_ GE175.out | refine below_set ?_ GE177.out) | exact HB.out))) : w.heap.size ≤ gb176))
              have n8_ := Aside0.mk ((by rw [hg]; exact (below_size (by repeat (first | (with_reducible first | exact HB.out | apply below_alloc | apply pw_below_drewN | apply below_drew1 | refine below_set ?_ GE173.out | refine below_set ?_ GE174.out | refine below_set ?_ GE175.out | refine below_set ?_ GE177.out) | exact HB.out))) : w.heap.size ≤ gb176))
              have n9_ := Aside0.mk ((by rw [hg]; exact Nat.ne_of_lt (blk_lt (g := gb173) (o := .cells #[.int .i64 ((rd_T30 t163 (ji14)).f0), .int .i64 ((rd_T30 t163 (ji14)).f1), .int .i64 ((rd_T30 t163 (ji14)).f2)] 30 (0, 0)) (by (with_reducible repeat (first | refine blk_drewN ?_ _ | refine blk_drew ?_ | refine blk_alloc ?_ _)); exact BK173.out)) : gb173 ≠ gb176))
              have n10_ := Aside0.mk ((by rw [hg]; exact Nat.ne_of_gt (blk_lt (g := gb173) (o := .cells #[.int .i64 ((rd_T30 t163 (ji14)).f0), .int .i64 ((rd_T30 t163 (ji14)).f1), .int .i64 ((rd_T30 t163 (ji14)).f2)] 30 (0, 0)) (by (with_reducible repeat (first | refine blk_drewN ?_ _ | refine blk_drew ?_ | refine blk_alloc ?_ _)); exact BK173.out)) : gb176 ≠ gb173))
              have n11_ := Aside0.mk ((by rw [hg]; exact Nat.ne_of_lt (blk_lt (g := gb174) (o := .cells #[.int .i64 ((rd_T30 t163 (ji17)).f0), .int .i64 ((rd_T30 t163 (ji17)).f1), .int .i64 ((rd_T30 t163 (ji17)).f2)] 30 (0, 0)) (by (with_reducible repeat (first | refine blk_drewN ?_ _ | refine blk_drew ?_ | refine blk_alloc ?_ _)); exact BK174.out)) : gb174 ≠ gb176))
              have n12_ := Aside0.mk ((by rw [hg]; exact Nat.ne_of_gt (blk_lt (g := gb174) (o := .cells #[.int .i64 ((rd_T30 t163 (ji17)).f0), .int .i64 ((rd_T30 t163 (ji17)).f1), .int .i64 ((rd_T30 t163 (ji17)).f2)] 30 (0, 0)) (by (with_reducible repeat (first | refine blk_drewN ?_ _ | refine blk_drew ?_ | refine blk_alloc ?_ _)); exact BK174.out)) : gb176 ≠ gb174))
              have n13_ := Aside0.mk ((by rw [hg]; exact Nat.ne_of_lt (blk_lt (g := gb175) (o := .cells #[.int .i64 ((rd_T30 t163 (ji14)).f0), .int .i64 ((rd_T30 t163 (ji14)).f1), .int .i64 (wrap64 (((rd_T30 t163 (ji17)).f1) + ((rd_T30 t163 (ji17)).f2)))] 32 (0, 0)) (by (with_reducible repeat (first | refine blk_drewN ?_ _ | refine blk_drew ?_ | refine blk_alloc ?_ _)); exact BK175.out)) : gb175 ≠ gb176))
              have n14_ := Aside0.mk ((by rw [hg]; exact Nat.ne_of_gt (blk_lt (g := gb175) (o := .cells #[.int .i64 ((rd_T30 t163 (ji14)).f0), .int .i64 ((rd_T30 t163 (ji14)).f1), .int .i64 (wrap64 (((rd_T30 t163 (ji17)).f1) + ((rd_T30 t163 (ji17)).f2)))] 32 (0, 0)) (by (with_reducible repeat (first | refine blk_drewN ?_ _ | refine blk_drew ?_ | refine blk_alloc ?_ _)); exact BK175.out)) : gb176 ≠ gb175))
              have n15_ := Aside0.mk ((by rw [hg]; exact Nat.ne_of_lt (blk_lt (g := gb177) (o := .cells #[.int .i64 0, .int .i64 0, .int .i64 0] 32 (0, 0)) (by (with_reducible repeat (first | refine blk_drewN ?_ _ | refine blk_drew ?_ | refine blk_alloc ?_ _)); exact BK177.out)) : gb177 ≠ gb176))
              have n16_ := Aside0.mk ((by rw [hg]; exact Nat.ne_of_gt (blk_lt (g := gb177) (o := .cells #[.int .i64 0, .int .i64 0, .int .i64 0] 32 (0, 0)) (by (with_reducible repeat (first | refine blk_drewN ?_ _ | refine blk_drew ?_ | refine blk_alloc ?_ _)); exact BK177.out)) : gb176 ≠ gb177))
              clear HO_7
              clear BK173
              clear BK174
              clear BK175
              clear BK177
              clear HB
              have HO_7 := n0_
              have BK173 := n1_
              have BK174 := n2_
              have BK175 := n3_
              have BK177 := n4_
              have HB := n5_
              have BK176 := n6_
              have GW176 := n7_
              have GE176 := n8_
              have NB173_176 := n9_
              have NB176_173 := n10_
              have NB174_176 := n11_
              have NB176_174 := n12_
              have NB175_176 := n13_
              have NB176_175 := n14_
              have NB177_176 := n15_
              have NB176_177 := n16_
              clear n0_ n1_ n2_ n3_ n4_ n5_ n6_ n7_ n8_ n9_ n10_ n11_ n12_ n13_ n14_ n15_ n16_
              clear hb hbox hg
              refine hK.out _ _ ⟨(blk_cell BK175.out 0).trans rfl, (blk_cell BK175.out 1).trans rfl, (blk_cell BK175.out 2).trans rfl⟩ (fun hHeld => ?_)
              clear hK K
              refine norm_ (a' := ?_) ?_ ?_
              rotate_left
              ·
               show Act.put _ (some 12) _ = _
               simp only [Act.put, List.setIfInBounds_toArray, List.set_cons_zero, List.set_cons_succ, i64_w, i32_w]
               rfl
              exact norm_ (by simp only [putAll, Act.put, List.setIfInBounds_toArray, List.set_cons_zero, List.set_cons_succ]) (hCont (gb176, gb177) _ ⟨hHeld, (by (with_reducible repeat (first | apply Kd.R_alloc | apply Kd.R_drewN | apply Kd.R_drew)); exact HO_7.out), (by (with_reducible repeat (first | refine blk_drewN ?_ _ | refine blk_drew ?_ | refine blk_alloc ?_ _)); exact BK173.out), (by (with_reducible repeat (first | refine blk_drewN ?_ _ | refine blk_drew ?_ | refine blk_alloc ?_ _)); exact BK174.out), (by (with_reducible repeat (first | refine blk_drewN ?_ _ | refine blk_drew ?_ | refine blk_alloc ?_ _)); exact BK175.out), (by (with_reducible repeat (first | refine blk_drewN ?_ _ | refine blk_drew ?_ | refine blk_alloc ?_ _)); exact BK176.out), (by (with_reducible repeat (first | refine blk_drewN ?_ _ | refine blk_drew ?_ | refine blk_alloc ?_ _)); exact BK177.out), GW176.out, GE176.out, NB173_176.out, NB176_173.out, NB174_176.out, NB176_174.out, NB175_176.out, NB176_175.out, NB177_176.out, NB176_177.out, GW177.out, GE177.out, NB173_177.out, NB177_173.out, NB174_177.out, NB177_174.out, NB175_177.out, NB177_175.out, (by repeat (first | (with_reducible first | exact HB.out | apply below_alloc | apply pw_below_drewN | apply below_drew1 | refine below_set ?_ GE173.out | refine below_set ?_ GE174.out | refine below_set ?_ GE175.out | refine below_set ?_ GE177.out | refine below_set ?_ GE176.out) | exact HB.out))⟩)
            rintro ⟨gb176, gb177⟩ w80 ⟨hS_, h0_, h1_, h2_, h3_, h4_, h5_, h6_, h7_, h8_, h9_, h10_, h11_, h12_, h13_, h14_, h15_, h16_, h17_, h18_, h19_, h20_, h21_, h22_, h23_, h24_⟩
            have n0_ : Aside0 (Kd.R k30 30 w80 w.heap.size (fun k_ => k_ ≠ gb173 ∧ k_ ≠ gb174) (.slice (some ad171) t163.length co10) t163) := ⟨h0_⟩
            have n1_ : Aside0 (w80.heap[gb173]? = some (.cells #[.int .i64 ((rd_T30 t163 (ji14)).f0), .int .i64 ((rd_T30 t163 (ji14)).f1), .int .i64 ((rd_T30 t163 (ji14)).f2)] 30 (0, 0))) := ⟨h1_⟩
            have n2_ : Aside0 (w80.heap[gb174]? = some (.cells #[.int .i64 ((rd_T30 t163 (ji17)).f0), .int .i64 ((rd_T30 t163 (ji17)).f1), .int .i64 ((rd_T30 t163 (ji17)).f2)] 30 (0, 0))) := ⟨h2_⟩
            have n3_ : Aside0 (w80.heap[gb175]? = some (.cells #[.int .i64 ((rd_T30 t163 (ji14)).f0), .int .i64 ((rd_T30 t163 (ji14)).f1), .int .i64 (wrap64 (((rd_T30 t163 (ji17)).f1) + ((rd_T30 t163 (ji17)).f2)))] 32 (0, 0))) := ⟨h3_⟩
            have n4_ : Aside0 (w80.heap[gb176]? = some (.cells #[.int .i64 0, .int .i64 0, .int .i64 0] 32 (0, 0))) := ⟨h4_⟩
            have n5_ : Aside0 (w80.heap[gb177]? = some (.cells #[.int .i64 0, .int .i64 0, .int .i64 0] 32 (0, 0))) := ⟨h5_⟩
            have n6_ : Aside0 (w.heap.size ≤ gb176) := ⟨h6_⟩
            have n7_ : Aside0 (w.heap.size ≤ gb176) := ⟨h7_⟩
            have n8_ : Aside0 (gb173 ≠ gb176) := ⟨h8_⟩
            have n9_ : Aside0 (gb176 ≠ gb173) := ⟨h9_⟩
            have n10_ : Aside0 (gb174 ≠ gb176) := ⟨h10_⟩
            have n11_ : Aside0 (gb176 ≠ gb174) := ⟨h11_⟩
            have n12_ : Aside0 (gb175 ≠ gb176) := ⟨h12_⟩
            have n13_ : Aside0 (gb176 ≠ gb175) := ⟨h13_⟩
            have n14_ : Aside0 (gb177 ≠ gb176) := ⟨h14_⟩
            have n15_ : Aside0 (gb176 ≠ gb177) := ⟨h15_⟩
            have n16_ : Aside0 (w.heap.size ≤ gb177) := ⟨h16_⟩
            have n17_ : Aside0 (w.heap.size ≤ gb177) := ⟨h17_⟩
            have n18_ : Aside0 (gb173 ≠ gb177) := ⟨h18_⟩
            have n19_ : Aside0 (gb177 ≠ gb173) := ⟨h19_⟩
            have n20_ : Aside0 (gb174 ≠ gb177) := ⟨h20_⟩
            have n21_ : Aside0 (gb177 ≠ gb174) := ⟨h21_⟩
            have n22_ : Aside0 (gb175 ≠ gb177) := ⟨h22_⟩
            have n23_ : Aside0 (gb177 ≠ gb175) := ⟨h23_⟩
            have n24_ : Aside0 (Below w.heap.size w w80) := ⟨h24_⟩
            clear HO_7
            clear BK173
            clear BK174
            clear BK175
            clear HB
            clear h0_ h1_ h2_ h3_ h4_ h5_ h6_ h7_ h8_ h9_ h10_ h11_ h12_ h13_ h14_ h15_ h16_ h17_ h18_ h19_ h20_ h21_ h22_ h23_ h24_
            have HO_7 := n0_
            have BK173 := n1_
            have BK174 := n2_
            have BK175 := n3_
            have BK176 := n4_
            have BK177 := n5_
            have GW176 := n6_
            have GE176 := n7_
            have NB173_176 := n8_
            have NB176_173 := n9_
            have NB174_176 := n10_
            have NB176_174 := n11_
            have NB175_176 := n12_
            have NB176_175 := n13_
            have NB177_176 := n14_
            have NB176_177 := n15_
            have GW177 := n16_
            have GE177 := n17_
            have NB173_177 := n18_
            have NB177_173 := n19_
            have NB174_177 := n20_
            have NB177_174 := n21_
            have NB175_177 := n22_
            have NB177_175 := n23_
            have HB := n24_
            clear n0_ n1_ n2_ n3_ n4_ n5_ n6_ n7_ n8_ n9_ n10_ n11_ n12_ n13_ n14_ n15_ n16_ n17_ n18_ n19_ n20_ n21_ n22_ n23_ n24_
            have hHeld : w80.cell? ⟨gb175, 0, none⟩ = some (.int .i64 ((rd_T30 t163 (ji14)).f0)) ∧ w80.cell? ⟨gb175, 1, none⟩ = some (.int .i64 ((rd_T30 t163 (ji14)).f1)) ∧ w80.cell? ⟨gb175, 2, none⟩ = some (.int .i64 (wrap64 (((rd_T30 t163 (ji17)).f1) + ((rd_T30 t163 (ji17)).f2)))) := hS_
            refine norm_ (a' := ?_) ?_ ?_
            rotate_left
            ·
             simp only [putAll, Act.put, List.setIfInBounds_toArray, List.set_cons_zero, List.set_cons_succ]
             rfl
            refine one_ (i := 4) (N := none) #[true, true, true, true, true, false] rfl rfl (by kernel_rfl) (by decide) (fun K hK => ?_)
            have hs81 : w80.cell? ⟨gb176, 0, none⟩ = some (.int .i64 0) := (blk_cell BK176.out 0).trans rfl
            have hfs81 := blk_frozen BK176.out 0
            have hns81_0 := NB173_176.out
            have hns81_1 := NB174_176.out
            have hns81_2 := NB175_176.out
            have hns81_4 := NB177_176.out
            have hms81_0 := NB176_173.out
            have hms81_1 := NB176_174.out
            have hms81_2 := NB176_175.out
            have hms81_4 := NB176_177.out
            have hs82 : w80.cell? ⟨gb176, 1, none⟩ = some (.int .i64 0) := (blk_cell BK176.out 1).trans rfl
            have hfs82 := blk_frozen BK176.out 1
            have hns82_0 := NB173_176.out
            have hns82_1 := NB174_176.out
            have hns82_2 := NB175_176.out
            have hns82_4 := NB177_176.out
            have hms82_0 := NB176_173.out
            have hms82_1 := NB176_174.out
            have hms82_2 := NB176_175.out
            have hms82_4 := NB176_177.out
            have hs83 : w80.cell? ⟨gb176, 2, none⟩ = some (.int .i64 0) := (blk_cell BK176.out 2).trans rfl
            have hfs83 := blk_frozen BK176.out 2
            have hns83_0 := NB173_176.out
            have hns83_1 := NB174_176.out
            have hns83_2 := NB175_176.out
            have hns83_4 := NB177_176.out
            have hms83_0 := NB176_173.out
            have hms83_1 := NB176_174.out
            have hms83_2 := NB176_175.out
            have hms83_4 := NB176_177.out
            refine skip_ (w1 := ?_) (by rfl) rfl ?_ ?_
            rotate_left
            ·
             go_simp
             rfl
            refine hK.out _ _ ⟨((cell_far (p := ⟨gb176, _, none⟩) NB175_176.out _).trans (((cell_far (p := ⟨gb176, _, none⟩) NB175_176.out _).trans (((cell_far (p := ⟨gb176, _, none⟩) NB175_176.out _).trans (hHeld.1)))))), ((cell_far (p := ⟨gb176, _, none⟩) NB175_176.out _).trans (((cell_far (p := ⟨gb176, _, none⟩) NB175_176.out _).trans (((cell_far (p := ⟨gb176, _, none⟩) NB175_176.out _).trans (hHeld.2.1)))))), ((cell_far (p := ⟨gb176, _, none⟩) NB175_176.out _).trans (((cell_far (p := ⟨gb176, _, none⟩) NB175_176.out _).trans (((cell_far (p := ⟨gb176, _, none⟩) NB175_176.out _).trans (hHeld.2.2))))))⟩ (fun hHeld => ?_)
            clear hK K
            refine one_ (i := 5) (N := none) #[true, true, true, true, true, true] rfl rfl (by kernel_rfl) (by decide) (fun K hK => ?_)
            have hs84 : w80.cell? ⟨gb177, 0, none⟩ = some (.int .i64 0) := (blk_cell BK177.out 0).trans rfl
            have hfs84 := blk_frozen BK177.out 0
            have hns84_0 := NB173_177.out
            have hns84_1 := NB174_177.out
            have hns84_2 := NB175_177.out
            have hns84_3 := NB176_177.out
            have hms84_0 := NB177_173.out
            have hms84_1 := NB177_174.out
            have hms84_2 := NB177_175.out
            have hms84_3 := NB177_176.out
            have hs85 : w80.cell? ⟨gb177, 1, none⟩ = some (.int .i64 0) := (blk_cell BK177.out 1).trans rfl
            have hfs85 := blk_frozen BK177.out 1
            have hns85_0 := NB173_177.out
            have hns85_1 := NB174_177.out
            have hns85_2 := NB175_177.out
            have hns85_3 := NB176_177.out
            have hms85_0 := NB177_173.out
            have hms85_1 := NB177_174.out
            have hms85_2 := NB177_175.out
            have hms85_3 := NB177_176.out
            have hs86 : w80.cell? ⟨gb177, 2, none⟩ = some (.int .i64 0) := (blk_cell BK177.out 2).trans rfl
            have hfs86 := blk_frozen BK177.out 2
            have hns86_0 := NB173_177.out
            have hns86_1 := NB174_177.out
            have hns86_2 := NB175_177.out
            have hns86_3 := NB176_177.out
            have hms86_0 := NB177_173.out
            have hms86_1 := NB177_174.out
            have hms86_2 := NB177_175.out
            have hms86_3 := NB177_176.out
            refine skip_ (w1 := ?_) (by rfl) rfl ?_ ?_
            rotate_left
            ·
             go_simp
             rfl
            refine hK.out _ _ ⟨((cell_far (p := ⟨gb177, _, none⟩) NB175_177.out _).trans (((cell_far (p := ⟨gb177, _, none⟩) NB175_177.out _).trans (((cell_far (p := ⟨gb177, _, none⟩) NB175_177.out _).trans (hHeld.1)))))), ((cell_far (p := ⟨gb177, _, none⟩) NB175_177.out _).trans (((cell_far (p := ⟨gb177, _, none⟩) NB175_177.out _).trans (((cell_far (p := ⟨gb177, _, none⟩) NB175_177.out _).trans (hHeld.2.1)))))), ((cell_far (p := ⟨gb177, _, none⟩) NB175_177.out _).trans (((cell_far (p := ⟨gb177, _, none⟩) NB175_177.out _).trans (((cell_far (p := ⟨gb177, _, none⟩) NB175_177.out _).trans (hHeld.2.2))))))⟩ (fun hHeld => ?_)
            clear hK K
            refine done_ (by kernel_rfl) ?_
            have hnb87 := NB176_173.out
            have hnc87 := NB173_176.out
            have hnb88 := NB176_174.out
            have hnc88 := NB174_176.out
            have hnb89 := NB176_175.out
            have hnc89 := NB175_176.out
            have hnb90 := NB176_177.out
            have hnc90 := NB177_176.out
            have hcz91_0 : w80.cell? ⟨gb176, 0, none⟩ = some (.int .i64 0) := (blk_cell BK176.out 0).trans rfl
            have hcz91_1 : w80.cell? ⟨gb176, 1, none⟩ = some (.int .i64 0) := (blk_cell BK176.out 1).trans rfl
            have hcz91_2 : w80.cell? ⟨gb176, 2, none⟩ = some (.int .i64 0) := (blk_cell BK176.out 2).trans rfl
            have hfz91_0 := blk_frozen BK176.out 0
            have hfz91_1 := blk_frozen BK176.out 1
            have hfz91_2 := blk_frozen BK176.out 2
            have hnb92 := NB177_173.out
            have hnc92 := NB173_177.out
            have hnb93 := NB177_174.out
            have hnc93 := NB174_177.out
            have hnb94 := NB177_175.out
            have hnc94 := NB175_177.out
            have hcz95_0 : w80.cell? ⟨gb177, 0, none⟩ = some (.int .i64 0) := (blk_cell BK177.out 0).trans rfl
            have hcz95_1 : w80.cell? ⟨gb177, 1, none⟩ = some (.int .i64 0) := (blk_cell BK177.out 1).trans rfl
            have hcz95_2 : w80.cell? ⟨gb177, 2, none⟩ = some (.int .i64 0) := (blk_cell BK177.out 2).trans rfl
            have hfz95_0 := blk_frozen BK177.out 0
            have hfz95_1 := blk_frozen BK177.out 1
            have hfz95_2 := blk_frozen BK177.out 2
            have hcz96_0 : w80.cell? ⟨gb175, 0, none⟩ = some (.int .i64 ((rd_T30 t163 (ji14)).f0)) := (blk_cell BK175.out 0).trans rfl
            have hcz96_1 : w80.cell? ⟨gb175, 1, none⟩ = some (.int .i64 ((rd_T30 t163 (ji14)).f1)) := (blk_cell BK175.out 1).trans rfl
            have hcz96_2 : w80.cell? ⟨gb175, 2, none⟩ = some (.int .i64 (wrap64 (((rd_T30 t163 (ji17)).f1) + ((rd_T30 t163 (ji17)).f2)))) := (blk_cell BK175.out 2).trans rfl
            have hfz96_0 := blk_frozen BK175.out 0
            have hfz96_1 := blk_frozen BK175.out 1
            have hfz96_2 := blk_frozen BK175.out 2
            try go_wp2_with (first | ((with_reducible refine gate_callee (f := 15) rfl ?_); refine goesL_ (some 71) rfl rfl Try.func15 (by kernel_rfl) rfl #[.slice (some ad171) t163.length co10, .agg #[.int .i64 ((rd_T30 t163 (ji14)).f0), .int .i64 ((rd_T30 t163 (ji14)).f1), .int .i64 (wrap64 (((rd_T30 t163 (ji17)).f1) + ((rd_T30 t163 (ji17)).f2)))]] rfl (by (try simp only [List.map_toArray, List.map_cons, List.map_nil]); first | done | (simp only [hji14, hji17]; rfl) | rfl | (simp only [List.length_drop, List.length_take]; rfl)) ?_; (with_reducible refine (group_Splits.calls kj19 _ _ t163 ((rd_T30 t163 (ji14)).f0) ((rd_T30 t163 (ji14)).f1) (wrap64 (((rd_T30 t163 (ji17)).f1) + ((rd_T30 t163 (ji17)).f2))) false _ ?side1 ?side2 A35.out).mono ?_); (case side1 => refine (Kd.R_reads' (e := 30) (base := w.heap.size) (ok := fun k_ => (k_ ≠ gb173 ∧ k_ ≠ gb174)) (n := t163.length) (c := co10) ?_).2.2; exact (by (with_reducible repeat (first | apply Kd.R_alloc | apply Kd.R_drewN | apply Kd.R_drew)); exact (Kd.R_mono (Kd.R_mono (Kd.R_far (p := ⟨gb177, 2, none⟩) (Kd.R_far (p := ⟨gb176, 1, none⟩) (Kd.R_far (p := ⟨gb177, 2, none⟩) (Kd.R_far (p := ⟨gb177, 1, none⟩) (Kd.R_far (p := ⟨gb177, 0, none⟩) (Kd.R_far (p := ⟨gb176, 2, none⟩) (Kd.R_far (p := ⟨gb176, 1, none⟩) (Kd.R_far (p := ⟨gb176, 0, none⟩) (Kd.R_types (Kd.R_types HO_7.out BK176.out (by decide)) BK177.out (by decide)) (fun _ hk => hk.1.2) (.int .i64 ((rd_T30 t163 (ji14)).f0))) (fun _ hk => hk.1.2) (.int .i64 ((rd_T30 t163 (ji14)).f1))) (fun _ hk => hk.1.2) (.int .i64 (wrap64 (((rd_T30 t163 (ji17)).f1) + ((rd_T30 t163 (ji17)).f2))))) (fun _ hk => hk.2) (.int .i64 ((rd_T30 t163 (ji14)).f0))) (fun _ hk => hk.2) (.int .i64 ((rd_T30 t163 (ji14)).f1))) (fun _ hk => hk.2) (.int .i64 (wrap64 (((rd_T30 t163 (ji17)).f1) + ((rd_T30 t163 (ji17)).f2))))) (fun _ hk => hk.1.2) (.int .i64 (wrap64 (((rd_T30 t163 (ji14)).f1) + 1)))) (fun _ hk => hk.2) (.int .i64 (wrap64 ((wrap64 (((rd_T30 t163 (ji17)).f1) + ((rd_T30 t163 (ji17)).f2))) - 1)))) (fun _ h_ => h_.1)) (fun _ h_ => h_.1)))); (case side2 => exact (Kd.R_reads' HO_7.out).2.1); rintro e w97 ⟨rfl, hb⟩; refine ⟨_, rfl, ?_⟩; have n0_ := Aside0.mk (Kd.R_below (by (with_reducible repeat (first | apply Kd.R_alloc | apply Kd.R_drewN | apply Kd.R_drew)); exact (Kd.R_mono (Kd.R_mono (Kd.R_far (p := ⟨gb177, 2, none⟩) (Kd.R_far (p := ⟨gb176, 1, none⟩) (Kd.R_far (p := ⟨gb177, 2, none⟩) (Kd.R_far (p := ⟨gb177, 1, none⟩) (Kd.R_far (p := ⟨gb177, 0, none⟩) (Kd.R_far (p := ⟨gb176, 2, none⟩) (Kd.R_far (p := ⟨gb176, 1, none⟩) (Kd.R_far (p := ⟨gb176, 0, none⟩) (Kd.R_types (Kd.R_types HO_7.out BK176.out (by decide)) BK177.out (by decide)) (fun _ hk => hk.1.2) (.int .i64 ((rd_T30 t163 (ji14)).f0))) (fun _ hk => hk.1.2) (.int .i64 ((rd_T30 t163 (ji14)).f1))) (fun _ hk => hk.1.2) (.int .i64 (wrap64 (((rd_T30 t163 (ji17)).f1) + ((rd_T30 t163 (ji17)).f2))))) (fun _ hk => hk.2) (.int .i64 ((rd_T30 t163 (ji14)).f0))) (fun _ hk => hk.2) (.int .i64 ((rd_T30 t163 (ji14)).f1))) (fun _ hk => hk.2) (.int .i64 (wrap64 (((rd_T30 t163 (ji17)).f1) + ((rd_T30 t163 (ji17)).f2))))) (fun _ hk => hk.1.2) (.int .i64 (wrap64 (((rd_T30 t163 (ji14)).f1) + 1)))) (fun _ hk => hk.2) (.int .i64 (wrap64 ((wrap64 (((rd_T30 t163 (ji17)).f1) + ((rd_T30 t163 (ji17)).f2))) - 1)))) (fun _ h_ => h_.1)) (fun _ h_ => h_.1))) hb); have n1_ := Aside0.mk (blk_below (g := gb173) (o := .cells #[.int .i64 ((rd_T30 t163 (ji14)).f0), .int .i64 ((rd_T30 t163 (ji14)).f1), .int .i64 ((rd_T30 t163 (ji14)).f2)] 30 (0, 0)) (by (with_reducible repeat (first | refine blk_drewN ?_ _ | refine blk_drew ?_ | refine blk_alloc ?_ _)); refine blk_far ?_ NB173_177.out _; (with_reducible repeat (first | refine blk_drewN ?_ _ | refine blk_drew ?_ | refine blk_alloc ?_ _)); refine blk_far ?_ NB173_176.out _; (with_reducible repeat (first | refine blk_drewN ?_ _ | refine blk_drew ?_ | refine blk_alloc ?_ _)); refine blk_far ?_ NB173_177.out _; (with_reducible repeat (first | refine blk_drewN ?_ _ | refine blk_drew ?_ | refine blk_alloc ?_ _)); refine blk_far ?_ NB173_177.out _; (with_reducible repeat (first | refine blk_drewN ?_ _ | refine blk_drew ?_ | refine blk_alloc ?_ _)); refine blk_far ?_ NB173_177.out _; (with_reducible repeat (first | refine blk_drewN ?_ _ | refine blk_drew ?_ | refine blk_alloc ?_ _)); refine blk_far ?_ NB173_176.out _; (with_reducible repeat (first | refine blk_drewN ?_ _ | refine blk_drew ?_ | refine blk_alloc ?_ _)); refine blk_far ?_ NB173_176.out _; (with_reducible repeat (first | refine blk_drewN ?_ _ | refine blk_drew ?_ | refine blk_alloc ?_ _)); refine blk_far ?_ NB173_176.out _; (with_reducible repeat (first | refine blk_drewN ?_ _ | refine blk_drew ?_ | refine blk_alloc ?_ _)); exact BK173.out) hb); have n2_ := Aside0.mk (blk_below (g := gb174) (o := .cells #[.int .i64 ((rd_T30 t163 (ji17)).f0), .int .i64 ((rd_T30 t163 (ji17)).f1), .int .i64 ((rd_T30 t163 (ji17)).f2)] 30 (0, 0)) (by (with_reducible repeat (first | refine blk_drewN ?_ _ | refine blk_drew ?_ | refine blk_alloc ?_ _)); refine blk_far ?_ NB174_177.out _; (with_reducible repeat (first | refine blk_drewN ?_ _ | refine blk_drew ?_ | refine blk_alloc ?_ _)); refine blk_far ?_ NB174_176.out _; (with_reducible repeat (first | refine blk_drewN ?_ _ | refine blk_drew ?_ | refine blk_alloc ?_ _)); refine blk_far ?_ NB174_177.out _; (with_reducible repeat (first | refine blk_drewN ?_ _ | refine blk_drew ?_ | refine blk_alloc ?_ _)); refine blk_far ?_ NB174_177.out _; (with_reducible repeat (first | refine blk_drewN ?_ _ | refine blk_drew ?_ | refine blk_alloc ?_ _)); refine blk_far ?_ NB174_177.out _; (with_reducible repeat (first | refine blk_drewN ?_ _ | refine blk_drew ?_ | refine blk_alloc ?_ _)); refine blk_far ?_ NB174_176.out _; (with_reducible repeat (first | refine blk_drewN ?_ _ | refine blk_drew ?_ | refine blk_alloc ?_ _)); refine blk_far ?_ NB174_176.out _; (with_reducible repeat (first | refine blk_drewN ?_ _ | refine blk_drew ?_ | refine blk_alloc ?_ _)); refine blk_far ?_ NB174_176.out _; (with_reducible repeat (first | refine blk_drewN ?_ _ | refine blk_drew ?_ | refine blk_alloc ?_ _)); exact BK174.out) hb); have n3_ := Aside0.mk (blk_below (g := gb175) (o := .cells #[.int .i64 ((rd_T30 t163 (ji14)).f0), .int .i64 ((rd_T30 t163 (ji14)).f1), .int .i64 (wrap64 (((rd_T30 t163 (ji17)).f1) + ((rd_T30 t163 (ji17)).f2)))] 32 (0, 0)) (by (with_reducible repeat (first | refine blk_drewN ?_ _ | refine blk_drew ?_ | refine blk_alloc ?_ _)); refine blk_far ?_ NB175_177.out _; (with_reducible repeat (first | refine blk_drewN ?_ _ | refine blk_drew ?_ | refine blk_alloc ?_ _)); refine blk_far ?_ NB175_176.out _; (with_reducible repeat (first | refine blk_drewN ?_ _ | refine blk_drew ?_ | refine blk_alloc ?_ _)); refine blk_far ?_ NB175_177.out _; (with_reducible repeat (first | refine blk_drewN ?_ _ | refine blk_drew ?_ | refine blk_alloc ?_ _)); refine blk_far ?_ NB175_177.out _; (with_reducible repeat (first | refine blk_drewN ?_ _ | refine blk_drew ?_ | refine blk_alloc ?_ _)); refine blk_far ?_ NB175_177.out _; (with_reducible repeat (first | refine blk_drewN ?_ _ | refine blk_drew ?_ | refine blk_alloc ?_ _)); refine blk_far ?_ NB175_176.out _; (with_reducible repeat (first | refine blk_drewN ?_ _ | refine blk_drew ?_ | refine blk_alloc ?_ _)); refine blk_far ?_ NB175_176.out _; (with_reducible repeat (first | refine blk_drewN ?_ _ | refine blk_drew ?_ | refine blk_alloc ?_ _)); refine blk_far ?_ NB175_176.out _; (with_reducible repeat (first | refine blk_drewN ?_ _ | refine blk_drew ?_ | refine blk_alloc ?_ _)); exact BK175.out) hb); have n4_ := Aside0.mk (blk_below (g := gb176) (o := .cells #[.int .i64 ((rd_T30 t163 (ji14)).f0), .int .i64 (wrap64 (((rd_T30 t163 (ji14)).f1) + 1)), .int .i64 (wrap64 (((rd_T30 t163 (ji17)).f1) + ((rd_T30 t163 (ji17)).f2)))] 32 (0, 0)) (by (with_reducible repeat (first | refine blk_drewN ?_ _ | refine blk_drew ?_ | refine blk_alloc ?_ _)); refine blk_far ?_ NB176_177.out _; (with_reducible repeat (first | refine blk_drewN ?_ _ | refine blk_drew ?_ | refine blk_alloc ?_ _)); refine blk_put (cs := #[.int .i64 ((rd_T30 t163 (ji14)).f0), .int .i64 ((rd_T30 t163 (ji14)).f1), .int .i64 (wrap64 (((rd_T30 t163 (ji17)).f1) + ((rd_T30 t163 (ji17)).f2)))]) ?_ 1 _ rfl; (with_reducible repeat (first | refine blk_drewN ?_ _ | refine blk_drew ?_ | refine blk_alloc ?_ _)); refine blk_far ?_ NB176_177.out _; (with_reducible repeat (first | refine blk_drewN ?_ _ | refine blk_drew ?_ | refine blk_alloc ?_ _)); refine blk_far ?_ NB176_177.out _; (with_reducible repeat (first | refine blk_drewN ?_ _ | refine blk_drew ?_ | refine blk_alloc ?_ _)); refine blk_far ?_ NB176_177.out _; (with_reducible repeat (first | refine blk_drewN ?_ _ | refine blk_drew ?_ | refine blk_alloc ?_ _)); refine blk_put (cs := #[.int .i64 ((rd_T30 t163 (ji14)).f0), .int .i64 ((rd_T30 t163 (ji14)).f1), .int .i64 0]) ?_ 2 _ rfl; (with_reducible repeat (first | refine blk_drewN ?_ _ | refine blk_drew ?_ | refine blk_alloc ?_ _)); refine blk_put (cs := #[.int .i64 ((rd_T30 t163 (ji14)).f0), .int .i64 0, .int .i64 0]) ?_ 1 _ rfl; (with_reducible repeat (first | refine blk_drewN ?_ _ | refine blk_drew ?_ | refine blk_alloc ?_ _)); refine blk_put (cs := #[.int .i64 0, .int .i64 0, .int .i64 0]) ?_ 0 _ rfl; (with_reducible repeat (first | refine blk_drewN ?_ _ | refine blk_drew ?_ | refine blk_alloc ?_ _)); exact BK176.out) hb); have n5_ := Aside0.mk (blk_below (g := gb177) (o := .cells #[.int .i64 ((rd_T30 t163 (ji14)).f0), .int .i64 ((rd_T30 t163 (ji14)).f1), .int .i64 (wrap64 ((wrap64 (((rd_T30 t163 (ji17)).f1) + ((rd_T30 t163 (ji17)).f2))) - 1))] 32 (0, 0)) (by (with_reducible repeat (first | refine blk_drewN ?_ _ | refine blk_drew ?_ | refine blk_alloc ?_ _)); refine blk_put (cs := #[.int .i64 ((rd_T30 t163 (ji14)).f0), .int .i64 ((rd_T30 t163 (ji14)).f1), .int .i64 (wrap64 (((rd_T30 t163 (ji17)).f1) + ((rd_T30 t163 (ji17)).f2)))]) ?_ 2 _ rfl; (with_reducible repeat (first | refine blk_drewN ?_ _ | refine blk_drew ?_ | refine blk_alloc ?_ _)); refine blk_far ?_ NB177_176.out _; (with_reducible repeat (first | refine blk_drewN ?_ _ | refine blk_drew ?_ | refine blk_alloc ?_ _)); refine blk_put (cs := #[.int .i64 ((rd_T30 t163 (ji14)).f0), .int .i64 ((rd_T30 t163 (ji14)).f1), .int .i64 0]) ?_ 2 _ rfl; (with_reducible repeat (first | refine blk_drewN ?_ _ | refine blk_drew ?_ | refine blk_alloc ?_ _)); refine blk_put (cs := #[.int .i64 ((rd_T30 t163 (ji14)).f0), .int .i64 0, .int .i64 0]) ?_ 1 _ rfl; (with_reducible repeat (first | refine blk_drewN ?_ _ | refine blk_drew ?_ | refine blk_alloc ?_ _)); refine blk_put (cs := #[.int .i64 0, .int .i64 0, .int .i64 0]) ?_ 0 _ rfl; (with_reducible repeat (first | refine blk_drewN ?_ _ | refine blk_drew ?_ | refine blk_alloc ?_ _)); refine blk_far ?_ NB177_176.out _; (with_reducible repeat (first | refine blk_drewN ?_ _ | refine blk_drew ?_ | refine blk_alloc ?_ _)); refine blk_far ?_ NB177_176.out _; (with_reducible repeat (first | refine blk_drewN ?_ _ | refine blk_drew ?_ | refine blk_alloc ?_ _)); refine blk_far ?_ NB177_176.out _; (with_reducible repeat (first | refine blk_drewN ?_ _ | refine blk_drew ?_ | refine blk_alloc ?_ _)); exact BK177.out) hb); have n6_ := Aside0.mk (below_step (by repeat (first | (with_reducible first | exact HB.out | apply below_alloc | apply pw_below_drewN | apply below_drew1 | refine below_set ?_ GE173.out | refine below_set ?_ GE174.out | refine below_set ?_ GE175.out | refine below_set ?_ GE176.out | refine below_set ?_ GE177.out) | exact HB.out)) hb); clear HO_7; clear BK173; clear BK174; clear BK175; clear BK176; clear BK177; clear HB; have HO_7 := n0_; have BK173 := n1_; have BK174 := n2_; have BK175 := n3_; have BK176 := n4_; have BK177 := n5_; have HB := n6_; clear n0_ n1_ n2_ n3_ n4_ n5_ n6_; (try clear hb); (try clear hb2); (try clear hk); (try clear hi); have hcz98_0 : w97.cell? ⟨gb176, 0, none⟩ = some (.int .i64 ((rd_T30 t163 (ji14)).f0)) := (blk_cell BK176.out 0).trans rfl; have hcz98_1 : w97.cell? ⟨gb176, 1, none⟩ = some (.int .i64 (wrap64 (((rd_T30 t163 (ji14)).f1) + 1))) := (blk_cell BK176.out 1).trans rfl; have hcz98_2 : w97.cell? ⟨gb176, 2, none⟩ = some (.int .i64 (wrap64 (((rd_T30 t163 (ji17)).f1) + ((rd_T30 t163 (ji17)).f2)))) := (blk_cell BK176.out 2).trans rfl; have hfz98_0 := blk_frozen BK176.out 0; have hfz98_1 := blk_frozen BK176.out 1; have hfz98_2 := blk_frozen BK176.out 2) | (go_at_call 15; (with_reducible refine (group_Splits.calls kj19 _ _ t163 ((rd_T30 t163 (ji14)).f0) (wrap64 (((rd_T30 t163 (ji14)).f1) + 1)) (wrap64 (((rd_T30 t163 (ji17)).f1) + ((rd_T30 t163 (ji17)).f2))) true _ ?side1 ?side2 A66.out).mono ?_); (case side1 => repeat (first | exact (Kd.R_reads' HO_7.out).2.2 | (with_reducible refine Kd.C_alloc ?_ _) | (with_reducible refine Kd.C_drewN ?_ _) | (with_reducible refine Kd.C_drew ?_))); (case side2 => exact (Kd.R_reads' HO_7.out).2.1); rintro e w99 ⟨rfl, hb⟩; have n0_ := Aside0.mk (Kd.R_below (by (with_reducible repeat (first | apply Kd.R_alloc | apply Kd.R_drewN | apply Kd.R_drew)); exact HO_7.out) hb); have n1_ := Aside0.mk (blk_below (g := gb173) (o := .cells #[.int .i64 ((rd_T30 t163 (ji14)).f0), .int .i64 ((rd_T30 t163 (ji14)).f1), .int .i64 ((rd_T30 t163 (ji14)).f2)] 30 (0, 0)) (by (with_reducible repeat (first | refine blk_drewN ?_ _ | refine blk_drew ?_ | refine blk_alloc ?_ _)); exact BK173.out) hb); have n2_ := Aside0.mk (blk_below (g := gb174) (o := .cells #[.int .i64 ((rd_T30 t163 (ji17)).f0), .int .i64 ((rd_T30 t163 (ji17)).f1), .int .i64 ((rd_T30 t163 (ji17)).f2)] 30 (0, 0)) (by (with_reducible repeat (first | refine blk_drewN ?_ _ | refine blk_drew ?_ | refine blk_alloc ?_ _)); exact BK174.out) hb); have n3_ := Aside0.mk (blk_below (g := gb175) (o := .cells #[.int .i64 ((rd_T30 t163 (ji14)).f0), .int .i64 ((rd_T30 t163 (ji14)).f1), .int .i64 (wrap64 (((rd_T30 t163 (ji17)).f1) + ((rd_T30 t163 (ji17)).f2)))] 32 (0, 0)) (by (with_reducible repeat (first | refine blk_drewN ?_ _ | refine blk_drew ?_ | refine blk_alloc ?_ _)); exact BK175.out) hb); have n4_ := Aside0.mk (blk_below (g := gb176) (o := .cells #[.int .i64 ((rd_T30 t163 (ji14)).f0), .int .i64 (wrap64 (((rd_T30 t163 (ji14)).f1) + 1)), .int .i64 (wrap64 (((rd_T30 t163 (ji17)).f1) + ((rd_T30 t163 (ji17)).f2)))] 32 (0, 0)) (by (with_reducible repeat (first | refine blk_drewN ?_ _ | refine blk_drew ?_ | refine blk_alloc ?_ _)); exact BK176.out) hb); have n5_ := Aside0.mk (blk_below (g := gb177) (o := .cells #[.int .i64 ((rd_T30 t163 (ji14)).f0), .int .i64 ((rd_T30 t163 (ji14)).f1), .int .i64 (wrap64 ((wrap64 (((rd_T30 t163 (ji17)).f1) + ((rd_T30 t163 (ji17)).f2))) - 1))] 32 (0, 0)) (by (with_reducible repeat (first | refine blk_drewN ?_ _ | refine blk_drew ?_ | refine blk_alloc ?_ _)); exact BK177.out) hb); have n6_ := Aside0.mk (below_step (by repeat (first | (with_reducible first | exact HB.out | apply below_alloc | apply pw_below_drewN | apply below_drew1 | refine below_set ?_ GE173.out | refine below_set ?_ GE174.out | refine below_set ?_ GE175.out | refine below_set ?_ GE176.out | refine below_set ?_ GE177.out) | exact HB.out)) hb); clear HO_7; clear BK173; clear BK174; clear BK175; clear BK176; clear BK177; clear HB; have HO_7 := n0_; have BK173 := n1_; have BK174 := n2_; have BK175 := n3_; have BK176 := n4_; have BK177 := n5_; have HB := n6_; clear n0_ n1_ n2_ n3_ n4_ n5_ n6_; (try clear hb); (try clear hb2); (try clear hk); (try clear hi); have hcz100_0 : w99.cell? ⟨gb177, 0, none⟩ = some (.int .i64 ((rd_T30 t163 (ji14)).f0)) := (blk_cell BK177.out 0).trans rfl; have hcz100_1 : w99.cell? ⟨gb177, 1, none⟩ = some (.int .i64 ((rd_T30 t163 (ji14)).f1)) := (blk_cell BK177.out 1).trans rfl; have hcz100_2 : w99.cell? ⟨gb177, 2, none⟩ = some (.int .i64 (wrap64 ((wrap64 (((rd_T30 t163 (ji17)).f1) + ((rd_T30 t163 (ji17)).f2))) - 1))) := (blk_cell BK177.out 2).trans rfl; have hfz100_0 := blk_frozen BK177.out 0; have hfz100_1 := blk_frozen BK177.out 1; have hfz100_2 := blk_frozen BK177.out 2) | (go_at_call 15; (with_reducible refine (group_Splits.calls kj19 _ _ t163 ((rd_T30 t163 (ji14)).f0) ((rd_T30 t163 (ji14)).f1) (wrap64 ((wrap64 (((rd_T30 t163 (ji17)).f1) + ((rd_T30 t163 (ji17)).f2))) - 1)) t180 _ ?side1 ?side2 A68.out).mono ?_); (case side1 => repeat (first | exact (Kd.R_reads' HO_7.out).2.2 | (with_reducible refine Kd.C_alloc ?_ _) | (with_reducible refine Kd.C_drewN ?_ _) | (with_reducible refine Kd.C_drew ?_))); (case side2 => exact (Kd.R_reads' HO_7.out).2.1); rintro e w101 ⟨rfl, hb⟩; have n0_ := Aside0.mk (Kd.R_below (by (with_reducible repeat (first | apply Kd.R_alloc | apply Kd.R_drewN | apply Kd.R_drew)); exact HO_7.out) hb); have n1_ := Aside0.mk (blk_below (g := gb173) (o := .cells #[.int .i64 ((rd_T30 t163 (ji14)).f0), .int .i64 ((rd_T30 t163 (ji14)).f1), .int .i64 ((rd_T30 t163 (ji14)).f2)] 30 (0, 0)) (by (with_reducible repeat (first | refine blk_drewN ?_ _ | refine blk_drew ?_ | refine blk_alloc ?_ _)); exact BK173.out) hb); have n2_ := Aside0.mk (blk_below (g := gb174) (o := .cells #[.int .i64 ((rd_T30 t163 (ji17)).f0), .int .i64 ((rd_T30 t163 (ji17)).f1), .int .i64 ((rd_T30 t163 (ji17)).f2)] 30 (0, 0)) (by (with_reducible repeat (first | refine blk_drewN ?_ _ | refine blk_drew ?_ | refine blk_alloc ?_ _)); exact BK174.out) hb); have n3_ := Aside0.mk (blk_below (g := gb175) (o := .cells #[.int .i64 ((rd_T30 t163 (ji14)).f0), .int .i64 ((rd_T30 t163 (ji14)).f1), .int .i64 (wrap64 (((rd_T30 t163 (ji17)).f1) + ((rd_T30 t163 (ji17)).f2)))] 32 (0, 0)) (by (with_reducible repeat (first | refine blk_drewN ?_ _ | refine blk_drew ?_ | refine blk_alloc ?_ _)); exact BK175.out) hb); have n4_ := Aside0.mk (blk_below (g := gb176) (o := .cells #[.int .i64 ((rd_T30 t163 (ji14)).f0), .int .i64 (wrap64 (((rd_T30 t163 (ji14)).f1) + 1)), .int .i64 (wrap64 (((rd_T30 t163 (ji17)).f1) + ((rd_T30 t163 (ji17)).f2)))] 32 (0, 0)) (by (with_reducible repeat (first | refine blk_drewN ?_ _ | refine blk_drew ?_ | refine blk_alloc ?_ _)); exact BK176.out) hb); have n5_ := Aside0.mk (blk_below (g := gb177) (o := .cells #[.int .i64 ((rd_T30 t163 (ji14)).f0), .int .i64 ((rd_T30 t163 (ji14)).f1), .int .i64 (wrap64 ((wrap64 (((rd_T30 t163 (ji17)).f1) + ((rd_T30 t163 (ji17)).f2))) - 1))] 32 (0, 0)) (by (with_reducible repeat (first | refine blk_drewN ?_ _ | refine blk_drew ?_ | refine blk_alloc ?_ _)); exact BK177.out) hb); have n6_ := Aside0.mk (below_step (by repeat (first | (with_reducible first | exact HB.out | apply below_alloc | apply pw_below_drewN | apply below_drew1 | refine below_set ?_ GE173.out | refine below_set ?_ GE174.out | refine below_set ?_ GE175.out | refine below_set ?_ GE176.out | refine below_set ?_ GE177.out) | exact HB.out)) hb); clear HO_7; clear BK173; clear BK174; clear BK175; clear BK176; clear BK177; clear HB; have HO_7 := n0_; have BK173 := n1_; have BK174 := n2_; have BK175 := n3_; have BK176 := n4_; have BK177 := n5_; have HB := n6_; clear n0_ n1_ n2_ n3_ n4_ n5_ n6_; (try clear hb); (try clear hb2); (try clear hk); (try clear hi)))
            go_ret
            exact ⟨by first | rfl | (simp [errW_none, errW_some] <;> rfl) | (simp only [← hji14, ← hji17]; first | rfl | (simp [errW_none, errW_some] <;> rfl)) | (simp [*, errW_none, errW_some] <;> rfl), by repeat (first | (with_reducible first | exact HB.out | apply below_alloc | apply pw_below_drewN | apply below_drew1 | refine below_set ?_ GE173.out | refine below_set ?_ GE174.out | refine below_set ?_ GE175.out | refine below_set ?_ GE176.out | refine below_set ?_ GE177.out) | exact HB.out)⟩
           ·
            replace c67 := Bool.eq_false_iff.mpr c67
            subst c67
            have H1 : (some false) = some r := by rw [if_neg (show ¬ (false = true) by decide)] at H; exact H
            clear H
            have H := H1
            clear H1
            obtain rfl := Option.some.inj H
            have hnb102 := NB173_174.out
            have hnc102 := NB174_173.out
            have hcz103_0 : wc.cell? ⟨gb173, 0, none⟩ = some (.int .i64 ((rd_T30 t163 (ji14)).f0)) := (blk_cell BK173.out 0).trans rfl
            have hcz103_1 : wc.cell? ⟨gb173, 1, none⟩ = some (.int .i64 ((rd_T30 t163 (ji14)).f1)) := (blk_cell BK173.out 1).trans rfl
            have hcz103_2 : wc.cell? ⟨gb173, 2, none⟩ = some (.int .i64 ((rd_T30 t163 (ji14)).f2)) := (blk_cell BK173.out 2).trans rfl
            have hfz103_0 := blk_frozen BK173.out 0
            have hfz103_1 := blk_frozen BK173.out 1
            have hfz103_2 := blk_frozen BK173.out 2
            have hcz104_0 : wc.cell? ⟨gb174, 0, none⟩ = some (.int .i64 ((rd_T30 t163 (ji17)).f0)) := (blk_cell BK174.out 0).trans rfl
            have hcz104_1 : wc.cell? ⟨gb174, 1, none⟩ = some (.int .i64 ((rd_T30 t163 (ji17)).f1)) := (blk_cell BK174.out 1).trans rfl
            have hcz104_2 : wc.cell? ⟨gb174, 2, none⟩ = some (.int .i64 ((rd_T30 t163 (ji17)).f2)) := (blk_cell BK174.out 2).trans rfl
            have hfz104_0 := blk_frozen BK174.out 0
            have hfz104_1 := blk_frozen BK174.out 1
            have hfz104_2 := blk_frozen BK174.out 2
            try go_wp2_with (first | ((with_reducible refine gate_dst (N := 11) rfl ?_); refine box_event ?hg (N := 11) ?hd (cs := #[.int .i64 0, .int .i64 0, .int .i64 0]) (t := 32) ?hr ?_; (case hd => rfl); (case hg => rfl); (case hr => first | (go_simp; done) | (go_simp; rfl)); intro gb175 hg w105 hbox hb; have n0_ := Aside0.mk (Kd.R_below (by (with_reducible repeat (first | apply Kd.R_alloc | apply Kd.R_drewN | apply Kd.R_drew)); exact HO_7.out) hb); have n1_ := Aside0.mk (blk_below (g := gb173) (o := .cells #[.int .i64 ((rd_T30 t163 (ji14)).f0), .int .i64 ((rd_T30 t163 (ji14)).f1), .int .i64 ((rd_T30 t163 (ji14)).f2)] 30 (0, 0)) (by (with_reducible repeat (first | refine blk_drewN ?_ _ | refine blk_drew ?_ | refine blk_alloc ?_ _)); exact BK173.out) hb); have n2_ := Aside0.mk (blk_below (g := gb174) (o := .cells #[.int .i64 ((rd_T30 t163 (ji17)).f0), .int .i64 ((rd_T30 t163 (ji17)).f1), .int .i64 ((rd_T30 t163 (ji17)).f2)] 30 (0, 0)) (by (with_reducible repeat (first | refine blk_drewN ?_ _ | refine blk_drew ?_ | refine blk_alloc ?_ _)); exact BK174.out) hb); have n3_ := Aside0.mk (below_step (by repeat (first | (with_reducible first | exact HB.out | apply below_alloc | apply pw_below_drewN | apply below_drew1 | refine below_set ?_ GE173.out | refine below_set ?_ GE174.out) | exact HB.out)) hb); have n4_ := Aside0.mk (hbox); have n5_ := Aside0.mk ((by rw [hg]; exact (below_size (by repeat (first | (with_reducible first | exact HB.out | apply below_alloc | apply pw_below_drewN | apply below_drew1 | refine below_set ?_ GE173.out | refine below_set ?_ GE174.out) | exact HB.out))) : w.heap.size ≤ gb175)); have n6_ := Aside0.mk ((by rw [hg]; exact (below_size (by repeat (first | (with_reducible first | exact HB.out | apply below_alloc | apply pw_below_drewN | apply below_drew1 | refine below_set ?_ GE173.out | refine below_set ?_ GE174.out) | exact HB.out))) : w.heap.size ≤ gb175)); have n7_ := Aside0.mk ((by rw [hg]; exact Nat.ne_of_lt (blk_lt (g := gb173) (o := .cells #[.int .i64 ((rd_T30 t163 (ji14)).f0), .int .i64 ((rd_T30 t163 (ji14)).f1), .int .i64 ((rd_T30 t163 (ji14)).f2)] 30 (0, 0)) (by (with_reducible repeat (first | refine blk_drewN ?_ _ | refine blk_drew ?_ | refine blk_alloc ?_ _)); exact BK173.out)) : gb173 ≠ gb175)); have n8_ := Aside0.mk ((by rw [hg]; exact Nat.ne_of_gt (blk_lt (g := gb173) (o := .cells #[.int .i64 ((rd_T30 t163 (ji14)).f0), .int .i64 ((rd_T30 t163 (ji14)).f1), .int .i64 ((rd_T30 t163 (ji14)).f2)] 30 (0, 0)) (by (with_reducible repeat (first | refine blk_drewN ?_ _ | refine blk_drew ?_ | refine blk_alloc ?_ _)); exact BK173.out)) : gb175 ≠ gb173)); have n9_ := Aside0.mk ((by rw [hg]; exact Nat.ne_of_lt (blk_lt (g := gb174) (o := .cells #[.int .i64 ((rd_T30 t163 (ji17)).f0), .int .i64 ((rd_T30 t163 (ji17)).f1), .int .i64 ((rd_T30 t163 (ji17)).f2)] 30 (0, 0)) (by (with_reducible repeat (first | refine blk_drewN ?_ _ | refine blk_drew ?_ | refine blk_alloc ?_ _)); exact BK174.out)) : gb174 ≠ gb175)); have n10_ := Aside0.mk ((by rw [hg]; exact Nat.ne_of_gt (blk_lt (g := gb174) (o := .cells #[.int .i64 ((rd_T30 t163 (ji17)).f0), .int .i64 ((rd_T30 t163 (ji17)).f1), .int .i64 ((rd_T30 t163 (ji17)).f2)] 30 (0, 0)) (by (with_reducible repeat (first | refine blk_drewN ?_ _ | refine blk_drew ?_ | refine blk_alloc ?_ _)); exact BK174.out)) : gb175 ≠ gb174)); clear HO_7; clear BK173; clear BK174; clear HB; have HO_7 := n0_; have BK173 := n1_; have BK174 := n2_; have HB := n3_; have BK175 := n4_; have GW175 := n5_; have GE175 := n6_; have NB173_175 := n7_; have NB175_173 := n8_; have NB174_175 := n9_; have NB175_174 := n10_; clear n0_ n1_ n2_ n3_ n4_ n5_ n6_ n7_ n8_ n9_ n10_; clear hb hbox hg; have hnb106 := NB175_173.out; have hnc106 := NB173_175.out; have hnb107 := NB175_174.out; have hnc107 := NB174_175.out; have hcz108_0 : w105.cell? ⟨gb175, 0, none⟩ = some (.int .i64 0) := (blk_cell BK175.out 0).trans rfl; have hcz108_1 : w105.cell? ⟨gb175, 1, none⟩ = some (.int .i64 0) := (blk_cell BK175.out 1).trans rfl; have hcz108_2 : w105.cell? ⟨gb175, 2, none⟩ = some (.int .i64 0) := (blk_cell BK175.out 2).trans rfl; have hfz108_0 := blk_frozen BK175.out 0; have hfz108_1 := blk_frozen BK175.out 1; have hfz108_2 := blk_frozen BK175.out 2))
            have n0_ : Aside0 (Kd.R k30 30 (((w105.setCell ⟨gb175, 0, none⟩ (.int .i64 ((rd_T30 t163 (ji14)).f0))).setCell ⟨gb175, 1, none⟩ (.int .i64 ((rd_T30 t163 (ji14)).f1))).setCell ⟨gb175, 2, none⟩ (.int .i64 (wrap64 (((rd_T30 t163 (ji17)).f1) + ((rd_T30 t163 (ji17)).f2))))) w.heap.size (fun k_ => k_ ≠ gb173 ∧ k_ ≠ gb174) (.slice (some ad171) t163.length co10) t163) := ⟨by (with_reducible repeat (first | apply Kd.R_alloc | apply Kd.R_drewN | apply Kd.R_drew)); exact Kd.R_mono (Kd.R_far (p := ⟨gb175, 2, none⟩) (Kd.R_far (p := ⟨gb175, 1, none⟩) (Kd.R_far (p := ⟨gb175, 0, none⟩) (Kd.R_types HO_7.out BK175.out (by decide)) (fun _ hk => hk.2) (.int .i64 ((rd_T30 t163 (ji14)).f0))) (fun _ hk => hk.2) (.int .i64 ((rd_T30 t163 (ji14)).f1))) (fun _ hk => hk.2) (.int .i64 (wrap64 (((rd_T30 t163 (ji17)).f1) + ((rd_T30 t163 (ji17)).f2))))) (fun _ hk => ⟨hk.1.1, hk.1.2⟩)⟩
            have n1_ : Aside0 ((((w105.setCell ⟨gb175, 0, none⟩ (.int .i64 ((rd_T30 t163 (ji14)).f0))).setCell ⟨gb175, 1, none⟩ (.int .i64 ((rd_T30 t163 (ji14)).f1))).setCell ⟨gb175, 2, none⟩ (.int .i64 (wrap64 (((rd_T30 t163 (ji17)).f1) + ((rd_T30 t163 (ji17)).f2))))).heap[gb173]? = some (.cells #[.int .i64 ((rd_T30 t163 (ji14)).f0), .int .i64 ((rd_T30 t163 (ji14)).f1), .int .i64 ((rd_T30 t163 (ji14)).f2)] 30 (0, 0))) := ⟨by (with_reducible repeat (first | refine blk_drewN ?_ _ | refine blk_drew ?_ | refine blk_alloc ?_ _)); refine blk_far ?_ NB173_175.out _; (with_reducible repeat (first | refine blk_drewN ?_ _ | refine blk_drew ?_ | refine blk_alloc ?_ _)); refine blk_far ?_ NB173_175.out _; (with_reducible repeat (first | refine blk_drewN ?_ _ | refine blk_drew ?_ | refine blk_alloc ?_ _)); refine blk_far ?_ NB173_175.out _; (with_reducible repeat (first | refine blk_drewN ?_ _ | refine blk_drew ?_ | refine blk_alloc ?_ _)); exact BK173.out⟩
            have n2_ : Aside0 ((((w105.setCell ⟨gb175, 0, none⟩ (.int .i64 ((rd_T30 t163 (ji14)).f0))).setCell ⟨gb175, 1, none⟩ (.int .i64 ((rd_T30 t163 (ji14)).f1))).setCell ⟨gb175, 2, none⟩ (.int .i64 (wrap64 (((rd_T30 t163 (ji17)).f1) + ((rd_T30 t163 (ji17)).f2))))).heap[gb174]? = some (.cells #[.int .i64 ((rd_T30 t163 (ji17)).f0), .int .i64 ((rd_T30 t163 (ji17)).f1), .int .i64 ((rd_T30 t163 (ji17)).f2)] 30 (0, 0))) := ⟨by (with_reducible repeat (first | refine blk_drewN ?_ _ | refine blk_drew ?_ | refine blk_alloc ?_ _)); refine blk_far ?_ NB174_175.out _; (with_reducible repeat (first | refine blk_drewN ?_ _ | refine blk_drew ?_ | refine blk_alloc ?_ _)); refine blk_far ?_ NB174_175.out _; (with_reducible repeat (first | refine blk_drewN ?_ _ | refine blk_drew ?_ | refine blk_alloc ?_ _)); refine blk_far ?_ NB174_175.out _; (with_reducible repeat (first | refine blk_drewN ?_ _ | refine blk_drew ?_ | refine blk_alloc ?_ _)); exact BK174.out⟩
            have n3_ : Aside0 ((((w105.setCell ⟨gb175, 0, none⟩ (.int .i64 ((rd_T30 t163 (ji14)).f0))).setCell ⟨gb175, 1, none⟩ (.int .i64 ((rd_T30 t163 (ji14)).f1))).setCell ⟨gb175, 2, none⟩ (.int .i64 (wrap64 (((rd_T30 t163 (ji17)).f1) + ((rd_T30 t163 (ji17)).f2))))).heap[gb175]? = some (.cells #[.int .i64 ((rd_T30 t163 (ji14)).f0), .int .i64 ((rd_T30 t163 (ji14)).f1), .int .i64 (wrap64 (((rd_T30 t163 (ji17)).f1) + ((rd_T30 t163 (ji17)).f2)))] 32 (0, 0))) := ⟨by (with_reducible repeat (first | refine blk_drewN ?_ _ | refine blk_drew ?_ | refine blk_alloc ?_ _)); refine blk_put (cs := #[.int .i64 ((rd_T30 t163 (ji14)).f0), .int .i64 ((rd_T30 t163 (ji14)).f1), .int .i64 0]) ?_ 2 _ rfl; (with_reducible repeat (first | refine blk_drewN ?_ _ | refine blk_drew ?_ | refine blk_alloc ?_ _)); refine blk_put (cs := #[.int .i64 ((rd_T30 t163 (ji14)).f0), .int .i64 0, .int .i64 0]) ?_ 1 _ rfl; (with_reducible repeat (first | refine blk_drewN ?_ _ | refine blk_drew ?_ | refine blk_alloc ?_ _)); refine blk_put (cs := #[.int .i64 0, .int .i64 0, .int .i64 0]) ?_ 0 _ rfl; (with_reducible repeat (first | refine blk_drewN ?_ _ | refine blk_drew ?_ | refine blk_alloc ?_ _)); exact BK175.out⟩
            have n4_ : Aside0 (Below w.heap.size w (((w105.setCell ⟨gb175, 0, none⟩ (.int .i64 ((rd_T30 t163 (ji14)).f0))).setCell ⟨gb175, 1, none⟩ (.int .i64 ((rd_T30 t163 (ji14)).f1))).setCell ⟨gb175, 2, none⟩ (.int .i64 (wrap64 (((rd_T30 t163 (ji17)).f1) + ((rd_T30 t163 (ji17)).f2)))))) := ⟨by repeat (first | (with_reducible first | exact HB.out | apply below_alloc | apply pw_below_drewN | apply below_drew1 | refine below_set ?_ GE173.out | refine below_set ?_ GE174.out | refine below_set ?_ GE175.out) | exact HB.out)⟩
            (try clear HO_7)
            (try clear BK173)
            (try clear BK174)
            (try clear BK175)
            (try clear HB)
            first | (rw [drewN_self (((w105.setCell ⟨gb175, 0, none⟩ (.int .i64 ((rd_T30 t163 (ji14)).f0))).setCell ⟨gb175, 1, none⟩ (.int .i64 ((rd_T30 t163 (ji14)).f1))).setCell ⟨gb175, 2, none⟩ (.int .i64 (wrap64 (((rd_T30 t163 (ji17)).f1) + ((rd_T30 t163 (ji17)).f2)))))]; generalize hq_ : World.drewN (((w105.setCell ⟨gb175, 0, none⟩ (.int .i64 ((rd_T30 t163 (ji14)).f0))).setCell ⟨gb175, 1, none⟩ (.int .i64 ((rd_T30 t163 (ji14)).f1))).setCell ⟨gb175, 2, none⟩ (.int .i64 (wrap64 (((rd_T30 t163 (ji17)).f1) + ((rd_T30 t163 (ji17)).f2))))) _ = w109; have m0_ : Aside0 (Kd.R k30 30 w109 w.heap.size (fun k_ => k_ ≠ gb173 ∧ k_ ≠ gb174) (.slice (some ad171) t163.length co10) t163) := ⟨by rw [← hq_]; first | exact Kd.R_drewN n0_.out _ | exact Kd.Q_drewN n0_.out _ | exact blk_drewN n0_.out _ | exact pw_below_drewN n0_.out _ | exact Kd.S_drewN n0_.out _ | exact n0_.out⟩; have m1_ : Aside0 (w109.heap[gb173]? = some (.cells #[.int .i64 ((rd_T30 t163 (ji14)).f0), .int .i64 ((rd_T30 t163 (ji14)).f1), .int .i64 ((rd_T30 t163 (ji14)).f2)] 30 (0, 0))) := ⟨by rw [← hq_]; first | exact Kd.R_drewN n1_.out _ | exact Kd.Q_drewN n1_.out _ | exact blk_drewN n1_.out _ | exact pw_below_drewN n1_.out _ | exact Kd.S_drewN n1_.out _ | exact n1_.out⟩; have m2_ : Aside0 (w109.heap[gb174]? = some (.cells #[.int .i64 ((rd_T30 t163 (ji17)).f0), .int .i64 ((rd_T30 t163 (ji17)).f1), .int .i64 ((rd_T30 t163 (ji17)).f2)] 30 (0, 0))) := ⟨by rw [← hq_]; first | exact Kd.R_drewN n2_.out _ | exact Kd.Q_drewN n2_.out _ | exact blk_drewN n2_.out _ | exact pw_below_drewN n2_.out _ | exact Kd.S_drewN n2_.out _ | exact n2_.out⟩; have m3_ : Aside0 (w109.heap[gb175]? = some (.cells #[.int .i64 ((rd_T30 t163 (ji14)).f0), .int .i64 ((rd_T30 t163 (ji14)).f1), .int .i64 (wrap64 (((rd_T30 t163 (ji17)).f1) + ((rd_T30 t163 (ji17)).f2)))] 32 (0, 0))) := ⟨by rw [← hq_]; first | exact Kd.R_drewN n3_.out _ | exact Kd.Q_drewN n3_.out _ | exact blk_drewN n3_.out _ | exact pw_below_drewN n3_.out _ | exact Kd.S_drewN n3_.out _ | exact n3_.out⟩; have m4_ : Aside0 (Below w.heap.size w w109) := ⟨by rw [← hq_]; first | exact Kd.R_drewN n4_.out _ | exact Kd.Q_drewN n4_.out _ | exact blk_drewN n4_.out _ | exact pw_below_drewN n4_.out _ | exact Kd.S_drewN n4_.out _ | exact n4_.out⟩; clear hq_ n0_ n1_ n2_ n3_ n4_; have n0_ := m0_; have n1_ := m1_; have n2_ := m2_; have n3_ := m3_; have n4_ := m4_; clear m0_ m1_ m2_ m3_ m4_) | (generalize (((w105.setCell ⟨gb175, 0, none⟩ (.int .i64 ((rd_T30 t163 (ji14)).f0))).setCell ⟨gb175, 1, none⟩ (.int .i64 ((rd_T30 t163 (ji14)).f1))).setCell ⟨gb175, 2, none⟩ (.int .i64 (wrap64 (((rd_T30 t163 (ji17)).f1) + ((rd_T30 t163 (ji17)).f2))))) = w109 at n0_ n1_ n2_ n3_ n4_ ⊢)
            have HO_7 := n0_
            have BK173 := n1_
            have BK174 := n2_
            have BK175 := n3_
            have HB := n4_
            clear n0_ n1_ n2_ n3_ n4_
            have n0_ := Aside0.mk (Kd.R_drew HO_7.out)
            have n1_ := Aside0.mk (blk_drew BK173.out)
            have n2_ := Aside0.mk (blk_drew BK174.out)
            have n3_ := Aside0.mk (blk_drew BK175.out)
            have n4_ := Aside0.mk (below_drew1 HB.out)
            clear HO_7
            clear BK173
            clear BK174
            clear BK175
            clear HB
            have HO_7 := n0_
            have BK173 := n1_
            have BK174 := n2_
            have BK175 := n3_
            have HB := n4_
            clear n0_ n1_ n2_ n3_ n4_
            refine start_ (n := 6) (S := fun w' => w'.cell? ⟨gb175, 0, none⟩ = some (.int .i64 ((rd_T30 t163 (ji14)).f0)) ∧ w'.cell? ⟨gb175, 1, none⟩ = some (.int .i64 ((rd_T30 t163 (ji14)).f1)) ∧ w'.cell? ⟨gb175, 2, none⟩ = some (.int .i64 (wrap64 (((rd_T30 t163 (ji17)).f1) + ((rd_T30 t163 (ji17)).f2))))) (ds := []) #[false, false, false, false, false, false] (by kernel_rfl) rfl rfl ⟨(blk_cell BK175.out 0).trans rfl, (blk_cell BK175.out 1).trans rfl, (blk_cell BK175.out 2).trans rfl⟩ (fun hHeld => ?_)
            generalize w109.drew = w110 at HO_7 BK173 BK174 BK175 HB hHeld ⊢
            refine take_ (i := 0) (N := some 59) (v := ?_) (a' := ?_) #[true, false, false, false, false, false] rfl rfl (by kernel_rfl) (fun _ _ _ h => h) (Or.inl ⟨by rfl, ?_⟩) hHeld ?_ ?_
            rotate_left
            ·
             rintro w' ⟨s0, s1, s2⟩
             go_simp
             with_reducible rfl
            rotate_left
            ·
             simp only [Act.put, List.setIfInBounds_toArray, List.set_cons_zero, List.set_cons_succ, i64_w, i32_w]
             rfl
            refine take_ (i := 1) (N := some 60) (v := ?_) (a' := ?_) #[true, true, false, false, false, false] rfl rfl (by kernel_rfl) (fun _ _ _ h => h) (Or.inl ⟨by rfl, ?_⟩) hHeld ?_ ?_
            rotate_left
            ·
             rintro w' ⟨s0, s1, s2⟩
             go_simp
             with_reducible rfl
            rotate_left
            ·
             simp only [Act.put, List.setIfInBounds_toArray, List.set_cons_zero, List.set_cons_succ, i64_w, i32_w]
             rfl
            refine join_ (σ := Nat × Nat) 2 #[true, true, true, true, false, false] (fun s_ => [(12, .pointer (some ⟨s_.1, 0, none⟩)), (13, .pointer (some ⟨s_.2, 0, none⟩))]) (fun s_ w' => (w'.cell? ⟨gb175, 0, none⟩ = some (.int .i64 ((rd_T30 t163 (ji14)).f0)) ∧ w'.cell? ⟨gb175, 1, none⟩ = some (.int .i64 ((rd_T30 t163 (ji14)).f1)) ∧ w'.cell? ⟨gb175, 2, none⟩ = some (.int .i64 (wrap64 (((rd_T30 t163 (ji17)).f1) + ((rd_T30 t163 (ji17)).f2))))) ∧ (Kd.R k30 30 w' w.heap.size (fun k_ => k_ ≠ gb173 ∧ k_ ≠ gb174) (.slice (some ad171) t163.length co10) t163) ∧ (w'.heap[gb173]? = some (.cells #[.int .i64 ((rd_T30 t163 (ji14)).f0), .int .i64 ((rd_T30 t163 (ji14)).f1), .int .i64 ((rd_T30 t163 (ji14)).f2)] 30 (0, 0))) ∧ (w'.heap[gb174]? = some (.cells #[.int .i64 ((rd_T30 t163 (ji17)).f0), .int .i64 ((rd_T30 t163 (ji17)).f1), .int .i64 ((rd_T30 t163 (ji17)).f2)] 30 (0, 0))) ∧ (w'.heap[gb175]? = some (.cells #[.int .i64 ((rd_T30 t163 (ji14)).f0), .int .i64 ((rd_T30 t163 (ji14)).f1), .int .i64 (wrap64 (((rd_T30 t163 (ji17)).f1) + ((rd_T30 t163 (ji17)).f2)))] 32 (0, 0))) ∧ (w'.heap[s_.1]? = some (.cells #[.int .i64 0, .int .i64 0, .int .i64 0] 32 (0, 0))) ∧ (w'.heap[s_.2]? = some (.cells #[.int .i64 0, .int .i64 0, .int .i64 0] 32 (0, 0))) ∧ (w.heap.size ≤ s_.1) ∧ (w.heap.size ≤ s_.1) ∧ (gb173 ≠ s_.1) ∧ (s_.1 ≠ gb173) ∧ (gb174 ≠ s_.1) ∧ (s_.1 ≠ gb174) ∧ (gb175 ≠ s_.1) ∧ (s_.1 ≠ gb175) ∧ (s_.2 ≠ s_.1) ∧ (s_.1 ≠ s_.2) ∧ (w.heap.size ≤ s_.2) ∧ (w.heap.size ≤ s_.2) ∧ (gb173 ≠ s_.2) ∧ (s_.2 ≠ gb173) ∧ (gb174 ≠ s_.2) ∧ (s_.2 ≠ gb174) ∧ (gb175 ≠ s_.2) ∧ (s_.2 ≠ gb175) ∧ (Below w.heap.size w w')) ?_ ?_
            rotate_left
            ·
             intro hCont
             refine two_ (i := 2) (j := 3) (Ni := some 12) (Nj := some 13) #[true, true, true, false, false, false] #[true, true, false, true, false, false] rfl rfl rfl rfl (by kernel_rfl) (by decide) (by decide) (fun K hK => ?_) (fun K hK => ?_)
             ·
              skip
              refine box_step ?hg (N := 12) ?hd (cs := #[.int .i64 0, .int .i64 0, .int .i64 0]) (t := 32) ?hr ?_; (case hd => rfl); (case hg => rfl); (case hr => first | (go_simp; done) | (go_simp; rfl))
              intro gb176 hg w111 hbox hb
              have n0_ := Aside0.mk (Kd.R_below (by (with_reducible repeat (first | apply Kd.R_alloc | apply Kd.R_drewN | apply Kd.R_drew)); exact HO_7.out) hb)
              have n1_ := Aside0.mk (blk_below (g := gb173) (o := .cells #[.int .i64 ((rd_T30 t163 (ji14)).f0), .int .i64 ((rd_T30 t163 (ji14)).f1), .int .i64 ((rd_T30 t163 (ji14)).f2)] 30 (0, 0)) (by (with_reducible repeat (first | refine blk_drewN ?_ _ | refine blk_drew ?_ | refine blk_alloc ?_ _)); exact BK173.out) hb)
              have n2_ := Aside0.mk (blk_below (g := gb174) (o := .cells #[.int .i64 ((rd_T30 t163 (ji17)).f0), .int .i64 ((rd_T30 t163 (ji17)).f1), .int .i64 ((rd_T30 t163 (ji17)).f2)] 30 (0, 0)) (by (with_reducible repeat (first | refine blk_drewN ?_ _ | refine blk_drew ?_ | refine blk_alloc ?_ _)); exact BK174.out) hb)
              have n3_ := Aside0.mk (blk_below (g := gb175) (o := .cells #[.int .i64 ((rd_T30 t163 (ji14)).f0), .int .i64 ((rd_T30 t163 (ji14)).f1), .int .i64 (wrap64 (((rd_T30 t163 (ji17)).f1) + ((rd_T30 t163 (ji17)).f2)))] 32 (0, 0)) (by (with_reducible repeat (first | refine blk_drewN ?_ _ | refine blk_drew ?_ | refine blk_alloc ?_ _)); exact BK175.out) hb)
              have n4_ := Aside0.mk (below_step (by repeat (first | (with_reducible first | exact HB.out | apply below_alloc | apply pw_below_drewN | apply below_drew1 | refine below_set ?_ GE173.out | refine below_set ?_ GE174.out | refine below_set ?_ GE175.out) | exact HB.out)) hb)
              have n5_ := Aside0.mk (hbox)
              have n6_ := Aside0.mk ((by rw [hg]; exact (below_size (by repeat (first | (with_reducible first | exact HB.out | apply below_alloc | apply pw_below_drewN | apply below_drew1 | refine below_set ?_ GE173.out | refine below_set ?_ GE174.out | refine below_set ?_ GE175.out) | exact HB.out))) : w.heap.size ≤ gb176))
              have n7_ := Aside0.mk ((by rw [hg]; exact (below_size (by repeat (first | (with_reducible first | exact HB.out | apply below_alloc | apply pw_below_drewN | apply below_drew1 | refine below_set ?_ GE173.out | refine below_set ?_ GE174.out | refine below_set ?_ GE175.out) | exact HB.out))) : w.heap.size ≤ gb176))
              have n8_ := Aside0.mk ((by rw [hg]; exact Nat.ne_of_lt (blk_lt (g := gb173) (o := .cells #[.int .i64 ((rd_T30 t163 (ji14)).f0), .int .i64 ((rd_T30 t163 (ji14)).f1), .int .i64 ((rd_T30 t163 (ji14)).f2)] 30 (0, 0)) (by (with_reducible repeat (first | refine blk_drewN ?_ _ | refine blk_drew ?_ | refine blk_alloc ?_ _)); exact BK173.out)) : gb173 ≠ gb176))
              have n9_ := Aside0.mk ((by rw [hg]; exact Nat.ne_of_gt (blk_lt (g := gb173) (o := .cells #[.int .i64 ((rd_T30 t163 (ji14)).f0), .int .i64 ((rd_T30 t163 (ji14)).f1), .int .i64 ((rd_T30 t163 (ji14)).f2)] 30 (0, 0)) (by (with_reducible repeat (first | refine blk_drewN ?_ _ | refine blk_drew ?_ | refine blk_alloc ?_ _)); exact BK173.out)) : gb176 ≠ gb173))
              have n10_ := Aside0.mk ((by rw [hg]; exact Nat.ne_of_lt (blk_lt (g := gb174) (o := .cells #[.int .i64 ((rd_T30 t163 (ji17)).f0), .int .i64 ((rd_T30 t163 (ji17)).f1), .int .i64 ((rd_T30 t163 (ji17)).f2)] 30 (0, 0)) (by (with_reducible repeat (first | refine blk_drewN ?_ _ | refine blk_drew ?_ | refine blk_alloc ?_ _)); exact BK174.out)) : gb174 ≠ gb176))
              have n11_ := Aside0.mk ((by rw [hg]; exact Nat.ne_of_gt (blk_lt (g := gb174) (o := .cells #[.int .i64 ((rd_T30 t163 (ji17)).f0), .int .i64 ((rd_T30 t163 (ji17)).f1), .int .i64 ((rd_T30 t163 (ji17)).f2)] 30 (0, 0)) (by (with_reducible repeat (first | refine blk_drewN ?_ _ | refine blk_drew ?_ | refine blk_alloc ?_ _)); exact BK174.out)) : gb176 ≠ gb174))
              have n12_ := Aside0.mk ((by rw [hg]; exact Nat.ne_of_lt (blk_lt (g := gb175) (o := .cells #[.int .i64 ((rd_T30 t163 (ji14)).f0), .int .i64 ((rd_T30 t163 (ji14)).f1), .int .i64 (wrap64 (((rd_T30 t163 (ji17)).f1) + ((rd_T30 t163 (ji17)).f2)))] 32 (0, 0)) (by (with_reducible repeat (first | refine blk_drewN ?_ _ | refine blk_drew ?_ | refine blk_alloc ?_ _)); exact BK175.out)) : gb175 ≠ gb176))
              have n13_ := Aside0.mk ((by rw [hg]; exact Nat.ne_of_gt (blk_lt (g := gb175) (o := .cells #[.int .i64 ((rd_T30 t163 (ji14)).f0), .int .i64 ((rd_T30 t163 (ji14)).f1), .int .i64 (wrap64 (((rd_T30 t163 (ji17)).f1) + ((rd_T30 t163 (ji17)).f2)))] 32 (0, 0)) (by (with_reducible repeat (first | refine blk_drewN ?_ _ | refine blk_drew ?_ | refine blk_alloc ?_ _)); exact BK175.out)) : gb176 ≠ gb175))
              clear HO_7
              clear BK173
              clear BK174
              clear BK175
              clear HB
              have HO_7 := n0_
              have BK173 := n1_
              have BK174 := n2_
              have BK175 := n3_
              have HB := n4_
              have BK176 := n5_
              have GW176 := n6_
              have GE176 := n7_
              have NB173_176 := n8_
              have NB176_173 := n9_
              have NB174_176 := n10_
              have NB176_174 := n11_
              have NB175_176 := n12_
              have NB176_175 := n13_
              clear n0_ n1_ n2_ n3_ n4_ n5_ n6_ n7_ n8_ n9_ n10_ n11_ n12_ n13_
              clear hb hbox hg
              refine hK.out _ _ ⟨(blk_cell BK175.out 0).trans rfl, (blk_cell BK175.out 1).trans rfl, (blk_cell BK175.out 2).trans rfl⟩ (fun hHeld => ?_)
              clear hK K
              refine norm_ (a' := ?_) ?_ ?_
              rotate_left
              ·
               show Act.put _ (some 12) _ = _
               simp only [Act.put, List.setIfInBounds_toArray, List.set_cons_zero, List.set_cons_succ, i64_w, i32_w]
               rfl
              refine one_ (i := 3) (N := some 13) #[true, true, true, true, false, false] rfl rfl (by kernel_rfl) (by decide) (fun K hK => ?_)
              refine box_step ?hg (N := 13) ?hd (cs := #[.int .i64 0, .int .i64 0, .int .i64 0]) (t := 32) ?hr ?_; (case hd => rfl); (case hg => rfl); (case hr => first | (go_simp; done) | (go_simp; rfl))
              intro gb177 hg w112 hbox hb
              have n0_ := Aside0.mk (Kd.R_below (by (with_reducible repeat (first | apply Kd.R_alloc | apply Kd.R_drewN | apply Kd.R_drew)); exact HO_7.out) hb)
              have n1_ := Aside0.mk (blk_below (g := gb173) (o := .cells #[.int .i64 ((rd_T30 t163 (ji14)).f0), .int .i64 ((rd_T30 t163 (ji14)).f1), .int .i64 ((rd_T30 t163 (ji14)).f2)] 30 (0, 0)) (by (with_reducible repeat (first | refine blk_drewN ?_ _ | refine blk_drew ?_ | refine blk_alloc ?_ _)); exact BK173.out) hb)
              have n2_ := Aside0.mk (blk_below (g := gb174) (o := .cells #[.int .i64 ((rd_T30 t163 (ji17)).f0), .int .i64 ((rd_T30 t163 (ji17)).f1), .int .i64 ((rd_T30 t163 (ji17)).f2)] 30 (0, 0)) (by (with_reducible repeat (first | refine blk_drewN ?_ _ | refine blk_drew ?_ | refine blk_alloc ?_ _)); exact BK174.out) hb)
              have n3_ := Aside0.mk (blk_below (g := gb175) (o := .cells #[.int .i64 ((rd_T30 t163 (ji14)).f0), .int .i64 ((rd_T30 t163 (ji14)).f1), .int .i64 (wrap64 (((rd_T30 t163 (ji17)).f1) + ((rd_T30 t163 (ji17)).f2)))] 32 (0, 0)) (by (with_reducible repeat (first | refine blk_drewN ?_ _ | refine blk_drew ?_ | refine blk_alloc ?_ _)); exact BK175.out) hb)
              have n4_ := Aside0.mk (blk_below (g := gb176) (o := .cells #[.int .i64 0, .int .i64 0, .int .i64 0] 32 (0, 0)) (by (with_reducible repeat (first | refine blk_drewN ?_ _ | refine blk_drew ?_ | refine blk_alloc ?_ _)); exact BK176.out) hb)
              have n5_ := Aside0.mk (below_step (by repeat (first | (with_reducible first | exact HB.out | apply below_alloc | apply pw_below_drewN | apply below_drew1 | refine below_set ?_ GE173.out | refine below_set ?_ GE174.out | refine below_set ?_ GE175.out | refine below_set ?_ GE176.out) | exact HB.out)) hb)
              have n6_ := Aside0.mk (hbox)
              have n7_ := Aside0.mk ((by rw [hg]; exact (below_size (by repeat (first | (with_reducible first | exact HB.out | apply below_alloc | apply pw_below_drewN | apply below_drew1 | refine below_set ?_ GE173.out | refine below_set ?_ GE174.out | refine below_set ?_ GE175.out | refine below_set ?_ GE176.out) | exact HB.out))) : w.heap.size ≤ gb177))
              have n8_ := Aside0.mk ((by rw [hg]; exact (below_size (by repeat (first | (with_reducible first | exact HB.out | apply below_alloc | apply pw_below_drewN | apply below_drew1 | refine below_set ?_ GE173.out | refine below_set ?_ GE174.out | refine below_set ?_ GE175.out | refine below_set ?_ GE176.out) | exact HB.out))) : w.heap.size ≤ gb177))
              have n9_ := Aside0.mk ((by rw [hg]; exact Nat.ne_of_lt (blk_lt (g := gb173) (o := .cells #[.int .i64 ((rd_T30 t163 (ji14)).f0), .int .i64 ((rd_T30 t163 (ji14)).f1), .int .i64 ((rd_T30 t163 (ji14)).f2)] 30 (0, 0)) (by (with_reducible repeat (first | refine blk_drewN ?_ _ | refine blk_drew ?_ | refine blk_alloc ?_ _)); exact BK173.out)) : gb173 ≠ gb177))
              have n10_ := Aside0.mk ((by rw [hg]; exact Nat.ne_of_gt (blk_lt (g := gb173) (o := .cells #[.int .i64 ((rd_T30 t163 (ji14)).f0), .int .i64 ((rd_T30 t163 (ji14)).f1), .int .i64 ((rd_T30 t163 (ji14)).f2)] 30 (0, 0)) (by (with_reducible repeat (first | refine blk_drewN ?_ _ | refine blk_drew ?_ | refine blk_alloc ?_ _)); exact BK173.out)) : gb177 ≠ gb173))
              have n11_ := Aside0.mk ((by rw [hg]; exact Nat.ne_of_lt (blk_lt (g := gb174) (o := .cells #[.int .i64 ((rd_T30 t163 (ji17)).f0), .int .i64 ((rd_T30 t163 (ji17)).f1), .int .i64 ((rd_T30 t163 (ji17)).f2)] 30 (0, 0)) (by (with_reducible repeat (first | refine blk_drewN ?_ _ | refine blk_drew ?_ | refine blk_alloc ?_ _)); exact BK174.out)) : gb174 ≠ gb177))
              have n12_ := Aside0.mk ((by rw [hg]; exact Nat.ne_of_gt (blk_lt (g := gb174) (o := .cells #[.int .i64 ((rd_T30 t163 (ji17)).f0), .int .i64 ((rd_T30 t163 (ji17)).f1), .int .i64 ((rd_T30 t163 (ji17)).f2)] 30 (0, 0)) (by (with_reducible repeat (first | refine blk_drewN ?_ _ | refine blk_drew ?_ | refine blk_alloc ?_ _)); exact BK174.out)) : gb177 ≠ gb174))
              have n13_ := Aside0.mk ((by rw [hg]; exact Nat.ne_of_lt (blk_lt (g := gb175) (o := .cells #[.int .i64 ((rd_T30 t163 (ji14)).f0), .int .i64 ((rd_T30 t163 (ji14)).f1), .int .i64 (wrap64 (((rd_T30 t163 (ji17)).f1) + ((rd_T30 t163 (ji17)).f2)))] 32 (0, 0)) (by (with_reducible repeat (first | refine blk_drewN ?_ _ | refine blk_drew ?_ | refine blk_alloc ?_ _)); exact BK175.out)) : gb175 ≠ gb177))
              have n14_ := Aside0.mk ((by rw [hg]; exact Nat.ne_of_gt (blk_lt (g := gb175) (o := .cells #[.int .i64 ((rd_T30 t163 (ji14)).f0), .int .i64 ((rd_T30 t163 (ji14)).f1), .int .i64 (wrap64 (((rd_T30 t163 (ji17)).f1) + ((rd_T30 t163 (ji17)).f2)))] 32 (0, 0)) (by (with_reducible repeat (first | refine blk_drewN ?_ _ | refine blk_drew ?_ | refine blk_alloc ?_ _)); exact BK175.out)) : gb177 ≠ gb175))
              have n15_ := Aside0.mk ((by rw [hg]; exact Nat.ne_of_lt (blk_lt (g := gb176) (o := .cells #[.int .i64 0, .int .i64 0, .int .i64 0] 32 (0, 0)) (by (with_reducible repeat (first | refine blk_drewN ?_ _ | refine blk_drew ?_ | refine blk_alloc ?_ _)); exact BK176.out)) : gb176 ≠ gb177))
              have n16_ := Aside0.mk ((by rw [hg]; exact Nat.ne_of_gt (blk_lt (g := gb176) (o := .cells #[.int .i64 0, .int .i64 0, .int .i64 0] 32 (0, 0)) (by (with_reducible repeat (first | refine blk_drewN ?_ _ | refine blk_drew ?_ | refine blk_alloc ?_ _)); exact BK176.out)) : gb177 ≠ gb176))
              clear HO_7
              clear BK173
              clear BK174
              clear BK175
              clear BK176
              clear HB
              have HO_7 := n0_
              have BK173 := n1_
              have BK174 := n2_
              have BK175 := n3_
              have BK176 := n4_
              have HB := n5_
              have BK177 := n6_
              have GW177 := n7_
              have GE177 := n8_
              have NB173_177 := n9_
              have NB177_173 := n10_
              have NB174_177 := n11_
              have NB177_174 := n12_
              have NB175_177 := n13_
              have NB177_175 := n14_
              have NB176_177 := n15_
              have NB177_176 := n16_
              clear n0_ n1_ n2_ n3_ n4_ n5_ n6_ n7_ n8_ n9_ n10_ n11_ n12_ n13_ n14_ n15_ n16_
              clear hb hbox hg
              refine hK.out _ _ ⟨(blk_cell BK175.out 0).trans rfl, (blk_cell BK175.out 1).trans rfl, (blk_cell BK175.out 2).trans rfl⟩ (fun hHeld => ?_)
              clear hK K
              refine norm_ (a' := ?_) ?_ ?_
              rotate_left
              ·
               show Act.put _ (some 13) _ = _
               simp only [Act.put, List.setIfInBounds_toArray, List.set_cons_zero, List.set_cons_succ, i64_w, i32_w]
               rfl
              exact norm_ (by simp only [putAll, Act.put, List.setIfInBounds_toArray, List.set_cons_zero, List.set_cons_succ]) (hCont (gb176, gb177) _ ⟨hHeld, (by (with_reducible repeat (first | apply Kd.R_alloc | apply Kd.R_drewN | apply Kd.R_drew)); exact HO_7.out), (by (with_reducible repeat (first | refine blk_drewN ?_ _ | refine blk_drew ?_ | refine blk_alloc ?_ _)); exact BK173.out), (by (with_reducible repeat (first | refine blk_drewN ?_ _ | refine blk_drew ?_ | refine blk_alloc ?_ _)); exact BK174.out), (by (with_reducible repeat (first | refine blk_drewN ?_ _ | refine blk_drew ?_ | refine blk_alloc ?_ _)); exact BK175.out), (by (with_reducible repeat (first | refine blk_drewN ?_ _ | refine blk_drew ?_ | refine blk_alloc ?_ _)); exact BK176.out), (by (with_reducible repeat (first | refine blk_drewN ?_ _ | refine blk_drew ?_ | refine blk_alloc ?_ _)); exact BK177.out), GW176.out, GE176.out, NB173_176.out, NB176_173.out, NB174_176.out, NB176_174.out, NB175_176.out, NB176_175.out, NB177_176.out, NB176_177.out, GW177.out, GE177.out, NB173_177.out, NB177_173.out, NB174_177.out, NB177_174.out, NB175_177.out, NB177_175.out, (by repeat (first | (with_reducible first | exact HB.out | apply below_alloc | apply pw_below_drewN | apply below_drew1 | refine below_set ?_ GE173.out | refine below_set ?_ GE174.out | refine below_set ?_ GE175.out | refine below_set ?_ GE176.out | refine below_set ?_ GE177.out) | exact HB.out))⟩)
             ·
              skip
              refine box_step ?hg (N := 13) ?hd (cs := #[.int .i64 0, .int .i64 0, .int .i64 0]) (t := 32) ?hr ?_; (case hd => rfl); (case hg => rfl); (case hr => first | (go_simp; done) | (go_simp; rfl))
              intro gb177 hg w111 hbox hb
              have n0_ := Aside0.mk (Kd.R_below (by (with_reducible repeat (first | apply Kd.R_alloc | apply Kd.R_drewN | apply Kd.R_drew)); exact HO_7.out) hb)
              have n1_ := Aside0.mk (blk_below (g := gb173) (o := .cells #[.int .i64 ((rd_T30 t163 (ji14)).f0), .int .i64 ((rd_T30 t163 (ji14)).f1), .int .i64 ((rd_T30 t163 (ji14)).f2)] 30 (0, 0)) (by (with_reducible repeat (first | refine blk_drewN ?_ _ | refine blk_drew ?_ | refine blk_alloc ?_ _)); exact BK173.out) hb)
              have n2_ := Aside0.mk (blk_below (g := gb174) (o := .cells #[.int .i64 ((rd_T30 t163 (ji17)).f0), .int .i64 ((rd_T30 t163 (ji17)).f1), .int .i64 ((rd_T30 t163 (ji17)).f2)] 30 (0, 0)) (by (with_reducible repeat (first | refine blk_drewN ?_ _ | refine blk_drew ?_ | refine blk_alloc ?_ _)); exact BK174.out) hb)
              have n3_ := Aside0.mk (blk_below (g := gb175) (o := .cells #[.int .i64 ((rd_T30 t163 (ji14)).f0), .int .i64 ((rd_T30 t163 (ji14)).f1), .int .i64 (wrap64 (((rd_T30 t163 (ji17)).f1) + ((rd_T30 t163 (ji17)).f2)))] 32 (0, 0)) (by (with_reducible repeat (first | refine blk_drewN ?_ _ | refine blk_drew ?_ | refine blk_alloc ?_ _)); exact BK175.out) hb)
              have n4_ := Aside0.mk (below_step (by repeat (first | (with_reducible first | exact HB.out | apply below_alloc | apply pw_below_drewN | apply below_drew1 | refine below_set ?_ GE173.out | refine below_set ?_ GE174.out | refine below_set ?_ GE175.out) | exact HB.out)) hb)
              have n5_ := Aside0.mk (hbox)
              have n6_ := Aside0.mk ((by rw [hg]; exact (below_size (by repeat (first | (with_reducible first | exact HB.out | apply below_alloc | apply pw_below_drewN | apply below_drew1 | refine below_set ?_ GE173.out | refine below_set ?_ GE174.out | refine below_set ?_ GE175.out) | exact HB.out))) : w.heap.size ≤ gb177))
              have n7_ := Aside0.mk ((by rw [hg]; exact (below_size (by repeat (first | (with_reducible first | exact HB.out | apply below_alloc | apply pw_below_drewN | apply below_drew1 | refine below_set ?_ GE173.out | refine below_set ?_ GE174.out | refine below_set ?_ GE175.out) | exact HB.out))) : w.heap.size ≤ gb177))
              have n8_ := Aside0.mk ((by rw [hg]; exact Nat.ne_of_lt (blk_lt (g := gb173) (o := .cells #[.int .i64 ((rd_T30 t163 (ji14)).f0), .int .i64 ((rd_T30 t163 (ji14)).f1), .int .i64 ((rd_T30 t163 (ji14)).f2)] 30 (0, 0)) (by (with_reducible repeat (first | refine blk_drewN ?_ _ | refine blk_drew ?_ | refine blk_alloc ?_ _)); exact BK173.out)) : gb173 ≠ gb177))
              have n9_ := Aside0.mk ((by rw [hg]; exact Nat.ne_of_gt (blk_lt (g := gb173) (o := .cells #[.int .i64 ((rd_T30 t163 (ji14)).f0), .int .i64 ((rd_T30 t163 (ji14)).f1), .int .i64 ((rd_T30 t163 (ji14)).f2)] 30 (0, 0)) (by (with_reducible repeat (first | refine blk_drewN ?_ _ | refine blk_drew ?_ | refine blk_alloc ?_ _)); exact BK173.out)) : gb177 ≠ gb173))
              have n10_ := Aside0.mk ((by rw [hg]; exact Nat.ne_of_lt (blk_lt (g := gb174) (o := .cells #[.int .i64 ((rd_T30 t163 (ji17)).f0), .int .i64 ((rd_T30 t163 (ji17)).f1), .int .i64 ((rd_T30 t163 (ji17)).f2)] 30 (0, 0)) (by (with_reducible repeat (first | refine blk_drewN ?_ _ | refine blk_drew ?_ | refine blk_alloc ?_ _)); exact BK174.out)) : gb174 ≠ gb177))
              have n11_ := Aside0.mk ((by rw [hg]; exact Nat.ne_of_gt (blk_lt (g := gb174) (o := .cells #[.int .i64 ((rd_T30 t163 (ji17)).f0), .int .i64 ((rd_T30 t163 (ji17)).f1), .int .i64 ((rd_T30 t163 (ji17)).f2)] 30 (0, 0)) (by (with_reducible repeat (first | refine blk_drewN ?_ _ | refine blk_drew ?_ | refine blk_alloc ?_ _)); exact BK174.out)) : gb177 ≠ gb174))
              have n12_ := Aside0.mk ((by rw [hg]; exact Nat.ne_of_lt (blk_lt (g := gb175) (o := .cells #[.int .i64 ((rd_T30 t163 (ji14)).f0), .int .i64 ((rd_T30 t163 (ji14)).f1), .int .i64 (wrap64 (((rd_T30 t163 (ji17)).f1) + ((rd_T30 t163 (ji17)).f2)))] 32 (0, 0)) (by (with_reducible repeat (first | refine blk_drewN ?_ _ | refine blk_drew ?_ | refine blk_alloc ?_ _)); exact BK175.out)) : gb175 ≠ gb177))
              have n13_ := Aside0.mk ((by rw [hg]; exact Nat.ne_of_gt (blk_lt (g := gb175) (o := .cells #[.int .i64 ((rd_T30 t163 (ji14)).f0), .int .i64 ((rd_T30 t163 (ji14)).f1), .int .i64 (wrap64 (((rd_T30 t163 (ji17)).f1) + ((rd_T30 t163 (ji17)).f2)))] 32 (0, 0)) (by (with_reducible repeat (first | refine blk_drewN ?_ _ | refine blk_drew ?_ | refine blk_alloc ?_ _)); exact BK175.out)) : gb177 ≠ gb175))
              clear HO_7
              clear BK173
              clear BK174
              clear BK175
              clear HB
              have HO_7 := n0_
              have BK173 := n1_
              have BK174 := n2_
              have BK175 := n3_
              have HB := n4_
              have BK177 := n5_
              have GW177 := n6_
              have GE177 := n7_
              have NB173_177 := n8_
              have NB177_173 := n9_
              have NB174_177 := n10_
              have NB177_174 := n11_
              have NB175_177 := n12_
              have NB177_175 := n13_
              clear n0_ n1_ n2_ n3_ n4_ n5_ n6_ n7_ n8_ n9_ n10_ n11_ n12_ n13_
              clear hb hbox hg
              refine hK.out _ _ ⟨(blk_cell BK175.out 0).trans rfl, (blk_cell BK175.out 1).trans rfl, (blk_cell BK175.out 2).trans rfl⟩ (fun hHeld => ?_)
              clear hK K
              refine norm_ (a' := ?_) ?_ ?_
              rotate_left
              ·
               show Act.put _ (some 13) _ = _
               simp only [Act.put, List.setIfInBounds_toArray, List.set_cons_zero, List.set_cons_succ, i64_w, i32_w]
               rfl
              refine one_ (i := 2) (N := some 12) #[true, true, true, true, false, false] rfl rfl (by kernel_rfl) (by decide) (fun K hK => ?_)
              refine box_step ?hg (N := 12) ?hd (cs := #[.int .i64 0, .int .i64 0, .int .i64 0]) (t := 32) ?hr ?_; (case hd => rfl); (case hg => rfl); (case hr => first | (go_simp; done) | (go_simp; rfl))
              intro gb176 hg w112 hbox hb
              have n0_ := Aside0.mk (Kd.R_below (by (with_reducible repeat (first | apply Kd.R_alloc | apply Kd.R_drewN | apply Kd.R_drew)); exact HO_7.out) hb)
              have n1_ := Aside0.mk (blk_below (g := gb173) (o := .cells #[.int .i64 ((rd_T30 t163 (ji14)).f0), .int .i64 ((rd_T30 t163 (ji14)).f1), .int .i64 ((rd_T30 t163 (ji14)).f2)] 30 (0, 0)) (by (with_reducible repeat (first | refine blk_drewN ?_ _ | refine blk_drew ?_ | refine blk_alloc ?_ _)); exact BK173.out) hb)
              have n2_ := Aside0.mk (blk_below (g := gb174) (o := .cells #[.int .i64 ((rd_T30 t163 (ji17)).f0), .int .i64 ((rd_T30 t163 (ji17)).f1), .int .i64 ((rd_T30 t163 (ji17)).f2)] 30 (0, 0)) (by (with_reducible repeat (first | refine blk_drewN ?_ _ | refine blk_drew ?_ | refine blk_alloc ?_ _)); exact BK174.out) hb)
              have n3_ := Aside0.mk (blk_below (g := gb175) (o := .cells #[.int .i64 ((rd_T30 t163 (ji14)).f0), .int .i64 ((rd_T30 t163 (ji14)).f1), .int .i64 (wrap64 (((rd_T30 t163 (ji17)).f1) + ((rd_T30 t163 (ji17)).f2)))] 32 (0, 0)) (by (with_reducible repeat (first | refine blk_drewN ?_ _ | refine blk_drew ?_ | refine blk_alloc ?_ _)); exact BK175.out) hb)
              have n4_ := Aside0.mk (blk_below (g := gb177) (o := .cells #[.int .i64 0, .int .i64 0, .int .i64 0] 32 (0, 0)) (by (with_reducible repeat (first | refine blk_drewN ?_ _ | refine blk_drew ?_ | refine blk_alloc ?_ _)); exact BK177.out) hb)
              have n5_ := Aside0.mk (below_step (by repeat (first | (with_reducible first | exact HB.out | apply below_alloc | apply pw_below_drewN | apply below_drew1 | refine below_set ?_ GE173.out | refine below_set ?_ GE174.out | refine below_set ?_ GE175.out | refine below_set ?_ GE177.out) | exact HB.out)) hb)
              have n6_ := Aside0.mk (hbox)
              have n7_ := Aside0.mk ((by rw [hg]; exact (below_size (by repeat (first | (with_reducible first | exact HB.out | apply below_alloc | apply pw_below_drewN | apply below_drew1 | refine below_set ?_ GE173.out | refine below_set ?_ GE174.out | refine below_set ?_ GE175.out | refine below_set ?_ GE177.out) | exact HB.out))) : w.heap.size ≤ gb176))
              have n8_ := Aside0.mk ((by rw [hg]; exact (below_size (by repeat (first | (with_reducible first | exact HB.out | apply below_alloc | apply pw_below_drewN | apply below_drew1 | refine below_set ?_ GE173.out | refine below_set ?_ GE174.out | refine below_set ?_ GE175.out | refine below_set ?_ GE177.out) | exact HB.out))) : w.heap.size ≤ gb176))
              have n9_ := Aside0.mk ((by rw [hg]; exact Nat.ne_of_lt (blk_lt (g := gb173) (o := .cells #[.int .i64 ((rd_T30 t163 (ji14)).f0), .int .i64 ((rd_T30 t163 (ji14)).f1), .int .i64 ((rd_T30 t163 (ji14)).f2)] 30 (0, 0)) (by (with_reducible repeat (first | refine blk_drewN ?_ _ | refine blk_drew ?_ | refine blk_alloc ?_ _)); exact BK173.out)) : gb173 ≠ gb176))
              have n10_ := Aside0.mk ((by rw [hg]; exact Nat.ne_of_gt (blk_lt (g := gb173) (o := .cells #[.int .i64 ((rd_T30 t163 (ji14)).f0), .int .i64 ((rd_T30 t163 (ji14)).f1), .int .i64 ((rd_T30 t163 (ji14)).f2)] 30 (0, 0)) (by (with_reducible repeat (first | refine blk_drewN ?_ _ | refine blk_drew ?_ | refine blk_alloc ?_ _)); exact BK173.out)) : gb176 ≠ gb173))
              have n11_ := Aside0.mk ((by rw [hg]; exact Nat.ne_of_lt (blk_lt (g := gb174) (o := .cells #[.int .i64 ((rd_T30 t163 (ji17)).f0), .int .i64 ((rd_T30 t163 (ji17)).f1), .int .i64 ((rd_T30 t163 (ji17)).f2)] 30 (0, 0)) (by (with_reducible repeat (first | refine blk_drewN ?_ _ | refine blk_drew ?_ | refine blk_alloc ?_ _)); exact BK174.out)) : gb174 ≠ gb176))
              have n12_ := Aside0.mk ((by rw [hg]; exact Nat.ne_of_gt (blk_lt (g := gb174) (o := .cells #[.int .i64 ((rd_T30 t163 (ji17)).f0), .int .i64 ((rd_T30 t163 (ji17)).f1), .int .i64 ((rd_T30 t163 (ji17)).f2)] 30 (0, 0)) (by (with_reducible repeat (first | refine blk_drewN ?_ _ | refine blk_drew ?_ | refine blk_alloc ?_ _)); exact BK174.out)) : gb176 ≠ gb174))
              have n13_ := Aside0.mk ((by rw [hg]; exact Nat.ne_of_lt (blk_lt (g := gb175) (o := .cells #[.int .i64 ((rd_T30 t163 (ji14)).f0), .int .i64 ((rd_T30 t163 (ji14)).f1), .int .i64 (wrap64 (((rd_T30 t163 (ji17)).f1) + ((rd_T30 t163 (ji17)).f2)))] 32 (0, 0)) (by (with_reducible repeat (first | refine blk_drewN ?_ _ | refine blk_drew ?_ | refine blk_alloc ?_ _)); exact BK175.out)) : gb175 ≠ gb176))
              have n14_ := Aside0.mk ((by rw [hg]; exact Nat.ne_of_gt (blk_lt (g := gb175) (o := .cells #[.int .i64 ((rd_T30 t163 (ji14)).f0), .int .i64 ((rd_T30 t163 (ji14)).f1), .int .i64 (wrap64 (((rd_T30 t163 (ji17)).f1) + ((rd_T30 t163 (ji17)).f2)))] 32 (0, 0)) (by (with_reducible repeat (first | refine blk_drewN ?_ _ | refine blk_drew ?_ | refine blk_alloc ?_ _)); exact BK175.out)) : gb176 ≠ gb175))
              have n15_ := Aside0.mk ((by rw [hg]; exact Nat.ne_of_lt (blk_lt (g := gb177) (o := .cells #[.int .i64 0, .int .i64 0, .int .i64 0] 32 (0, 0)) (by (with_reducible repeat (first | refine blk_drewN ?_ _ | refine blk_drew ?_ | refine blk_alloc ?_ _)); exact BK177.out)) : gb177 ≠ gb176))
              have n16_ := Aside0.mk ((by rw [hg]; exact Nat.ne_of_gt (blk_lt (g := gb177) (o := .cells #[.int .i64 0, .int .i64 0, .int .i64 0] 32 (0, 0)) (by (with_reducible repeat (first | refine blk_drewN ?_ _ | refine blk_drew ?_ | refine blk_alloc ?_ _)); exact BK177.out)) : gb176 ≠ gb177))
              clear HO_7
              clear BK173
              clear BK174
              clear BK175
              clear BK177
              clear HB
              have HO_7 := n0_
              have BK173 := n1_
              have BK174 := n2_
              have BK175 := n3_
              have BK177 := n4_
              have HB := n5_
              have BK176 := n6_
              have GW176 := n7_
              have GE176 := n8_
              have NB173_176 := n9_
              have NB176_173 := n10_
              have NB174_176 := n11_
              have NB176_174 := n12_
              have NB175_176 := n13_
              have NB176_175 := n14_
              have NB177_176 := n15_
              have NB176_177 := n16_
              clear n0_ n1_ n2_ n3_ n4_ n5_ n6_ n7_ n8_ n9_ n10_ n11_ n12_ n13_ n14_ n15_ n16_
              clear hb hbox hg
              refine hK.out _ _ ⟨(blk_cell BK175.out 0).trans rfl, (blk_cell BK175.out 1).trans rfl, (blk_cell BK175.out 2).trans rfl⟩ (fun hHeld => ?_)
              clear hK K
              refine norm_ (a' := ?_) ?_ ?_
              rotate_left
              ·
               show Act.put _ (some 12) _ = _
               simp only [Act.put, List.setIfInBounds_toArray, List.set_cons_zero, List.set_cons_succ, i64_w, i32_w]
               rfl
              exact norm_ (by simp only [putAll, Act.put, List.setIfInBounds_toArray, List.set_cons_zero, List.set_cons_succ]) (hCont (gb176, gb177) _ ⟨hHeld, (by (with_reducible repeat (first | apply Kd.R_alloc | apply Kd.R_drewN | apply Kd.R_drew)); exact HO_7.out), (by (with_reducible repeat (first | refine blk_drewN ?_ _ | refine blk_drew ?_ | refine blk_alloc ?_ _)); exact BK173.out), (by (with_reducible repeat (first | refine blk_drewN ?_ _ | refine blk_drew ?_ | refine blk_alloc ?_ _)); exact BK174.out), (by (with_reducible repeat (first | refine blk_drewN ?_ _ | refine blk_drew ?_ | refine blk_alloc ?_ _)); exact BK175.out), (by (with_reducible repeat (first | refine blk_drewN ?_ _ | refine blk_drew ?_ | refine blk_alloc ?_ _)); exact BK176.out), (by (with_reducible repeat (first | refine blk_drewN ?_ _ | refine blk_drew ?_ | refine blk_alloc ?_ _)); exact BK177.out), GW176.out, GE176.out, NB173_176.out, NB176_173.out, NB174_176.out, NB176_174.out, NB175_176.out, NB176_175.out, NB177_176.out, NB176_177.out, GW177.out, GE177.out, NB173_177.out, NB177_173.out, NB174_177.out, NB177_174.out, NB175_177.out, NB177_175.out, (by repeat (first | (with_reducible first | exact HB.out | apply below_alloc | apply pw_below_drewN | apply below_drew1 | refine below_set ?_ GE173.out | refine below_set ?_ GE174.out | refine below_set ?_ GE175.out | refine below_set ?_ GE177.out | refine below_set ?_ GE176.out) | exact HB.out))⟩)
            rintro ⟨gb176, gb177⟩ w113 ⟨hS_, h0_, h1_, h2_, h3_, h4_, h5_, h6_, h7_, h8_, h9_, h10_, h11_, h12_, h13_, h14_, h15_, h16_, h17_, h18_, h19_, h20_, h21_, h22_, h23_, h24_⟩
            have n0_ : Aside0 (Kd.R k30 30 w113 w.heap.size (fun k_ => k_ ≠ gb173 ∧ k_ ≠ gb174) (.slice (some ad171) t163.length co10) t163) := ⟨h0_⟩
            have n1_ : Aside0 (w113.heap[gb173]? = some (.cells #[.int .i64 ((rd_T30 t163 (ji14)).f0), .int .i64 ((rd_T30 t163 (ji14)).f1), .int .i64 ((rd_T30 t163 (ji14)).f2)] 30 (0, 0))) := ⟨h1_⟩
            have n2_ : Aside0 (w113.heap[gb174]? = some (.cells #[.int .i64 ((rd_T30 t163 (ji17)).f0), .int .i64 ((rd_T30 t163 (ji17)).f1), .int .i64 ((rd_T30 t163 (ji17)).f2)] 30 (0, 0))) := ⟨h2_⟩
            have n3_ : Aside0 (w113.heap[gb175]? = some (.cells #[.int .i64 ((rd_T30 t163 (ji14)).f0), .int .i64 ((rd_T30 t163 (ji14)).f1), .int .i64 (wrap64 (((rd_T30 t163 (ji17)).f1) + ((rd_T30 t163 (ji17)).f2)))] 32 (0, 0))) := ⟨h3_⟩
            have n4_ : Aside0 (w113.heap[gb176]? = some (.cells #[.int .i64 0, .int .i64 0, .int .i64 0] 32 (0, 0))) := ⟨h4_⟩
            have n5_ : Aside0 (w113.heap[gb177]? = some (.cells #[.int .i64 0, .int .i64 0, .int .i64 0] 32 (0, 0))) := ⟨h5_⟩
            have n6_ : Aside0 (w.heap.size ≤ gb176) := ⟨h6_⟩
            have n7_ : Aside0 (w.heap.size ≤ gb176) := ⟨h7_⟩
            have n8_ : Aside0 (gb173 ≠ gb176) := ⟨h8_⟩
            have n9_ : Aside0 (gb176 ≠ gb173) := ⟨h9_⟩
            have n10_ : Aside0 (gb174 ≠ gb176) := ⟨h10_⟩
            have n11_ : Aside0 (gb176 ≠ gb174) := ⟨h11_⟩
            have n12_ : Aside0 (gb175 ≠ gb176) := ⟨h12_⟩
            have n13_ : Aside0 (gb176 ≠ gb175) := ⟨h13_⟩
            have n14_ : Aside0 (gb177 ≠ gb176) := ⟨h14_⟩
            have n15_ : Aside0 (gb176 ≠ gb177) := ⟨h15_⟩
            have n16_ : Aside0 (w.heap.size ≤ gb177) := ⟨h16_⟩
            have n17_ : Aside0 (w.heap.size ≤ gb177) := ⟨h17_⟩
            have n18_ : Aside0 (gb173 ≠ gb177) := ⟨h18_⟩
            have n19_ : Aside0 (gb177 ≠ gb173) := ⟨h19_⟩
            have n20_ : Aside0 (gb174 ≠ gb177) := ⟨h20_⟩
            have n21_ : Aside0 (gb177 ≠ gb174) := ⟨h21_⟩
            have n22_ : Aside0 (gb175 ≠ gb177) := ⟨h22_⟩
            have n23_ : Aside0 (gb177 ≠ gb175) := ⟨h23_⟩
            have n24_ : Aside0 (Below w.heap.size w w113) := ⟨h24_⟩
            clear HO_7
            clear BK173
            clear BK174
            clear BK175
            clear HB
            clear h0_ h1_ h2_ h3_ h4_ h5_ h6_ h7_ h8_ h9_ h10_ h11_ h12_ h13_ h14_ h15_ h16_ h17_ h18_ h19_ h20_ h21_ h22_ h23_ h24_
            have HO_7 := n0_
            have BK173 := n1_
            have BK174 := n2_
            have BK175 := n3_
            have BK176 := n4_
            have BK177 := n5_
            have GW176 := n6_
            have GE176 := n7_
            have NB173_176 := n8_
            have NB176_173 := n9_
            have NB174_176 := n10_
            have NB176_174 := n11_
            have NB175_176 := n12_
            have NB176_175 := n13_
            have NB177_176 := n14_
            have NB176_177 := n15_
            have GW177 := n16_
            have GE177 := n17_
            have NB173_177 := n18_
            have NB177_173 := n19_
            have NB174_177 := n20_
            have NB177_174 := n21_
            have NB175_177 := n22_
            have NB177_175 := n23_
            have HB := n24_
            clear n0_ n1_ n2_ n3_ n4_ n5_ n6_ n7_ n8_ n9_ n10_ n11_ n12_ n13_ n14_ n15_ n16_ n17_ n18_ n19_ n20_ n21_ n22_ n23_ n24_
            have hHeld : w113.cell? ⟨gb175, 0, none⟩ = some (.int .i64 ((rd_T30 t163 (ji14)).f0)) ∧ w113.cell? ⟨gb175, 1, none⟩ = some (.int .i64 ((rd_T30 t163 (ji14)).f1)) ∧ w113.cell? ⟨gb175, 2, none⟩ = some (.int .i64 (wrap64 (((rd_T30 t163 (ji17)).f1) + ((rd_T30 t163 (ji17)).f2)))) := hS_
            refine norm_ (a' := ?_) ?_ ?_
            rotate_left
            ·
             simp only [putAll, Act.put, List.setIfInBounds_toArray, List.set_cons_zero, List.set_cons_succ]
             rfl
            refine one_ (i := 4) (N := none) #[true, true, true, true, true, false] rfl rfl (by kernel_rfl) (by decide) (fun K hK => ?_)
            have hs114 : w113.cell? ⟨gb176, 0, none⟩ = some (.int .i64 0) := (blk_cell BK176.out 0).trans rfl
            have hfs114 := blk_frozen BK176.out 0
            have hns114_0 := NB173_176.out
            have hns114_1 := NB174_176.out
            have hns114_2 := NB175_176.out
            have hns114_4 := NB177_176.out
            have hms114_0 := NB176_173.out
            have hms114_1 := NB176_174.out
            have hms114_2 := NB176_175.out
            have hms114_4 := NB176_177.out
            have hs115 : w113.cell? ⟨gb176, 1, none⟩ = some (.int .i64 0) := (blk_cell BK176.out 1).trans rfl
            have hfs115 := blk_frozen BK176.out 1
            have hns115_0 := NB173_176.out
            have hns115_1 := NB174_176.out
            have hns115_2 := NB175_176.out
            have hns115_4 := NB177_176.out
            have hms115_0 := NB176_173.out
            have hms115_1 := NB176_174.out
            have hms115_2 := NB176_175.out
            have hms115_4 := NB176_177.out
            have hs116 : w113.cell? ⟨gb176, 2, none⟩ = some (.int .i64 0) := (blk_cell BK176.out 2).trans rfl
            have hfs116 := blk_frozen BK176.out 2
            have hns116_0 := NB173_176.out
            have hns116_1 := NB174_176.out
            have hns116_2 := NB175_176.out
            have hns116_4 := NB177_176.out
            have hms116_0 := NB176_173.out
            have hms116_1 := NB176_174.out
            have hms116_2 := NB176_175.out
            have hms116_4 := NB176_177.out
            refine skip_ (w1 := ?_) (by rfl) rfl ?_ ?_
            rotate_left
            ·
             go_simp
             rfl
            refine hK.out _ _ ⟨((cell_far (p := ⟨gb176, _, none⟩) NB175_176.out _).trans (((cell_far (p := ⟨gb176, _, none⟩) NB175_176.out _).trans (((cell_far (p := ⟨gb176, _, none⟩) NB175_176.out _).trans (hHeld.1)))))), ((cell_far (p := ⟨gb176, _, none⟩) NB175_176.out _).trans (((cell_far (p := ⟨gb176, _, none⟩) NB175_176.out _).trans (((cell_far (p := ⟨gb176, _, none⟩) NB175_176.out _).trans (hHeld.2.1)))))), ((cell_far (p := ⟨gb176, _, none⟩) NB175_176.out _).trans (((cell_far (p := ⟨gb176, _, none⟩) NB175_176.out _).trans (((cell_far (p := ⟨gb176, _, none⟩) NB175_176.out _).trans (hHeld.2.2))))))⟩ (fun hHeld => ?_)
            clear hK K
            refine one_ (i := 5) (N := none) #[true, true, true, true, true, true] rfl rfl (by kernel_rfl) (by decide) (fun K hK => ?_)
            have hs117 : w113.cell? ⟨gb177, 0, none⟩ = some (.int .i64 0) := (blk_cell BK177.out 0).trans rfl
            have hfs117 := blk_frozen BK177.out 0
            have hns117_0 := NB173_177.out
            have hns117_1 := NB174_177.out
            have hns117_2 := NB175_177.out
            have hns117_3 := NB176_177.out
            have hms117_0 := NB177_173.out
            have hms117_1 := NB177_174.out
            have hms117_2 := NB177_175.out
            have hms117_3 := NB177_176.out
            have hs118 : w113.cell? ⟨gb177, 1, none⟩ = some (.int .i64 0) := (blk_cell BK177.out 1).trans rfl
            have hfs118 := blk_frozen BK177.out 1
            have hns118_0 := NB173_177.out
            have hns118_1 := NB174_177.out
            have hns118_2 := NB175_177.out
            have hns118_3 := NB176_177.out
            have hms118_0 := NB177_173.out
            have hms118_1 := NB177_174.out
            have hms118_2 := NB177_175.out
            have hms118_3 := NB177_176.out
            have hs119 : w113.cell? ⟨gb177, 2, none⟩ = some (.int .i64 0) := (blk_cell BK177.out 2).trans rfl
            have hfs119 := blk_frozen BK177.out 2
            have hns119_0 := NB173_177.out
            have hns119_1 := NB174_177.out
            have hns119_2 := NB175_177.out
            have hns119_3 := NB176_177.out
            have hms119_0 := NB177_173.out
            have hms119_1 := NB177_174.out
            have hms119_2 := NB177_175.out
            have hms119_3 := NB177_176.out
            refine skip_ (w1 := ?_) (by rfl) rfl ?_ ?_
            rotate_left
            ·
             go_simp
             rfl
            refine hK.out _ _ ⟨((cell_far (p := ⟨gb177, _, none⟩) NB175_177.out _).trans (((cell_far (p := ⟨gb177, _, none⟩) NB175_177.out _).trans (((cell_far (p := ⟨gb177, _, none⟩) NB175_177.out _).trans (hHeld.1)))))), ((cell_far (p := ⟨gb177, _, none⟩) NB175_177.out _).trans (((cell_far (p := ⟨gb177, _, none⟩) NB175_177.out _).trans (((cell_far (p := ⟨gb177, _, none⟩) NB175_177.out _).trans (hHeld.2.1)))))), ((cell_far (p := ⟨gb177, _, none⟩) NB175_177.out _).trans (((cell_far (p := ⟨gb177, _, none⟩) NB175_177.out _).trans (((cell_far (p := ⟨gb177, _, none⟩) NB175_177.out _).trans (hHeld.2.2))))))⟩ (fun hHeld => ?_)
            clear hK K
            refine done_ (by kernel_rfl) ?_
            have hnb120 := NB176_173.out
            have hnc120 := NB173_176.out
            have hnb121 := NB176_174.out
            have hnc121 := NB174_176.out
            have hnb122 := NB176_175.out
            have hnc122 := NB175_176.out
            have hnb123 := NB176_177.out
            have hnc123 := NB177_176.out
            have hcz124_0 : w113.cell? ⟨gb176, 0, none⟩ = some (.int .i64 0) := (blk_cell BK176.out 0).trans rfl
            have hcz124_1 : w113.cell? ⟨gb176, 1, none⟩ = some (.int .i64 0) := (blk_cell BK176.out 1).trans rfl
            have hcz124_2 : w113.cell? ⟨gb176, 2, none⟩ = some (.int .i64 0) := (blk_cell BK176.out 2).trans rfl
            have hfz124_0 := blk_frozen BK176.out 0
            have hfz124_1 := blk_frozen BK176.out 1
            have hfz124_2 := blk_frozen BK176.out 2
            have hnb125 := NB177_173.out
            have hnc125 := NB173_177.out
            have hnb126 := NB177_174.out
            have hnc126 := NB174_177.out
            have hnb127 := NB177_175.out
            have hnc127 := NB175_177.out
            have hcz128_0 : w113.cell? ⟨gb177, 0, none⟩ = some (.int .i64 0) := (blk_cell BK177.out 0).trans rfl
            have hcz128_1 : w113.cell? ⟨gb177, 1, none⟩ = some (.int .i64 0) := (blk_cell BK177.out 1).trans rfl
            have hcz128_2 : w113.cell? ⟨gb177, 2, none⟩ = some (.int .i64 0) := (blk_cell BK177.out 2).trans rfl
            have hfz128_0 := blk_frozen BK177.out 0
            have hfz128_1 := blk_frozen BK177.out 1
            have hfz128_2 := blk_frozen BK177.out 2
            have hcz129_0 : w113.cell? ⟨gb175, 0, none⟩ = some (.int .i64 ((rd_T30 t163 (ji14)).f0)) := (blk_cell BK175.out 0).trans rfl
            have hcz129_1 : w113.cell? ⟨gb175, 1, none⟩ = some (.int .i64 ((rd_T30 t163 (ji14)).f1)) := (blk_cell BK175.out 1).trans rfl
            have hcz129_2 : w113.cell? ⟨gb175, 2, none⟩ = some (.int .i64 (wrap64 (((rd_T30 t163 (ji17)).f1) + ((rd_T30 t163 (ji17)).f2)))) := (blk_cell BK175.out 2).trans rfl
            have hfz129_0 := blk_frozen BK175.out 0
            have hfz129_1 := blk_frozen BK175.out 1
            have hfz129_2 := blk_frozen BK175.out 2
            try go_wp2_with (first | ((with_reducible refine gate_callee (f := 15) rfl ?_); refine goesL_ (some 71) rfl rfl Try.func15 (by kernel_rfl) rfl #[.slice (some ad171) t163.length co10, .agg #[.int .i64 ((rd_T30 t163 (ji14)).f0), .int .i64 ((rd_T30 t163 (ji14)).f1), .int .i64 (wrap64 (((rd_T30 t163 (ji17)).f1) + ((rd_T30 t163 (ji17)).f2)))]] rfl (by (try simp only [List.map_toArray, List.map_cons, List.map_nil]); first | done | (simp only [hji14, hji17]; rfl) | rfl | (simp only [List.length_drop, List.length_take]; rfl)) ?_; (with_reducible refine (group_Splits.calls kj19 _ _ t163 ((rd_T30 t163 (ji14)).f0) ((rd_T30 t163 (ji14)).f1) (wrap64 (((rd_T30 t163 (ji17)).f1) + ((rd_T30 t163 (ji17)).f2))) false _ ?side1 ?side2 A35.out).mono ?_); (case side1 => refine (Kd.R_reads' (e := 30) (base := w.heap.size) (ok := fun k_ => (k_ ≠ gb173 ∧ k_ ≠ gb174)) (n := t163.length) (c := co10) ?_).2.2; exact (by (with_reducible repeat (first | apply Kd.R_alloc | apply Kd.R_drewN | apply Kd.R_drew)); exact (Kd.R_mono (Kd.R_mono (Kd.R_far (p := ⟨gb177, 2, none⟩) (Kd.R_far (p := ⟨gb176, 1, none⟩) (Kd.R_far (p := ⟨gb177, 2, none⟩) (Kd.R_far (p := ⟨gb177, 1, none⟩) (Kd.R_far (p := ⟨gb177, 0, none⟩) (Kd.R_far (p := ⟨gb176, 2, none⟩) (Kd.R_far (p := ⟨gb176, 1, none⟩) (Kd.R_far (p := ⟨gb176, 0, none⟩) (Kd.R_types (Kd.R_types HO_7.out BK176.out (by decide)) BK177.out (by decide)) (fun _ hk => hk.1.2) (.int .i64 ((rd_T30 t163 (ji14)).f0))) (fun _ hk => hk.1.2) (.int .i64 ((rd_T30 t163 (ji14)).f1))) (fun _ hk => hk.1.2) (.int .i64 (wrap64 (((rd_T30 t163 (ji17)).f1) + ((rd_T30 t163 (ji17)).f2))))) (fun _ hk => hk.2) (.int .i64 ((rd_T30 t163 (ji14)).f0))) (fun _ hk => hk.2) (.int .i64 ((rd_T30 t163 (ji14)).f1))) (fun _ hk => hk.2) (.int .i64 (wrap64 (((rd_T30 t163 (ji17)).f1) + ((rd_T30 t163 (ji17)).f2))))) (fun _ hk => hk.1.2) (.int .i64 (wrap64 (((rd_T30 t163 (ji14)).f1) + 1)))) (fun _ hk => hk.2) (.int .i64 (wrap64 ((wrap64 (((rd_T30 t163 (ji17)).f1) + ((rd_T30 t163 (ji17)).f2))) - 1)))) (fun _ h_ => h_.1)) (fun _ h_ => h_.1)))); (case side2 => exact (Kd.R_reads' HO_7.out).2.1); rintro e w130 ⟨rfl, hb⟩; refine ⟨_, rfl, ?_⟩; have n0_ := Aside0.mk (Kd.R_below (by (with_reducible repeat (first | apply Kd.R_alloc | apply Kd.R_drewN | apply Kd.R_drew)); exact (Kd.R_mono (Kd.R_mono (Kd.R_far (p := ⟨gb177, 2, none⟩) (Kd.R_far (p := ⟨gb176, 1, none⟩) (Kd.R_far (p := ⟨gb177, 2, none⟩) (Kd.R_far (p := ⟨gb177, 1, none⟩) (Kd.R_far (p := ⟨gb177, 0, none⟩) (Kd.R_far (p := ⟨gb176, 2, none⟩) (Kd.R_far (p := ⟨gb176, 1, none⟩) (Kd.R_far (p := ⟨gb176, 0, none⟩) (Kd.R_types (Kd.R_types HO_7.out BK176.out (by decide)) BK177.out (by decide)) (fun _ hk => hk.1.2) (.int .i64 ((rd_T30 t163 (ji14)).f0))) (fun _ hk => hk.1.2) (.int .i64 ((rd_T30 t163 (ji14)).f1))) (fun _ hk => hk.1.2) (.int .i64 (wrap64 (((rd_T30 t163 (ji17)).f1) + ((rd_T30 t163 (ji17)).f2))))) (fun _ hk => hk.2) (.int .i64 ((rd_T30 t163 (ji14)).f0))) (fun _ hk => hk.2) (.int .i64 ((rd_T30 t163 (ji14)).f1))) (fun _ hk => hk.2) (.int .i64 (wrap64 (((rd_T30 t163 (ji17)).f1) + ((rd_T30 t163 (ji17)).f2))))) (fun _ hk => hk.1.2) (.int .i64 (wrap64 (((rd_T30 t163 (ji14)).f1) + 1)))) (fun _ hk => hk.2) (.int .i64 (wrap64 ((wrap64 (((rd_T30 t163 (ji17)).f1) + ((rd_T30 t163 (ji17)).f2))) - 1)))) (fun _ h_ => h_.1)) (fun _ h_ => h_.1))) hb); have n1_ := Aside0.mk (blk_below (g := gb173) (o := .cells #[.int .i64 ((rd_T30 t163 (ji14)).f0), .int .i64 ((rd_T30 t163 (ji14)).f1), .int .i64 ((rd_T30 t163 (ji14)).f2)] 30 (0, 0)) (by (with_reducible repeat (first | refine blk_drewN ?_ _ | refine blk_drew ?_ | refine blk_alloc ?_ _)); refine blk_far ?_ NB173_177.out _; (with_reducible repeat (first | refine blk_drewN ?_ _ | refine blk_drew ?_ | refine blk_alloc ?_ _)); refine blk_far ?_ NB173_176.out _; (with_reducible repeat (first | refine blk_drewN ?_ _ | refine blk_drew ?_ | refine blk_alloc ?_ _)); refine blk_far ?_ NB173_177.out _; (with_reducible repeat (first | refine blk_drewN ?_ _ | refine blk_drew ?_ | refine blk_alloc ?_ _)); refine blk_far ?_ NB173_177.out _; (with_reducible repeat (first | refine blk_drewN ?_ _ | refine blk_drew ?_ | refine blk_alloc ?_ _)); refine blk_far ?_ NB173_177.out _; (with_reducible repeat (first | refine blk_drewN ?_ _ | refine blk_drew ?_ | refine blk_alloc ?_ _)); refine blk_far ?_ NB173_176.out _; (with_reducible repeat (first | refine blk_drewN ?_ _ | refine blk_drew ?_ | refine blk_alloc ?_ _)); refine blk_far ?_ NB173_176.out _; (with_reducible repeat (first | refine blk_drewN ?_ _ | refine blk_drew ?_ | refine blk_alloc ?_ _)); refine blk_far ?_ NB173_176.out _; (with_reducible repeat (first | refine blk_drewN ?_ _ | refine blk_drew ?_ | refine blk_alloc ?_ _)); exact BK173.out) hb); have n2_ := Aside0.mk (blk_below (g := gb174) (o := .cells #[.int .i64 ((rd_T30 t163 (ji17)).f0), .int .i64 ((rd_T30 t163 (ji17)).f1), .int .i64 ((rd_T30 t163 (ji17)).f2)] 30 (0, 0)) (by (with_reducible repeat (first | refine blk_drewN ?_ _ | refine blk_drew ?_ | refine blk_alloc ?_ _)); refine blk_far ?_ NB174_177.out _; (with_reducible repeat (first | refine blk_drewN ?_ _ | refine blk_drew ?_ | refine blk_alloc ?_ _)); refine blk_far ?_ NB174_176.out _; (with_reducible repeat (first | refine blk_drewN ?_ _ | refine blk_drew ?_ | refine blk_alloc ?_ _)); refine blk_far ?_ NB174_177.out _; (with_reducible repeat (first | refine blk_drewN ?_ _ | refine blk_drew ?_ | refine blk_alloc ?_ _)); refine blk_far ?_ NB174_177.out _; (with_reducible repeat (first | refine blk_drewN ?_ _ | refine blk_drew ?_ | refine blk_alloc ?_ _)); refine blk_far ?_ NB174_177.out _; (with_reducible repeat (first | refine blk_drewN ?_ _ | refine blk_drew ?_ | refine blk_alloc ?_ _)); refine blk_far ?_ NB174_176.out _; (with_reducible repeat (first | refine blk_drewN ?_ _ | refine blk_drew ?_ | refine blk_alloc ?_ _)); refine blk_far ?_ NB174_176.out _; (with_reducible repeat (first | refine blk_drewN ?_ _ | refine blk_drew ?_ | refine blk_alloc ?_ _)); refine blk_far ?_ NB174_176.out _; (with_reducible repeat (first | refine blk_drewN ?_ _ | refine blk_drew ?_ | refine blk_alloc ?_ _)); exact BK174.out) hb); have n3_ := Aside0.mk (blk_below (g := gb175) (o := .cells #[.int .i64 ((rd_T30 t163 (ji14)).f0), .int .i64 ((rd_T30 t163 (ji14)).f1), .int .i64 (wrap64 (((rd_T30 t163 (ji17)).f1) + ((rd_T30 t163 (ji17)).f2)))] 32 (0, 0)) (by (with_reducible repeat (first | refine blk_drewN ?_ _ | refine blk_drew ?_ | refine blk_alloc ?_ _)); refine blk_far ?_ NB175_177.out _; (with_reducible repeat (first | refine blk_drewN ?_ _ | refine blk_drew ?_ | refine blk_alloc ?_ _)); refine blk_far ?_ NB175_176.out _; (with_reducible repeat (first | refine blk_drewN ?_ _ | refine blk_drew ?_ | refine blk_alloc ?_ _)); refine blk_far ?_ NB175_177.out _; (with_reducible repeat (first | refine blk_drewN ?_ _ | refine blk_drew ?_ | refine blk_alloc ?_ _)); refine blk_far ?_ NB175_177.out _; (with_reducible repeat (first | refine blk_drewN ?_ _ | refine blk_drew ?_ | refine blk_alloc ?_ _)); refine blk_far ?_ NB175_177.out _; (with_reducible repeat (first | refine blk_drewN ?_ _ | refine blk_drew ?_ | refine blk_alloc ?_ _)); refine blk_far ?_ NB175_176.out _; (with_reducible repeat (first | refine blk_drewN ?_ _ | refine blk_drew ?_ | refine blk_alloc ?_ _)); refine blk_far ?_ NB175_176.out _; (with_reducible repeat (first | refine blk_drewN ?_ _ | refine blk_drew ?_ | refine blk_alloc ?_ _)); refine blk_far ?_ NB175_176.out _; (with_reducible repeat (first | refine blk_drewN ?_ _ | refine blk_drew ?_ | refine blk_alloc ?_ _)); exact BK175.out) hb); have n4_ := Aside0.mk (blk_below (g := gb176) (o := .cells #[.int .i64 ((rd_T30 t163 (ji14)).f0), .int .i64 (wrap64 (((rd_T30 t163 (ji14)).f1) + 1)), .int .i64 (wrap64 (((rd_T30 t163 (ji17)).f1) + ((rd_T30 t163 (ji17)).f2)))] 32 (0, 0)) (by (with_reducible repeat (first | refine blk_drewN ?_ _ | refine blk_drew ?_ | refine blk_alloc ?_ _)); refine blk_far ?_ NB176_177.out _; (with_reducible repeat (first | refine blk_drewN ?_ _ | refine blk_drew ?_ | refine blk_alloc ?_ _)); refine blk_put (cs := #[.int .i64 ((rd_T30 t163 (ji14)).f0), .int .i64 ((rd_T30 t163 (ji14)).f1), .int .i64 (wrap64 (((rd_T30 t163 (ji17)).f1) + ((rd_T30 t163 (ji17)).f2)))]) ?_ 1 _ rfl; (with_reducible repeat (first | refine blk_drewN ?_ _ | refine blk_drew ?_ | refine blk_alloc ?_ _)); refine blk_far ?_ NB176_177.out _; (with_reducible repeat (first | refine blk_drewN ?_ _ | refine blk_drew ?_ | refine blk_alloc ?_ _)); refine blk_far ?_ NB176_177.out _; (with_reducible repeat (first | refine blk_drewN ?_ _ | refine blk_drew ?_ | refine blk_alloc ?_ _)); refine blk_far ?_ NB176_177.out _; (with_reducible repeat (first | refine blk_drewN ?_ _ | refine blk_drew ?_ | refine blk_alloc ?_ _)); refine blk_put (cs := #[.int .i64 ((rd_T30 t163 (ji14)).f0), .int .i64 ((rd_T30 t163 (ji14)).f1), .int .i64 0]) ?_ 2 _ rfl; (with_reducible repeat (first | refine blk_drewN ?_ _ | refine blk_drew ?_ | refine blk_alloc ?_ _)); refine blk_put (cs := #[.int .i64 ((rd_T30 t163 (ji14)).f0), .int .i64 0, .int .i64 0]) ?_ 1 _ rfl; (with_reducible repeat (first | refine blk_drewN ?_ _ | refine blk_drew ?_ | refine blk_alloc ?_ _)); refine blk_put (cs := #[.int .i64 0, .int .i64 0, .int .i64 0]) ?_ 0 _ rfl; (with_reducible repeat (first | refine blk_drewN ?_ _ | refine blk_drew ?_ | refine blk_alloc ?_ _)); exact BK176.out) hb); have n5_ := Aside0.mk (blk_below (g := gb177) (o := .cells #[.int .i64 ((rd_T30 t163 (ji14)).f0), .int .i64 ((rd_T30 t163 (ji14)).f1), .int .i64 (wrap64 ((wrap64 (((rd_T30 t163 (ji17)).f1) + ((rd_T30 t163 (ji17)).f2))) - 1))] 32 (0, 0)) (by (with_reducible repeat (first | refine blk_drewN ?_ _ | refine blk_drew ?_ | refine blk_alloc ?_ _)); refine blk_put (cs := #[.int .i64 ((rd_T30 t163 (ji14)).f0), .int .i64 ((rd_T30 t163 (ji14)).f1), .int .i64 (wrap64 (((rd_T30 t163 (ji17)).f1) + ((rd_T30 t163 (ji17)).f2)))]) ?_ 2 _ rfl; (with_reducible repeat (first | refine blk_drewN ?_ _ | refine blk_drew ?_ | refine blk_alloc ?_ _)); refine blk_far ?_ NB177_176.out _; (with_reducible repeat (first | refine blk_drewN ?_ _ | refine blk_drew ?_ | refine blk_alloc ?_ _)); refine blk_put (cs := #[.int .i64 ((rd_T30 t163 (ji14)).f0), .int .i64 ((rd_T30 t163 (ji14)).f1), .int .i64 0]) ?_ 2 _ rfl; (with_reducible repeat (first | refine blk_drewN ?_ _ | refine blk_drew ?_ | refine blk_alloc ?_ _)); refine blk_put (cs := #[.int .i64 ((rd_T30 t163 (ji14)).f0), .int .i64 0, .int .i64 0]) ?_ 1 _ rfl; (with_reducible repeat (first | refine blk_drewN ?_ _ | refine blk_drew ?_ | refine blk_alloc ?_ _)); refine blk_put (cs := #[.int .i64 0, .int .i64 0, .int .i64 0]) ?_ 0 _ rfl; (with_reducible repeat (first | refine blk_drewN ?_ _ | refine blk_drew ?_ | refine blk_alloc ?_ _)); refine blk_far ?_ NB177_176.out _; (with_reducible repeat (first | refine blk_drewN ?_ _ | refine blk_drew ?_ | refine blk_alloc ?_ _)); refine blk_far ?_ NB177_176.out _; (with_reducible repeat (first | refine blk_drewN ?_ _ | refine blk_drew ?_ | refine blk_alloc ?_ _)); refine blk_far ?_ NB177_176.out _; (with_reducible repeat (first | refine blk_drewN ?_ _ | refine blk_drew ?_ | refine blk_alloc ?_ _)); exact BK177.out) hb); have n6_ := Aside0.mk (below_step (by repeat (first | (with_reducible first | exact HB.out | apply below_alloc | apply pw_below_drewN | apply below_drew1 | refine below_set ?_ GE173.out | refine below_set ?_ GE174.out | refine below_set ?_ GE175.out | refine below_set ?_ GE176.out | refine below_set ?_ GE177.out) | exact HB.out)) hb); clear HO_7; clear BK173; clear BK174; clear BK175; clear BK176; clear BK177; clear HB; have HO_7 := n0_; have BK173 := n1_; have BK174 := n2_; have BK175 := n3_; have BK176 := n4_; have BK177 := n5_; have HB := n6_; clear n0_ n1_ n2_ n3_ n4_ n5_ n6_; (try clear hb); (try clear hb2); (try clear hk); (try clear hi); have hcz131_0 : w130.cell? ⟨gb176, 0, none⟩ = some (.int .i64 ((rd_T30 t163 (ji14)).f0)) := (blk_cell BK176.out 0).trans rfl; have hcz131_1 : w130.cell? ⟨gb176, 1, none⟩ = some (.int .i64 (wrap64 (((rd_T30 t163 (ji14)).f1) + 1))) := (blk_cell BK176.out 1).trans rfl; have hcz131_2 : w130.cell? ⟨gb176, 2, none⟩ = some (.int .i64 (wrap64 (((rd_T30 t163 (ji17)).f1) + ((rd_T30 t163 (ji17)).f2)))) := (blk_cell BK176.out 2).trans rfl; have hfz131_0 := blk_frozen BK176.out 0; have hfz131_1 := blk_frozen BK176.out 1; have hfz131_2 := blk_frozen BK176.out 2) | (go_at_call 15; (with_reducible refine (group_Splits.calls kj19 _ _ t163 ((rd_T30 t163 (ji14)).f0) (wrap64 (((rd_T30 t163 (ji14)).f1) + 1)) (wrap64 (((rd_T30 t163 (ji17)).f1) + ((rd_T30 t163 (ji17)).f2))) false _ ?side1 ?side2 A66.out).mono ?_); (case side1 => repeat (first | exact (Kd.R_reads' HO_7.out).2.2 | (with_reducible refine Kd.C_alloc ?_ _) | (with_reducible refine Kd.C_drewN ?_ _) | (with_reducible refine Kd.C_drew ?_))); (case side2 => exact (Kd.R_reads' HO_7.out).2.1); rintro e w132 ⟨rfl, hb⟩; have n0_ := Aside0.mk (Kd.R_below (by (with_reducible repeat (first | apply Kd.R_alloc | apply Kd.R_drewN | apply Kd.R_drew)); exact HO_7.out) hb); have n1_ := Aside0.mk (blk_below (g := gb173) (o := .cells #[.int .i64 ((rd_T30 t163 (ji14)).f0), .int .i64 ((rd_T30 t163 (ji14)).f1), .int .i64 ((rd_T30 t163 (ji14)).f2)] 30 (0, 0)) (by (with_reducible repeat (first | refine blk_drewN ?_ _ | refine blk_drew ?_ | refine blk_alloc ?_ _)); exact BK173.out) hb); have n2_ := Aside0.mk (blk_below (g := gb174) (o := .cells #[.int .i64 ((rd_T30 t163 (ji17)).f0), .int .i64 ((rd_T30 t163 (ji17)).f1), .int .i64 ((rd_T30 t163 (ji17)).f2)] 30 (0, 0)) (by (with_reducible repeat (first | refine blk_drewN ?_ _ | refine blk_drew ?_ | refine blk_alloc ?_ _)); exact BK174.out) hb); have n3_ := Aside0.mk (blk_below (g := gb175) (o := .cells #[.int .i64 ((rd_T30 t163 (ji14)).f0), .int .i64 ((rd_T30 t163 (ji14)).f1), .int .i64 (wrap64 (((rd_T30 t163 (ji17)).f1) + ((rd_T30 t163 (ji17)).f2)))] 32 (0, 0)) (by (with_reducible repeat (first | refine blk_drewN ?_ _ | refine blk_drew ?_ | refine blk_alloc ?_ _)); exact BK175.out) hb); have n4_ := Aside0.mk (blk_below (g := gb176) (o := .cells #[.int .i64 ((rd_T30 t163 (ji14)).f0), .int .i64 (wrap64 (((rd_T30 t163 (ji14)).f1) + 1)), .int .i64 (wrap64 (((rd_T30 t163 (ji17)).f1) + ((rd_T30 t163 (ji17)).f2)))] 32 (0, 0)) (by (with_reducible repeat (first | refine blk_drewN ?_ _ | refine blk_drew ?_ | refine blk_alloc ?_ _)); exact BK176.out) hb); have n5_ := Aside0.mk (blk_below (g := gb177) (o := .cells #[.int .i64 ((rd_T30 t163 (ji14)).f0), .int .i64 ((rd_T30 t163 (ji14)).f1), .int .i64 (wrap64 ((wrap64 (((rd_T30 t163 (ji17)).f1) + ((rd_T30 t163 (ji17)).f2))) - 1))] 32 (0, 0)) (by (with_reducible repeat (first | refine blk_drewN ?_ _ | refine blk_drew ?_ | refine blk_alloc ?_ _)); exact BK177.out) hb); have n6_ := Aside0.mk (below_step (by repeat (first | (with_reducible first | exact HB.out | apply below_alloc | apply pw_below_drewN | apply below_drew1 | refine below_set ?_ GE173.out | refine below_set ?_ GE174.out | refine below_set ?_ GE175.out | refine below_set ?_ GE176.out | refine below_set ?_ GE177.out) | exact HB.out)) hb); clear HO_7; clear BK173; clear BK174; clear BK175; clear BK176; clear BK177; clear HB; have HO_7 := n0_; have BK173 := n1_; have BK174 := n2_; have BK175 := n3_; have BK176 := n4_; have BK177 := n5_; have HB := n6_; clear n0_ n1_ n2_ n3_ n4_ n5_ n6_; (try clear hb); (try clear hb2); (try clear hk); (try clear hi)))
            go_ret
            exact ⟨by first | rfl | (simp [errW_none, errW_some] <;> rfl) | (simp only [← hji14, ← hji17]; first | rfl | (simp [errW_none, errW_some] <;> rfl)) | (simp [*, errW_none, errW_some] <;> rfl), by repeat (first | (with_reducible first | exact HB.out | apply below_alloc | apply pw_below_drewN | apply below_drew1 | refine below_set ?_ GE173.out | refine below_set ?_ GE174.out | refine below_set ?_ GE175.out | refine below_set ?_ GE176.out | refine below_set ?_ GE177.out) | exact HB.out)⟩
       ·
        rw [if_neg c19] at H
        exact absurd H (by simp)
      ·
       rw [if_neg c18] at H
       exact absurd H (by simp)
     ·
      rw [if_neg c16] at H
      exact absurd H (by simp)
    ·
     rw [if_neg c15] at H
     exact absurd H (by simp)
 ·
  replace c5 := Bool.eq_false_iff.mpr c5
  subst c5
  have H1 : (some false) = some r := by rw [if_neg (show ¬ (false = true) by decide)] at H; exact H
  clear H
  have H := H1
  clear H1
  obtain rfl := Option.some.inj H
  go_enter Try.func3, Try.ntmps3
  go_wp2_with (first | ((with_reducible refine gate_callee (f := 12) rfl ?_); refine goesL_ (some 14) rfl rfl Try.func12 (by kernel_rfl) rfl #[] rfl (by (try simp only [List.map_toArray, List.map_cons, List.map_nil]); first | done | rfl | (simp only [List.length_drop, List.length_take]; rfl)) ?_; (with_reducible refine (busbarlaw14_awake.calls k  false _ A4.out).mono ?_); rintro e w133 ⟨rfl, hb⟩; refine ⟨_, rfl, ?_⟩; have n0_ := Aside0.mk (below_step (by repeat (first | (with_reducible first | exact HB.out | apply below_alloc | apply pw_below_drewN | apply below_drew1) | exact HB.out)) hb); clear HB; have HB := n0_; clear n0_; (try clear hb); (try clear hb2); (try clear hk); (try clear hi)))
  go_ret
  exact ⟨by first | rfl | (simp [errW_none, errW_some] <;> rfl) | (simp [*, errW_none, errW_some] <;> rfl), by repeat (first | (with_reducible first | exact HB.out | apply below_alloc | apply pw_below_drewN | apply below_drew1) | exact HB.out)⟩

/-- THE ONE PURE STATEMENT of busbarlaw14_GroupRows: yours. -/
def busbarlaw14_GroupRows.Pure : Prop := ∀ (l0 : List Int) (a1 : Int) (a2 : Int), l0.length ≤ maxLen → l0.length * 8 ≤ 140737488351232 → (∀ x ∈ l0, (Lit.int .i64 x).wf = true) → (Lit.int .i64 a1).wf = true → (Lit.int .i64 a2).wf = true → ∃ k, busbarlaw14_GroupRows.f k l0 a1 a2 = some true
theorem busbarlaw14_GroupRows.walk (P : busbarlaw14_GroupRows.Pure) (a0 : Option Addr) (len0 cap0 : Nat) (z0 : List Int) (a1 : Int) (a2 : Int) (w : World) (w0 : (a0 = none ∧ len0 = 0 ∧ cap0 = 0 ∧ z0 = []) ∨ ∃ x, a0 = some x ∧ len0 ≤ cap0 ∧ cap0 ≤ maxLen ∧ z0.length = cap0 ∧ (∀ i, i < z0.length → w.cell? (x.add i) = some (.int .i64 (z0.getD i 0))) ∧ ∀ n ∈ z0, (Lit.int .i64 n).wf = true) (y0 : len0 * 8 ≤ 140737488351232) (w1 : (Lit.int .i64 a1).wf = true) (w2 : (Lit.int .i64 a2).wf = true) :
  Calls Try.prog 3 #[.slice a0 len0 cap0, .int .i64 a1, .int .i64 a2] w fun e w' => e = .returned (.bool true) ∧ Below w.heap.size w w' := by
 obtain ⟨l0, rfl, hr0, hm0, hw0, hc0⟩ := ReadsInt.ofRowC w0
 obtain ⟨k, h⟩ := P l0 a1 a2 hm0 y0 hw0 w1 w2
 refine (busbarlaw14_GroupRows.calls k _ _ l0 a1 a2 true w (Kd.C_of_reads (d := (0 : Int)) (h1 := fun _ => rfl) hr0) hc0 h).mono ?_
 rintro e w' ⟨rfl, hd⟩
 exact ⟨rfl, hd⟩

end Go.Proofs.Ytmbkbpaoiilicaa.PGroupL
