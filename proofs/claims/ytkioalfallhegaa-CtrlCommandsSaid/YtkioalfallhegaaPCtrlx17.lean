-- written by a program of this session (wip/pp) over the kit's print.py; Lean checks it
import Derived.Test.YtkioalfallhegaaPCtrlx0
namespace Go.Proofs.Ytkioalfallhegaa.PCtrl
open Go.RowKit Go.Proofs.YtkioalfallhegaaW.PrintWords Go.Proofs.YtkioalfallhegaaW.PrintLast Go.Proofs.YtkioalfallhegaaW.PrintMore
attribute [local go_sem] max2_int min2_int max_two min_two max_three min_three max_four min_four plus_setCell_drewN plus_cell_same   -- for this text's walks alone
set_option linter.unusedVariables false
set_option linter.unusedSimpArgs false

/-! ### busbarref1_Split: function 50 -/
mutual
def busbarref1_Split.j0 : Nat → Int → Int → Bool → Bool → Option (List Int × Bool)
 | 0, _, _, _, _ => none
 | k + 1, x0, x1, x2, x16 => if x16 = true then (some (([] : List Int), false)) else (if 0 ≤ x1 then (if (x1 : Int).toNat ≤ 140737488355328 then (busbarref1_Split.l0 k x0 x1 x2 (List.replicate (x1 : Int).toNat 0) 0) else (none)) else (none))
def busbarref1_Split.l0 : Nat → Int → Int → Bool → List Int → Int → Option (List Int × Bool)
 | 0, _, _, _, _, _ => none
 | k + 1, x0, x1, x2, x8, x9 => if x9 < x1 then (if x2 = true then (if 0 ≤ x9 then (if x9 < (x8.length : Int) then (busbarref1_Split.l0 k (IntKind.u64.wrap (Int.tdiv x0 65536)) x1 x2 (x8.set (x9 : Int).toNat (IntKind.u16.wrap (Int.tmod x0 65536))) (wrap64 (x9 + 1))) else (none)) else (none)) else (if 0 ≤ (wrap64 ((wrap64 (x1 - 1)) - x9)) then (if (wrap64 ((wrap64 (x1 - 1)) - x9)) < (x8.length : Int) then (busbarref1_Split.l0 k (IntKind.u64.wrap (Int.tdiv x0 65536)) x1 x2 (x8.set ((wrap64 ((wrap64 (x1 - 1)) - x9)) : Int).toNat (IntKind.u16.wrap (Int.tmod x0 65536))) (wrap64 (x9 + 1))) else (none)) else (none))) else (if x0 = 0 then (some (x8, true)) else (some (([] : List Int), false)))
end
def busbarref1_Split.f (k : Nat) (a0 : Int) (a1 : Int) (a2 : Bool) : Option (List Int × Bool) := if a1 < 1 then (busbarref1_Split.j0 k a0 a1 a2 true) else (busbarref1_Split.j0 k a0 a1 a2 (decide (a1 > 4)))
theorem busbarref1_Split.mono_l : ∀ k, (∀ y0 y1 y2 y3, LeO (busbarref1_Split.j0 k y0 y1 y2 y3) (busbarref1_Split.j0 (k + 1) y0 y1 y2 y3)) ∧ (∀ y0 y1 y2 y3 y4, LeO (busbarref1_Split.l0 k y0 y1 y2 y3 y4) (busbarref1_Split.l0 (k + 1) y0 y1 y2 y3 y4))
 | 0 => ⟨fun _ _ _ _ r h => by simp [busbarref1_Split.j0] at h, fun _ _ _ _ _ r h => by simp [busbarref1_Split.l0] at h⟩
 | k + 1 => by
  obtain ⟨ih0, ih1⟩ := busbarref1_Split.mono_l k
  refine ⟨?_, ?_⟩
  ·
   intro y0 y1 y2 y3
   unfold busbarref1_Split.j0
   repeat' first
   | (with_reducible exact ih0 _ _ _ _)
   | (with_reducible exact ih1 _ _ _ _ _)
   | (with_reducible exact LeO.refl _)
   | (with_reducible exact LeO.none _)
   | (with_reducible refine LeO.ite ?_ ?_)
   | (with_reducible refine LeO.bind ?_ (fun _ => ?_))
   | exact ih0 _ _ _ _
   | exact ih1 _ _ _ _ _
   | exact LeO.none _
   | refine LeO.ite ?_ ?_
   | refine LeO.bind ?_ (fun _ => ?_)
  ·
   intro y0 y1 y2 y3 y4
   unfold busbarref1_Split.l0
   repeat' first
   | (with_reducible exact ih0 _ _ _ _)
   | (with_reducible exact ih1 _ _ _ _ _)
   | (with_reducible exact LeO.refl _)
   | (with_reducible exact LeO.none _)
   | (with_reducible refine LeO.ite ?_ ?_)
   | (with_reducible refine LeO.bind ?_ (fun _ => ?_))
   | exact ih0 _ _ _ _
   | exact ih1 _ _ _ _ _
   | exact LeO.none _
   | refine LeO.ite ?_ ?_
   | refine LeO.bind ?_ (fun _ => ?_)
theorem busbarref1_Split.mono : ∀ a0 a1 a2 k, LeO (busbarref1_Split.f k a0 a1 a2) (busbarref1_Split.f (k + 1) a0 a1 a2) := by
 intro a0 a1 a2 k
 obtain ⟨ih0, ih1⟩ := busbarref1_Split.mono_l k
 unfold busbarref1_Split.f
 repeat' first
   | (with_reducible exact ih0 _ _ _ _)
   | (with_reducible exact ih1 _ _ _ _ _)
   | (with_reducible exact LeO.refl _)
   | (with_reducible exact LeO.none _)
   | (with_reducible refine LeO.ite ?_ ?_)
   | (with_reducible refine LeO.bind ?_ (fun _ => ?_))
   | exact ih0 _ _ _ _
   | exact ih1 _ _ _ _ _
   | exact LeO.none _
   | refine LeO.ite ?_ ?_
   | refine LeO.bind ?_ (fun _ => ?_)
set_option maxHeartbeats 8000000 in
set_option maxRecDepth 100000 in
theorem busbarref1_Split.calls (k : Nat) (a0 : Int) (a1 : Int) (a2 : Bool) (r1 : List Int) (r2 : Bool) (w : World) (h : busbarref1_Split.f k a0 a1 a2 = some (r1, r2)) :
  Calls Try.prog 50 #[.int .u64 a0, .int .i64 a1, .bool a2] w fun e w' => ∃ v0_ : Value, e = .returned (.tuple #[v0_, .bool r2]) ∧ Kd.R (Kd.int .u16) 22 w' w.heap.size (fun _ => True) v0_ r1 ∧ Below w.heap.size w w' := by
 have HB := Aside0.mk (Below.refl w.heap.size w)
 have H : (if a1 < 1 then (busbarref1_Split.j0 k a0 a1 a2 true) else (busbarref1_Split.j0 k a0 a1 a2 (decide (a1 > 4)))) = some (r1, r2) := h
 clear h
 have HC4 := Aside0.mk H
 clear H
 go_enter Try.func50, Try.ntmps50
 go_upto_region 1 with (fail)
 go_cut [16] (fun v16 wc => ∃ (kq : Nat) (x16_3 : Bool), v16 = .bool x16_3 ∧ Aside0 (busbarref1_Split.j0 kq a0 a1 a2 x16_3 = some (r1, r2)) ∧ Aside0 (kq ≤ k) ∧ Aside0 (Below w.heap.size w wc))
 case first =>
  have H := HC4.out
  clear HC4
  by_cases c5 : a1 < 1
  ·
   rw [if_pos c5] at H
   have c5b0 : decide (a1 < 1) = true := decide_eq_true c5
   clear c5
   (first | rw [c5b0] | (simp only [i64_w, i32_w]; rw [c5b0]) | skip)
   have H' := Aside0.mk H
   clear H
   go_wp2
   go_meet
   case rel => exact ⟨_, (true), (by first | rfl | (simp; done) | (simp [*]; done)), H', ⟨by first | omega | exact Nat.le_refl _⟩, ⟨by repeat (first | (with_reducible first | exact HB.out | apply below_alloc | apply pw_below_drewN | apply below_drew1) | exact HB.out)⟩⟩
  ·
   rw [if_neg c5] at H
   have c5b0 : decide (a1 < 1) = false := decide_eq_false c5
   clear c5
   (first | rw [c5b0] | (simp only [i64_w, i32_w]; rw [c5b0]) | skip)
   have H' := Aside0.mk H
   clear H
   go_wp2
   go_meet
   case rel => exact ⟨_, (decide (a1 > 4)), (by first | rfl | (simp; done) | (simp [*]; done)), H', ⟨by first | omega | exact Nat.le_refl _⟩, ⟨by repeat (first | (with_reducible first | exact HB.out | apply below_alloc | apply pw_below_drewN | apply below_drew1) | exact HB.out)⟩⟩
 case rest =>
  clear HC4
  try clear p2
  try clear c5
  try clear c5b0
  obtain ⟨kq, x16_3, rfl, HA, HJ3, HB⟩ := hcut
  cases kq with
  | zero => exact absurd HA.out (by simp [busbarref1_Split.j0])
  | succ kj3 =>
   have H := HA.out
   clear HA
   simp only [busbarref1_Split.j0] at H
   by_cases c6 : x16_3 = true
   ·
    subst c6
    have H1 : (some (([] : List Int), false)) = some (r1, r2) := by rw [if_pos rfl] at H; exact H
    clear H
    have H := H1
    clear H1
    simp only [Option.some.injEq, Prod.mk.injEq] at H
    obtain ⟨rfl, rfl⟩ := H
    go_wp2
    go_ret2
    exact ⟨_, by first | rfl | (simp [errW_none, errW_some] <;> rfl) | (simp [*, errW_none, errW_some] <;> rfl), by first | exact Kd.R_nil _ _ _ _ _ | exact Kd.N_nil _ _ _ _ _ | exact Kd.V_nil _ _ _ _ _ | exact Kd.Q_nil _ _ _ _ _ | exact Kd.S_nil _ _ _ _ _, by repeat (first | (with_reducible first | exact HB.out | apply below_alloc | apply pw_below_drewN | apply below_drew1) | exact HB.out)⟩
   ·
    replace c6 := Bool.eq_false_iff.mpr c6
    subst c6
    have H1 : (if 0 ≤ a1 then (if (a1 : Int).toNat ≤ 140737488355328 then (busbarref1_Split.l0 kj3 a0 a1 a2 (List.replicate (a1 : Int).toNat 0) 0) else (none)) else (none)) = some (r1, r2) := by rw [if_neg (show ¬ (false = true) by decide)] at H; exact H
    clear H
    have H := H1
    clear H1
    by_cases c7 : 0 ≤ a1
    ·
     rw [if_pos c7] at H
     have c7b0 := eq_true c7
     have c7b1 : decide (0 ≤ a1) = true := decide_eq_true c7
     clear c7
     by_cases c8 : (a1 : Int).toNat ≤ 140737488355328
     ·
      rw [if_pos c8] at H
      have c8b0 := eq_true c8
      have c8b1 : decide ((a1 : Int).toNat ≤ 140737488355328) = true := decide_eq_true c8
      clear c8
      obtain ⟨y203, hy203⟩ : ∃ y_ : List Int, y_ = (List.replicate (a1 : Int).toNat 0) := ⟨_, rfl⟩
      replace H : (busbarref1_Split.l0 kj3 a0 a1 a2 y203 0) = some (r1, r2) := by first | (rw [hy203]; with_reducible exact H) | (have H2_ := (Option.bind_some _ _).symm.trans H; rw [hy203]; with_reducible exact H2_) | (have H2_ := (Option.bind_some _ _).symm.trans H; with_reducible exact H2_) | with_reducible exact H | (rw [hy203]; exact H) | exact H
      have Ny203 := Aside0.mk hy203
      clear hy203
      have H' := Aside0.mk H
      clear H
      go_wp2_with (first | ((with_reducible refine gate_dst (N := 18) rfl ?_); refine Kd.R_make (Kd.int .u16) _ 22 rfl (N := 18) rfl 24 _ _ rfl a1 rfl rfl Try.underlying24 (.int .u16 0) 2 info22 rfl (by decide) (by omega) 0 (ok := fun _ => True) (okp := fun _ => True) rfl (fun _ hk => hk) trivial (of_decide_eq_true (by first | (with_reducible assumption) | assumption)) (Nat.le_trans (Nat.mul_le_mul_right _ (of_decide_eq_true (by first | (with_reducible assumption) | assumption) : a1.toNat ≤ 140737488355328)) (by omega)) (Below.refl _ _) (Nat.le_refl _) ?_; intro v204 w9 ho10 hb hg_ hnew_; clear hg_ hnew_; (first | rw [← Ny203.out] at ho10 | (simp only [Int.reduceToNat] at ho10; rw [← Ny203.out] at ho10)); have n0_ := Aside0.mk (Kd.R_lower ho10 (below_size (by repeat (first | (with_reducible first | exact HB.out | apply below_alloc | apply pw_below_drewN | apply below_drew1) | exact HB.out)))); have n1_ := Aside0.mk (below_step (by repeat (first | (with_reducible first | exact HB.out | apply below_alloc | apply pw_below_drewN | apply below_drew1) | exact HB.out)) hb); clear HB; have HO205 := n0_; have HB := n1_; clear n0_ n1_; clear hb ho10))
      go_loopg [0, 9] kj3 (fun kq v0 v9 w' => ∃ (x0_2 : Int) (x8_2 : List Int) (x9_2 : Int), v0 = .int .u64 x0_2 ∧ v9 = .int .i64 x9_2 ∧ Aside0 (busbarref1_Split.l0 kq x0_2 a1 a2 x8_2 x9_2 = some (r1, r2)) ∧ Aside0 (kq ≤ kj3) ∧ Aside0 (Kd.R (Kd.int .u16) 22 w' w.heap.size (fun _ => True) v204 x8_2) ∧ Aside0 (Below w.heap.size w w'))
      case atStart => exact ⟨(a0), (y203), (0), (by first | rfl | (simp; done) | (simp [*]; done)), (by first | rfl | (simp; done) | (simp [*]; done)), H', ⟨Nat.le_refl _⟩, ⟨by (with_reducible repeat (first | apply Kd.R_alloc | apply Kd.R_drewN | apply Kd.R_drew)); exact HO205.out⟩, ⟨by repeat (first | (with_reducible first | exact HB.out | apply below_alloc | apply pw_below_drewN | apply below_drew1) | exact HB.out)⟩⟩
      case round =>
       clear H'
       try clear p2
       try clear c5
       try clear c5b0
       try clear c6
       try clear c7
       try clear c7b0
       try clear c7b1
       try clear c8
       try clear c8b0
       try clear c8b1
       try clear p2
       obtain ⟨x0_2, x8_2, x9_2, rfl, rfl, HA, HK2, HO_8, HB⟩ := hrel
       cases gk with
       | zero => exact absurd HA.out (by simp [busbarref1_Split.l0])
       | succ k2 =>
        have H := HA.out
        clear HA
        simp only [busbarref1_Split.l0] at H
        by_cases c11 : x9_2 < a1
        ·
         rw [if_pos c11] at H
         have c11b0 : decide (x9_2 < a1) = true := decide_eq_true c11
         clear c11
         by_cases c12 : a2 = true
         ·
          subst c12
          have H1 : (if 0 ≤ x9_2 then (if x9_2 < (x8_2.length : Int) then (busbarref1_Split.l0 k2 (IntKind.u64.wrap (Int.tdiv x0_2 65536)) a1 true (x8_2.set (x9_2 : Int).toNat (IntKind.u16.wrap (Int.tmod x0_2 65536))) (wrap64 (x9_2 + 1))) else (none)) else (none)) = some (r1, r2) := by rw [if_pos rfl] at H; exact H
          clear H
          have H := H1
          clear H1
          by_cases c13 : 0 ≤ x9_2
          ·
           rw [if_pos c13] at H
           have c13b0 : decide (0 ≤ x9_2) = true := decide_eq_true c13
           clear c13
           by_cases c14 : x9_2 < (x8_2.length : Int)
           ·
            rw [if_pos c14] at H
            have c14b0 : decide (x9_2 < (x8_2.length : Int)) = true := decide_eq_true c14
            clear c14
            obtain ⟨y206, hy206⟩ : ∃ y_ : List Int, y_ = (x8_2.set (x9_2 : Int).toNat (IntKind.u16.wrap (Int.tmod x0_2 65536))) := ⟨_, rfl⟩
            replace H : (busbarref1_Split.l0 k2 (IntKind.u64.wrap (Int.tdiv x0_2 65536)) a1 true y206 (wrap64 (x9_2 + 1))) = some (r1, r2) := by first | (rw [hy206]; with_reducible exact H) | (have H2_ := (Option.bind_some _ _).symm.trans H; rw [hy206]; with_reducible exact H2_) | (have H2_ := (Option.bind_some _ _).symm.trans H; with_reducible exact H2_) | with_reducible exact H | (rw [hy206]; exact H) | exact H
            have Ny206 := Aside0.mk hy206
            clear hy206
            have H' := Aside0.mk H
            clear H
            have p15 : 0 ≤ (x9_2 : Int) := of_decide_eq_true (by first | (with_reducible assumption) | assumption)
            have q15 : (x9_2 : Int) < ((x8_2.length : Int) : Int) := of_decide_eq_true (by first | (with_reducible assumption) | assumption)
            obtain ⟨go15, co15, eo15, gb15, gl15, cl15, HG15⟩ := Kd.R_form HO_8.out (by omega)
            (first | cases eo15 | (injection eo15 with ea_ en_ ec_; (first | subst ea_ | (injection ea_ with ea_; subst ea_)); subst ec_; clear en_))
            have GB15 := Aside0.mk gb15
            have GG15 := Aside0.mk HG15
            clear gb15 gl15 HG15
            obtain ⟨hx15_0, hf15_0⟩ := Kd.R_celln 0 HO_8.out (x9_2 : Int) p15 q15
            replace p15 := eq_true p15
            replace q15 := eq_true q15
            have HP16 := Kd.R_putg HO_8.out (x9_2 : Int) (IntKind.u16.wrap (Int.tmod x0_2 65536))
            go_wp2_with (first | ((with_reducible refine gate_store (t := 22) (p := 35) rfl ?_); refine store_event (t := 22) (p := 35) (v := ?vo_w17) (w1 := (wr.setCell ⟨go15, (x9_2 : Int).toNat, none⟩ (.int .u16 (IntKind.u16.wrap (Int.tmod x0_2 65536))))) ?hg ?ho ?hn ?hr ?_; (case ho => rfl); (case hg => rfl); (case hn => rfl); (case hr => first | (go_simp; done) | (go_simp; rfl)); intro w17 hw; have hg : wr.grownBy w17 (some go15) := (by rw [hw]; exact HP16.2); have hp_ : Kd.R (Kd.int .u16) 22 w17 w.heap.size (fun _ => True) (.slice (some ⟨go15, 0, none⟩) x8_2.length co15) y206 := (by rw [hw, Ny206.out]; exact HP16.1); clear HP16; have n0_ := Aside0.mk (hp_); have n1_ := Aside0.mk ((by rw [hw]; exact below_set (HB.out) GB15.out : Below w.heap.size w w17)); clear HO_8; clear HB; have HO_8 := n0_; have HB := n1_; clear n0_ n1_; clear hg hw hp_))
            go_roundg k2
            case measure => have := HJ3.out; have := HK2.out; omega
            case rel => exact ⟨(IntKind.u64.wrap (Int.tdiv x0_2 65536)), (y206), (wrap64 (x9_2 + 1)), (by first | rfl | (simp; done) | (simp [*]; done)), (by first | rfl | (simp; done) | (simp [*]; done)), H', ⟨by have := HJ3.out; have := HK2.out; omega⟩, ⟨by (with_reducible repeat (first | apply Kd.R_alloc | apply Kd.R_drewN | apply Kd.R_drew)); exact HO_8.out⟩, ⟨by repeat (first | (with_reducible first | exact HB.out | apply below_alloc | apply pw_below_drewN | apply below_drew1) | exact HB.out)⟩⟩
           ·
            rw [if_neg c14] at H
            exact absurd H (by simp)
          ·
           rw [if_neg c13] at H
           exact absurd H (by simp)
         ·
          replace c12 := Bool.eq_false_iff.mpr c12
          subst c12
          have H1 : (if 0 ≤ (wrap64 ((wrap64 (a1 - 1)) - x9_2)) then (if (wrap64 ((wrap64 (a1 - 1)) - x9_2)) < (x8_2.length : Int) then (busbarref1_Split.l0 k2 (IntKind.u64.wrap (Int.tdiv x0_2 65536)) a1 false (x8_2.set ((wrap64 ((wrap64 (a1 - 1)) - x9_2)) : Int).toNat (IntKind.u16.wrap (Int.tmod x0_2 65536))) (wrap64 (x9_2 + 1))) else (none)) else (none)) = some (r1, r2) := by rw [if_neg (show ¬ (false = true) by decide)] at H; exact H
          clear H
          have H := H1
          clear H1
          obtain ⟨ji18, hji18⟩ : ∃ j_ : Int, (wrap64 ((wrap64 (a1 - 1)) - x9_2)) = j_ := ⟨_, rfl⟩
          replace H : (if 0 ≤ (ji18) then (if (ji18) < (x8_2.length : Int) then (busbarref1_Split.l0 k2 (IntKind.u64.wrap (Int.tdiv x0_2 65536)) a1 false (x8_2.set ((ji18) : Int).toNat (IntKind.u16.wrap (Int.tmod x0_2 65536))) (wrap64 (x9_2 + 1))) else (none)) else (none)) = some (r1, r2) := by first | (rw [hji18] at H; exact H) | (simp only [hji18] at H ⊢; exact H)
          have hji18w : (IntKind.i64.wrap ((wrap64 (a1 - 1)) - x9_2)) = ji18 := (i64_w _).trans hji18
          by_cases c19 : 0 ≤ (ji18)
          ·
           rw [if_pos c19] at H
           have c19b0 : decide (0 ≤ (ji18)) = true := decide_eq_true c19
           clear c19
           by_cases c20 : (ji18) < (x8_2.length : Int)
           ·
            rw [if_pos c20] at H
            have c20b0 : decide ((ji18) < (x8_2.length : Int)) = true := decide_eq_true c20
            clear c20
            obtain ⟨y207, hy207⟩ : ∃ y_ : List Int, y_ = (x8_2.set ((ji18) : Int).toNat (IntKind.u16.wrap (Int.tmod x0_2 65536))) := ⟨_, rfl⟩
            replace H : (busbarref1_Split.l0 k2 (IntKind.u64.wrap (Int.tdiv x0_2 65536)) a1 false y207 (wrap64 (x9_2 + 1))) = some (r1, r2) := by first | (rw [hy207]; with_reducible exact H) | (have H2_ := (Option.bind_some _ _).symm.trans H; rw [hy207]; with_reducible exact H2_) | (have H2_ := (Option.bind_some _ _).symm.trans H; with_reducible exact H2_) | with_reducible exact H | (rw [hy207]; exact H) | exact H
            have Ny207 := Aside0.mk hy207
            clear hy207
            have H' := Aside0.mk H
            clear H
            have p21 : 0 ≤ ((ji18) : Int) := of_decide_eq_true (by first | (with_reducible assumption) | assumption)
            have q21 : ((ji18) : Int) < ((x8_2.length : Int) : Int) := of_decide_eq_true (by first | (with_reducible assumption) | assumption)
            obtain ⟨go21, co21, eo21, gb21, gl21, cl21, HG21⟩ := Kd.R_form HO_8.out (by omega)
            (first | cases eo21 | (injection eo21 with ea_ en_ ec_; (first | subst ea_ | (injection ea_ with ea_; subst ea_)); subst ec_; clear en_))
            have GB21 := Aside0.mk gb21
            have GG21 := Aside0.mk HG21
            clear gb21 gl21 HG21
            obtain ⟨hx21_0, hf21_0⟩ := Kd.R_celln 0 HO_8.out ((ji18) : Int) p21 q21
            replace p21 := eq_true p21
            replace q21 := eq_true q21
            have HP22 := Kd.R_putg HO_8.out ((ji18) : Int) (IntKind.u16.wrap (Int.tmod x0_2 65536))
            go_wp2_with (first | ((with_reducible refine gate_store (t := 22) (p := 35) rfl ?_); refine store_event (t := 22) (p := 35) (v := ?vo_w23) (w1 := (wr.setCell ⟨go21, ((ji18) : Int).toNat, none⟩ (.int .u16 (IntKind.u16.wrap (Int.tmod x0_2 65536))))) ?hg ?ho ?hn ?hr ?_; (case ho => rfl); (case hg => rfl); (case hn => rfl); (case hr => first | (go_simp; done) | (go_simp; rfl)); intro w23 hw; have hg : wr.grownBy w23 (some go21) := (by rw [hw]; exact HP22.2); have hp_ : Kd.R (Kd.int .u16) 22 w23 w.heap.size (fun _ => True) (.slice (some ⟨go21, 0, none⟩) x8_2.length co21) y207 := (by rw [hw, Ny207.out]; exact HP22.1); clear HP22; have n0_ := Aside0.mk (hp_); have n1_ := Aside0.mk ((by rw [hw]; exact below_set (HB.out) GB21.out : Below w.heap.size w w23)); clear HO_8; clear HB; have HO_8 := n0_; have HB := n1_; clear n0_ n1_; clear hg hw hp_))
            go_roundg k2
            case measure => have := HJ3.out; have := HK2.out; omega
            case rel => exact ⟨(IntKind.u64.wrap (Int.tdiv x0_2 65536)), (y207), (wrap64 (x9_2 + 1)), (by first | rfl | (simp; done) | (simp [*]; done)), (by first | rfl | (simp; done) | (simp [*]; done)), H', ⟨by have := HJ3.out; have := HK2.out; omega⟩, ⟨by (with_reducible repeat (first | apply Kd.R_alloc | apply Kd.R_drewN | apply Kd.R_drew)); exact HO_8.out⟩, ⟨by repeat (first | (with_reducible first | exact HB.out | apply below_alloc | apply pw_below_drewN | apply below_drew1) | exact HB.out)⟩⟩
           ·
            rw [if_neg c20] at H
            exact absurd H (by simp)
          ·
           rw [if_neg c19] at H
           exact absurd H (by simp)
        ·
         rw [if_neg c11] at H
         have c11b0 : decide (x9_2 < a1) = false := decide_eq_false c11
         clear c11
         by_cases c24 : x0_2 = 0
         ·
          rw [if_pos c24] at H
          have c24b0 : (x0_2 == 0) = true := beq_iff_eq.mpr c24
          have c24b1 : (x0_2 != 0) = false := bne_eq_false_iff_eq.mpr c24
          clear c24
          simp only [Option.some.injEq, Prod.mk.injEq] at H
          obtain ⟨rfl, rfl⟩ := H
          go_wp2
          go_ret2
          exact ⟨_, by first | rfl | (simp [errW_none, errW_some] <;> rfl) | (simp [*, errW_none, errW_some] <;> rfl), by (with_reducible repeat (first | apply Kd.R_alloc | apply Kd.R_drewN | apply Kd.R_drew)); exact HO_8.out, by repeat (first | (with_reducible first | exact HB.out | apply below_alloc | apply pw_below_drewN | apply below_drew1) | exact HB.out)⟩
         ·
          rw [if_neg c24] at H
          have c24b0 : (x0_2 == 0) = false := beq_eq_false_iff_ne.mpr c24
          have c24b1 : (x0_2 != 0) = true := bne_iff_ne.mpr c24
          simp only [Option.some.injEq, Prod.mk.injEq] at H
          obtain ⟨rfl, rfl⟩ := H
          go_wp2
          go_ret2
          exact ⟨_, by first | rfl | (simp [errW_none, errW_some] <;> rfl) | (simp [*, errW_none, errW_some] <;> rfl), by first | exact Kd.R_nil _ _ _ _ _ | exact Kd.N_nil _ _ _ _ _ | exact Kd.V_nil _ _ _ _ _ | exact Kd.Q_nil _ _ _ _ _ | exact Kd.S_nil _ _ _ _ _, by repeat (first | (with_reducible first | exact HB.out | apply below_alloc | apply pw_below_drewN | apply below_drew1) | exact HB.out)⟩
     ·
      rw [if_neg c8] at H
      exact absurd H (by simp)
    ·
     rw [if_neg c7] at H
     exact absurd H (by simp)

end Go.Proofs.Ytkioalfallhegaa.PCtrl
