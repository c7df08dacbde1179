-- written by a program of this session (wip/pp) over the kit's print.py; Lean checks it
import Derived.Test.YtkioalfallhegaaPSpanLx0
import Derived.Test.YtkioalfallhegaaPSpanLx2
namespace Go.Proofs.Ytkioalfallhegaa.PSpanL
open Go.RowKit Go.Proofs.YtkioalfallhegaaW.PrintWords Go.Proofs.YtkioalfallhegaaW.PrintLast Go.Proofs.YtkioalfallhegaaW.PrintMore
attribute [local go_sem] max2_int min2_int max_two min_two max_three min_three max_four min_four plus_setCell_drewN plus_cell_same   -- for this text's walks alone
set_option linter.unusedVariables false
set_option linter.unusedSimpArgs false

/-! ### span_Add: function 33 -/
def span_Add.l0 : Nat → List (S47) → Int → List (S47) → Int → Int → Int → Int → Int → Option ((List (S47)))
 | 0, _, _, _, _, _, _, _, _ => none
 | k + 1, x5, x6, x13, x14, x15, x104000, x104001, x104002 => if x15 < x14 then (if 0 ≤ x15 then (if x15 < (x13.length : Int) then ((span_ahead.f ((rd_T47 x13 x15).f0) ((rd_T47 x13 x15).f1) ((rd_T47 x13 x15).f2) x104000 x104001 x104002).bind fun t124 => (if t124 = true then (if x5.length < 5864062014805 then ((some (x5 ++ [(⟨(rd_T47 x13 x15).f0, (rd_T47 x13 x15).f1, (rd_T47 x13 x15).f2⟩ : S47)] : List (S47))).bind fun y125 => (span_Add.l0 k y125 (y125.length : Int) x13 x14 (wrap64 (x15 + 1)) x104000 x104001 x104002)) else (none)) else ((span_ahead.f x104000 x104001 x104002 ((rd_T47 x13 x15).f0) ((rd_T47 x13 x15).f1) ((rd_T47 x13 x15).f2)).bind fun t128 => (if t128 = true then (if x5.length < 5864062014805 then (span_Add.l0 k (x5 ++ [(⟨(rd_T47 x13 x15).f0, (rd_T47 x13 x15).f1, (rd_T47 x13 x15).f2⟩ : S47)]) x6 x13 x14 (wrap64 (x15 + 1)) x104000 x104001 x104002) else (none)) else (span_Add.l0 k x5 x6 x13 x14 (wrap64 (x15 + 1)) x104000 (mn x104001 ((rd_T47 x13 x15).f1)) (mx x104002 ((rd_T47 x13 x15).f2))))))) else (none)) else (none)) else (if x5.length < 5864062014805 then ((some (x5 ++ [(⟨x104000, x104001, x104002⟩ : S47)] : List (S47))).bind fun y107 => (if 0 ≤ (wrap64 (x6 + 1)) then (if (wrap64 (x6 + 1)) ≤ (y107.length : Int) then (if 0 ≤ x6 then (if x6 ≤ (y107.length : Int) then ((some (y107.drop (x6 : Int).toNat : List (S47))).bind fun y114 => ((some (Kd.laid y107 ((x6 : Int).toNat + 1) (min y114.length (y107.drop ((wrap64 (x6 + 1)) : Int).toNat).length) y114 : List (S47))).bind fun y118 => (if x6 < (y118.length : Int) then (some (y118.set (x6 : Int).toNat (⟨x104000, x104001, x104002⟩ : S47))) else (none)))) else (none)) else (none)) else (none)) else (none))) else (none))
def span_Add.f (k : Nat) (l0 : List (S47)) (a1_0 : Int) (a1_1 : Int) (a1_2 : Int) : Option ((List (S47))) := if 0 ≤ (wrap64 ((l0.length : Int) + 1)) then (if (wrap64 ((l0.length : Int) + 1) : Int).toNat ≤ 11728124029610 then (span_Add.l0 k (List.replicate 0 z47) 0 l0 (l0.length : Int) 0 a1_0 a1_1 a1_2) else (none)) else (none)
theorem span_Add.mono_l : ∀ k, (∀ y0 y1 y2 y3 y4 y5 y6 y7, LeO (span_Add.l0 k y0 y1 y2 y3 y4 y5 y6 y7) (span_Add.l0 (k + 1) y0 y1 y2 y3 y4 y5 y6 y7))
 | 0 => fun _ _ _ _ _ _ _ _ r h => by simp [span_Add.l0] at h
 | k + 1 => by
  have ih0 := span_Add.mono_l k
  ·
   intro y0 y1 y2 y3 y4 y5 y6 y7
   unfold span_Add.l0
   repeat' first
   | (with_reducible exact ih0 _ _ _ _ _ _ _ _)
   | (with_reducible exact LeO.refl _)
   | (with_reducible exact LeO.none _)
   | (with_reducible refine LeO.ite ?_ ?_)
   | (with_reducible refine LeO.bind ?_ (fun _ => ?_))
   | exact ih0 _ _ _ _ _ _ _ _
   | exact LeO.none _
   | refine LeO.ite ?_ ?_
   | refine LeO.bind ?_ (fun _ => ?_)
theorem span_Add.mono : ∀ a0 a1 a2 a3 k, LeO (span_Add.f k a0 a1 a2 a3) (span_Add.f (k + 1) a0 a1 a2 a3) := by
 intro a0 a1 a2 a3 k
 have ih0 := span_Add.mono_l k
 unfold span_Add.f
 repeat' first
   | (with_reducible exact ih0 _ _ _ _ _ _ _ _)
   | (with_reducible exact LeO.refl _)
   | (with_reducible exact LeO.none _)
   | (with_reducible refine LeO.ite ?_ ?_)
   | (with_reducible refine LeO.bind ?_ (fun _ => ?_))
   | exact ih0 _ _ _ _ _ _ _ _
   | exact LeO.none _
   | refine LeO.ite ?_ ?_
   | refine LeO.bind ?_ (fun _ => ?_)
def span_Add.T14 : Bool × List (List Nat × List Nat) := (true, [([], []), ([], []), ([1], [1]), ([0, 2], [0, 2]), ([], []), ([], []), ([4, 5], [4, 5]), ([3, 6], [3, 6])])
def span_Add.B14 : List Nat := [0, 0, 2, 7, 0, 0, 48, 127]
theorem span_Add.tab14 : rtab .any (opsOf Try.f33 14) = span_Add.T14 := by kernel_rfl
theorem span_Add.bits14 : waitsOk span_Add.T14.2 span_Add.B14 = true := by kernel_rfl
set_option maxHeartbeats 8000000 in
set_option maxRecDepth 100000 in
theorem span_Add.calls (k : Nat) (A0 : Option Addr) (c0 : Nat) (l0 : List (S47)) (a1_0 : Int) (a1_1 : Int) (a1_2 : Int) (r : List (S47)) (w : World) (hr0 : Kd.C k47 w A0 l0.length l0) (hc0 : l0.length ≤ c0) (h : span_Add.f k l0 a1_0 a1_1 a1_2 = some r) :
  Calls Try.prog 33 #[.slice A0 l0.length c0, .agg #[.int .i64 a1_0, .int .i64 a1_1, .int .i64 a1_2]] w fun e w' => ∃ v0_ : Value, e = .returned (v0_) ∧ Kd.R k47 47 w' w.heap.size (fun _ => True) v0_ r ∧ Below w.heap.size w w' := by
 have hu47 := Try.underlying47
 have HR0 := Aside0.mk hr0
 have HC0 := Aside0.mk hc0
 clear hr0 hc0
 have HB := Aside0.mk (Below.refl w.heap.size w)
 have H : (if 0 ≤ (wrap64 ((l0.length : Int) + 1)) then (if (wrap64 ((l0.length : Int) + 1) : Int).toNat ≤ 11728124029610 then (span_Add.l0 k (List.replicate 0 z47) 0 l0 (l0.length : Int) 0 a1_0 a1_1 a1_2) else (none)) else (none)) = some r := h
 clear h
 obtain ⟨ji3, hji3⟩ : ∃ j_ : Int, (wrap64 ((l0.length : Int) + 1)) = j_ := ⟨_, rfl⟩
 replace H : (if 0 ≤ (ji3) then (if (ji3 : Int).toNat ≤ 11728124029610 then (span_Add.l0 k (List.replicate 0 z47) 0 l0 (l0.length : Int) 0 a1_0 a1_1 a1_2) else (none)) else (none)) = some r := by first | (rw [hji3] at H; exact H) | (simp only [hji3] at H ⊢; exact H)
 have hji3w : (IntKind.i64.wrap ((l0.length : Int) + 1)) = ji3 := (i64_w _).trans hji3
 by_cases c4 : 0 ≤ (ji3)
 ·
  rw [if_pos c4] at H
  have c4b0 := eq_true c4
  have c4b1 : decide (0 ≤ (ji3)) = true := decide_eq_true c4
  clear c4
  by_cases c5 : (ji3 : Int).toNat ≤ 11728124029610
  ·
   rw [if_pos c5] at H
   have c5b0 := eq_true c5
   have c5b1 : decide ((ji3 : Int).toNat ≤ 11728124029610) = true := decide_eq_true c5
   clear c5
   obtain ⟨y104, hy104⟩ : ∃ y_ : List (S47), y_ = (List.replicate 0 z47) := ⟨_, rfl⟩
   replace H : (span_Add.l0 k y104 0 l0 (l0.length : Int) 0 a1_0 a1_1 a1_2) = some r := by first | (rw [hy104]; with_reducible exact H) | (have H2_ := (Option.bind_some _ _).symm.trans H; rw [hy104]; with_reducible exact H2_) | (have H2_ := (Option.bind_some _ _).symm.trans H; with_reducible exact H2_) | with_reducible exact H | (rw [hy104]; exact H) | exact H
   have Ny104 := Aside0.mk hy104
   clear hy104
   have H' := Aside0.mk H
   clear H
   go_enter Try.func33, Try.ntmps33
   go_wp2_with (first | ((with_reducible refine gate_dst (N := 3) rfl ?_); refine box_event ?hg (N := 3) ?hd (cs := #[.int .i64 a1_0, .int .i64 a1_1, .int .i64 a1_2]) (t := 47) ?hr ?_; (case hd => rfl); (case hg => rfl); (case hr => first | (go_simp; done) | (go_simp; rfl)); intro gb103 hg w6 hbox hb; have n0_ := Aside0.mk (below_step (by repeat (first | (with_reducible first | exact HB.out | apply below_alloc | apply pw_below_drewN | apply below_drew1) | exact HB.out)) hb); have n1_ := Aside0.mk (hbox); have n2_ := Aside0.mk ((by rw [hg]; exact (below_size (by repeat (first | (with_reducible first | exact HB.out | apply below_alloc | apply pw_below_drewN | apply below_drew1) | exact HB.out))) : w.heap.size ≤ gb103)); have n3_ := Aside0.mk ((by rw [hg]; exact (below_size (by repeat (first | (with_reducible first | exact HB.out | apply below_alloc | apply pw_below_drewN | apply below_drew1) | exact HB.out))) : w.heap.size ≤ gb103)); clear HB; have HB := n0_; have BK103 := n1_; have GW103 := n2_; have GE103 := n3_; clear n0_ n1_ n2_ n3_; clear hb hbox hg) | ((with_reducible refine gate_dst (N := 12) rfl ?_); refine Kd.R_make0 k47 _ 47 rfl (N := 12) rfl 48 _ _ rfl ji3 rfl rfl Try.underlying48 (.agg #[(.int .i64 0), (.int .i64 0), (.int .i64 0)]) 24 info47 rfl (by decide) (by omega) z47 (ok := fun _ => True) (okp := fun _ => True) (k47_mkM _ _ _ z47 ) (fun _ hk => hk) trivial (of_decide_eq_true (by first | (with_reducible assumption) | assumption)) (Nat.le_trans (Nat.mul_le_mul_right _ (of_decide_eq_true (by first | (with_reducible assumption) | assumption) : ji3.toNat ≤ 11728124029610)) (by omega)) (Below.refl _ _) (Nat.le_refl _) ?_; intro v105 w7 ho8 hb hg_ hnew_; clear hg_ hnew_; (first | rw [← Ny104.out] at ho8 | (simp only [Int.reduceToNat] at ho8; rw [← Ny104.out] at ho8)); have n0_ := Aside0.mk (Kd.R_lower (Kd.R_newB ho8 (g := gb103) (o := .cells #[.int .i64 a1_0, .int .i64 a1_1, .int .i64 a1_2] 47 (0, 0)) (by (with_reducible repeat (first | refine blk_drewN ?_ _ | refine blk_drew ?_ | refine blk_alloc ?_ _)); exact BK103.out)) (below_size (by repeat (first | (with_reducible first | exact HB.out | apply below_alloc | apply pw_below_drewN | apply below_drew1 | refine below_set ?_ GE103.out) | exact HB.out)))); have n1_ := Aside0.mk (blk_below (g := gb103) (o := .cells #[.int .i64 a1_0, .int .i64 a1_1, .int .i64 a1_2] 47 (0, 0)) (by (with_reducible repeat (first | refine blk_drewN ?_ _ | refine blk_drew ?_ | refine blk_alloc ?_ _)); exact BK103.out) hb); have n2_ := Aside0.mk (below_step (by repeat (first | (with_reducible first | exact HB.out | apply below_alloc | apply pw_below_drewN | apply below_drew1 | refine below_set ?_ GE103.out) | exact HB.out)) hb); clear BK103; clear HB; have HO106 := n0_; have BK103 := n1_; have HB := n2_; clear n0_ n1_ n2_; clear hb ho8))
   go_loopg [5, 6, 15] k (fun kq v5 v6 v15 w' => ∃ (x5_1 : List (S47)) (x6_1 : Int) (x15_1 : Int) (x104001_1 : Int) (x104002_1 : Int), v6 = .int .i64 x6_1 ∧ v15 = .int .i64 x15_1 ∧ Aside0 (span_Add.l0 kq x5_1 x6_1 l0 (l0.length : Int) x15_1 a1_0 x104001_1 x104002_1 = some r) ∧ Aside0 (kq ≤ k) ∧ Aside0 (Kd.R k47 47 w' w.heap.size (fun k_ => k_ ≠ gb103) v5 x5_1) ∧ Aside0 (w'.heap[gb103]? = some (.cells #[.int .i64 a1_0, .int .i64 x104001_1, .int .i64 x104002_1] 47 (0, 0))) ∧ Aside0 (Below w.heap.size w w'))
   case atStart => exact ⟨(y104), (0), (0), (a1_1), (a1_2), (by first | rfl | (simp; done) | (simp [*]; done)), (by first | rfl | (simp; done) | (simp [*]; done)), H', ⟨Nat.le_refl _⟩, ⟨by (with_reducible repeat (first | apply Kd.R_alloc | apply Kd.R_drewN | apply Kd.R_drew)); exact Kd.R_mono HO106.out (fun _ hk => by first | exact hk.2 | exact hk)⟩, ⟨by (with_reducible repeat (first | refine blk_drewN ?_ _ | refine blk_drew ?_ | refine blk_alloc ?_ _)); exact BK103.out⟩, ⟨by repeat (first | (with_reducible first | exact HB.out | apply below_alloc | apply pw_below_drewN | apply below_drew1 | refine below_set ?_ GE103.out) | exact HB.out)⟩⟩
   case round =>
    clear H'
    try clear p2
    try clear c3
    try clear c4
    try clear c4b0
    try clear c4b1
    try clear c5
    try clear c5b0
    try clear c5b1
    try clear p6
    obtain ⟨x5_1, x6_1, x15_1, x104001_1, x104002_1, rfl, rfl, HA, HK1, HO_5, BK103, HB⟩ := hrel
    cases gk with
    | zero => exact absurd HA.out (by simp [span_Add.l0])
    | succ k1 =>
     have H := HA.out
     clear HA
     simp only [span_Add.l0] at H
     by_cases c9 : x15_1 < (l0.length : Int)
     ·
      rw [if_pos c9] at H
      have c9b0 : decide (x15_1 < (l0.length : Int)) = true := decide_eq_true c9
      clear c9
      by_cases c10 : 0 ≤ x15_1
      ·
       rw [if_pos c10] at H
       have c10b0 : decide (0 ≤ x15_1) = true := decide_eq_true c10
       clear c10
       by_cases c11 : x15_1 < (l0.length : Int)
       ·
        rw [if_pos c11] at H
        have c11b0 : decide (x15_1 < (l0.length : Int)) = true := decide_eq_true c11
        clear c11
        replace H := Option.bind_eq_some_iff.mp H
        obtain ⟨t124, A120, H⟩ := H
        replace H : (if t124 = true then (if x5_1.length < 5864062014805 then ((some (x5_1 ++ [(⟨(rd_T47 l0 x15_1).f0, (rd_T47 l0 x15_1).f1, (rd_T47 l0 x15_1).f2⟩ : S47)] : List (S47))).bind fun y125 => (span_Add.l0 k1 y125 (y125.length : Int) l0 (l0.length : Int) (wrap64 (x15_1 + 1)) a1_0 x104001_1 x104002_1)) else (none)) else ((span_ahead.f a1_0 x104001_1 x104002_1 ((rd_T47 l0 x15_1).f0) ((rd_T47 l0 x15_1).f1) ((rd_T47 l0 x15_1).f2)).bind fun t128 => (if t128 = true then (if x5_1.length < 5864062014805 then (span_Add.l0 k1 (x5_1 ++ [(⟨(rd_T47 l0 x15_1).f0, (rd_T47 l0 x15_1).f1, (rd_T47 l0 x15_1).f2⟩ : S47)]) x6_1 l0 (l0.length : Int) (wrap64 (x15_1 + 1)) a1_0 x104001_1 x104002_1) else (none)) else (span_Add.l0 k1 x5_1 x6_1 l0 (l0.length : Int) (wrap64 (x15_1 + 1)) a1_0 (mn x104001_1 ((rd_T47 l0 x15_1).f1)) (mx x104002_1 ((rd_T47 l0 x15_1).f2)))))) = some r := H
        have A12 := Aside0.mk A120
        clear A120
        by_cases c13 : t124 = true
        ·
         subst c13
         have H1 : (if x5_1.length < 5864062014805 then ((some (x5_1 ++ [(⟨(rd_T47 l0 x15_1).f0, (rd_T47 l0 x15_1).f1, (rd_T47 l0 x15_1).f2⟩ : S47)] : List (S47))).bind fun y125 => (span_Add.l0 k1 y125 (y125.length : Int) l0 (l0.length : Int) (wrap64 (x15_1 + 1)) a1_0 x104001_1 x104002_1)) else (none)) = some r := by rw [if_pos rfl] at H; exact H
         clear H
         have H := H1
         clear H1
         by_cases c14 : x5_1.length < 5864062014805
         ·
          rw [if_pos c14] at H
          have LMc14 := Aside0.mk c14
          clear c14
          obtain ⟨y125, hy125⟩ : ∃ y_ : List (S47), y_ = (x5_1 ++ [(⟨(rd_T47 l0 x15_1).f0, (rd_T47 l0 x15_1).f1, (rd_T47 l0 x15_1).f2⟩ : S47)]) := ⟨_, rfl⟩
          replace H : (span_Add.l0 k1 y125 (y125.length : Int) l0 (l0.length : Int) (wrap64 (x15_1 + 1)) a1_0 x104001_1 x104002_1) = some r := by first | (rw [hy125]; with_reducible exact H) | (have H2_ := (Option.bind_some _ _).symm.trans H; rw [hy125]; with_reducible exact H2_) | (have H2_ := (Option.bind_some _ _).symm.trans H; with_reducible exact H2_) | with_reducible exact H | (rw [hy125]; exact H) | exact H
          have Ny125 := Aside0.mk hy125
          clear hy125
          have H' := Aside0.mk H
          clear H
          have p122 : 0 ≤ (x15_1 : Int) := of_decide_eq_true (by first | (with_reducible assumption) | assumption)
          have q122 : x15_1 < (l0.length : Int) := of_decide_eq_true (by first | (with_reducible assumption) | assumption)
          obtain ⟨ad122, e122, hx122_0, hx122_1, hx122_2⟩ := at_T47 HR0.out x15_1 p122 q122
          cases e122
          replace hx122_0 := (HB.out.cell (World.block_lt_of_cell? w _ hx122_0)).trans hx122_0
          replace hx122_1 := (HB.out.cell (World.block_lt_of_cell? w _ hx122_1)).trans hx122_1
          replace hx122_2 := (HB.out.cell (World.block_lt_of_cell? w _ hx122_2)).trans hx122_2
          replace p122 := eq_true p122
          replace q122 := eq_true q122
          go_wp2_with (first | ((with_reducible refine gate_dst (N := 8) rfl ?_); refine box_event ?hg (N := 8) ?hd (cs := #[.int .i64 0, .int .i64 0, .int .i64 0]) (t := 47) ?hr ?_; (case hd => rfl); (case hg => rfl); (case hr => first | (go_simp; done) | (go_simp; rfl)); intro gb123 hg w15 hbox hb; have n0_ := Aside0.mk (Kd.R_below (Kd.R_elderB (by (with_reducible repeat (first | apply Kd.R_alloc | apply Kd.R_drewN | apply Kd.R_drew)); exact HO_5.out) gb123 (Nat.le_of_eq hg.symm)) hb); have n1_ := Aside0.mk (blk_below (g := gb103) (o := .cells #[.int .i64 a1_0, .int .i64 x104001_1, .int .i64 x104002_1] 47 (0, 0)) (by (with_reducible repeat (first | refine blk_drewN ?_ _ | refine blk_drew ?_ | refine blk_alloc ?_ _)); exact BK103.out) hb); have n2_ := Aside0.mk (below_step (by repeat (first | (with_reducible first | exact HB.out | apply below_alloc | apply pw_below_drewN | apply below_drew1 | refine below_set ?_ GE103.out) | exact HB.out)) hb); have n3_ := Aside0.mk (hbox); have n4_ := Aside0.mk ((by rw [hg]; exact (below_size (by repeat (first | (with_reducible first | exact HB.out | apply below_alloc | apply pw_below_drewN | apply below_drew1 | refine below_set ?_ GE103.out) | exact HB.out))) : w.heap.size ≤ gb123)); have n5_ := Aside0.mk ((by rw [hg]; exact (below_size (by repeat (first | (with_reducible first | exact HB.out | apply below_alloc | apply pw_below_drewN | apply below_drew1 | refine below_set ?_ GE103.out) | exact HB.out))) : w.heap.size ≤ gb123)); have n6_ := Aside0.mk ((by rw [hg]; exact Nat.ne_of_lt (blk_lt (g := gb103) (o := .cells #[.int .i64 a1_0, .int .i64 x104001_1, .int .i64 x104002_1] 47 (0, 0)) (by (with_reducible repeat (first | refine blk_drewN ?_ _ | refine blk_drew ?_ | refine blk_alloc ?_ _)); exact BK103.out)) : gb103 ≠ gb123)); have n7_ := Aside0.mk ((by rw [hg]; exact Nat.ne_of_gt (blk_lt (g := gb103) (o := .cells #[.int .i64 a1_0, .int .i64 x104001_1, .int .i64 x104002_1] 47 (0, 0)) (by (with_reducible repeat (first | refine blk_drewN ?_ _ | refine blk_drew ?_ | refine blk_alloc ?_ _)); exact BK103.out)) : gb123 ≠ gb103)); clear HO_5; clear BK103; clear HB; have HO_5 := n0_; have BK103 := n1_; have HB := n2_; have BK123 := n3_; have GW123 := n4_; have GE123 := n5_; have NB103_123 := n6_; have NB123_103 := n7_; clear n0_ n1_ n2_ n3_ n4_ n5_ n6_ n7_; clear hb hbox hg; have hnb16 := NB123_103.out; have hnc16 := NB103_123.out; have hcz17_0 : w15.cell? ⟨gb123, 0, none⟩ = some (.int .i64 0) := (blk_cell BK123.out 0).trans rfl; have hcz17_1 : w15.cell? ⟨gb123, 1, none⟩ = some (.int .i64 0) := (blk_cell BK123.out 1).trans rfl; have hcz17_2 : w15.cell? ⟨gb123, 2, none⟩ = some (.int .i64 0) := (blk_cell BK123.out 2).trans rfl; have hfz17_0 := blk_frozen BK123.out 0; have hfz17_1 := blk_frozen BK123.out 1; have hfz17_2 := blk_frozen BK123.out 2; have hcz18_0 : w15.cell? ⟨gb103, 0, none⟩ = some (.int .i64 a1_0) := (blk_cell BK103.out 0).trans rfl; have hcz18_1 : w15.cell? ⟨gb103, 1, none⟩ = some (.int .i64 x104001_1) := (blk_cell BK103.out 1).trans rfl; have hcz18_2 : w15.cell? ⟨gb103, 2, none⟩ = some (.int .i64 x104002_1) := (blk_cell BK103.out 2).trans rfl; have hfz18_0 := blk_frozen BK103.out 0; have hfz18_1 := blk_frozen BK103.out 1; have hfz18_2 := blk_frozen BK103.out 2) | ((with_reducible refine gate_callee (f := 52) rfl ?_); refine goesL_ (some 34) rfl rfl Try.func52 (by kernel_rfl) rfl #[.agg #[.int .i64 ((rd_T47 l0 x15_1).f0), .int .i64 ((rd_T47 l0 x15_1).f1), .int .i64 ((rd_T47 l0 x15_1).f2)], .agg #[.int .i64 a1_0, .int .i64 x104001_1, .int .i64 x104002_1]] rfl (by (try simp only [List.map_toArray, List.map_cons, List.map_nil]); first | done | rfl | (simp only [List.length_drop, List.length_take]; rfl)) ?_; (with_reducible refine (span_ahead.calls ((rd_T47 l0 x15_1).f0) ((rd_T47 l0 x15_1).f1) ((rd_T47 l0 x15_1).f2) a1_0 x104001_1 x104002_1 true _ A12.out).mono ?_); rintro e w19 ⟨rfl, hb⟩; refine ⟨_, rfl, ?_⟩; have n0_ := Aside0.mk (Kd.R_below (by (with_reducible repeat (first | apply Kd.R_alloc | apply Kd.R_drewN | apply Kd.R_drew)); exact (Kd.R_mono (Kd.R_far (p := ⟨gb123, 2, none⟩) (Kd.R_far (p := ⟨gb123, 1, none⟩) (Kd.R_far (p := ⟨gb123, 0, none⟩) (Kd.R_mono HO_5.out (fun k_ hk => (⟨hk, hk.2⟩ : _ ∧ k_ ≠ gb123))) (fun _ hk => hk.2) (.int .i64 ((rd_T47 l0 x15_1).f0))) (fun _ hk => hk.2) (.int .i64 ((rd_T47 l0 x15_1).f1))) (fun _ hk => hk.2) (.int .i64 ((rd_T47 l0 x15_1).f2))) (fun _ h_ => h_.1))) hb); have n1_ := Aside0.mk (blk_below (g := gb103) (o := .cells #[.int .i64 a1_0, .int .i64 x104001_1, .int .i64 x104002_1] 47 (0, 0)) (by (with_reducible repeat (first | refine blk_drewN ?_ _ | refine blk_drew ?_ | refine blk_alloc ?_ _)); refine blk_far ?_ NB103_123.out _; (with_reducible repeat (first | refine blk_drewN ?_ _ | refine blk_drew ?_ | refine blk_alloc ?_ _)); refine blk_far ?_ NB103_123.out _; (with_reducible repeat (first | refine blk_drewN ?_ _ | refine blk_drew ?_ | refine blk_alloc ?_ _)); refine blk_far ?_ NB103_123.out _; (with_reducible repeat (first | refine blk_drewN ?_ _ | refine blk_drew ?_ | refine blk_alloc ?_ _)); exact BK103.out) hb); have n2_ := Aside0.mk (blk_below (g := gb123) (o := .cells #[.int .i64 ((rd_T47 l0 x15_1).f0), .int .i64 ((rd_T47 l0 x15_1).f1), .int .i64 ((rd_T47 l0 x15_1).f2)] 47 (0, 0)) (by (with_reducible repeat (first | refine blk_drewN ?_ _ | refine blk_drew ?_ | refine blk_alloc ?_ _)); refine blk_put (cs := #[.int .i64 ((rd_T47 l0 x15_1).f0), .int .i64 ((rd_T47 l0 x15_1).f1), .int .i64 0]) ?_ 2 _ rfl; (with_reducible repeat (first | refine blk_drewN ?_ _ | refine blk_drew ?_ | refine blk_alloc ?_ _)); refine blk_put (cs := #[.int .i64 ((rd_T47 l0 x15_1).f0), .int .i64 0, .int .i64 0]) ?_ 1 _ rfl; (with_reducible repeat (first | refine blk_drewN ?_ _ | refine blk_drew ?_ | refine blk_alloc ?_ _)); refine blk_put (cs := #[.int .i64 0, .int .i64 0, .int .i64 0]) ?_ 0 _ rfl; (with_reducible repeat (first | refine blk_drewN ?_ _ | refine blk_drew ?_ | refine blk_alloc ?_ _)); exact BK123.out) hb); have n3_ := Aside0.mk (below_step (by repeat (first | (with_reducible first | exact HB.out | apply below_alloc | apply pw_below_drewN | apply below_drew1 | refine below_set ?_ GE103.out | refine below_set ?_ GE123.out) | exact HB.out)) hb); clear HO_5; clear BK103; clear BK123; clear HB; have HO_5 := n0_; have BK103 := n1_; have BK123 := n2_; have HB := n3_; clear n0_ n1_ n2_ n3_; (try clear hb); (try clear hb2); (try clear hk); (try clear hi); have hcz20_0 : w19.cell? ⟨gb123, 0, none⟩ = some (.int .i64 ((rd_T47 l0 x15_1).f0)) := (blk_cell BK123.out 0).trans rfl; have hcz20_1 : w19.cell? ⟨gb123, 1, none⟩ = some (.int .i64 ((rd_T47 l0 x15_1).f1)) := (blk_cell BK123.out 1).trans rfl; have hcz20_2 : w19.cell? ⟨gb123, 2, none⟩ = some (.int .i64 ((rd_T47 l0 x15_1).f2)) := (blk_cell BK123.out 2).trans rfl; have hfz20_0 := blk_frozen BK123.out 0; have hfz20_1 := blk_frozen BK123.out 1; have hfz20_2 := blk_frozen BK123.out 2) | ((with_reducible refine gate_builtin (b := .append) (xs := #[.tmp 35, .tmp 37]) rfl ?_); at_builtin; refine Kd.R_append k47 (w0 := w) w.heap.size rfl (.tmp 35) (.tmp 37) 48 47 (.agg #[(.int .i64 0), (.int .i64 0), (.int .i64 0)]) 24 rfl Try.underlying48 info47 rfl (by decide) (by omega) u5 x5_1 (⟨(rd_T47 l0 x15_1).f0, (rd_T47 l0 x15_1).f1, (rd_T47 l0 x15_1).f2⟩ : S47) [.int .i64 ((rd_T47 l0 x15_1).f0), .int .i64 ((rd_T47 l0 x15_1).f1), .int .i64 ((rd_T47 l0 x15_1).f2)] (fun k_ => k_ ≠ gb103 ∧ k_ ≠ gb123) (fun _ => False) rfl rfl ?aP (fun _ hk => hk.elim) ?aF ?aO ?aB ?aS ?aL ?_; (case aP => exact k47_mkM _ _ _ (⟨(rd_T47 l0 x15_1).f0, (rd_T47 l0 x15_1).f1, (rd_T47 l0 x15_1).f2⟩ : S47)); (case aB => exact (by repeat (first | (with_reducible first | exact HB.out | apply below_alloc | apply pw_below_drewN | apply below_drew1 | refine below_set ?_ GE103.out | refine below_set ?_ GE123.out) | exact HB.out))); (case aF => exact (fun k_ hk => ⟨Kd.freshB (g := gb103) (o := .cells #[.int .i64 a1_0, .int .i64 x104001_1, .int .i64 x104002_1] 47 (0, 0)) (by (with_reducible repeat (first | refine blk_drewN ?_ _ | refine blk_drew ?_ | refine blk_alloc ?_ _)); exact BK103.out) k_ hk, Kd.freshB (g := gb123) (o := .cells #[.int .i64 ((rd_T47 l0 x15_1).f0), .int .i64 ((rd_T47 l0 x15_1).f1), .int .i64 ((rd_T47 l0 x15_1).f2)] 47 (0, 0)) (by (with_reducible repeat (first | refine blk_drewN ?_ _ | refine blk_drew ?_ | refine blk_alloc ?_ _)); exact BK123.out) k_ hk⟩)); (case aO => exact (by (with_reducible repeat (first | apply Kd.R_alloc | apply Kd.R_drewN | apply Kd.R_drew)); exact HO_5.out)); (case aS => exact (below_size (by repeat (first | (with_reducible first | exact HB.out | apply below_alloc | apply pw_below_drewN | apply below_drew1 | refine below_set ?_ GE103.out | refine below_set ?_ GE123.out) | exact HB.out)))); (case aL => have := LMc14.out; omega); intro v126 w21 ho hb hg hat; rw [← Ny125.out] at ho; have n0_ := Aside0.mk (blk_grown (g := gb103) (o := .cells #[.int .i64 a1_0, .int .i64 x104001_1, .int .i64 x104002_1] 47 (0, 0)) (by (with_reducible repeat (first | refine blk_drewN ?_ _ | refine blk_drew ?_ | refine blk_alloc ?_ _)); exact BK103.out) hg (Kd.R_away HO_5.out (fun _ hk => hk.1))); have n1_ := Aside0.mk (blk_grown (g := gb123) (o := .cells #[.int .i64 ((rd_T47 l0 x15_1).f0), .int .i64 ((rd_T47 l0 x15_1).f1), .int .i64 ((rd_T47 l0 x15_1).f2)] 47 (0, 0)) (by (with_reducible repeat (first | refine blk_drewN ?_ _ | refine blk_drew ?_ | refine blk_alloc ?_ _)); exact BK123.out) hg (Kd.R_away HO_5.out (fun _ hk => hk.2))); have n2_ := Aside0.mk (hb); have n3_ := Aside0.mk (ho); clear BK103; clear BK123; clear HB; clear HO_5; have BK103 := n0_; have BK123 := n1_; have HB := n2_; have HO127 := n3_; clear n0_ n1_ n2_ n3_; clear ho hb hg hat; obtain ⟨Ao22, co22, eo22⟩ := Kd.R_slice HO127.out; subst eo22))
          go_roundg k1
          case measure => have := HK1.out; omega
          case rel => exact ⟨(y125), ((y125.length : Int)), (wrap64 (x15_1 + 1)), (x104001_1), (x104002_1), (by first | rfl | (simp; done) | (simp [*]; done)), (by first | rfl | (simp; done) | (simp [*]; done)), H', ⟨by have := HK1.out; omega⟩, ⟨by (with_reducible repeat (first | apply Kd.R_alloc | apply Kd.R_drewN | apply Kd.R_drew)); exact Kd.R_mono HO127.out (fun _ hk => by first | exact hk.1 | exact hk)⟩, ⟨by (with_reducible repeat (first | refine blk_drewN ?_ _ | refine blk_drew ?_ | refine blk_alloc ?_ _)); exact BK103.out⟩, ⟨by repeat (first | (with_reducible first | exact HB.out | apply below_alloc | apply pw_below_drewN | apply below_drew1 | refine below_set ?_ GE103.out | refine below_set ?_ GE123.out) | exact HB.out)⟩⟩
         ·
          rw [if_neg c14] at H
          exact absurd H (by simp)
        ·
         replace c13 := Bool.eq_false_iff.mpr c13
         subst c13
         have H1 : ((span_ahead.f a1_0 x104001_1 x104002_1 ((rd_T47 l0 x15_1).f0) ((rd_T47 l0 x15_1).f1) ((rd_T47 l0 x15_1).f2)).bind fun t128 => (if t128 = true then (if x5_1.length < 5864062014805 then (span_Add.l0 k1 (x5_1 ++ [(⟨(rd_T47 l0 x15_1).f0, (rd_T47 l0 x15_1).f1, (rd_T47 l0 x15_1).f2⟩ : S47)]) x6_1 l0 (l0.length : Int) (wrap64 (x15_1 + 1)) a1_0 x104001_1 x104002_1) else (none)) else (span_Add.l0 k1 x5_1 x6_1 l0 (l0.length : Int) (wrap64 (x15_1 + 1)) a1_0 (mn x104001_1 ((rd_T47 l0 x15_1).f1)) (mx x104002_1 ((rd_T47 l0 x15_1).f2))))) = some r := by rw [if_neg (show ¬ (false = true) by decide)] at H; exact H
         clear H
         have H := H1
         clear H1
         replace H := Option.bind_eq_some_iff.mp H
         obtain ⟨t128, A230, H⟩ := H
         replace H : (if t128 = true then (if x5_1.length < 5864062014805 then (span_Add.l0 k1 (x5_1 ++ [(⟨(rd_T47 l0 x15_1).f0, (rd_T47 l0 x15_1).f1, (rd_T47 l0 x15_1).f2⟩ : S47)]) x6_1 l0 (l0.length : Int) (wrap64 (x15_1 + 1)) a1_0 x104001_1 x104002_1) else (none)) else (span_Add.l0 k1 x5_1 x6_1 l0 (l0.length : Int) (wrap64 (x15_1 + 1)) a1_0 (mn x104001_1 ((rd_T47 l0 x15_1).f1)) (mx x104002_1 ((rd_T47 l0 x15_1).f2)))) = some r := H
         have A23 := Aside0.mk A230
         clear A230
         by_cases c24 : t128 = true
         ·
          subst c24
          have H1 : (if x5_1.length < 5864062014805 then (span_Add.l0 k1 (x5_1 ++ [(⟨(rd_T47 l0 x15_1).f0, (rd_T47 l0 x15_1).f1, (rd_T47 l0 x15_1).f2⟩ : S47)]) x6_1 l0 (l0.length : Int) (wrap64 (x15_1 + 1)) a1_0 x104001_1 x104002_1) else (none)) = some r := by rw [if_pos rfl] at H; exact H
          clear H
          have H := H1
          clear H1
          by_cases c25 : x5_1.length < 5864062014805
          ·
           rw [if_pos c25] at H
           have LMc25 := Aside0.mk c25
           clear c25
           obtain ⟨y129, hy129⟩ : ∃ y_ : List (S47), y_ = (x5_1 ++ [(⟨(rd_T47 l0 x15_1).f0, (rd_T47 l0 x15_1).f1, (rd_T47 l0 x15_1).f2⟩ : S47)]) := ⟨_, rfl⟩
           replace H : (span_Add.l0 k1 y129 x6_1 l0 (l0.length : Int) (wrap64 (x15_1 + 1)) a1_0 x104001_1 x104002_1) = some r := by first | (rw [hy129]; with_reducible exact H) | (have H2_ := (Option.bind_some _ _).symm.trans H; rw [hy129]; with_reducible exact H2_) | (have H2_ := (Option.bind_some _ _).symm.trans H; with_reducible exact H2_) | with_reducible exact H | (rw [hy129]; exact H) | exact H
           have Ny129 := Aside0.mk hy129
           clear hy129
           have H' := Aside0.mk H
           clear H
           have p122 : 0 ≤ (x15_1 : Int) := of_decide_eq_true (by first | (with_reducible assumption) | assumption)
           have q122 : x15_1 < (l0.length : Int) := of_decide_eq_true (by first | (with_reducible assumption) | assumption)
           obtain ⟨ad122, e122, hx122_0, hx122_1, hx122_2⟩ := at_T47 HR0.out x15_1 p122 q122
           cases e122
           replace hx122_0 := (HB.out.cell (World.block_lt_of_cell? w _ hx122_0)).trans hx122_0
           replace hx122_1 := (HB.out.cell (World.block_lt_of_cell? w _ hx122_1)).trans hx122_1
           replace hx122_2 := (HB.out.cell (World.block_lt_of_cell? w _ hx122_2)).trans hx122_2
           replace p122 := eq_true p122
           replace q122 := eq_true q122
           go_wp2_with (first | ((with_reducible refine gate_dst (N := 8) rfl ?_); refine box_event ?hg (N := 8) ?hd (cs := #[.int .i64 0, .int .i64 0, .int .i64 0]) (t := 47) ?hr ?_; (case hd => rfl); (case hg => rfl); (case hr => first | (go_simp; done) | (go_simp; rfl)); intro gb123 hg w26 hbox hb; have n0_ := Aside0.mk (Kd.R_below (Kd.R_elderB (by (with_reducible repeat (first | apply Kd.R_alloc | apply Kd.R_drewN | apply Kd.R_drew)); exact HO_5.out) gb123 (Nat.le_of_eq hg.symm)) hb); have n1_ := Aside0.mk (blk_below (g := gb103) (o := .cells #[.int .i64 a1_0, .int .i64 x104001_1, .int .i64 x104002_1] 47 (0, 0)) (by (with_reducible repeat (first | refine blk_drewN ?_ _ | refine blk_drew ?_ | refine blk_alloc ?_ _)); exact BK103.out) hb); have n2_ := Aside0.mk (below_step (by repeat (first | (with_reducible first | exact HB.out | apply below_alloc | apply pw_below_drewN | apply below_drew1 | refine below_set ?_ GE103.out) | exact HB.out)) hb); have n3_ := Aside0.mk (hbox); have n4_ := Aside0.mk ((by rw [hg]; exact (below_size (by repeat (first | (with_reducible first | exact HB.out | apply below_alloc | apply pw_below_drewN | apply below_drew1 | refine below_set ?_ GE103.out) | exact HB.out))) : w.heap.size ≤ gb123)); have n5_ := Aside0.mk ((by rw [hg]; exact (below_size (by repeat (first | (with_reducible first | exact HB.out | apply below_alloc | apply pw_below_drewN | apply below_drew1 | refine below_set ?_ GE103.out) | exact HB.out))) : w.heap.size ≤ gb123)); have n6_ := Aside0.mk ((by rw [hg]; exact Nat.ne_of_lt (blk_lt (g := gb103) (o := .cells #[.int .i64 a1_0, .int .i64 x104001_1, .int .i64 x104002_1] 47 (0, 0)) (by (with_reducible repeat (first | refine blk_drewN ?_ _ | refine blk_drew ?_ | refine blk_alloc ?_ _)); exact BK103.out)) : gb103 ≠ gb123)); have n7_ := Aside0.mk ((by rw [hg]; exact Nat.ne_of_gt (blk_lt (g := gb103) (o := .cells #[.int .i64 a1_0, .int .i64 x104001_1, .int .i64 x104002_1] 47 (0, 0)) (by (with_reducible repeat (first | refine blk_drewN ?_ _ | refine blk_drew ?_ | refine blk_alloc ?_ _)); exact BK103.out)) : gb123 ≠ gb103)); clear HO_5; clear BK103; clear HB; have HO_5 := n0_; have BK103 := n1_; have HB := n2_; have BK123 := n3_; have GW123 := n4_; have GE123 := n5_; have NB103_123 := n6_; have NB123_103 := n7_; clear n0_ n1_ n2_ n3_ n4_ n5_ n6_ n7_; clear hb hbox hg; have hnb27 := NB123_103.out; have hnc27 := NB103_123.out; have hcz28_0 : w26.cell? ⟨gb123, 0, none⟩ = some (.int .i64 0) := (blk_cell BK123.out 0).trans rfl; have hcz28_1 : w26.cell? ⟨gb123, 1, none⟩ = some (.int .i64 0) := (blk_cell BK123.out 1).trans rfl; have hcz28_2 : w26.cell? ⟨gb123, 2, none⟩ = some (.int .i64 0) := (blk_cell BK123.out 2).trans rfl; have hfz28_0 := blk_frozen BK123.out 0; have hfz28_1 := blk_frozen BK123.out 1; have hfz28_2 := blk_frozen BK123.out 2; have hcz29_0 : w26.cell? ⟨gb103, 0, none⟩ = some (.int .i64 a1_0) := (blk_cell BK103.out 0).trans rfl; have hcz29_1 : w26.cell? ⟨gb103, 1, none⟩ = some (.int .i64 x104001_1) := (blk_cell BK103.out 1).trans rfl; have hcz29_2 : w26.cell? ⟨gb103, 2, none⟩ = some (.int .i64 x104002_1) := (blk_cell BK103.out 2).trans rfl; have hfz29_0 := blk_frozen BK103.out 0; have hfz29_1 := blk_frozen BK103.out 1; have hfz29_2 := blk_frozen BK103.out 2) | ((with_reducible refine gate_callee (f := 52) rfl ?_); refine goesL_ (some 34) rfl rfl Try.func52 (by kernel_rfl) rfl #[.agg #[.int .i64 ((rd_T47 l0 x15_1).f0), .int .i64 ((rd_T47 l0 x15_1).f1), .int .i64 ((rd_T47 l0 x15_1).f2)], .agg #[.int .i64 a1_0, .int .i64 x104001_1, .int .i64 x104002_1]] rfl (by (try simp only [List.map_toArray, List.map_cons, List.map_nil]); first | done | rfl | (simp only [List.length_drop, List.length_take]; rfl)) ?_; (with_reducible refine (span_ahead.calls ((rd_T47 l0 x15_1).f0) ((rd_T47 l0 x15_1).f1) ((rd_T47 l0 x15_1).f2) a1_0 x104001_1 x104002_1 false _ A12.out).mono ?_); rintro e w30 ⟨rfl, hb⟩; refine ⟨_, rfl, ?_⟩; have n0_ := Aside0.mk (Kd.R_below (by (with_reducible repeat (first | apply Kd.R_alloc | apply Kd.R_drewN | apply Kd.R_drew)); exact (Kd.R_mono (Kd.R_far (p := ⟨gb123, 2, none⟩) (Kd.R_far (p := ⟨gb123, 1, none⟩) (Kd.R_far (p := ⟨gb123, 0, none⟩) (Kd.R_mono HO_5.out (fun k_ hk => (⟨hk, hk.2⟩ : _ ∧ k_ ≠ gb123))) (fun _ hk => hk.2) (.int .i64 ((rd_T47 l0 x15_1).f0))) (fun _ hk => hk.2) (.int .i64 ((rd_T47 l0 x15_1).f1))) (fun _ hk => hk.2) (.int .i64 ((rd_T47 l0 x15_1).f2))) (fun _ h_ => h_.1))) hb); have n1_ := Aside0.mk (blk_below (g := gb103) (o := .cells #[.int .i64 a1_0, .int .i64 x104001_1, .int .i64 x104002_1] 47 (0, 0)) (by (with_reducible repeat (first | refine blk_drewN ?_ _ | refine blk_drew ?_ | refine blk_alloc ?_ _)); refine blk_far ?_ NB103_123.out _; (with_reducible repeat (first | refine blk_drewN ?_ _ | refine blk_drew ?_ | refine blk_alloc ?_ _)); refine blk_far ?_ NB103_123.out _; (with_reducible repeat (first | refine blk_drewN ?_ _ | refine blk_drew ?_ | refine blk_alloc ?_ _)); refine blk_far ?_ NB103_123.out _; (with_reducible repeat (first | refine blk_drewN ?_ _ | refine blk_drew ?_ | refine blk_alloc ?_ _)); exact BK103.out) hb); have n2_ := Aside0.mk (blk_below (g := gb123) (o := .cells #[.int .i64 ((rd_T47 l0 x15_1).f0), .int .i64 ((rd_T47 l0 x15_1).f1), .int .i64 ((rd_T47 l0 x15_1).f2)] 47 (0, 0)) (by (with_reducible repeat (first | refine blk_drewN ?_ _ | refine blk_drew ?_ | refine blk_alloc ?_ _)); refine blk_put (cs := #[.int .i64 ((rd_T47 l0 x15_1).f0), .int .i64 ((rd_T47 l0 x15_1).f1), .int .i64 0]) ?_ 2 _ rfl; (with_reducible repeat (first | refine blk_drewN ?_ _ | refine blk_drew ?_ | refine blk_alloc ?_ _)); refine blk_put (cs := #[.int .i64 ((rd_T47 l0 x15_1).f0), .int .i64 0, .int .i64 0]) ?_ 1 _ rfl; (with_reducible repeat (first | refine blk_drewN ?_ _ | refine blk_drew ?_ | refine blk_alloc ?_ _)); refine blk_put (cs := #[.int .i64 0, .int .i64 0, .int .i64 0]) ?_ 0 _ rfl; (with_reducible repeat (first | refine blk_drewN ?_ _ | refine blk_drew ?_ | refine blk_alloc ?_ _)); exact BK123.out) hb); have n3_ := Aside0.mk (below_step (by repeat (first | (with_reducible first | exact HB.out | apply below_alloc | apply pw_below_drewN | apply below_drew1 | refine below_set ?_ GE103.out | refine below_set ?_ GE123.out) | exact HB.out)) hb); clear HO_5; clear BK103; clear BK123; clear HB; have HO_5 := n0_; have BK103 := n1_; have BK123 := n2_; have HB := n3_; clear n0_ n1_ n2_ n3_; (try clear hb); (try clear hb2); (try clear hk); (try clear hi); have hcz31_0 : w30.cell? ⟨gb103, 0, none⟩ = some (.int .i64 a1_0) := (blk_cell BK103.out 0).trans rfl; have hcz31_1 : w30.cell? ⟨gb103, 1, none⟩ = some (.int .i64 x104001_1) := (blk_cell BK103.out 1).trans rfl; have hcz31_2 : w30.cell? ⟨gb103, 2, none⟩ = some (.int .i64 x104002_1) := (blk_cell BK103.out 2).trans rfl; have hfz31_0 := blk_frozen BK103.out 0; have hfz31_1 := blk_frozen BK103.out 1; have hfz31_2 := blk_frozen BK103.out 2; have hcz32_0 : w30.cell? ⟨gb123, 0, none⟩ = some (.int .i64 ((rd_T47 l0 x15_1).f0)) := (blk_cell BK123.out 0).trans rfl; have hcz32_1 : w30.cell? ⟨gb123, 1, none⟩ = some (.int .i64 ((rd_T47 l0 x15_1).f1)) := (blk_cell BK123.out 1).trans rfl; have hcz32_2 : w30.cell? ⟨gb123, 2, none⟩ = some (.int .i64 ((rd_T47 l0 x15_1).f2)) := (blk_cell BK123.out 2).trans rfl; have hfz32_0 := blk_frozen BK123.out 0; have hfz32_1 := blk_frozen BK123.out 1; have hfz32_2 := blk_frozen BK123.out 2) | ((with_reducible refine gate_callee (f := 52) rfl ?_); refine goesL_ (some 44) rfl rfl Try.func52 (by kernel_rfl) rfl #[.agg #[.int .i64 a1_0, .int .i64 x104001_1, .int .i64 x104002_1], .agg #[.int .i64 ((rd_T47 l0 x15_1).f0), .int .i64 ((rd_T47 l0 x15_1).f1), .int .i64 ((rd_T47 l0 x15_1).f2)]] rfl (by (try simp only [List.map_toArray, List.map_cons, List.map_nil]); first | done | rfl | (simp only [List.length_drop, List.length_take]; rfl)) ?_; (with_reducible refine (span_ahead.calls a1_0 x104001_1 x104002_1 ((rd_T47 l0 x15_1).f0) ((rd_T47 l0 x15_1).f1) ((rd_T47 l0 x15_1).f2) true _ A23.out).mono ?_); rintro e w33 ⟨rfl, hb⟩; refine ⟨_, rfl, ?_⟩; have n0_ := Aside0.mk (Kd.R_below (by (with_reducible repeat (first | apply Kd.R_alloc | apply Kd.R_drewN | apply Kd.R_drew)); exact HO_5.out) hb); have n1_ := Aside0.mk (blk_below (g := gb103) (o := .cells #[.int .i64 a1_0, .int .i64 x104001_1, .int .i64 x104002_1] 47 (0, 0)) (by (with_reducible repeat (first | refine blk_drewN ?_ _ | refine blk_drew ?_ | refine blk_alloc ?_ _)); exact BK103.out) hb); have n2_ := Aside0.mk (blk_below (g := gb123) (o := .cells #[.int .i64 ((rd_T47 l0 x15_1).f0), .int .i64 ((rd_T47 l0 x15_1).f1), .int .i64 ((rd_T47 l0 x15_1).f2)] 47 (0, 0)) (by (with_reducible repeat (first | refine blk_drewN ?_ _ | refine blk_drew ?_ | refine blk_alloc ?_ _)); exact BK123.out) hb); have n3_ := Aside0.mk (below_step (by repeat (first | (with_reducible first | exact HB.out | apply below_alloc | apply pw_below_drewN | apply below_drew1 | refine below_set ?_ GE103.out | refine below_set ?_ GE123.out) | exact HB.out)) hb); clear HO_5; clear BK103; clear BK123; clear HB; have HO_5 := n0_; have BK103 := n1_; have BK123 := n2_; have HB := n3_; clear n0_ n1_ n2_ n3_; (try clear hb); (try clear hb2); (try clear hk); (try clear hi); have hcz34_0 : w33.cell? ⟨gb123, 0, none⟩ = some (.int .i64 ((rd_T47 l0 x15_1).f0)) := (blk_cell BK123.out 0).trans rfl; have hcz34_1 : w33.cell? ⟨gb123, 1, none⟩ = some (.int .i64 ((rd_T47 l0 x15_1).f1)) := (blk_cell BK123.out 1).trans rfl; have hcz34_2 : w33.cell? ⟨gb123, 2, none⟩ = some (.int .i64 ((rd_T47 l0 x15_1).f2)) := (blk_cell BK123.out 2).trans rfl; have hfz34_0 := blk_frozen BK123.out 0; have hfz34_1 := blk_frozen BK123.out 1; have hfz34_2 := blk_frozen BK123.out 2) | ((with_reducible refine gate_builtin (b := .append) (xs := #[.tmp 45, .tmp 47]) rfl ?_); at_builtin; refine Kd.R_append k47 (w0 := w) w.heap.size rfl (.tmp 45) (.tmp 47) 48 47 (.agg #[(.int .i64 0), (.int .i64 0), (.int .i64 0)]) 24 rfl Try.underlying48 info47 rfl (by decide) (by omega) u5 x5_1 (⟨(rd_T47 l0 x15_1).f0, (rd_T47 l0 x15_1).f1, (rd_T47 l0 x15_1).f2⟩ : S47) [.int .i64 ((rd_T47 l0 x15_1).f0), .int .i64 ((rd_T47 l0 x15_1).f1), .int .i64 ((rd_T47 l0 x15_1).f2)] (fun k_ => k_ ≠ gb103 ∧ k_ ≠ gb123) (fun _ => False) rfl rfl ?aP (fun _ hk => hk.elim) ?aF ?aO ?aB ?aS ?aL ?_; (case aP => exact k47_mkM _ _ _ (⟨(rd_T47 l0 x15_1).f0, (rd_T47 l0 x15_1).f1, (rd_T47 l0 x15_1).f2⟩ : S47)); (case aB => exact (by repeat (first | (with_reducible first | exact HB.out | apply below_alloc | apply pw_below_drewN | apply below_drew1 | refine below_set ?_ GE103.out | refine below_set ?_ GE123.out) | exact HB.out))); (case aF => exact (fun k_ hk => ⟨Kd.freshB (g := gb103) (o := .cells #[.int .i64 a1_0, .int .i64 x104001_1, .int .i64 x104002_1] 47 (0, 0)) (by (with_reducible repeat (first | refine blk_drewN ?_ _ | refine blk_drew ?_ | refine blk_alloc ?_ _)); exact BK103.out) k_ hk, Kd.freshB (g := gb123) (o := .cells #[.int .i64 ((rd_T47 l0 x15_1).f0), .int .i64 ((rd_T47 l0 x15_1).f1), .int .i64 ((rd_T47 l0 x15_1).f2)] 47 (0, 0)) (by (with_reducible repeat (first | refine blk_drewN ?_ _ | refine blk_drew ?_ | refine blk_alloc ?_ _)); exact BK123.out) k_ hk⟩)); (case aO => exact (by (with_reducible repeat (first | apply Kd.R_alloc | apply Kd.R_drewN | apply Kd.R_drew)); exact HO_5.out)); (case aS => exact (below_size (by repeat (first | (with_reducible first | exact HB.out | apply below_alloc | apply pw_below_drewN | apply below_drew1 | refine below_set ?_ GE103.out | refine below_set ?_ GE123.out) | exact HB.out)))); (case aL => have := LMc25.out; omega); intro v130 w35 ho hb hg hat; rw [← Ny129.out] at ho; have n0_ := Aside0.mk (blk_grown (g := gb103) (o := .cells #[.int .i64 a1_0, .int .i64 x104001_1, .int .i64 x104002_1] 47 (0, 0)) (by (with_reducible repeat (first | refine blk_drewN ?_ _ | refine blk_drew ?_ | refine blk_alloc ?_ _)); exact BK103.out) hg (Kd.R_away HO_5.out (fun _ hk => hk.1))); have n1_ := Aside0.mk (blk_grown (g := gb123) (o := .cells #[.int .i64 ((rd_T47 l0 x15_1).f0), .int .i64 ((rd_T47 l0 x15_1).f1), .int .i64 ((rd_T47 l0 x15_1).f2)] 47 (0, 0)) (by (with_reducible repeat (first | refine blk_drewN ?_ _ | refine blk_drew ?_ | refine blk_alloc ?_ _)); exact BK123.out) hg (Kd.R_away HO_5.out (fun _ hk => hk.2))); have n2_ := Aside0.mk (hb); have n3_ := Aside0.mk (ho); clear BK103; clear BK123; clear HB; clear HO_5; have BK103 := n0_; have BK123 := n1_; have HB := n2_; have HO131 := n3_; clear n0_ n1_ n2_ n3_; clear ho hb hg hat))
           go_roundg k1
           case measure => have := HK1.out; omega
           case rel => exact ⟨(y129), (x6_1), (wrap64 (x15_1 + 1)), (x104001_1), (x104002_1), (by first | rfl | (simp; done) | (simp [*]; done)), (by first | rfl | (simp; done) | (simp [*]; done)), H', ⟨by have := HK1.out; omega⟩, ⟨by (with_reducible repeat (first | apply Kd.R_alloc | apply Kd.R_drewN | apply Kd.R_drew)); exact Kd.R_mono HO131.out (fun _ hk => by first | exact hk.1 | exact hk)⟩, ⟨by (with_reducible repeat (first | refine blk_drewN ?_ _ | refine blk_drew ?_ | refine blk_alloc ?_ _)); exact BK103.out⟩, ⟨by repeat (first | (with_reducible first | exact HB.out | apply below_alloc | apply pw_below_drewN | apply below_drew1 | refine below_set ?_ GE103.out | refine below_set ?_ GE123.out) | exact HB.out)⟩⟩
          ·
           rw [if_neg c25] at H
           exact absurd H (by simp)
         ·
          replace c24 := Bool.eq_false_iff.mpr c24
          subst c24
          have H1 : (span_Add.l0 k1 x5_1 x6_1 l0 (l0.length : Int) (wrap64 (x15_1 + 1)) a1_0 (mn x104001_1 ((rd_T47 l0 x15_1).f1)) (mx x104002_1 ((rd_T47 l0 x15_1).f2))) = some r := by rw [if_neg (show ¬ (false = true) by decide)] at H; exact H
          clear H
          have H := H1
          clear H1
          obtain ⟨ji36, hji36⟩ : ∃ j_ : Int, (mn x104001_1 ((rd_T47 l0 x15_1).f1)) = j_ := ⟨_, rfl⟩
          replace H : (span_Add.l0 k1 x5_1 x6_1 l0 (l0.length : Int) (wrap64 (x15_1 + 1)) a1_0 ji36 (mx x104002_1 ((rd_T47 l0 x15_1).f2))) = some r := by first | (rw [hji36] at H; exact H) | (simp only [hji36] at H ⊢; exact H)
          (try rw [hji36] at A12)
          (try rw [hji36] at A23)
          have hji36_ : (if ((rd_T47 l0 x15_1).f1) < x104001_1 then ((rd_T47 l0 x15_1).f1) else x104001_1) = ji36 := hji36
          obtain ⟨ji37, hji37⟩ : ∃ j_ : Int, (mx x104002_1 ((rd_T47 l0 x15_1).f2)) = j_ := ⟨_, rfl⟩
          replace H : (span_Add.l0 k1 x5_1 x6_1 l0 (l0.length : Int) (wrap64 (x15_1 + 1)) a1_0 ji36 ji37) = some r := by first | (rw [hji37] at H; exact H) | (simp only [hji37] at H ⊢; exact H)
          (try rw [hji37] at A12)
          (try rw [hji37] at A23)
          have hji37_ : (if x104002_1 < ((rd_T47 l0 x15_1).f2) then ((rd_T47 l0 x15_1).f2) else x104002_1) = ji37 := hji37
          have H' := Aside0.mk H
          clear H
          have p122 : 0 ≤ (x15_1 : Int) := of_decide_eq_true (by first | (with_reducible assumption) | assumption)
          have q122 : x15_1 < (l0.length : Int) := of_decide_eq_true (by first | (with_reducible assumption) | assumption)
          obtain ⟨ad122, e122, hx122_0, hx122_1, hx122_2⟩ := at_T47 HR0.out x15_1 p122 q122
          cases e122
          replace hx122_0 := (HB.out.cell (World.block_lt_of_cell? w _ hx122_0)).trans hx122_0
          replace hx122_1 := (HB.out.cell (World.block_lt_of_cell? w _ hx122_1)).trans hx122_1
          replace hx122_2 := (HB.out.cell (World.block_lt_of_cell? w _ hx122_2)).trans hx122_2
          replace p122 := eq_true p122
          replace q122 := eq_true q122
          try go_wp2_with (first | ((with_reducible refine gate_dst (N := 8) rfl ?_); refine box_event ?hg (N := 8) ?hd (cs := #[.int .i64 0, .int .i64 0, .int .i64 0]) (t := 47) ?hr ?_; (case hd => rfl); (case hg => rfl); (case hr => first | (go_simp; done) | (go_simp; rfl)); intro gb123 hg w38 hbox hb; have n0_ := Aside0.mk (Kd.R_below (Kd.R_elderB (by (with_reducible repeat (first | apply Kd.R_alloc | apply Kd.R_drewN | apply Kd.R_drew)); exact HO_5.out) gb123 (Nat.le_of_eq hg.symm)) hb); have n1_ := Aside0.mk (blk_below (g := gb103) (o := .cells #[.int .i64 a1_0, .int .i64 x104001_1, .int .i64 x104002_1] 47 (0, 0)) (by (with_reducible repeat (first | refine blk_drewN ?_ _ | refine blk_drew ?_ | refine blk_alloc ?_ _)); exact BK103.out) hb); have n2_ := Aside0.mk (below_step (by repeat (first | (with_reducible first | exact HB.out | apply below_alloc | apply pw_below_drewN | apply below_drew1 | refine below_set ?_ GE103.out) | exact HB.out)) hb); have n3_ := Aside0.mk (hbox); have n4_ := Aside0.mk ((by rw [hg]; exact (below_size (by repeat (first | (with_reducible first | exact HB.out | apply below_alloc | apply pw_below_drewN | apply below_drew1 | refine below_set ?_ GE103.out) | exact HB.out))) : w.heap.size ≤ gb123)); have n5_ := Aside0.mk ((by rw [hg]; exact (below_size (by repeat (first | (with_reducible first | exact HB.out | apply below_alloc | apply pw_below_drewN | apply below_drew1 | refine below_set ?_ GE103.out) | exact HB.out))) : w.heap.size ≤ gb123)); have n6_ := Aside0.mk ((by rw [hg]; exact Nat.ne_of_lt (blk_lt (g := gb103) (o := .cells #[.int .i64 a1_0, .int .i64 x104001_1, .int .i64 x104002_1] 47 (0, 0)) (by (with_reducible repeat (first | refine blk_drewN ?_ _ | refine blk_drew ?_ | refine blk_alloc ?_ _)); exact BK103.out)) : gb103 ≠ gb123)); have n7_ := Aside0.mk ((by rw [hg]; exact Nat.ne_of_gt (blk_lt (g := gb103) (o := .cells #[.int .i64 a1_0, .int .i64 x104001_1, .int .i64 x104002_1] 47 (0, 0)) (by (with_reducible repeat (first | refine blk_drewN ?_ _ | refine blk_drew ?_ | refine blk_alloc ?_ _)); exact BK103.out)) : gb123 ≠ gb103)); clear HO_5; clear BK103; clear HB; have HO_5 := n0_; have BK103 := n1_; have HB := n2_; have BK123 := n3_; have GW123 := n4_; have GE123 := n5_; have NB103_123 := n6_; have NB123_103 := n7_; clear n0_ n1_ n2_ n3_ n4_ n5_ n6_ n7_; clear hb hbox hg; have hnb39 := NB123_103.out; have hnc39 := NB103_123.out; have hcz40_0 : w38.cell? ⟨gb123, 0, none⟩ = some (.int .i64 0) := (blk_cell BK123.out 0).trans rfl; have hcz40_1 : w38.cell? ⟨gb123, 1, none⟩ = some (.int .i64 0) := (blk_cell BK123.out 1).trans rfl; have hcz40_2 : w38.cell? ⟨gb123, 2, none⟩ = some (.int .i64 0) := (blk_cell BK123.out 2).trans rfl; have hfz40_0 := blk_frozen BK123.out 0; have hfz40_1 := blk_frozen BK123.out 1; have hfz40_2 := blk_frozen BK123.out 2; have hcz41_0 : w38.cell? ⟨gb103, 0, none⟩ = some (.int .i64 a1_0) := (blk_cell BK103.out 0).trans rfl; have hcz41_1 : w38.cell? ⟨gb103, 1, none⟩ = some (.int .i64 x104001_1) := (blk_cell BK103.out 1).trans rfl; have hcz41_2 : w38.cell? ⟨gb103, 2, none⟩ = some (.int .i64 x104002_1) := (blk_cell BK103.out 2).trans rfl; have hfz41_0 := blk_frozen BK103.out 0; have hfz41_1 := blk_frozen BK103.out 1; have hfz41_2 := blk_frozen BK103.out 2) | ((with_reducible refine gate_callee (f := 52) rfl ?_); refine goesL_ (some 34) rfl rfl Try.func52 (by kernel_rfl) rfl #[.agg #[.int .i64 ((rd_T47 l0 x15_1).f0), .int .i64 ((rd_T47 l0 x15_1).f1), .int .i64 ((rd_T47 l0 x15_1).f2)], .agg #[.int .i64 a1_0, .int .i64 x104001_1, .int .i64 x104002_1]] rfl (by (try simp only [List.map_toArray, List.map_cons, List.map_nil]); first | done | rfl | (simp only [List.length_drop, List.length_take]; rfl)) ?_; (with_reducible refine (span_ahead.calls ((rd_T47 l0 x15_1).f0) ((rd_T47 l0 x15_1).f1) ((rd_T47 l0 x15_1).f2) a1_0 x104001_1 x104002_1 false _ A12.out).mono ?_); rintro e w42 ⟨rfl, hb⟩; refine ⟨_, rfl, ?_⟩; have n0_ := Aside0.mk (Kd.R_below (by (with_reducible repeat (first | apply Kd.R_alloc | apply Kd.R_drewN | apply Kd.R_drew)); exact (Kd.R_mono (Kd.R_far (p := ⟨gb123, 2, none⟩) (Kd.R_far (p := ⟨gb123, 1, none⟩) (Kd.R_far (p := ⟨gb123, 0, none⟩) (Kd.R_mono HO_5.out (fun k_ hk => (⟨hk, hk.2⟩ : _ ∧ k_ ≠ gb123))) (fun _ hk => hk.2) (.int .i64 ((rd_T47 l0 x15_1).f0))) (fun _ hk => hk.2) (.int .i64 ((rd_T47 l0 x15_1).f1))) (fun _ hk => hk.2) (.int .i64 ((rd_T47 l0 x15_1).f2))) (fun _ h_ => h_.1))) hb); have n1_ := Aside0.mk (blk_below (g := gb103) (o := .cells #[.int .i64 a1_0, .int .i64 x104001_1, .int .i64 x104002_1] 47 (0, 0)) (by (with_reducible repeat (first | refine blk_drewN ?_ _ | refine blk_drew ?_ | refine blk_alloc ?_ _)); refine blk_far ?_ NB103_123.out _; (with_reducible repeat (first | refine blk_drewN ?_ _ | refine blk_drew ?_ | refine blk_alloc ?_ _)); refine blk_far ?_ NB103_123.out _; (with_reducible repeat (first | refine blk_drewN ?_ _ | refine blk_drew ?_ | refine blk_alloc ?_ _)); refine blk_far ?_ NB103_123.out _; (with_reducible repeat (first | refine blk_drewN ?_ _ | refine blk_drew ?_ | refine blk_alloc ?_ _)); exact BK103.out) hb); have n2_ := Aside0.mk (blk_below (g := gb123) (o := .cells #[.int .i64 ((rd_T47 l0 x15_1).f0), .int .i64 ((rd_T47 l0 x15_1).f1), .int .i64 ((rd_T47 l0 x15_1).f2)] 47 (0, 0)) (by (with_reducible repeat (first | refine blk_drewN ?_ _ | refine blk_drew ?_ | refine blk_alloc ?_ _)); refine blk_put (cs := #[.int .i64 ((rd_T47 l0 x15_1).f0), .int .i64 ((rd_T47 l0 x15_1).f1), .int .i64 0]) ?_ 2 _ rfl; (with_reducible repeat (first | refine blk_drewN ?_ _ | refine blk_drew ?_ | refine blk_alloc ?_ _)); refine blk_put (cs := #[.int .i64 ((rd_T47 l0 x15_1).f0), .int .i64 0, .int .i64 0]) ?_ 1 _ rfl; (with_reducible repeat (first | refine blk_drewN ?_ _ | refine blk_drew ?_ | refine blk_alloc ?_ _)); refine blk_put (cs := #[.int .i64 0, .int .i64 0, .int .i64 0]) ?_ 0 _ rfl; (with_reducible repeat (first | refine blk_drewN ?_ _ | refine blk_drew ?_ | refine blk_alloc ?_ _)); exact BK123.out) hb); have n3_ := Aside0.mk (below_step (by repeat (first | (with_reducible first | exact HB.out | apply below_alloc | apply pw_below_drewN | apply below_drew1 | refine below_set ?_ GE103.out | refine below_set ?_ GE123.out) | exact HB.out)) hb); clear HO_5; clear BK103; clear BK123; clear HB; have HO_5 := n0_; have BK103 := n1_; have BK123 := n2_; have HB := n3_; clear n0_ n1_ n2_ n3_; (try clear hb); (try clear hb2); (try clear hk); (try clear hi); have hcz43_0 : w42.cell? ⟨gb103, 0, none⟩ = some (.int .i64 a1_0) := (blk_cell BK103.out 0).trans rfl; have hcz43_1 : w42.cell? ⟨gb103, 1, none⟩ = some (.int .i64 x104001_1) := (blk_cell BK103.out 1).trans rfl; have hcz43_2 : w42.cell? ⟨gb103, 2, none⟩ = some (.int .i64 x104002_1) := (blk_cell BK103.out 2).trans rfl; have hfz43_0 := blk_frozen BK103.out 0; have hfz43_1 := blk_frozen BK103.out 1; have hfz43_2 := blk_frozen BK103.out 2; have hcz44_0 : w42.cell? ⟨gb123, 0, none⟩ = some (.int .i64 ((rd_T47 l0 x15_1).f0)) := (blk_cell BK123.out 0).trans rfl; have hcz44_1 : w42.cell? ⟨gb123, 1, none⟩ = some (.int .i64 ((rd_T47 l0 x15_1).f1)) := (blk_cell BK123.out 1).trans rfl; have hcz44_2 : w42.cell? ⟨gb123, 2, none⟩ = some (.int .i64 ((rd_T47 l0 x15_1).f2)) := (blk_cell BK123.out 2).trans rfl; have hfz44_0 := blk_frozen BK123.out 0; have hfz44_1 := blk_frozen BK123.out 1; have hfz44_2 := blk_frozen BK123.out 2) | ((with_reducible refine gate_callee (f := 52) rfl ?_); refine goesL_ (some 44) rfl rfl Try.func52 (by kernel_rfl) rfl #[.agg #[.int .i64 a1_0, .int .i64 x104001_1, .int .i64 x104002_1], .agg #[.int .i64 ((rd_T47 l0 x15_1).f0), .int .i64 ((rd_T47 l0 x15_1).f1), .int .i64 ((rd_T47 l0 x15_1).f2)]] rfl (by (try simp only [List.map_toArray, List.map_cons, List.map_nil]); first | done | rfl | (simp only [List.length_drop, List.length_take]; rfl)) ?_; (with_reducible refine (span_ahead.calls a1_0 x104001_1 x104002_1 ((rd_T47 l0 x15_1).f0) ((rd_T47 l0 x15_1).f1) ((rd_T47 l0 x15_1).f2) false _ A23.out).mono ?_); rintro e w45 ⟨rfl, hb⟩; refine ⟨_, rfl, ?_⟩; have n0_ := Aside0.mk (Kd.R_below (by (with_reducible repeat (first | apply Kd.R_alloc | apply Kd.R_drewN | apply Kd.R_drew)); exact HO_5.out) hb); have n1_ := Aside0.mk (blk_below (g := gb103) (o := .cells #[.int .i64 a1_0, .int .i64 x104001_1, .int .i64 x104002_1] 47 (0, 0)) (by (with_reducible repeat (first | refine blk_drewN ?_ _ | refine blk_drew ?_ | refine blk_alloc ?_ _)); exact BK103.out) hb); have n2_ := Aside0.mk (blk_below (g := gb123) (o := .cells #[.int .i64 ((rd_T47 l0 x15_1).f0), .int .i64 ((rd_T47 l0 x15_1).f1), .int .i64 ((rd_T47 l0 x15_1).f2)] 47 (0, 0)) (by (with_reducible repeat (first | refine blk_drewN ?_ _ | refine blk_drew ?_ | refine blk_alloc ?_ _)); exact BK123.out) hb); have n3_ := Aside0.mk (below_step (by repeat (first | (with_reducible first | exact HB.out | apply below_alloc | apply pw_below_drewN | apply below_drew1 | refine below_set ?_ GE103.out | refine below_set ?_ GE123.out) | exact HB.out)) hb); clear HO_5; clear BK103; clear BK123; clear HB; have HO_5 := n0_; have BK103 := n1_; have BK123 := n2_; have HB := n3_; clear n0_ n1_ n2_ n3_; (try clear hb); (try clear hb2); (try clear hk); (try clear hi); have hcz46_0 : w45.cell? ⟨gb103, 0, none⟩ = some (.int .i64 a1_0) := (blk_cell BK103.out 0).trans rfl; have hcz46_1 : w45.cell? ⟨gb103, 1, none⟩ = some (.int .i64 x104001_1) := (blk_cell BK103.out 1).trans rfl; have hcz46_2 : w45.cell? ⟨gb103, 2, none⟩ = some (.int .i64 x104002_1) := (blk_cell BK103.out 2).trans rfl; have hfz46_0 := blk_frozen BK103.out 0; have hfz46_1 := blk_frozen BK103.out 1; have hfz46_2 := blk_frozen BK103.out 2; have hcz47_0 : w45.cell? ⟨gb123, 0, none⟩ = some (.int .i64 ((rd_T47 l0 x15_1).f0)) := (blk_cell BK123.out 0).trans rfl; have hcz47_1 : w45.cell? ⟨gb123, 1, none⟩ = some (.int .i64 ((rd_T47 l0 x15_1).f1)) := (blk_cell BK123.out 1).trans rfl; have hcz47_2 : w45.cell? ⟨gb123, 2, none⟩ = some (.int .i64 ((rd_T47 l0 x15_1).f2)) := (blk_cell BK123.out 2).trans rfl; have hfz47_0 := blk_frozen BK123.out 0; have hfz47_1 := blk_frozen BK123.out 1; have hfz47_2 := blk_frozen BK123.out 2))
          go_region
          try go_wp2
          go_roundg k1
          case measure => have := HK1.out; omega
          case rel => exact ⟨(x5_1), (x6_1), (wrap64 (x15_1 + 1)), (ji36), (ji37), (by first | rfl | (simp; done) | (simp [*]; done)), (by first | rfl | (simp; done) | (simp [*]; done)), H', ⟨by have := HK1.out; omega⟩, ⟨by (with_reducible repeat (first | apply Kd.R_alloc | apply Kd.R_drewN | apply Kd.R_drew)); exact Kd.R_mono (Kd.R_far (p := ⟨gb103, 2, none⟩) (Kd.R_far (p := ⟨gb103, 1, none⟩) (Kd.R_mono HO_5.out (fun k_ hk => (⟨hk, hk.1⟩ : _ ∧ k_ ≠ gb103))) (fun _ hk => hk.2) (.int .i64 ji36)) (fun _ hk => hk.2) (.int .i64 ji37)) (fun _ hk => hk.1.1)⟩, ⟨by (with_reducible repeat (first | refine blk_drewN ?_ _ | refine blk_drew ?_ | refine blk_alloc ?_ _)); refine blk_put (cs := #[.int .i64 a1_0, .int .i64 ji36, .int .i64 x104002_1]) ?_ 2 _ rfl; (with_reducible repeat (first | refine blk_drewN ?_ _ | refine blk_drew ?_ | refine blk_alloc ?_ _)); refine blk_put (cs := #[.int .i64 a1_0, .int .i64 x104001_1, .int .i64 x104002_1]) ?_ 1 _ rfl; (with_reducible repeat (first | refine blk_drewN ?_ _ | refine blk_drew ?_ | refine blk_alloc ?_ _)); exact BK103.out⟩, ⟨by repeat (first | (with_reducible first | exact HB.out | apply below_alloc | apply pw_below_drewN | apply below_drew1 | refine below_set ?_ GE103.out | refine below_set ?_ GE123.out) | exact HB.out)⟩⟩
       ·
        rw [if_neg c11] at H
        exact absurd H (by simp)
      ·
       rw [if_neg c10] at H
       exact absurd H (by simp)
     ·
      rw [if_neg c9] at H
      have c9b0 : decide (x15_1 < (l0.length : Int)) = false := decide_eq_false c9
      clear c9
      by_cases c48 : x5_1.length < 5864062014805
      ·
       rw [if_pos c48] at H
       have LMc48 := Aside0.mk c48
       clear c48
       obtain ⟨y107, hy107⟩ : ∃ y_ : List (S47), y_ = (x5_1 ++ [(⟨a1_0, x104001_1, x104002_1⟩ : S47)]) := ⟨_, rfl⟩
       replace H : (if 0 ≤ (wrap64 (x6_1 + 1)) then (if (wrap64 (x6_1 + 1)) ≤ (y107.length : Int) then (if 0 ≤ x6_1 then (if x6_1 ≤ (y107.length : Int) then ((some (y107.drop (x6_1 : Int).toNat : List (S47))).bind fun y114 => ((some (Kd.laid y107 ((x6_1 : Int).toNat + 1) (min y114.length (y107.drop ((wrap64 (x6_1 + 1)) : Int).toNat).length) y114 : List (S47))).bind fun y118 => (if x6_1 < (y118.length : Int) then (some (y118.set (x6_1 : Int).toNat (⟨a1_0, x104001_1, x104002_1⟩ : S47))) else (none)))) else (none)) else (none)) else (none)) else (none)) = some r := by first | (rw [hy107]; with_reducible exact H) | (have H2_ := (Option.bind_some _ _).symm.trans H; rw [hy107]; with_reducible exact H2_) | (have H2_ := (Option.bind_some _ _).symm.trans H; with_reducible exact H2_) | with_reducible exact H | (rw [hy107]; exact H) | exact H
       have Ny107 := Aside0.mk hy107
       clear hy107
       obtain ⟨ji49, hji49⟩ : ∃ j_ : Int, (wrap64 (x6_1 + 1)) = j_ := ⟨_, rfl⟩
       replace H : (if 0 ≤ (ji49) then (if (ji49) ≤ (y107.length : Int) then (if 0 ≤ x6_1 then (if x6_1 ≤ (y107.length : Int) then ((some (y107.drop (x6_1 : Int).toNat : List (S47))).bind fun y114 => ((some (Kd.laid y107 ((x6_1 : Int).toNat + 1) (min y114.length (y107.drop ((ji49) : Int).toNat).length) y114 : List (S47))).bind fun y118 => (if x6_1 < (y118.length : Int) then (some (y118.set (x6_1 : Int).toNat (⟨a1_0, x104001_1, x104002_1⟩ : S47))) else (none)))) else (none)) else (none)) else (none)) else (none)) = some r := by first | (rw [hji49] at H; exact H) | (simp only [hji49] at H ⊢; exact H)
       have hji49w : (IntKind.i64.wrap (x6_1 + 1)) = ji49 := (i64_w _).trans hji49
       by_cases c50 : 0 ≤ (ji49)
       ·
        rw [if_pos c50] at H
        have c50b0 := eq_true c50
        have c50b1 : decide (0 ≤ (ji49)) = true := decide_eq_true c50
        clear c50
        by_cases c51 : (ji49) ≤ (y107.length : Int)
        ·
         rw [if_pos c51] at H
         have c51b0 := eq_true c51
         have c51b1 : decide ((ji49) ≤ (y107.length : Int)) = true := decide_eq_true c51
         clear c51
         obtain ⟨y110, hy110⟩ : ∃ y_ : List (S47), y_ = (y107.drop ((ji49) : Int).toNat) := ⟨_, rfl⟩
         replace H : (if 0 ≤ x6_1 then (if x6_1 ≤ (y107.length : Int) then ((some (y107.drop (x6_1 : Int).toNat : List (S47))).bind fun y114 => ((some (Kd.laid y107 ((x6_1 : Int).toNat + 1) (min y114.length y110.length) y114 : List (S47))).bind fun y118 => (if x6_1 < (y118.length : Int) then (some (y118.set (x6_1 : Int).toNat (⟨a1_0, x104001_1, x104002_1⟩ : S47))) else (none)))) else (none)) else (none)) = some r := by first | (rw [hy110]; with_reducible exact H) | (have H2_ := (Option.bind_some _ _).symm.trans H; rw [hy110]; with_reducible exact H2_) | (have H2_ := (Option.bind_some _ _).symm.trans H; with_reducible exact H2_) | with_reducible exact H | (rw [hy110]; exact H) | exact H
         have Ny110 := Aside0.mk hy110
         clear hy110
         by_cases c52 : 0 ≤ x6_1
         ·
          rw [if_pos c52] at H
          have c52b0 := eq_true c52
          have c52b1 : decide (0 ≤ x6_1) = true := decide_eq_true c52
          clear c52
          by_cases c53 : x6_1 ≤ (y107.length : Int)
          ·
           rw [if_pos c53] at H
           have c53b0 := eq_true c53
           have c53b1 : decide (x6_1 ≤ (y107.length : Int)) = true := decide_eq_true c53
           clear c53
           obtain ⟨y114, hy114⟩ : ∃ y_ : List (S47), y_ = (y107.drop (x6_1 : Int).toNat) := ⟨_, rfl⟩
           replace H : ((some (Kd.laid y107 ((x6_1 : Int).toNat + 1) (min y114.length y110.length) y114 : List (S47))).bind fun y118 => (if x6_1 < (y118.length : Int) then (some (y118.set (x6_1 : Int).toNat (⟨a1_0, x104001_1, x104002_1⟩ : S47))) else (none))) = some r := by first | (rw [hy114]; with_reducible exact H) | (have H2_ := (Option.bind_some _ _).symm.trans H; rw [hy114]; with_reducible exact H2_) | (have H2_ := (Option.bind_some _ _).symm.trans H; with_reducible exact H2_) | with_reducible exact H | (rw [hy114]; exact H) | exact H
           have Ny114 := Aside0.mk hy114
           clear hy114
           obtain ⟨y118, hy118⟩ : ∃ y_ : List (S47), y_ = (Kd.laid y107 ((x6_1 : Int).toNat + 1) (min y114.length y110.length) y114) := ⟨_, rfl⟩
           replace H : (if x6_1 < (y118.length : Int) then (some (y118.set (x6_1 : Int).toNat (⟨a1_0, x104001_1, x104002_1⟩ : S47))) else (none)) = some r := by first | (rw [hy118]; with_reducible exact H) | (have H2_ := (Option.bind_some _ _).symm.trans H; rw [hy118]; with_reducible exact H2_) | (have H2_ := (Option.bind_some _ _).symm.trans H; with_reducible exact H2_) | with_reducible exact H | (rw [hy118]; exact H) | exact H
           have Ny118 := Aside0.mk hy118
           clear hy118
           by_cases c54 : x6_1 < (y118.length : Int)
           ·
            rw [if_pos c54] at H
            have c54b0 : decide (x6_1 < (y118.length : Int)) = true := decide_eq_true c54
            clear c54
            obtain ⟨y121, hy121⟩ : ∃ y_ : List (S47), y_ = (y118.set (x6_1 : Int).toNat (⟨a1_0, x104001_1, x104002_1⟩ : S47)) := ⟨_, rfl⟩
            replace H : (some y121) = some r := by first | (rw [hy121]; with_reducible exact H) | (have H2_ := (Option.bind_some _ _).symm.trans H; rw [hy121]; with_reducible exact H2_) | (have H2_ := (Option.bind_some _ _).symm.trans H; with_reducible exact H2_) | with_reducible exact H | (rw [hy121]; exact H) | exact H
            have Ny121 := Aside0.mk hy121
            clear hy121
            obtain rfl := Option.some.inj H
            have hcz56_0 : wr.cell? ⟨gb103, 0, none⟩ = some (.int .i64 a1_0) := (blk_cell BK103.out 0).trans rfl
            have hcz56_1 : wr.cell? ⟨gb103, 1, none⟩ = some (.int .i64 x104001_1) := (blk_cell BK103.out 1).trans rfl
            have hcz56_2 : wr.cell? ⟨gb103, 2, none⟩ = some (.int .i64 x104002_1) := (blk_cell BK103.out 2).trans rfl
            have hfz56_0 := blk_frozen BK103.out 0
            have hfz56_1 := blk_frozen BK103.out 1
            have hfz56_2 := blk_frozen BK103.out 2
            try go_wp2_with (first | ((with_reducible refine gate_builtin (b := .append) (xs := #[.tmp 50, .tmp 52]) rfl ?_); at_builtin; refine Kd.R_append k47 (w0 := w) w.heap.size rfl (.tmp 50) (.tmp 52) 48 47 (.agg #[(.int .i64 0), (.int .i64 0), (.int .i64 0)]) 24 rfl Try.underlying48 info47 rfl (by decide) (by omega) u5 x5_1 (⟨a1_0, x104001_1, x104002_1⟩ : S47) [.int .i64 a1_0, .int .i64 x104001_1, .int .i64 x104002_1] (fun k_ => k_ ≠ gb103) (fun _ => False) rfl rfl ?aP (fun _ hk => hk.elim) ?aF ?aO ?aB ?aS ?aL ?_; (case aP => exact k47_mkM _ _ _ (⟨a1_0, x104001_1, x104002_1⟩ : S47)); (case aB => exact (by repeat (first | (with_reducible first | exact HB.out | apply below_alloc | apply pw_below_drewN | apply below_drew1 | refine below_set ?_ GE103.out) | exact HB.out))); (case aF => exact (fun k_ hk => Kd.freshB (g := gb103) (o := .cells #[.int .i64 a1_0, .int .i64 x104001_1, .int .i64 x104002_1] 47 (0, 0)) (by (with_reducible repeat (first | refine blk_drewN ?_ _ | refine blk_drew ?_ | refine blk_alloc ?_ _)); exact BK103.out) k_ hk)); (case aO => exact (by (with_reducible repeat (first | apply Kd.R_alloc | apply Kd.R_drewN | apply Kd.R_drew)); exact HO_5.out)); (case aS => exact (below_size (by repeat (first | (with_reducible first | exact HB.out | apply below_alloc | apply pw_below_drewN | apply below_drew1 | refine below_set ?_ GE103.out) | exact HB.out)))); (case aL => have := LMc48.out; omega); intro v108 w57 ho hb hg hat; rw [← Ny107.out] at ho; have n0_ := Aside0.mk (blk_grown (g := gb103) (o := .cells #[.int .i64 a1_0, .int .i64 x104001_1, .int .i64 x104002_1] 47 (0, 0)) (by (with_reducible repeat (first | refine blk_drewN ?_ _ | refine blk_drew ?_ | refine blk_alloc ?_ _)); exact BK103.out) hg (Kd.R_away HO_5.out (fun _ hk => hk))); have n1_ := Aside0.mk (hb); have n2_ := Aside0.mk (ho); clear BK103; clear HB; clear HO_5; have BK103 := n0_; have HB := n1_; have HO109 := n2_; clear n0_ n1_ n2_; clear ho hb hg hat))
            have n0_ := Aside0.mk (Kd.R_drew HO109.out)
            have n1_ := Aside0.mk (blk_drew BK103.out)
            have n2_ := Aside0.mk (below_drew1 HB.out)
            clear HO109
            clear BK103
            clear HB
            have HO109 := n0_
            have BK103 := n1_
            have HB := n2_
            clear n0_ n1_ n2_
            obtain ⟨Ao60, co60, eo60⟩ := Kd.R_slice HO109.out
            (first | subst eo60 | (injection eo60 with f1_ f2_ f3_; have f4_ := f1_.symm; have f5_ := f3_.symm; clear f1_ f2_ f3_; subst f4_; subst f5_))
            have q59 : ((ji49) : Int) ≤ ((y107.length : Int) : Int) := of_decide_eq_true (by first | (with_reducible assumption) | assumption)
            obtain ⟨i059, hi059, _, hsz59, _⟩ := info_parts info47
            have hroom59 : y107.length ≤ co60 := (Kd.R_reads' HO109.out).2.1
            have hC59 : Kd.C k47 _ Ao60 y107.length y107 := (Kd.R_reads' HO109.out).2.2
            have q059 : (0 : Int) ≤ ((ji49) : Int) := of_decide_eq_true (by first | (with_reducible assumption) | assumption)
            have hcut59 := cut_from (P := Try.prog) 48 47 .i64 Try.underlying48 hi059 3 hsz59 Ao60 y107.length co60 (ji49) q059 q59
            have hr59 := Kd.C_drop (m := ((ji49) : Int).toNat) (c := co60) hC59 (by omega) hroom59
            obtain ⟨A59, hA59⟩ : ∃ A1, A1 = (if co60 = ((ji49) : Int).toNat then Ao60 else (Ao60 : Option Addr).map (·.add (((ji49) : Int).toNat * 3))) := ⟨_, rfl⟩
            obtain ⟨c59, hc59⟩ : ∃ c1, c1 = co60 - ((ji49) : Int).toNat := ⟨_, rfl⟩
            have hy59 : y110.length = y107.length - ((ji49) : Int).toNat := (by rw [Ny110.out, List.length_drop] <;> omega)
            rw [show (y107).drop ((ji49) : Int).toNat = y110 from Ny110.out.symm] at hr59
            replace hr59 : Kd.C k47 _ A59 y110.length y110 := (by rw [hA59]; exact hr59)
            rw [← hy59, ← hA59, ← hc59] at hcut59
            have HR113 := Aside0.mk hr59
            have HC113 := Aside0.mk (show y110.length ≤ c59 from by rw [hy59, hc59]; exact Nat.sub_le_sub_right hroom59 _)
            clear hr59 hC59 hroom59 hi059 hsz59 hc59
            have KY59 := Aside0.mk hy59
            have KA59 := Aside0.mk hA59
            clear hy59 hA59
            have KL59 := Aside0.mk (show ((ji49) : Int).toNat ≤ y107.length from by omega)
            replace q59 := eq_true q59
            have q61 : (x6_1 : Int) ≤ ((y107.length : Int) : Int) := of_decide_eq_true (by first | (with_reducible assumption) | assumption)
            obtain ⟨i061, hi061, _, hsz61, _⟩ := info_parts info47
            have hroom61 : y107.length ≤ co60 := (Kd.R_reads' HO109.out).2.1
            have hC61 : Kd.C k47 _ Ao60 y107.length y107 := (Kd.R_reads' HO109.out).2.2
            have q061 : (0 : Int) ≤ (x6_1 : Int) := of_decide_eq_true (by first | (with_reducible assumption) | assumption)
            have hcut61 := cut_from (P := Try.prog) 48 47 .i64 Try.underlying48 hi061 3 hsz61 Ao60 y107.length co60 x6_1 q061 q61
            have hr61 := Kd.C_drop (m := (x6_1 : Int).toNat) (c := co60) hC61 (by omega) hroom61
            obtain ⟨A61, hA61⟩ : ∃ A1, A1 = (if co60 = (x6_1 : Int).toNat then Ao60 else (Ao60 : Option Addr).map (·.add ((x6_1 : Int).toNat * 3))) := ⟨_, rfl⟩
            obtain ⟨c61, hc61⟩ : ∃ c1, c1 = co60 - (x6_1 : Int).toNat := ⟨_, rfl⟩
            have hy61 : y114.length = y107.length - (x6_1 : Int).toNat := (by rw [Ny114.out, List.length_drop] <;> omega)
            rw [show (y107).drop (x6_1 : Int).toNat = y114 from Ny114.out.symm] at hr61
            replace hr61 : Kd.C k47 _ A61 y114.length y114 := (by rw [hA61]; exact hr61)
            rw [← hy61, ← hA61, ← hc61] at hcut61
            have HR117 := Aside0.mk hr61
            have HC117 := Aside0.mk (show y114.length ≤ c61 from by rw [hy61, hc61]; exact Nat.sub_le_sub_right hroom61 _)
            clear hr61 hC61 hroom61 hi061 hsz61 hc61
            have KY61 := Aside0.mk hy61
            have KA61 := Aside0.mk hA61
            clear hy61 hA61
            have KL61 := Aside0.mk (show (x6_1 : Int).toNat ≤ y107.length from by omega)
            replace q61 := eq_true q61
            obtain ⟨go63, co63, eo63, gb63, gl63, cl63, HG63⟩ := Kd.R_form HO109.out (by have hj_ : 0 ≤ (x6_1 : Int) := of_decide_eq_true (by first | (with_reducible assumption) | assumption); have hl_ : (ji49 : Int) ≤ (y107.length : Int) := of_decide_eq_true (by first | (with_reducible assumption) | assumption); have hh_ : (x6_1 : Int) ≤ (y107.length : Int) := of_decide_eq_true (by first | (with_reducible assumption) | assumption); rw [← hji49] at hl_; unfold wrap64 at hl_; omega)
            (first | cases eo63 | (injection eo63 with ea_ en_ ec_; (first | subst ea_ | (injection ea_ with ea_; subst ea_)); subst ec_; clear en_))
            have GB63 := Aside0.mk gb63
            have GG63 := Aside0.mk HG63
            clear gb63 gl63 HG63
            refine start_ (n := 8) (S := fun w' => True) (ds := []) #[false, false, false, false, false, false, false, false] (by kernel_rfl) rfl rfl trivial (fun hHeld => ?_); refine with_tabW span_Add.tab14 span_Add.bits14 (fun HT_ HW_ => ?_)
            generalize w57.drew = w58 at HO109 BK103 HB GG63 HR113 HR117 hHeld ⊢
            refine pure_ (i := 0) (N := some 54) (v := ?_) (a' := ?_) #[true, false, false, false, false, false, false, false] rfl rfl (any_of HT_.out (by kernel_rfl)) (fun _ _ _ h => h) (Or.inl ⟨by rfl, ?_⟩) ?_ ?_
            rotate_left
            ·
             intro w'
             go_simp
             with_reducible rfl
            rotate_left
            ·
             simp only [Act.put, List.setIfInBounds_toArray, List.set_cons_zero, List.set_cons_succ, i64_w, i32_w]
             rfl
            refine pure_ (i := 1) (N := some 55) (v := ?_) (a' := ?_) #[true, true, false, false, false, false, false, false] rfl rfl (any_of HT_.out (by kernel_rfl)) (fun _ _ _ h => h) (Or.inl ⟨by rfl, ?_⟩) ?_ ?_
            rotate_left
            ·
             intro w'
             go_simp
             with_reducible rfl
            rotate_left
            ·
             simp only [Act.put, List.setIfInBounds_toArray, List.set_cons_zero, List.set_cons_succ, i64_w, i32_w]
             rfl
            refine pure_ (i := 2) (N := some 56) (v := ?_) (a' := ?_) #[true, true, true, false, false, false, false, false] rfl rfl (any_of HT_.out (by kernel_rfl)) (fun _ _ _ h => h) (Or.inl ⟨by rfl, ?_⟩) ?_ ?_
            rotate_left
            ·
             intro w'
             go_simp
             with_reducible rfl
            rotate_left
            ·
             simp only [Act.put, List.setIfInBounds_toArray, List.set_cons_zero, List.set_cons_succ, i64_w, i32_w]
             rfl
            refine pure_ (i := 3) (N := some 57) (v := ?_) (a' := ?_) #[true, true, true, true, false, false, false, false] rfl rfl (any_of HT_.out (by kernel_rfl)) (fun _ _ _ h => h) (Or.inl ⟨by rfl, ?_⟩) ?_ ?_
            rotate_left
            ·
             intro w'
             go_simp
             with_reducible rfl
            rotate_left
            ·
             simp only [Act.put, List.setIfInBounds_toArray, List.set_cons_zero, List.set_cons_succ, i64_w, i32_w]
             rfl
            refine pure_ (i := 4) (N := some 58) (v := ?_) (a' := ?_) #[true, true, true, true, true, false, false, false] rfl rfl (any_of HT_.out (by kernel_rfl)) (fun _ _ _ h => h) (Or.inl ⟨by rfl, ?_⟩) ?_ ?_
            rotate_left
            ·
             intro w'
             go_simp
             with_reducible rfl
            rotate_left
            ·
             simp only [Act.put, List.setIfInBounds_toArray, List.set_cons_zero, List.set_cons_succ, i64_w, i32_w]
             rfl
            refine pure_ (i := 5) (N := some 59) (v := ?_) (a' := ?_) #[true, true, true, true, true, true, false, false] rfl rfl (any_of HT_.out (by kernel_rfl)) (fun _ _ _ h => h) (Or.inl ⟨by rfl, ?_⟩) ?_ ?_
            rotate_left
            ·
             intro w'
             go_simp
             with_reducible rfl
            rotate_left
            ·
             simp only [Act.put, List.setIfInBounds_toArray, List.set_cons_zero, List.set_cons_succ, i64_w, i32_w]
             rfl
            refine pure_ (i := 6) (N := some 60) (v := ?_) (a' := ?_) #[true, true, true, true, true, true, true, false] rfl rfl (any_of HT_.out (by kernel_rfl)) (fun _ _ _ h => h) (Or.inl ⟨by rfl, ?_⟩) ?_ ?_
            rotate_left
            ·
             intro w'
             go_simp
             with_reducible rfl
            rotate_left
            ·
             simp only [Act.put, List.setIfInBounds_toArray, List.set_cons_zero, List.set_cons_succ, i64_w, i32_w]
             rfl
            refine one_ (i := 7) (N := some 61) #[true, true, true, true, true, true, true, true] rfl rfl (one_of HT_.out (by kernel_rfl)) (by decide) (fun K hK => ?_)
            have hj_ : 0 ≤ (x6_1 : Int) := of_decide_eq_true (by first | (with_reducible assumption) | assumption)
            have hl_ : (ji49 : Int) ≤ (y107.length : Int) := of_decide_eq_true (by first | (with_reducible assumption) | assumption)
            have hh_ : (x6_1 : Int) ≤ (y107.length : Int) := of_decide_eq_true (by first | (with_reducible assumption) | assumption)
            have hb_ := (Kd.R_reads' HO109.out).2.2.2.1
            have h0_ : (0 : Int) ≤ (ji49 : Int) := of_decide_eq_true (by first | (with_reducible assumption) | assumption)
            have hy1_ := KY59.out
            have hk_ : (ji49 : Int).toNat = (x6_1 : Int).toNat + 1 := (by have hw_ : (ji49 : Int) = x6_1 + 1 := (by have h00_ := h0_; rw [← hji49] at h00_ ⊢; unfold wrap64 at h00_ ⊢; omega); rw [hw_]; omega)
            refine Kd.R_copy_at_step k47 (flat_47) (w0 := w) w.heap.size (by rfl) (.tmp 57) (.tmp 60) 48 48 47 rfl Try.underlying48 (by kernel_rfl) (g := go63) (n := y107.length) (c := co60) ((x6_1 : Int).toNat + 1) y114 rfl rfl (by (with_reducible repeat (first | apply Kd.R_alloc | apply Kd.R_drewN | apply Kd.R_drew)); exact HO109.out) ?hm ?hA ?hR (by repeat (first | (with_reducible first | exact HB.out | apply below_alloc | apply pw_below_drewN | apply below_drew1 | refine below_set ?_ GE103.out) | exact HB.out)) (below_size (by repeat (first | (with_reducible first | exact HB.out | apply below_alloc | apply pw_below_drewN | apply below_drew1 | refine below_set ?_ GE103.out) | exact HB.out))) ?_
            (case hm => omega)
            (case hA => intro hp_; have ha_ := KA59.out; have hc_ := (Kd.R_reads' HO109.out).2.1; rw [if_neg (by omega), hk_] at ha_; rw [ha_, Option.map_some, add_at, Nat.zero_add]; rfl)
            (case hR => exact (by repeat (first | (with_reducible exact HR117.out) | (with_reducible refine Kd.C_alloc ?_ _) | (with_reducible refine Kd.C_drewN ?_ _) | (with_reducible refine Kd.C_drew ?_) | exact HR117.out)))
            intro w62 ho hb hg
            clear hj_ hl_ hh_ hb_ hk_ h0_ hy1_
            rw [← Ny118.out] at ho
            have hn_ : y107.length = y118.length := (Kd.R_reads' ho).1
            rw [hn_] at ho ⊢
            clear hn_
            have n0_ := Aside0.mk (blk_grown (g := gb103) (o := .cells #[.int .i64 a1_0, .int .i64 x104001_1, .int .i64 x104002_1] 47 (0, 0)) (by (with_reducible repeat (first | refine blk_drewN ?_ _ | refine blk_drew ?_ | refine blk_alloc ?_ _)); exact BK103.out) hg (Kd.R_away HO109.out (fun _ hk => hk)))
            have n1_ := Aside0.mk (ho)
            have n2_ := Aside0.mk (hb)
            clear BK103
            clear HO109
            clear HB
            have BK103 := n0_
            have HO109 := n1_
            have HB := n2_
            clear n0_ n1_ n2_
            clear ho hb hg
            refine hK.out _ _ trivial (fun hHeld => ?_)
            clear hK K
            refine norm_ (a' := ?_) ?_ ?_
            rotate_left
            ·
             show Act.put _ (some 61) _ = _
             simp only [Act.put, List.setIfInBounds_toArray, List.set_cons_zero, List.set_cons_succ, i64_w, i32_w]
             rfl
            refine done_ (done_of HT_.out (by kernel_rfl)) ?_
            have hcz64_0 : w62.cell? ⟨gb103, 0, none⟩ = some (.int .i64 a1_0) := (blk_cell BK103.out 0).trans rfl
            have hcz64_1 : w62.cell? ⟨gb103, 1, none⟩ = some (.int .i64 x104001_1) := (blk_cell BK103.out 1).trans rfl
            have hcz64_2 : w62.cell? ⟨gb103, 2, none⟩ = some (.int .i64 x104002_1) := (blk_cell BK103.out 2).trans rfl
            have hfz64_0 := blk_frozen BK103.out 0
            have hfz64_1 := blk_frozen BK103.out 1
            have hfz64_2 := blk_frozen BK103.out 2
            have p55 : 0 ≤ (x6_1 : Int) := of_decide_eq_true (by first | (with_reducible assumption) | assumption)
            have q55 : (x6_1 : Int) < ((y118.length : Int) : Int) := of_decide_eq_true (by first | (with_reducible assumption) | assumption)
            obtain ⟨ce55, hcl55, hM55, hcc55, hfr55⟩ := Kd.R_elem HO109.out z47 (x6_1 : Int) p55 q55
            obtain rfl := k47_openM hM55
            have hx55_0 : w62.cell? ⟨go63, (x6_1 : Int).toNat * 3, none⟩ = some (.int .i64 ((rd_T47 y118 x6_1).f0)) := hcc55 0 _ rfl
            have hx55_1 : w62.cell? ⟨go63, (x6_1 : Int).toNat * 3 + 1, none⟩ = some (.int .i64 ((rd_T47 y118 x6_1).f1)) := hcc55 1 _ rfl
            have hx55_2 : w62.cell? ⟨go63, (x6_1 : Int).toNat * 3 + 2, none⟩ = some (.int .i64 ((rd_T47 y118 x6_1).f2)) := hcc55 2 _ rfl
            have hf55_0 : w62.frozen? ⟨go63, (x6_1 : Int).toNat * 3, none⟩ = false := hfr55 0
            have hf55_1 : w62.frozen? ⟨go63, (x6_1 : Int).toNat * 3 + 1, none⟩ = false := hfr55 1
            have hf55_2 : w62.frozen? ⟨go63, (x6_1 : Int).toNat * 3 + 2, none⟩ = false := hfr55 2
            clear hcl55 hcc55 hfr55 hM55
            replace p55 := eq_true p55
            replace q55 := eq_true q55
            have HX65 := Aside0.mk (show Kd.R k47 47 w62 w.heap.size (fun k_ => k_ ≠ gb103) (.slice (some ⟨go63, 0, none⟩) y118.length co60) y118 from (by (with_reducible repeat (first | apply Kd.R_alloc | apply Kd.R_drewN | apply Kd.R_drew)); exact HO109.out))
            obtain ⟨ce65, hcl65, hM65, hcc65, hfr65⟩ := Kd.R_elem HX65.out z47 (x6_1 : Int) (of_decide_eq_true (by first | (with_reducible assumption) | assumption)) (by have h_ : (x6_1 : Int) < ((y118.length : Int) : Int) := of_decide_eq_true (by first | (with_reducible assumption) | assumption); first | exact h_ | (have e_ := (Kd.R_reads' HO109.out).1; omega) | simpa using h_)
            obtain rfl := k47_openM hM65
            have HP65 := Kd.R_seg HX65.out (x6_1 : Int) (of_decide_eq_true (by first | (with_reducible assumption) | assumption)) (by have h_ : (x6_1 : Int) < ((y118.length : Int) : Int) := of_decide_eq_true (by first | (with_reducible assumption) | assumption); first | exact h_ | (have e_ := (Kd.R_reads' HO109.out).1; omega) | simpa using h_) (seg := [.int .i64 a1_0, .int .i64 x104001_1, .int .i64 x104002_1]) (j := 0) hcl65 hcc65 (show 3 ≤ 3 from by decide) (x' := (⟨a1_0, x104001_1, x104002_1⟩ : S47)) (k47_mkM _ _ _ (⟨a1_0, x104001_1, x104002_1⟩ : S47) ) (fun _ hk => hk)
            have hx65_0 := hcc65 0 _ rfl
            (try simp only [show (k47).sz = 3 from rfl, Nat.mul_one, Nat.add_zero] at hx65_0)
            have hf65_0 := hfr65 0
            (try simp only [show (k47).sz = 3 from rfl, Nat.mul_one, Nat.add_zero] at hf65_0)
            have hx65_1 := hcc65 1 _ rfl
            (try simp only [show (k47).sz = 3 from rfl, Nat.mul_one, Nat.add_zero] at hx65_1)
            have hf65_1 := hfr65 1
            (try simp only [show (k47).sz = 3 from rfl, Nat.mul_one, Nat.add_zero] at hf65_1)
            have hx65_2 := hcc65 2 _ rfl
            (try simp only [show (k47).sz = 3 from rfl, Nat.mul_one, Nat.add_zero] at hx65_2)
            have hf65_2 := hfr65 2
            (try simp only [show (k47).sz = 3 from rfl, Nat.mul_one, Nat.add_zero] at hf65_2)
            clear hcl65 hcc65 hfr65 hM65
            try go_wp2_with (first | ((with_reducible refine gate_store (t := 47) (p := 65) rfl ?_); refine store_event (t := 47) (p := 65) (v := ?vo_w66) (w1 := (((w62.setCell ⟨go63, (x6_1 : Int).toNat * 3, none⟩ (.int .i64 a1_0)).setCell ⟨go63, (x6_1 : Int).toNat * 3 + 1, none⟩ (.int .i64 x104001_1)).setCell ⟨go63, (x6_1 : Int).toNat * 3 + 2, none⟩ (.int .i64 x104002_1))) ?hg ?ho ?hn ?hr ?_; (case ho => rfl); (case hg => rfl); (case hn => rfl); (case hr => first | (go_simp; done) | (go_simp; rfl)); intro w66 hw; have hg : w62.grownBy w66 (some go63) := (by rw [hw]; exact HP65.2); have hp_ : Kd.R k47 47 w66 w.heap.size (fun k_ => k_ ≠ gb103) (.slice (some ⟨go63, 0, none⟩) y118.length co60) y121 := (by rw [hw, Ny121.out]; exact HP65.1); clear HP65; have n0_ := Aside0.mk (blk_grown (g := gb103) (o := .cells #[.int .i64 a1_0, .int .i64 x104001_1, .int .i64 x104002_1] 47 (0, 0)) (by (with_reducible repeat (first | refine blk_drewN ?_ _ | refine blk_drew ?_ | refine blk_alloc ?_ _)); exact BK103.out) hg (Kd.R_away HO109.out (fun _ hk => hk))); have n1_ := Aside0.mk (hp_); have n2_ := Aside0.mk ((by rw [hw]; exact below_set (below_set (below_set (HB.out) GB63.out) GB63.out) GB63.out : Below w.heap.size w w66)); clear BK103; clear HO109; clear HB; have BK103 := n0_; have HO109 := n1_; have HB := n2_; clear n0_ n1_ n2_; clear hg hw hp_))
            go_ret
            exact ⟨_, by first | rfl | (simp [errW_none, errW_some] <;> rfl) | (simp only [← hji3, ← hji49]; first | rfl | (simp [errW_none, errW_some] <;> rfl)) | (simp [*, errW_none, errW_some] <;> rfl), by (with_reducible repeat (first | apply Kd.R_alloc | apply Kd.R_drewN | apply Kd.R_drew)); exact Kd.R_mono HO109.out (fun _ hk => trivial), by repeat (first | (with_reducible first | exact HB.out | apply below_alloc | apply pw_below_drewN | apply below_drew1 | refine below_set ?_ GE103.out) | exact HB.out)⟩
           ·
            rw [if_neg c54] at H
            exact absurd H (by simp)
          ·
           rw [if_neg c53] at H
           exact absurd H (by simp)
         ·
          rw [if_neg c52] at H
          exact absurd H (by simp)
        ·
         rw [if_neg c51] at H
         exact absurd H (by simp)
       ·
        rw [if_neg c50] at H
        exact absurd H (by simp)
      ·
       rw [if_neg c48] at H
       exact absurd H (by simp)
  ·
   rw [if_neg c5] at H
   exact absurd H (by simp)
 ·
  rw [if_neg c4] at H
  exact absurd H (by simp)

end Go.Proofs.Ytkioalfallhegaa.PSpanL
