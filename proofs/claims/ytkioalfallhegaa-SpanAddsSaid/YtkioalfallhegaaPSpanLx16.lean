-- written by a program of this session (wip/pp) over the kit's print.py; Lean checks it
import Derived.Test.YtkioalfallhegaaPSpanLx0
namespace Go.Proofs.Ytkioalfallhegaa.PSpanL
open Go.RowKit Go.Proofs.YtkioalfallhegaaW.PrintWords Go.Proofs.YtkioalfallhegaaW.PrintLast Go.Proofs.YtkioalfallhegaaW.PrintMore
attribute [local go_sem] max2_int min2_int max_two min_two max_three min_three max_four min_four plus_setCell_drewN plus_cell_same   -- for this text's walks alone
set_option linter.unusedVariables false
set_option linter.unusedSimpArgs false

/-! ### busbarref12_Cut: function 37 -/
mutual
def busbarref12_Cut.l0 : Nat → List (S47) → List (S47) → Int → Int → Int → Int → Option ((List (S47)))
 | 0, _, _, _, _, _, _ => none
 | k + 1, x0, x5, x6, x269000, x269001, x269002 => if x6 < (x0.length : Int) then (if 0 ≤ x6 then (if ((rd_T47 x0 x6).f0) = x269000 then (if ((rd_T47 x0 x6).f2) ≤ x269001 then (busbarref12_Cut.j1 k x0 x5 x6 true x269000 x269001 x269002 ((rd_T47 x0 x6).f0) ((rd_T47 x0 x6).f1) ((rd_T47 x0 x6).f2)) else (busbarref12_Cut.j1 k x0 x5 x6 (decide (((rd_T47 x0 x6).f1) ≥ x269002)) x269000 x269001 x269002 ((rd_T47 x0 x6).f0) ((rd_T47 x0 x6).f1) ((rd_T47 x0 x6).f2))) else (busbarref12_Cut.j1 k x0 x5 x6 true x269000 x269001 x269002 ((rd_T47 x0 x6).f0) ((rd_T47 x0 x6).f1) ((rd_T47 x0 x6).f2))) else (none)) else (some x5)
def busbarref12_Cut.j1 : Nat → List (S47) → List (S47) → Int → Bool → Int → Int → Int → Int → Int → Int → Option ((List (S47)))
 | 0, _, _, _, _, _, _, _, _, _, _ => none
 | k + 1, x0, x5, x6, x36, x269000, x269001, x269002, x271000, x271001, x271002 => if x36 = true then (if x5.length < 5864062014805 then (busbarref12_Cut.l0 k x0 (x5 ++ [(⟨x271000, x271001, x271002⟩ : S47)]) (wrap64 (x6 + 1)) x269000 x269001 x269002) else (none)) else (if x271001 < x269001 then (if x5.length < 5864062014805 then ((some (x5 ++ [(⟨x271000, x271001, x269001⟩ : S47)] : List (S47))).bind fun y274 => (if x271002 > x269002 then (if y274.length < 5864062014805 then (busbarref12_Cut.l0 k x0 (y274 ++ [(⟨x271000, x269002, x271002⟩ : S47)]) (wrap64 (x6 + 1)) x269000 x269001 x269002) else (none)) else (busbarref12_Cut.l0 k x0 y274 (wrap64 (x6 + 1)) x269000 x269001 x269002))) else (none)) else (if x271002 > x269002 then (if x5.length < 5864062014805 then (busbarref12_Cut.l0 k x0 (x5 ++ [(⟨x271000, x269002, x271002⟩ : S47)]) (wrap64 (x6 + 1)) x269000 x269001 x269002) else (none)) else (busbarref12_Cut.l0 k x0 x5 (wrap64 (x6 + 1)) x269000 x269001 x269002)))
end
def busbarref12_Cut.f (k : Nat) (l0 : List (S47)) (a1_0 : Int) (a1_1 : Int) (a1_2 : Int) : Option ((List (S47))) := busbarref12_Cut.l0 k l0 ([] : List (S47)) 0 a1_0 a1_1 a1_2
theorem busbarref12_Cut.mono_l : ∀ k, (∀ y0 y1 y2 y3 y4 y5, LeO (busbarref12_Cut.l0 k y0 y1 y2 y3 y4 y5) (busbarref12_Cut.l0 (k + 1) y0 y1 y2 y3 y4 y5)) ∧ (∀ y0 y1 y2 y3 y4 y5 y6 y7 y8 y9, LeO (busbarref12_Cut.j1 k y0 y1 y2 y3 y4 y5 y6 y7 y8 y9) (busbarref12_Cut.j1 (k + 1) y0 y1 y2 y3 y4 y5 y6 y7 y8 y9))
 | 0 => ⟨fun _ _ _ _ _ _ r h => by simp [busbarref12_Cut.l0] at h, fun _ _ _ _ _ _ _ _ _ _ r h => by simp [busbarref12_Cut.j1] at h⟩
 | k + 1 => by
  obtain ⟨ih0, ih1⟩ := busbarref12_Cut.mono_l k
  refine ⟨?_, ?_⟩
  ·
   intro y0 y1 y2 y3 y4 y5
   unfold busbarref12_Cut.l0
   repeat' first
   | (with_reducible exact ih0 _ _ _ _ _ _)
   | (with_reducible exact ih1 _ _ _ _ _ _ _ _ _ _)
   | (with_reducible exact LeO.refl _)
   | (with_reducible exact LeO.none _)
   | (with_reducible refine LeO.ite ?_ ?_)
   | (with_reducible refine LeO.bind ?_ (fun _ => ?_))
   | exact ih0 _ _ _ _ _ _
   | exact ih1 _ _ _ _ _ _ _ _ _ _
   | exact LeO.none _
   | refine LeO.ite ?_ ?_
   | refine LeO.bind ?_ (fun _ => ?_)
  ·
   intro y0 y1 y2 y3 y4 y5 y6 y7 y8 y9
   unfold busbarref12_Cut.j1
   repeat' first
   | (with_reducible exact ih0 _ _ _ _ _ _)
   | (with_reducible exact ih1 _ _ _ _ _ _ _ _ _ _)
   | (with_reducible exact LeO.refl _)
   | (with_reducible exact LeO.none _)
   | (with_reducible refine LeO.ite ?_ ?_)
   | (with_reducible refine LeO.bind ?_ (fun _ => ?_))
   | exact ih0 _ _ _ _ _ _
   | exact ih1 _ _ _ _ _ _ _ _ _ _
   | exact LeO.none _
   | refine LeO.ite ?_ ?_
   | refine LeO.bind ?_ (fun _ => ?_)
theorem busbarref12_Cut.mono : ∀ a0 a1 a2 a3 k, LeO (busbarref12_Cut.f k a0 a1 a2 a3) (busbarref12_Cut.f (k + 1) a0 a1 a2 a3) := by
 intro a0 a1 a2 a3 k
 obtain ⟨ih0, ih1⟩ := busbarref12_Cut.mono_l k
 unfold busbarref12_Cut.f
 repeat' first
   | (with_reducible exact ih0 _ _ _ _ _ _)
   | (with_reducible exact ih1 _ _ _ _ _ _ _ _ _ _)
   | (with_reducible exact LeO.refl _)
   | (with_reducible exact LeO.none _)
   | (with_reducible refine LeO.ite ?_ ?_)
   | (with_reducible refine LeO.bind ?_ (fun _ => ?_))
   | exact ih0 _ _ _ _ _ _
   | exact ih1 _ _ _ _ _ _ _ _ _ _
   | exact LeO.none _
   | refine LeO.ite ?_ ?_
   | refine LeO.bind ?_ (fun _ => ?_)
set_option maxHeartbeats 8000000 in
set_option maxRecDepth 100000 in
theorem busbarref12_Cut.calls (k : Nat) (A0 : Option Addr) (c0 : Nat) (l0 : List (S47)) (a1_0 : Int) (a1_1 : Int) (a1_2 : Int) (r : List (S47)) (w : World) (hr0 : Kd.C k47 w A0 l0.length l0) (hc0 : l0.length ≤ c0) (h : busbarref12_Cut.f k l0 a1_0 a1_1 a1_2 = some r) :
  Calls Try.prog 37 #[.slice A0 l0.length c0, .agg #[.int .i64 a1_0, .int .i64 a1_1, .int .i64 a1_2]] w fun e w' => ∃ v0_ : Value, e = .returned (v0_) ∧ Kd.R k47 47 w' w.heap.size (fun _ => True) v0_ r ∧ Below w.heap.size w w' := by
 have hu47 := Try.underlying47
 have HR0 := Aside0.mk hr0
 have HC0 := Aside0.mk hc0
 clear hr0 hc0
 have HB := Aside0.mk (Below.refl w.heap.size w)
 have H : (busbarref12_Cut.l0 k l0 ([] : List (S47)) 0 a1_0 a1_1 a1_2) = some r := h
 clear h
 have H' := Aside0.mk H
 clear H
 go_enter Try.func37, Try.ntmps37
 go_wp2_with (first | ((with_reducible refine gate_dst (N := 3) rfl ?_); refine box_event ?hg (N := 3) ?hd (cs := #[.int .i64 a1_0, .int .i64 a1_1, .int .i64 a1_2]) (t := 47) ?hr ?_; (case hd => rfl); (case hg => rfl); (case hr => first | (go_simp; done) | (go_simp; rfl)); intro gb268 hg w3 hbox hb; have n0_ := Aside0.mk (below_step (by repeat (first | (with_reducible first | exact HB.out | apply below_alloc | apply pw_below_drewN | apply below_drew1) | exact HB.out)) hb); have n1_ := Aside0.mk (hbox); have n2_ := Aside0.mk ((by rw [hg]; exact (below_size (by repeat (first | (with_reducible first | exact HB.out | apply below_alloc | apply pw_below_drewN | apply below_drew1) | exact HB.out))) : w.heap.size ≤ gb268)); have n3_ := Aside0.mk ((by rw [hg]; exact (below_size (by repeat (first | (with_reducible first | exact HB.out | apply below_alloc | apply pw_below_drewN | apply below_drew1) | exact HB.out))) : w.heap.size ≤ gb268)); clear HB; have HB := n0_; have BK268 := n1_; have GW268 := n2_; have GE268 := n3_; clear n0_ n1_ n2_ n3_; clear hb hbox hg))
 go_loopg [5, 6] k (fun kq v5 v6 w' => ∃ (x5_1 : List (S47)) (x6_1 : Int), v6 = .int .i64 x6_1 ∧ Aside0 (busbarref12_Cut.l0 kq l0 x5_1 x6_1 a1_0 a1_1 a1_2 = some r) ∧ Aside0 (kq ≤ k) ∧ Aside0 (Kd.R k47 47 w' w.heap.size (fun k_ => k_ ≠ gb268) v5 x5_1) ∧ Aside0 (w'.heap[gb268]? = some (.cells #[.int .i64 a1_0, .int .i64 a1_1, .int .i64 a1_2] 47 (0, 0))) ∧ Aside0 (Below w.heap.size w w'))
 case atStart => exact ⟨(([] : List (S47))), (0), (by first | rfl | (simp; done) | (simp [*]; done)), H', ⟨Nat.le_refl _⟩, ⟨by first | exact Kd.R_nil _ _ _ _ _ | exact Kd.N_nil _ _ _ _ _ | exact Kd.V_nil _ _ _ _ _ | exact Kd.Q_nil _ _ _ _ _ | exact Kd.S_nil _ _ _ _ _⟩, ⟨by (with_reducible repeat (first | refine blk_drewN ?_ _ | refine blk_drew ?_ | refine blk_alloc ?_ _)); exact BK268.out⟩, ⟨by repeat (first | (with_reducible first | exact HB.out | apply below_alloc | apply pw_below_drewN | apply below_drew1 | refine below_set ?_ GE268.out) | exact HB.out)⟩⟩
 case round =>
  clear H'
  try clear p2
  try clear c3
  obtain ⟨x5_1, x6_1, rfl, HA, HK1, HO_5, BK268, HB⟩ := hrel
  cases gk with
  | zero => exact absurd HA.out (by simp [busbarref12_Cut.l0])
  | succ k1 =>
   have H := HA.out
   clear HA
   simp only [busbarref12_Cut.l0] at H
   by_cases c4 : x6_1 < (l0.length : Int)
   ·
    rw [if_pos c4] at H
    have c4b0 : decide (x6_1 < (l0.length : Int)) = true := decide_eq_true c4
    clear c4
    by_cases c5 : 0 ≤ x6_1
    ·
     rw [if_pos c5] at H
     have c5b0 : decide (0 ≤ x6_1) = true := decide_eq_true c5
     clear c5
     have HC6 := Aside0.mk H
     clear H
     have p269 : 0 ≤ (x6_1 : Int) := of_decide_eq_true (by first | (with_reducible assumption) | assumption)
     have q269 : x6_1 < (l0.length : Int) := of_decide_eq_true (by first | (with_reducible assumption) | assumption)
     obtain ⟨ad269, e269, hx269_0, hx269_1, hx269_2⟩ := at_T47 HR0.out x6_1 p269 q269
     cases e269
     replace hx269_0 := (HB.out.cell (World.block_lt_of_cell? w _ hx269_0)).trans hx269_0
     replace hx269_1 := (HB.out.cell (World.block_lt_of_cell? w _ hx269_1)).trans hx269_1
     replace hx269_2 := (HB.out.cell (World.block_lt_of_cell? w _ hx269_2)).trans hx269_2
     replace p269 := eq_true p269
     replace q269 := eq_true q269
     go_upto_region 6 with (first | ((with_reducible refine gate_dst (N := 7) rfl ?_); refine box_event ?hg (N := 7) ?hd (cs := #[.int .i64 0, .int .i64 0, .int .i64 0]) (t := 47) ?hr ?_; (case hd => rfl); (case hg => rfl); (case hr => first | (go_simp; done) | (go_simp; rfl)); intro gb270 hg w7 hbox hb; have n0_ := Aside0.mk (Kd.R_below (Kd.R_elderB (by (with_reducible repeat (first | apply Kd.R_alloc | apply Kd.R_drewN | apply Kd.R_drew)); exact HO_5.out) gb270 (Nat.le_of_eq hg.symm)) hb); have n1_ := Aside0.mk (blk_below (g := gb268) (o := .cells #[.int .i64 a1_0, .int .i64 a1_1, .int .i64 a1_2] 47 (0, 0)) (by (with_reducible repeat (first | refine blk_drewN ?_ _ | refine blk_drew ?_ | refine blk_alloc ?_ _)); exact BK268.out) hb); have n2_ := Aside0.mk (below_step (by repeat (first | (with_reducible first | exact HB.out | apply below_alloc | apply pw_below_drewN | apply below_drew1 | refine below_set ?_ GE268.out) | exact HB.out)) hb); have n3_ := Aside0.mk (hbox); have n4_ := Aside0.mk ((by rw [hg]; exact (below_size (by repeat (first | (with_reducible first | exact HB.out | apply below_alloc | apply pw_below_drewN | apply below_drew1 | refine below_set ?_ GE268.out) | exact HB.out))) : w.heap.size ≤ gb270)); have n5_ := Aside0.mk ((by rw [hg]; exact (below_size (by repeat (first | (with_reducible first | exact HB.out | apply below_alloc | apply pw_below_drewN | apply below_drew1 | refine below_set ?_ GE268.out) | exact HB.out))) : w.heap.size ≤ gb270)); have n6_ := Aside0.mk ((by rw [hg]; exact Nat.ne_of_lt (blk_lt (g := gb268) (o := .cells #[.int .i64 a1_0, .int .i64 a1_1, .int .i64 a1_2] 47 (0, 0)) (by (with_reducible repeat (first | refine blk_drewN ?_ _ | refine blk_drew ?_ | refine blk_alloc ?_ _)); exact BK268.out)) : gb268 ≠ gb270)); have n7_ := Aside0.mk ((by rw [hg]; exact Nat.ne_of_gt (blk_lt (g := gb268) (o := .cells #[.int .i64 a1_0, .int .i64 a1_1, .int .i64 a1_2] 47 (0, 0)) (by (with_reducible repeat (first | refine blk_drewN ?_ _ | refine blk_drew ?_ | refine blk_alloc ?_ _)); exact BK268.out)) : gb270 ≠ gb268)); clear HO_5; clear BK268; clear HB; have HO_5 := n0_; have BK268 := n1_; have HB := n2_; have BK270 := n3_; have GW270 := n4_; have GE270 := n5_; have NB268_270 := n6_; have NB270_268 := n7_; clear n0_ n1_ n2_ n3_ n4_ n5_ n6_ n7_; clear hb hbox hg; have hnb8 := NB270_268.out; have hnc8 := NB268_270.out; have hcz9_0 : w7.cell? ⟨gb270, 0, none⟩ = some (.int .i64 0) := (blk_cell BK270.out 0).trans rfl; have hcz9_1 : w7.cell? ⟨gb270, 1, none⟩ = some (.int .i64 0) := (blk_cell BK270.out 1).trans rfl; have hcz9_2 : w7.cell? ⟨gb270, 2, none⟩ = some (.int .i64 0) := (blk_cell BK270.out 2).trans rfl; have hfz9_0 := blk_frozen BK270.out 0; have hfz9_1 := blk_frozen BK270.out 1; have hfz9_2 := blk_frozen BK270.out 2))
     (try simp only [Act.put, List.setIfInBounds_toArray, List.set_cons_zero, List.set_cons_succ])
     go_cut [36] (fun v36 wc => ∃ (kq : Nat) (x36_5 : Bool), v36 = .bool x36_5 ∧ Aside0 (busbarref12_Cut.j1 kq l0 x5_1 x6_1 x36_5 a1_0 a1_1 a1_2 ((rd_T47 l0 x6_1).f0) ((rd_T47 l0 x6_1).f1) ((rd_T47 l0 x6_1).f2) = some r) ∧ Aside0 (kq ≤ k1) ∧ Aside0 (Kd.R k47 47 wc w.heap.size (fun k_ => k_ ≠ gb268 ∧ k_ ≠ gb270) u5 x5_1) ∧ Aside0 (wc.heap[gb268]? = some (.cells #[.int .i64 a1_0, .int .i64 a1_1, .int .i64 a1_2] 47 (0, 0))) ∧ Aside0 (wc.heap[gb270]? = some (.cells #[.int .i64 ((rd_T47 l0 x6_1).f0), .int .i64 ((rd_T47 l0 x6_1).f1), .int .i64 ((rd_T47 l0 x6_1).f2)] 47 (0, 0))) ∧ Aside0 (Below w.heap.size w wc))
     case first =>
      have H := HC6.out
      clear HC6
      by_cases c10 : ((rd_T47 l0 x6_1).f0) = a1_0
      ·
       rw [if_pos c10] at H
       have c10b0 : (((rd_T47 l0 x6_1).f0) == a1_0) = true := beq_iff_eq.mpr c10
       have c10b1 : (((rd_T47 l0 x6_1).f0) != a1_0) = false := bne_eq_false_iff_eq.mpr c10
       clear c10
       (first | rw [c10b0] | (simp only [i64_w, i32_w]; rw [c10b0]) | skip)
       by_cases c11 : ((rd_T47 l0 x6_1).f2) ≤ a1_1
       ·
        rw [if_pos c11] at H
        have c11b0 : decide (((rd_T47 l0 x6_1).f2) ≤ a1_1) = true := decide_eq_true c11
        clear c11
        have H' := Aside0.mk H
        clear H
        have hnb12 := NB270_268.out
        have hnc12 := NB268_270.out
        have hcz13_0 : w7.cell? ⟨gb270, 0, none⟩ = some (.int .i64 0) := (blk_cell BK270.out 0).trans rfl
        have hcz13_1 : w7.cell? ⟨gb270, 1, none⟩ = some (.int .i64 0) := (blk_cell BK270.out 1).trans rfl
        have hcz13_2 : w7.cell? ⟨gb270, 2, none⟩ = some (.int .i64 0) := (blk_cell BK270.out 2).trans rfl
        have hfz13_0 := blk_frozen BK270.out 0
        have hfz13_1 := blk_frozen BK270.out 1
        have hfz13_2 := blk_frozen BK270.out 2
        have hcz14_0 : w7.cell? ⟨gb268, 0, none⟩ = some (.int .i64 a1_0) := (blk_cell BK268.out 0).trans rfl
        have hcz14_1 : w7.cell? ⟨gb268, 1, none⟩ = some (.int .i64 a1_1) := (blk_cell BK268.out 1).trans rfl
        have hcz14_2 : w7.cell? ⟨gb268, 2, none⟩ = some (.int .i64 a1_2) := (blk_cell BK268.out 2).trans rfl
        have hfz14_0 := blk_frozen BK268.out 0
        have hfz14_1 := blk_frozen BK268.out 1
        have hfz14_2 := blk_frozen BK268.out 2
        go_wp2
        go_meet
        case rel => exact ⟨_, (true), (by first | rfl | (simp; done) | (simp [*]; done)), H', ⟨by have := HK1.out; first | omega | exact Nat.le_refl _⟩, ⟨by (with_reducible repeat (first | apply Kd.R_alloc | apply Kd.R_drewN | apply Kd.R_drew)); exact Kd.R_mono (Kd.R_far (p := ⟨gb270, 2, none⟩) (Kd.R_far (p := ⟨gb270, 1, none⟩) (Kd.R_far (p := ⟨gb270, 0, none⟩) (Kd.R_mono HO_5.out (fun k_ hk => (⟨hk, hk.2⟩ : _ ∧ k_ ≠ gb270))) (fun _ hk => hk.2) (.int .i64 ((rd_T47 l0 x6_1).f0))) (fun _ hk => hk.2) (.int .i64 ((rd_T47 l0 x6_1).f1))) (fun _ hk => hk.2) (.int .i64 ((rd_T47 l0 x6_1).f2))) (fun _ hk => ⟨hk.1.1, hk.1.2⟩)⟩, ⟨by (with_reducible repeat (first | refine blk_drewN ?_ _ | refine blk_drew ?_ | refine blk_alloc ?_ _)); refine blk_far ?_ NB268_270.out _; (with_reducible repeat (first | refine blk_drewN ?_ _ | refine blk_drew ?_ | refine blk_alloc ?_ _)); refine blk_far ?_ NB268_270.out _; (with_reducible repeat (first | refine blk_drewN ?_ _ | refine blk_drew ?_ | refine blk_alloc ?_ _)); refine blk_far ?_ NB268_270.out _; (with_reducible repeat (first | refine blk_drewN ?_ _ | refine blk_drew ?_ | refine blk_alloc ?_ _)); exact BK268.out⟩, ⟨by (with_reducible repeat (first | refine blk_drewN ?_ _ | refine blk_drew ?_ | refine blk_alloc ?_ _)); refine blk_put (cs := #[.int .i64 ((rd_T47 l0 x6_1).f0), .int .i64 ((rd_T47 l0 x6_1).f1), .int .i64 0]) ?_ 2 _ rfl; (with_reducible repeat (first | refine blk_drewN ?_ _ | refine blk_drew ?_ | refine blk_alloc ?_ _)); refine blk_put (cs := #[.int .i64 ((rd_T47 l0 x6_1).f0), .int .i64 0, .int .i64 0]) ?_ 1 _ rfl; (with_reducible repeat (first | refine blk_drewN ?_ _ | refine blk_drew ?_ | refine blk_alloc ?_ _)); refine blk_put (cs := #[.int .i64 0, .int .i64 0, .int .i64 0]) ?_ 0 _ rfl; (with_reducible repeat (first | refine blk_drewN ?_ _ | refine blk_drew ?_ | refine blk_alloc ?_ _)); exact BK270.out⟩, ⟨by repeat (first | (with_reducible first | exact HB.out | apply below_alloc | apply pw_below_drewN | apply below_drew1 | refine below_set ?_ GE268.out | refine below_set ?_ GE270.out) | exact HB.out)⟩⟩
       ·
        rw [if_neg c11] at H
        have c11b0 : decide (((rd_T47 l0 x6_1).f2) ≤ a1_1) = false := decide_eq_false c11
        clear c11
        have H' := Aside0.mk H
        clear H
        have hnb15 := NB270_268.out
        have hnc15 := NB268_270.out
        have hcz16_0 : w7.cell? ⟨gb270, 0, none⟩ = some (.int .i64 0) := (blk_cell BK270.out 0).trans rfl
        have hcz16_1 : w7.cell? ⟨gb270, 1, none⟩ = some (.int .i64 0) := (blk_cell BK270.out 1).trans rfl
        have hcz16_2 : w7.cell? ⟨gb270, 2, none⟩ = some (.int .i64 0) := (blk_cell BK270.out 2).trans rfl
        have hfz16_0 := blk_frozen BK270.out 0
        have hfz16_1 := blk_frozen BK270.out 1
        have hfz16_2 := blk_frozen BK270.out 2
        have hcz17_0 : w7.cell? ⟨gb268, 0, none⟩ = some (.int .i64 a1_0) := (blk_cell BK268.out 0).trans rfl
        have hcz17_1 : w7.cell? ⟨gb268, 1, none⟩ = some (.int .i64 a1_1) := (blk_cell BK268.out 1).trans rfl
        have hcz17_2 : w7.cell? ⟨gb268, 2, none⟩ = some (.int .i64 a1_2) := (blk_cell BK268.out 2).trans rfl
        have hfz17_0 := blk_frozen BK268.out 0
        have hfz17_1 := blk_frozen BK268.out 1
        have hfz17_2 := blk_frozen BK268.out 2
        go_wp2
        go_meet
        case rel => exact ⟨_, (decide (((rd_T47 l0 x6_1).f1) ≥ a1_2)), (by first | rfl | (simp; done) | (simp [*]; done)), H', ⟨by have := HK1.out; first | omega | exact Nat.le_refl _⟩, ⟨by (with_reducible repeat (first | apply Kd.R_alloc | apply Kd.R_drewN | apply Kd.R_drew)); exact Kd.R_mono (Kd.R_far (p := ⟨gb270, 2, none⟩) (Kd.R_far (p := ⟨gb270, 1, none⟩) (Kd.R_far (p := ⟨gb270, 0, none⟩) (Kd.R_mono HO_5.out (fun k_ hk => (⟨hk, hk.2⟩ : _ ∧ k_ ≠ gb270))) (fun _ hk => hk.2) (.int .i64 ((rd_T47 l0 x6_1).f0))) (fun _ hk => hk.2) (.int .i64 ((rd_T47 l0 x6_1).f1))) (fun _ hk => hk.2) (.int .i64 ((rd_T47 l0 x6_1).f2))) (fun _ hk => ⟨hk.1.1, hk.1.2⟩)⟩, ⟨by (with_reducible repeat (first | refine blk_drewN ?_ _ | refine blk_drew ?_ | refine blk_alloc ?_ _)); refine blk_far ?_ NB268_270.out _; (with_reducible repeat (first | refine blk_drewN ?_ _ | refine blk_drew ?_ | refine blk_alloc ?_ _)); refine blk_far ?_ NB268_270.out _; (with_reducible repeat (first | refine blk_drewN ?_ _ | refine blk_drew ?_ | refine blk_alloc ?_ _)); refine blk_far ?_ NB268_270.out _; (with_reducible repeat (first | refine blk_drewN ?_ _ | refine blk_drew ?_ | refine blk_alloc ?_ _)); exact BK268.out⟩, ⟨by (with_reducible repeat (first | refine blk_drewN ?_ _ | refine blk_drew ?_ | refine blk_alloc ?_ _)); refine blk_put (cs := #[.int .i64 ((rd_T47 l0 x6_1).f0), .int .i64 ((rd_T47 l0 x6_1).f1), .int .i64 0]) ?_ 2 _ rfl; (with_reducible repeat (first | refine blk_drewN ?_ _ | refine blk_drew ?_ | refine blk_alloc ?_ _)); refine blk_put (cs := #[.int .i64 ((rd_T47 l0 x6_1).f0), .int .i64 0, .int .i64 0]) ?_ 1 _ rfl; (with_reducible repeat (first | refine blk_drewN ?_ _ | refine blk_drew ?_ | refine blk_alloc ?_ _)); refine blk_put (cs := #[.int .i64 0, .int .i64 0, .int .i64 0]) ?_ 0 _ rfl; (with_reducible repeat (first | refine blk_drewN ?_ _ | refine blk_drew ?_ | refine blk_alloc ?_ _)); exact BK270.out⟩, ⟨by repeat (first | (with_reducible first | exact HB.out | apply below_alloc | apply pw_below_drewN | apply below_drew1 | refine below_set ?_ GE268.out | refine below_set ?_ GE270.out) | exact HB.out)⟩⟩
      ·
       rw [if_neg c10] at H
       have c10b0 : (((rd_T47 l0 x6_1).f0) == a1_0) = false := beq_eq_false_iff_ne.mpr c10
       have c10b1 : (((rd_T47 l0 x6_1).f0) != a1_0) = true := bne_iff_ne.mpr c10
       (first | rw [c10b0] | (simp only [i64_w, i32_w]; rw [c10b0]) | skip)
       have H' := Aside0.mk H
       clear H
       have hnb18 := NB270_268.out
       have hnc18 := NB268_270.out
       have hcz19_0 : w7.cell? ⟨gb270, 0, none⟩ = some (.int .i64 0) := (blk_cell BK270.out 0).trans rfl
       have hcz19_1 : w7.cell? ⟨gb270, 1, none⟩ = some (.int .i64 0) := (blk_cell BK270.out 1).trans rfl
       have hcz19_2 : w7.cell? ⟨gb270, 2, none⟩ = some (.int .i64 0) := (blk_cell BK270.out 2).trans rfl
       have hfz19_0 := blk_frozen BK270.out 0
       have hfz19_1 := blk_frozen BK270.out 1
       have hfz19_2 := blk_frozen BK270.out 2
       have hcz20_0 : w7.cell? ⟨gb268, 0, none⟩ = some (.int .i64 a1_0) := (blk_cell BK268.out 0).trans rfl
       have hcz20_1 : w7.cell? ⟨gb268, 1, none⟩ = some (.int .i64 a1_1) := (blk_cell BK268.out 1).trans rfl
       have hcz20_2 : w7.cell? ⟨gb268, 2, none⟩ = some (.int .i64 a1_2) := (blk_cell BK268.out 2).trans rfl
       have hfz20_0 := blk_frozen BK268.out 0
       have hfz20_1 := blk_frozen BK268.out 1
       have hfz20_2 := blk_frozen BK268.out 2
       go_wp2
       go_meet
       case rel => exact ⟨_, (true), (by first | rfl | (simp; done) | (simp [*]; done)), H', ⟨by have := HK1.out; first | omega | exact Nat.le_refl _⟩, ⟨by (with_reducible repeat (first | apply Kd.R_alloc | apply Kd.R_drewN | apply Kd.R_drew)); exact Kd.R_mono (Kd.R_far (p := ⟨gb270, 2, none⟩) (Kd.R_far (p := ⟨gb270, 1, none⟩) (Kd.R_far (p := ⟨gb270, 0, none⟩) (Kd.R_mono HO_5.out (fun k_ hk => (⟨hk, hk.2⟩ : _ ∧ k_ ≠ gb270))) (fun _ hk => hk.2) (.int .i64 ((rd_T47 l0 x6_1).f0))) (fun _ hk => hk.2) (.int .i64 ((rd_T47 l0 x6_1).f1))) (fun _ hk => hk.2) (.int .i64 ((rd_T47 l0 x6_1).f2))) (fun _ hk => ⟨hk.1.1, hk.1.2⟩)⟩, ⟨by (with_reducible repeat (first | refine blk_drewN ?_ _ | refine blk_drew ?_ | refine blk_alloc ?_ _)); refine blk_far ?_ NB268_270.out _; (with_reducible repeat (first | refine blk_drewN ?_ _ | refine blk_drew ?_ | refine blk_alloc ?_ _)); refine blk_far ?_ NB268_270.out _; (with_reducible repeat (first | refine blk_drewN ?_ _ | refine blk_drew ?_ | refine blk_alloc ?_ _)); refine blk_far ?_ NB268_270.out _; (with_reducible repeat (first | refine blk_drewN ?_ _ | refine blk_drew ?_ | refine blk_alloc ?_ _)); exact BK268.out⟩, ⟨by (with_reducible repeat (first | refine blk_drewN ?_ _ | refine blk_drew ?_ | refine blk_alloc ?_ _)); refine blk_put (cs := #[.int .i64 ((rd_T47 l0 x6_1).f0), .int .i64 ((rd_T47 l0 x6_1).f1), .int .i64 0]) ?_ 2 _ rfl; (with_reducible repeat (first | refine blk_drewN ?_ _ | refine blk_drew ?_ | refine blk_alloc ?_ _)); refine blk_put (cs := #[.int .i64 ((rd_T47 l0 x6_1).f0), .int .i64 0, .int .i64 0]) ?_ 1 _ rfl; (with_reducible repeat (first | refine blk_drewN ?_ _ | refine blk_drew ?_ | refine blk_alloc ?_ _)); refine blk_put (cs := #[.int .i64 0, .int .i64 0, .int .i64 0]) ?_ 0 _ rfl; (with_reducible repeat (first | refine blk_drewN ?_ _ | refine blk_drew ?_ | refine blk_alloc ?_ _)); exact BK270.out⟩, ⟨by repeat (first | (with_reducible first | exact HB.out | apply below_alloc | apply pw_below_drewN | apply below_drew1 | refine below_set ?_ GE268.out | refine below_set ?_ GE270.out) | exact HB.out)⟩⟩
     case rest =>
      clear HC6
      try clear c1
      try clear p2
      try clear q2
      try clear hx2
      try clear c3
      try clear c4
      try clear c4b0
      try clear c5
      try clear c5b0
      try clear c8
      try clear c10
      try clear c10b0
      try clear c10b1
      try clear c11
      try clear c11b0
      try clear c12
      try clear c15
      try clear c18
      try clear hcz13_0
      try clear hcz13_1
      try clear hcz13_2
      try clear hcz14_0
      try clear hcz14_1
      try clear hcz14_2
      try clear hcz16_0
      try clear hcz16_1
      try clear hcz16_2
      try clear hcz17_0
      try clear hcz17_1
      try clear hcz17_2
      try clear hcz19_0
      try clear hcz19_1
      try clear hcz19_2
      try clear hcz20_0
      try clear hcz20_1
      try clear hcz20_2
      try clear hcz9_0
      try clear hcz9_1
      try clear hcz9_2
      try clear hfz13_0
      try clear hfz13_1
      try clear hfz13_2
      try clear hfz14_0
      try clear hfz14_1
      try clear hfz14_2
      try clear hfz16_0
      try clear hfz16_1
      try clear hfz16_2
      try clear hfz17_0
      try clear hfz17_1
      try clear hfz17_2
      try clear hfz19_0
      try clear hfz19_1
      try clear hfz19_2
      try clear hfz20_0
      try clear hfz20_1
      try clear hfz20_2
      try clear hfz9_0
      try clear hfz9_1
      try clear hfz9_2
      try clear hx269_0
      try clear hx269_1
      try clear hx269_2
      try clear p2
      try clear p269
      try clear q269
      obtain ⟨kq, x36_5, rfl, HA, HJ5, HO_5, BK268, BK270, HB⟩ := hcut
      cases kq with
      | zero => exact absurd HA.out (by simp [busbarref12_Cut.j1])
      | succ kj5 =>
       have H := HA.out
       clear HA
       simp only [busbarref12_Cut.j1] at H
       by_cases c21 : x36_5 = true
       ·
        subst c21
        have H1 : (if x5_1.length < 5864062014805 then (busbarref12_Cut.l0 kj5 l0 (x5_1 ++ [(⟨((rd_T47 l0 x6_1).f0), ((rd_T47 l0 x6_1).f1), ((rd_T47 l0 x6_1).f2)⟩ : S47)]) (wrap64 (x6_1 + 1)) a1_0 a1_1 a1_2) else (none)) = some r := by rw [if_pos rfl] at H; exact H
        clear H
        have H := H1
        clear H1
        by_cases c22 : x5_1.length < 5864062014805
        ·
         rw [if_pos c22] at H
         have LMc22 := Aside0.mk c22
         clear c22
         obtain ⟨y271, hy271⟩ : ∃ y_ : List (S47), y_ = (x5_1 ++ [(⟨((rd_T47 l0 x6_1).f0), ((rd_T47 l0 x6_1).f1), ((rd_T47 l0 x6_1).f2)⟩ : S47)]) := ⟨_, rfl⟩
         replace H : (busbarref12_Cut.l0 kj5 l0 y271 (wrap64 (x6_1 + 1)) a1_0 a1_1 a1_2) = some r := by first | (rw [hy271]; with_reducible exact H) | (have H2_ := (Option.bind_some _ _).symm.trans H; rw [hy271]; with_reducible exact H2_) | (have H2_ := (Option.bind_some _ _).symm.trans H; with_reducible exact H2_) | with_reducible exact H | (rw [hy271]; exact H) | exact H
         have Ny271 := Aside0.mk hy271
         clear hy271
         have H' := Aside0.mk H
         clear H
         have hnb23 := NB270_268.out
         have hnc23 := NB268_270.out
         have hcz24_0 : wc.cell? ⟨gb270, 0, none⟩ = some (.int .i64 ((rd_T47 l0 x6_1).f0)) := (blk_cell BK270.out 0).trans rfl
         have hcz24_1 : wc.cell? ⟨gb270, 1, none⟩ = some (.int .i64 ((rd_T47 l0 x6_1).f1)) := (blk_cell BK270.out 1).trans rfl
         have hcz24_2 : wc.cell? ⟨gb270, 2, none⟩ = some (.int .i64 ((rd_T47 l0 x6_1).f2)) := (blk_cell BK270.out 2).trans rfl
         have hfz24_0 := blk_frozen BK270.out 0
         have hfz24_1 := blk_frozen BK270.out 1
         have hfz24_2 := blk_frozen BK270.out 2
         go_wp2_with (first | ((with_reducible refine gate_builtin (b := .append) (xs := #[.tmp 37, .tmp 39]) rfl ?_); at_builtin; refine Kd.R_append k47 (w0 := w) w.heap.size rfl (.tmp 37) (.tmp 39) 48 47 (.agg #[(.int .i64 0), (.int .i64 0), (.int .i64 0)]) 24 rfl Try.underlying48 info47 rfl (by decide) (by omega) u5 x5_1 (⟨((rd_T47 l0 x6_1).f0), ((rd_T47 l0 x6_1).f1), ((rd_T47 l0 x6_1).f2)⟩ : S47) [.int .i64 ((rd_T47 l0 x6_1).f0), .int .i64 ((rd_T47 l0 x6_1).f1), .int .i64 ((rd_T47 l0 x6_1).f2)] (fun k_ => k_ ≠ gb268 ∧ k_ ≠ gb270) (fun _ => False) rfl rfl ?aP (fun _ hk => hk.elim) ?aF ?aO ?aB ?aS ?aL ?_; (case aP => exact k47_mkM _ _ _ (⟨((rd_T47 l0 x6_1).f0), ((rd_T47 l0 x6_1).f1), ((rd_T47 l0 x6_1).f2)⟩ : S47)); (case aB => exact (by repeat (first | (with_reducible first | exact HB.out | apply below_alloc | apply pw_below_drewN | apply below_drew1 | refine below_set ?_ GE268.out | refine below_set ?_ GE270.out) | exact HB.out))); (case aF => exact (fun k_ hk => ⟨Kd.freshB (g := gb268) (o := .cells #[.int .i64 a1_0, .int .i64 a1_1, .int .i64 a1_2] 47 (0, 0)) (by (with_reducible repeat (first | refine blk_drewN ?_ _ | refine blk_drew ?_ | refine blk_alloc ?_ _)); exact BK268.out) k_ hk, Kd.freshB (g := gb270) (o := .cells #[.int .i64 ((rd_T47 l0 x6_1).f0), .int .i64 ((rd_T47 l0 x6_1).f1), .int .i64 ((rd_T47 l0 x6_1).f2)] 47 (0, 0)) (by (with_reducible repeat (first | refine blk_drewN ?_ _ | refine blk_drew ?_ | refine blk_alloc ?_ _)); exact BK270.out) k_ hk⟩)); (case aO => exact (by (with_reducible repeat (first | apply Kd.R_alloc | apply Kd.R_drewN | apply Kd.R_drew)); exact HO_5.out)); (case aS => exact (below_size (by repeat (first | (with_reducible first | exact HB.out | apply below_alloc | apply pw_below_drewN | apply below_drew1 | refine below_set ?_ GE268.out | refine below_set ?_ GE270.out) | exact HB.out)))); (case aL => have := LMc22.out; omega); intro v272 w25 ho hb hg hat; rw [← Ny271.out] at ho; have n0_ := Aside0.mk (blk_grown (g := gb268) (o := .cells #[.int .i64 a1_0, .int .i64 a1_1, .int .i64 a1_2] 47 (0, 0)) (by (with_reducible repeat (first | refine blk_drewN ?_ _ | refine blk_drew ?_ | refine blk_alloc ?_ _)); exact BK268.out) hg (Kd.R_away HO_5.out (fun _ hk => hk.1))); have n1_ := Aside0.mk (blk_grown (g := gb270) (o := .cells #[.int .i64 ((rd_T47 l0 x6_1).f0), .int .i64 ((rd_T47 l0 x6_1).f1), .int .i64 ((rd_T47 l0 x6_1).f2)] 47 (0, 0)) (by (with_reducible repeat (first | refine blk_drewN ?_ _ | refine blk_drew ?_ | refine blk_alloc ?_ _)); exact BK270.out) hg (Kd.R_away HO_5.out (fun _ hk => hk.2))); have n2_ := Aside0.mk (hb); have n3_ := Aside0.mk (ho); clear BK268; clear BK270; clear HB; clear HO_5; have BK268 := n0_; have BK270 := n1_; have HB := n2_; have HO273 := n3_; clear n0_ n1_ n2_ n3_; clear ho hb hg hat))
         go_roundg kj5
         case measure => have := HK1.out; have := HJ5.out; omega
         case rel => exact ⟨(y271), (wrap64 (x6_1 + 1)), (by first | rfl | (simp; done) | (simp [*]; done)), H', ⟨by have := HK1.out; have := HJ5.out; omega⟩, ⟨by (with_reducible repeat (first | apply Kd.R_alloc | apply Kd.R_drewN | apply Kd.R_drew)); exact Kd.R_mono HO273.out (fun _ hk => hk.1)⟩, ⟨by (with_reducible repeat (first | refine blk_drewN ?_ _ | refine blk_drew ?_ | refine blk_alloc ?_ _)); exact BK268.out⟩, ⟨by repeat (first | (with_reducible first | exact HB.out | apply below_alloc | apply pw_below_drewN | apply below_drew1 | refine below_set ?_ GE268.out | refine below_set ?_ GE270.out) | exact HB.out)⟩⟩
        ·
         rw [if_neg c22] at H
         exact absurd H (by simp)
       ·
        replace c21 := Bool.eq_false_iff.mpr c21
        subst c21
        have H1 : (if ((rd_T47 l0 x6_1).f1) < a1_1 then (if x5_1.length < 5864062014805 then ((some (x5_1 ++ [(⟨((rd_T47 l0 x6_1).f0), ((rd_T47 l0 x6_1).f1), a1_1⟩ : S47)] : List (S47))).bind fun y274 => (if ((rd_T47 l0 x6_1).f2) > a1_2 then (if y274.length < 5864062014805 then (busbarref12_Cut.l0 kj5 l0 (y274 ++ [(⟨((rd_T47 l0 x6_1).f0), a1_2, ((rd_T47 l0 x6_1).f2)⟩ : S47)]) (wrap64 (x6_1 + 1)) a1_0 a1_1 a1_2) else (none)) else (busbarref12_Cut.l0 kj5 l0 y274 (wrap64 (x6_1 + 1)) a1_0 a1_1 a1_2))) else (none)) else (if ((rd_T47 l0 x6_1).f2) > a1_2 then (if x5_1.length < 5864062014805 then (busbarref12_Cut.l0 kj5 l0 (x5_1 ++ [(⟨((rd_T47 l0 x6_1).f0), a1_2, ((rd_T47 l0 x6_1).f2)⟩ : S47)]) (wrap64 (x6_1 + 1)) a1_0 a1_1 a1_2) else (none)) else (busbarref12_Cut.l0 kj5 l0 x5_1 (wrap64 (x6_1 + 1)) a1_0 a1_1 a1_2))) = some r := by rw [if_neg (show ¬ (false = true) by decide)] at H; exact H
        clear H
        have H := H1
        clear H1
        by_cases c26 : ((rd_T47 l0 x6_1).f1) < a1_1
        ·
         rw [if_pos c26] at H
         have c26b0 : decide (((rd_T47 l0 x6_1).f1) < a1_1) = true := decide_eq_true c26
         clear c26
         by_cases c27 : x5_1.length < 5864062014805
         ·
          rw [if_pos c27] at H
          have LMc27 := Aside0.mk c27
          clear c27
          obtain ⟨y274, hy274⟩ : ∃ y_ : List (S47), y_ = (x5_1 ++ [(⟨((rd_T47 l0 x6_1).f0), ((rd_T47 l0 x6_1).f1), a1_1⟩ : S47)]) := ⟨_, rfl⟩
          replace H : (if ((rd_T47 l0 x6_1).f2) > a1_2 then (if y274.length < 5864062014805 then (busbarref12_Cut.l0 kj5 l0 (y274 ++ [(⟨((rd_T47 l0 x6_1).f0), a1_2, ((rd_T47 l0 x6_1).f2)⟩ : S47)]) (wrap64 (x6_1 + 1)) a1_0 a1_1 a1_2) else (none)) else (busbarref12_Cut.l0 kj5 l0 y274 (wrap64 (x6_1 + 1)) a1_0 a1_1 a1_2)) = some r := by first | (rw [hy274]; with_reducible exact H) | (have H2_ := (Option.bind_some _ _).symm.trans H; rw [hy274]; with_reducible exact H2_) | (have H2_ := (Option.bind_some _ _).symm.trans H; with_reducible exact H2_) | with_reducible exact H | (rw [hy274]; exact H) | exact H
          have Ny274 := Aside0.mk hy274
          clear hy274
          by_cases c28 : ((rd_T47 l0 x6_1).f2) > a1_2
          ·
           rw [if_pos c28] at H
           have c28b0 : decide (a1_2 < ((rd_T47 l0 x6_1).f2)) = true := decide_eq_true c28
           clear c28
           by_cases c29 : y274.length < 5864062014805
           ·
            rw [if_pos c29] at H
            have LMc29 := Aside0.mk c29
            clear c29
            obtain ⟨y277, hy277⟩ : ∃ y_ : List (S47), y_ = (y274 ++ [(⟨((rd_T47 l0 x6_1).f0), a1_2, ((rd_T47 l0 x6_1).f2)⟩ : S47)]) := ⟨_, rfl⟩
            replace H : (busbarref12_Cut.l0 kj5 l0 y277 (wrap64 (x6_1 + 1)) a1_0 a1_1 a1_2) = some r := by first | (rw [hy277]; with_reducible exact H) | (have H2_ := (Option.bind_some _ _).symm.trans H; rw [hy277]; with_reducible exact H2_) | (have H2_ := (Option.bind_some _ _).symm.trans H; with_reducible exact H2_) | with_reducible exact H | (rw [hy277]; exact H) | exact H
            have Ny277 := Aside0.mk hy277
            clear hy277
            have H' := Aside0.mk H
            clear H
            have hnb30 := NB270_268.out
            have hnc30 := NB268_270.out
            have hcz31_0 : wc.cell? ⟨gb270, 0, none⟩ = some (.int .i64 ((rd_T47 l0 x6_1).f0)) := (blk_cell BK270.out 0).trans rfl
            have hcz31_1 : wc.cell? ⟨gb270, 1, none⟩ = some (.int .i64 ((rd_T47 l0 x6_1).f1)) := (blk_cell BK270.out 1).trans rfl
            have hcz31_2 : wc.cell? ⟨gb270, 2, none⟩ = some (.int .i64 ((rd_T47 l0 x6_1).f2)) := (blk_cell BK270.out 2).trans rfl
            have hfz31_0 := blk_frozen BK270.out 0
            have hfz31_1 := blk_frozen BK270.out 1
            have hfz31_2 := blk_frozen BK270.out 2
            have hcz32_0 : wc.cell? ⟨gb268, 0, none⟩ = some (.int .i64 a1_0) := (blk_cell BK268.out 0).trans rfl
            have hcz32_1 : wc.cell? ⟨gb268, 1, none⟩ = some (.int .i64 a1_1) := (blk_cell BK268.out 1).trans rfl
            have hcz32_2 : wc.cell? ⟨gb268, 2, none⟩ = some (.int .i64 a1_2) := (blk_cell BK268.out 2).trans rfl
            have hfz32_0 := blk_frozen BK268.out 0
            have hfz32_1 := blk_frozen BK268.out 1
            have hfz32_2 := blk_frozen BK268.out 2
            go_wp2_with (first | ((with_reducible refine gate_builtin (b := .append) (xs := #[.tmp 46, .tmp 54]) rfl ?_); at_builtin; refine Kd.R_append k47 (w0 := w) w.heap.size rfl (.tmp 46) (.tmp 54) 48 47 (.agg #[(.int .i64 0), (.int .i64 0), (.int .i64 0)]) 24 rfl Try.underlying48 info47 rfl (by decide) (by omega) u5 x5_1 (⟨((rd_T47 l0 x6_1).f0), ((rd_T47 l0 x6_1).f1), a1_1⟩ : S47) [.int .i64 ((rd_T47 l0 x6_1).f0), .int .i64 ((rd_T47 l0 x6_1).f1), .int .i64 a1_1] (fun k_ => k_ ≠ gb268 ∧ k_ ≠ gb270) (fun _ => False) rfl rfl ?aP (fun _ hk => hk.elim) ?aF ?aO ?aB ?aS ?aL ?_; (case aP => exact k47_mkM _ _ _ (⟨((rd_T47 l0 x6_1).f0), ((rd_T47 l0 x6_1).f1), a1_1⟩ : S47)); (case aB => exact (by repeat (first | (with_reducible first | exact HB.out | apply below_alloc | apply pw_below_drewN | apply below_drew1 | refine below_set ?_ GE268.out | refine below_set ?_ GE270.out) | exact HB.out))); (case aF => exact (fun k_ hk => ⟨Kd.freshB (g := gb268) (o := .cells #[.int .i64 a1_0, .int .i64 a1_1, .int .i64 a1_2] 47 (0, 0)) (by (with_reducible repeat (first | refine blk_drewN ?_ _ | refine blk_drew ?_ | refine blk_alloc ?_ _)); exact BK268.out) k_ hk, Kd.freshB (g := gb270) (o := .cells #[.int .i64 ((rd_T47 l0 x6_1).f0), .int .i64 ((rd_T47 l0 x6_1).f1), .int .i64 ((rd_T47 l0 x6_1).f2)] 47 (0, 0)) (by (with_reducible repeat (first | refine blk_drewN ?_ _ | refine blk_drew ?_ | refine blk_alloc ?_ _)); exact BK270.out) k_ hk⟩)); (case aO => exact (by (with_reducible repeat (first | apply Kd.R_alloc | apply Kd.R_drewN | apply Kd.R_drew)); exact HO_5.out)); (case aS => exact (below_size (by repeat (first | (with_reducible first | exact HB.out | apply below_alloc | apply pw_below_drewN | apply below_drew1 | refine below_set ?_ GE268.out | refine below_set ?_ GE270.out) | exact HB.out)))); (case aL => have := LMc27.out; omega); intro v275 w33 ho hb hg hat; rw [← Ny274.out] at ho; have n0_ := Aside0.mk (blk_grown (g := gb268) (o := .cells #[.int .i64 a1_0, .int .i64 a1_1, .int .i64 a1_2] 47 (0, 0)) (by (with_reducible repeat (first | refine blk_drewN ?_ _ | refine blk_drew ?_ | refine blk_alloc ?_ _)); exact BK268.out) hg (Kd.R_away HO_5.out (fun _ hk => hk.1))); have n1_ := Aside0.mk (blk_grown (g := gb270) (o := .cells #[.int .i64 ((rd_T47 l0 x6_1).f0), .int .i64 ((rd_T47 l0 x6_1).f1), .int .i64 ((rd_T47 l0 x6_1).f2)] 47 (0, 0)) (by (with_reducible repeat (first | refine blk_drewN ?_ _ | refine blk_drew ?_ | refine blk_alloc ?_ _)); exact BK270.out) hg (Kd.R_away HO_5.out (fun _ hk => hk.2))); have n2_ := Aside0.mk (hb); have n3_ := Aside0.mk (ho); clear BK268; clear BK270; clear HB; clear HO_5; have BK268 := n0_; have BK270 := n1_; have HB := n2_; have HO276 := n3_; clear n0_ n1_ n2_ n3_; clear ho hb hg hat; have hcz34_0 : w33.cell? ⟨gb270, 0, none⟩ = some (.int .i64 ((rd_T47 l0 x6_1).f0)) := (blk_cell BK270.out 0).trans rfl; have hcz34_1 : w33.cell? ⟨gb270, 1, none⟩ = some (.int .i64 ((rd_T47 l0 x6_1).f1)) := (blk_cell BK270.out 1).trans rfl; have hcz34_2 : w33.cell? ⟨gb270, 2, none⟩ = some (.int .i64 ((rd_T47 l0 x6_1).f2)) := (blk_cell BK270.out 2).trans rfl; have hfz34_0 := blk_frozen BK270.out 0; have hfz34_1 := blk_frozen BK270.out 1; have hfz34_2 := blk_frozen BK270.out 2; have hcz35_0 : w33.cell? ⟨gb268, 0, none⟩ = some (.int .i64 a1_0) := (blk_cell BK268.out 0).trans rfl; have hcz35_1 : w33.cell? ⟨gb268, 1, none⟩ = some (.int .i64 a1_1) := (blk_cell BK268.out 1).trans rfl; have hcz35_2 : w33.cell? ⟨gb268, 2, none⟩ = some (.int .i64 a1_2) := (blk_cell BK268.out 2).trans rfl; have hfz35_0 := blk_frozen BK268.out 0; have hfz35_1 := blk_frozen BK268.out 1; have hfz35_2 := blk_frozen BK268.out 2) | ((with_reducible refine gate_builtin (b := .append) (xs := #[.tmp 61, .tmp 69]) rfl ?_); at_builtin; refine Kd.R_append k47 (w0 := w) w.heap.size rfl (.tmp 61) (.tmp 69) 48 47 (.agg #[(.int .i64 0), (.int .i64 0), (.int .i64 0)]) 24 rfl Try.underlying48 info47 rfl (by decide) (by omega) v275 y274 (⟨((rd_T47 l0 x6_1).f0), a1_2, ((rd_T47 l0 x6_1).f2)⟩ : S47) [.int .i64 ((rd_T47 l0 x6_1).f0), .int .i64 a1_2, .int .i64 ((rd_T47 l0 x6_1).f2)] (fun k_ => k_ ≠ gb268 ∧ k_ ≠ gb270) (fun _ => False) rfl rfl ?aP (fun _ hk => hk.elim) ?aF ?aO ?aB ?aS ?aL ?_; (case aP => exact k47_mkM _ _ _ (⟨((rd_T47 l0 x6_1).f0), a1_2, ((rd_T47 l0 x6_1).f2)⟩ : S47)); (case aB => exact (by repeat (first | (with_reducible first | exact HB.out | apply below_alloc | apply pw_below_drewN | apply below_drew1 | refine below_set ?_ GE268.out | refine below_set ?_ GE270.out) | exact HB.out))); (case aF => exact (fun k_ hk => ⟨Kd.freshB (g := gb268) (o := .cells #[.int .i64 a1_0, .int .i64 a1_1, .int .i64 a1_2] 47 (0, 0)) (by (with_reducible repeat (first | refine blk_drewN ?_ _ | refine blk_drew ?_ | refine blk_alloc ?_ _)); exact BK268.out) k_ hk, Kd.freshB (g := gb270) (o := .cells #[.int .i64 ((rd_T47 l0 x6_1).f0), .int .i64 ((rd_T47 l0 x6_1).f1), .int .i64 ((rd_T47 l0 x6_1).f2)] 47 (0, 0)) (by (with_reducible repeat (first | refine blk_drewN ?_ _ | refine blk_drew ?_ | refine blk_alloc ?_ _)); exact BK270.out) k_ hk⟩)); (case aO => exact (by (with_reducible repeat (first | apply Kd.R_alloc | apply Kd.R_drewN | apply Kd.R_drew)); exact HO276.out)); (case aS => exact (below_size (by repeat (first | (with_reducible first | exact HB.out | apply below_alloc | apply pw_below_drewN | apply below_drew1 | refine below_set ?_ GE268.out | refine below_set ?_ GE270.out) | exact HB.out)))); (case aL => have := LMc29.out; omega); intro v278 w36 ho hb hg hat; rw [← Ny277.out] at ho; have n0_ := Aside0.mk (blk_grown (g := gb268) (o := .cells #[.int .i64 a1_0, .int .i64 a1_1, .int .i64 a1_2] 47 (0, 0)) (by (with_reducible repeat (first | refine blk_drewN ?_ _ | refine blk_drew ?_ | refine blk_alloc ?_ _)); exact BK268.out) hg (Kd.R_away HO276.out (fun _ hk => hk.1))); have n1_ := Aside0.mk (blk_grown (g := gb270) (o := .cells #[.int .i64 ((rd_T47 l0 x6_1).f0), .int .i64 ((rd_T47 l0 x6_1).f1), .int .i64 ((rd_T47 l0 x6_1).f2)] 47 (0, 0)) (by (with_reducible repeat (first | refine blk_drewN ?_ _ | refine blk_drew ?_ | refine blk_alloc ?_ _)); exact BK270.out) hg (Kd.R_away HO276.out (fun _ hk => hk.2))); have n2_ := Aside0.mk (hb); have n3_ := Aside0.mk (ho); clear BK268; clear BK270; clear HB; clear HO276; have BK268 := n0_; have BK270 := n1_; have HB := n2_; have HO279 := n3_; clear n0_ n1_ n2_ n3_; clear ho hb hg hat))
            go_roundg kj5
            case measure => have := HK1.out; have := HJ5.out; omega
            case rel => exact ⟨(y277), (wrap64 (x6_1 + 1)), (by first | rfl | (simp; done) | (simp [*]; done)), H', ⟨by have := HK1.out; have := HJ5.out; omega⟩, ⟨by (with_reducible repeat (first | apply Kd.R_alloc | apply Kd.R_drewN | apply Kd.R_drew)); exact Kd.R_mono HO279.out (fun _ hk => hk.1)⟩, ⟨by (with_reducible repeat (first | refine blk_drewN ?_ _ | refine blk_drew ?_ | refine blk_alloc ?_ _)); exact BK268.out⟩, ⟨by repeat (first | (with_reducible first | exact HB.out | apply below_alloc | apply pw_below_drewN | apply below_drew1 | refine below_set ?_ GE268.out | refine below_set ?_ GE270.out) | exact HB.out)⟩⟩
           ·
            rw [if_neg c29] at H
            exact absurd H (by simp)
          ·
           rw [if_neg c28] at H
           have c28b0 : decide (a1_2 < ((rd_T47 l0 x6_1).f2)) = false := decide_eq_false c28
           clear c28
           have H' := Aside0.mk H
           clear H
           have hnb37 := NB270_268.out
           have hnc37 := NB268_270.out
           have hcz38_0 : wc.cell? ⟨gb270, 0, none⟩ = some (.int .i64 ((rd_T47 l0 x6_1).f0)) := (blk_cell BK270.out 0).trans rfl
           have hcz38_1 : wc.cell? ⟨gb270, 1, none⟩ = some (.int .i64 ((rd_T47 l0 x6_1).f1)) := (blk_cell BK270.out 1).trans rfl
           have hcz38_2 : wc.cell? ⟨gb270, 2, none⟩ = some (.int .i64 ((rd_T47 l0 x6_1).f2)) := (blk_cell BK270.out 2).trans rfl
           have hfz38_0 := blk_frozen BK270.out 0
           have hfz38_1 := blk_frozen BK270.out 1
           have hfz38_2 := blk_frozen BK270.out 2
           have hcz39_0 : wc.cell? ⟨gb268, 0, none⟩ = some (.int .i64 a1_0) := (blk_cell BK268.out 0).trans rfl
           have hcz39_1 : wc.cell? ⟨gb268, 1, none⟩ = some (.int .i64 a1_1) := (blk_cell BK268.out 1).trans rfl
           have hcz39_2 : wc.cell? ⟨gb268, 2, none⟩ = some (.int .i64 a1_2) := (blk_cell BK268.out 2).trans rfl
           have hfz39_0 := blk_frozen BK268.out 0
           have hfz39_1 := blk_frozen BK268.out 1
           have hfz39_2 := blk_frozen BK268.out 2
           go_wp2_with (first | ((with_reducible refine gate_builtin (b := .append) (xs := #[.tmp 46, .tmp 54]) rfl ?_); at_builtin; refine Kd.R_append k47 (w0 := w) w.heap.size rfl (.tmp 46) (.tmp 54) 48 47 (.agg #[(.int .i64 0), (.int .i64 0), (.int .i64 0)]) 24 rfl Try.underlying48 info47 rfl (by decide) (by omega) u5 x5_1 (⟨((rd_T47 l0 x6_1).f0), ((rd_T47 l0 x6_1).f1), a1_1⟩ : S47) [.int .i64 ((rd_T47 l0 x6_1).f0), .int .i64 ((rd_T47 l0 x6_1).f1), .int .i64 a1_1] (fun k_ => k_ ≠ gb268 ∧ k_ ≠ gb270) (fun _ => False) rfl rfl ?aP (fun _ hk => hk.elim) ?aF ?aO ?aB ?aS ?aL ?_; (case aP => exact k47_mkM _ _ _ (⟨((rd_T47 l0 x6_1).f0), ((rd_T47 l0 x6_1).f1), a1_1⟩ : S47)); (case aB => exact (by repeat (first | (with_reducible first | exact HB.out | apply below_alloc | apply pw_below_drewN | apply below_drew1 | refine below_set ?_ GE268.out | refine below_set ?_ GE270.out) | exact HB.out))); (case aF => exact (fun k_ hk => ⟨Kd.freshB (g := gb268) (o := .cells #[.int .i64 a1_0, .int .i64 a1_1, .int .i64 a1_2] 47 (0, 0)) (by (with_reducible repeat (first | refine blk_drewN ?_ _ | refine blk_drew ?_ | refine blk_alloc ?_ _)); exact BK268.out) k_ hk, Kd.freshB (g := gb270) (o := .cells #[.int .i64 ((rd_T47 l0 x6_1).f0), .int .i64 ((rd_T47 l0 x6_1).f1), .int .i64 ((rd_T47 l0 x6_1).f2)] 47 (0, 0)) (by (with_reducible repeat (first | refine blk_drewN ?_ _ | refine blk_drew ?_ | refine blk_alloc ?_ _)); exact BK270.out) k_ hk⟩)); (case aO => exact (by (with_reducible repeat (first | apply Kd.R_alloc | apply Kd.R_drewN | apply Kd.R_drew)); exact HO_5.out)); (case aS => exact (below_size (by repeat (first | (with_reducible first | exact HB.out | apply below_alloc | apply pw_below_drewN | apply below_drew1 | refine below_set ?_ GE268.out | refine below_set ?_ GE270.out) | exact HB.out)))); (case aL => have := LMc27.out; omega); intro v275 w40 ho hb hg hat; rw [← Ny274.out] at ho; have n0_ := Aside0.mk (blk_grown (g := gb268) (o := .cells #[.int .i64 a1_0, .int .i64 a1_1, .int .i64 a1_2] 47 (0, 0)) (by (with_reducible repeat (first | refine blk_drewN ?_ _ | refine blk_drew ?_ | refine blk_alloc ?_ _)); exact BK268.out) hg (Kd.R_away HO_5.out (fun _ hk => hk.1))); have n1_ := Aside0.mk (blk_grown (g := gb270) (o := .cells #[.int .i64 ((rd_T47 l0 x6_1).f0), .int .i64 ((rd_T47 l0 x6_1).f1), .int .i64 ((rd_T47 l0 x6_1).f2)] 47 (0, 0)) (by (with_reducible repeat (first | refine blk_drewN ?_ _ | refine blk_drew ?_ | refine blk_alloc ?_ _)); exact BK270.out) hg (Kd.R_away HO_5.out (fun _ hk => hk.2))); have n2_ := Aside0.mk (hb); have n3_ := Aside0.mk (ho); clear BK268; clear BK270; clear HB; clear HO_5; have BK268 := n0_; have BK270 := n1_; have HB := n2_; have HO276 := n3_; clear n0_ n1_ n2_ n3_; clear ho hb hg hat; have hcz41_0 : w40.cell? ⟨gb270, 0, none⟩ = some (.int .i64 ((rd_T47 l0 x6_1).f0)) := (blk_cell BK270.out 0).trans rfl; have hcz41_1 : w40.cell? ⟨gb270, 1, none⟩ = some (.int .i64 ((rd_T47 l0 x6_1).f1)) := (blk_cell BK270.out 1).trans rfl; have hcz41_2 : w40.cell? ⟨gb270, 2, none⟩ = some (.int .i64 ((rd_T47 l0 x6_1).f2)) := (blk_cell BK270.out 2).trans rfl; have hfz41_0 := blk_frozen BK270.out 0; have hfz41_1 := blk_frozen BK270.out 1; have hfz41_2 := blk_frozen BK270.out 2; have hcz42_0 : w40.cell? ⟨gb268, 0, none⟩ = some (.int .i64 a1_0) := (blk_cell BK268.out 0).trans rfl; have hcz42_1 : w40.cell? ⟨gb268, 1, none⟩ = some (.int .i64 a1_1) := (blk_cell BK268.out 1).trans rfl; have hcz42_2 : w40.cell? ⟨gb268, 2, none⟩ = some (.int .i64 a1_2) := (blk_cell BK268.out 2).trans rfl; have hfz42_0 := blk_frozen BK268.out 0; have hfz42_1 := blk_frozen BK268.out 1; have hfz42_2 := blk_frozen BK268.out 2))
           go_roundg kj5
           case measure => have := HK1.out; have := HJ5.out; omega
           case rel => exact ⟨(y274), (wrap64 (x6_1 + 1)), (by first | rfl | (simp; done) | (simp [*]; done)), H', ⟨by have := HK1.out; have := HJ5.out; omega⟩, ⟨by (with_reducible repeat (first | apply Kd.R_alloc | apply Kd.R_drewN | apply Kd.R_drew)); exact Kd.R_mono HO276.out (fun _ hk => hk.1)⟩, ⟨by (with_reducible repeat (first | refine blk_drewN ?_ _ | refine blk_drew ?_ | refine blk_alloc ?_ _)); exact BK268.out⟩, ⟨by repeat (first | (with_reducible first | exact HB.out | apply below_alloc | apply pw_below_drewN | apply below_drew1 | refine below_set ?_ GE268.out | refine below_set ?_ GE270.out) | exact HB.out)⟩⟩
         ·
          rw [if_neg c27] at H
          exact absurd H (by simp)
        ·
         rw [if_neg c26] at H
         have c26b0 : decide (((rd_T47 l0 x6_1).f1) < a1_1) = false := decide_eq_false c26
         clear c26
         by_cases c43 : ((rd_T47 l0 x6_1).f2) > a1_2
         ·
          rw [if_pos c43] at H
          have c43b0 : decide (a1_2 < ((rd_T47 l0 x6_1).f2)) = true := decide_eq_true c43
          clear c43
          by_cases c44 : x5_1.length < 5864062014805
          ·
           rw [if_pos c44] at H
           have LMc44 := Aside0.mk c44
           clear c44
           obtain ⟨y280, hy280⟩ : ∃ y_ : List (S47), y_ = (x5_1 ++ [(⟨((rd_T47 l0 x6_1).f0), a1_2, ((rd_T47 l0 x6_1).f2)⟩ : S47)]) := ⟨_, rfl⟩
           replace H : (busbarref12_Cut.l0 kj5 l0 y280 (wrap64 (x6_1 + 1)) a1_0 a1_1 a1_2) = some r := by first | (rw [hy280]; with_reducible exact H) | (have H2_ := (Option.bind_some _ _).symm.trans H; rw [hy280]; with_reducible exact H2_) | (have H2_ := (Option.bind_some _ _).symm.trans H; with_reducible exact H2_) | with_reducible exact H | (rw [hy280]; exact H) | exact H
           have Ny280 := Aside0.mk hy280
           clear hy280
           have H' := Aside0.mk H
           clear H
           have hnb45 := NB270_268.out
           have hnc45 := NB268_270.out
           have hcz46_0 : wc.cell? ⟨gb270, 0, none⟩ = some (.int .i64 ((rd_T47 l0 x6_1).f0)) := (blk_cell BK270.out 0).trans rfl
           have hcz46_1 : wc.cell? ⟨gb270, 1, none⟩ = some (.int .i64 ((rd_T47 l0 x6_1).f1)) := (blk_cell BK270.out 1).trans rfl
           have hcz46_2 : wc.cell? ⟨gb270, 2, none⟩ = some (.int .i64 ((rd_T47 l0 x6_1).f2)) := (blk_cell BK270.out 2).trans rfl
           have hfz46_0 := blk_frozen BK270.out 0
           have hfz46_1 := blk_frozen BK270.out 1
           have hfz46_2 := blk_frozen BK270.out 2
           have hcz47_0 : wc.cell? ⟨gb268, 0, none⟩ = some (.int .i64 a1_0) := (blk_cell BK268.out 0).trans rfl
           have hcz47_1 : wc.cell? ⟨gb268, 1, none⟩ = some (.int .i64 a1_1) := (blk_cell BK268.out 1).trans rfl
           have hcz47_2 : wc.cell? ⟨gb268, 2, none⟩ = some (.int .i64 a1_2) := (blk_cell BK268.out 2).trans rfl
           have hfz47_0 := blk_frozen BK268.out 0
           have hfz47_1 := blk_frozen BK268.out 1
           have hfz47_2 := blk_frozen BK268.out 2
           go_wp2_with (first | ((with_reducible refine gate_builtin (b := .append) (xs := #[.tmp 61, .tmp 69]) rfl ?_); at_builtin; refine Kd.R_append k47 (w0 := w) w.heap.size rfl (.tmp 61) (.tmp 69) 48 47 (.agg #[(.int .i64 0), (.int .i64 0), (.int .i64 0)]) 24 rfl Try.underlying48 info47 rfl (by decide) (by omega) u5 x5_1 (⟨((rd_T47 l0 x6_1).f0), a1_2, ((rd_T47 l0 x6_1).f2)⟩ : S47) [.int .i64 ((rd_T47 l0 x6_1).f0), .int .i64 a1_2, .int .i64 ((rd_T47 l0 x6_1).f2)] (fun k_ => k_ ≠ gb268 ∧ k_ ≠ gb270) (fun _ => False) rfl rfl ?aP (fun _ hk => hk.elim) ?aF ?aO ?aB ?aS ?aL ?_; (case aP => exact k47_mkM _ _ _ (⟨((rd_T47 l0 x6_1).f0), a1_2, ((rd_T47 l0 x6_1).f2)⟩ : S47)); (case aB => exact (by repeat (first | (with_reducible first | exact HB.out | apply below_alloc | apply pw_below_drewN | apply below_drew1 | refine below_set ?_ GE268.out | refine below_set ?_ GE270.out) | exact HB.out))); (case aF => exact (fun k_ hk => ⟨Kd.freshB (g := gb268) (o := .cells #[.int .i64 a1_0, .int .i64 a1_1, .int .i64 a1_2] 47 (0, 0)) (by (with_reducible repeat (first | refine blk_drewN ?_ _ | refine blk_drew ?_ | refine blk_alloc ?_ _)); exact BK268.out) k_ hk, Kd.freshB (g := gb270) (o := .cells #[.int .i64 ((rd_T47 l0 x6_1).f0), .int .i64 ((rd_T47 l0 x6_1).f1), .int .i64 ((rd_T47 l0 x6_1).f2)] 47 (0, 0)) (by (with_reducible repeat (first | refine blk_drewN ?_ _ | refine blk_drew ?_ | refine blk_alloc ?_ _)); exact BK270.out) k_ hk⟩)); (case aO => exact (by (with_reducible repeat (first | apply Kd.R_alloc | apply Kd.R_drewN | apply Kd.R_drew)); exact HO_5.out)); (case aS => exact (below_size (by repeat (first | (with_reducible first | exact HB.out | apply below_alloc | apply pw_below_drewN | apply below_drew1 | refine below_set ?_ GE268.out | refine below_set ?_ GE270.out) | exact HB.out)))); (case aL => have := LMc44.out; omega); intro v281 w48 ho hb hg hat; rw [← Ny280.out] at ho; have n0_ := Aside0.mk (blk_grown (g := gb268) (o := .cells #[.int .i64 a1_0, .int .i64 a1_1, .int .i64 a1_2] 47 (0, 0)) (by (with_reducible repeat (first | refine blk_drewN ?_ _ | refine blk_drew ?_ | refine blk_alloc ?_ _)); exact BK268.out) hg (Kd.R_away HO_5.out (fun _ hk => hk.1))); have n1_ := Aside0.mk (blk_grown (g := gb270) (o := .cells #[.int .i64 ((rd_T47 l0 x6_1).f0), .int .i64 ((rd_T47 l0 x6_1).f1), .int .i64 ((rd_T47 l0 x6_1).f2)] 47 (0, 0)) (by (with_reducible repeat (first | refine blk_drewN ?_ _ | refine blk_drew ?_ | refine blk_alloc ?_ _)); exact BK270.out) hg (Kd.R_away HO_5.out (fun _ hk => hk.2))); have n2_ := Aside0.mk (hb); have n3_ := Aside0.mk (ho); clear BK268; clear BK270; clear HB; clear HO_5; have BK268 := n0_; have BK270 := n1_; have HB := n2_; have HO282 := n3_; clear n0_ n1_ n2_ n3_; clear ho hb hg hat))
           go_roundg kj5
           case measure => have := HK1.out; have := HJ5.out; omega
           case rel => exact ⟨(y280), (wrap64 (x6_1 + 1)), (by first | rfl | (simp; done) | (simp [*]; done)), H', ⟨by have := HK1.out; have := HJ5.out; omega⟩, ⟨by (with_reducible repeat (first | apply Kd.R_alloc | apply Kd.R_drewN | apply Kd.R_drew)); exact Kd.R_mono HO282.out (fun _ hk => hk.1)⟩, ⟨by (with_reducible repeat (first | refine blk_drewN ?_ _ | refine blk_drew ?_ | refine blk_alloc ?_ _)); exact BK268.out⟩, ⟨by repeat (first | (with_reducible first | exact HB.out | apply below_alloc | apply pw_below_drewN | apply below_drew1 | refine below_set ?_ GE268.out | refine below_set ?_ GE270.out) | exact HB.out)⟩⟩
          ·
           rw [if_neg c44] at H
           exact absurd H (by simp)
         ·
          rw [if_neg c43] at H
          have c43b0 : decide (a1_2 < ((rd_T47 l0 x6_1).f2)) = false := decide_eq_false c43
          clear c43
          have H' := Aside0.mk H
          clear H
          have hnb49 := NB270_268.out
          have hnc49 := NB268_270.out
          have hcz50_0 : wc.cell? ⟨gb270, 0, none⟩ = some (.int .i64 ((rd_T47 l0 x6_1).f0)) := (blk_cell BK270.out 0).trans rfl
          have hcz50_1 : wc.cell? ⟨gb270, 1, none⟩ = some (.int .i64 ((rd_T47 l0 x6_1).f1)) := (blk_cell BK270.out 1).trans rfl
          have hcz50_2 : wc.cell? ⟨gb270, 2, none⟩ = some (.int .i64 ((rd_T47 l0 x6_1).f2)) := (blk_cell BK270.out 2).trans rfl
          have hfz50_0 := blk_frozen BK270.out 0
          have hfz50_1 := blk_frozen BK270.out 1
          have hfz50_2 := blk_frozen BK270.out 2
          have hcz51_0 : wc.cell? ⟨gb268, 0, none⟩ = some (.int .i64 a1_0) := (blk_cell BK268.out 0).trans rfl
          have hcz51_1 : wc.cell? ⟨gb268, 1, none⟩ = some (.int .i64 a1_1) := (blk_cell BK268.out 1).trans rfl
          have hcz51_2 : wc.cell? ⟨gb268, 2, none⟩ = some (.int .i64 a1_2) := (blk_cell BK268.out 2).trans rfl
          have hfz51_0 := blk_frozen BK268.out 0
          have hfz51_1 := blk_frozen BK268.out 1
          have hfz51_2 := blk_frozen BK268.out 2
          go_wp2
          go_roundg kj5
          case measure => have := HK1.out; have := HJ5.out; omega
          case rel => exact ⟨(x5_1), (wrap64 (x6_1 + 1)), (by first | rfl | (simp; done) | (simp [*]; done)), H', ⟨by have := HK1.out; have := HJ5.out; omega⟩, ⟨by (with_reducible repeat (first | apply Kd.R_alloc | apply Kd.R_drewN | apply Kd.R_drew)); exact Kd.R_mono HO_5.out (fun _ hk => hk.1)⟩, ⟨by (with_reducible repeat (first | refine blk_drewN ?_ _ | refine blk_drew ?_ | refine blk_alloc ?_ _)); exact BK268.out⟩, ⟨by repeat (first | (with_reducible first | exact HB.out | apply below_alloc | apply pw_below_drewN | apply below_drew1 | refine below_set ?_ GE268.out | refine below_set ?_ GE270.out) | exact HB.out)⟩⟩
    ·
     rw [if_neg c5] at H
     exact absurd H (by simp)
   ·
    rw [if_neg c4] at H
    have c4b0 : decide (x6_1 < (l0.length : Int)) = false := decide_eq_false c4
    clear c4
    obtain rfl := Option.some.inj H
    go_wp2
    go_ret
    exact ⟨_, by first | rfl | (simp [errW_none, errW_some] <;> rfl) | (simp [*, errW_none, errW_some] <;> rfl), by (with_reducible repeat (first | apply Kd.R_alloc | apply Kd.R_drewN | apply Kd.R_drew)); exact Kd.R_mono HO_5.out (fun _ hk => trivial), by repeat (first | (with_reducible first | exact HB.out | apply below_alloc | apply pw_below_drewN | apply below_drew1 | refine below_set ?_ GE268.out) | exact HB.out)⟩

end Go.Proofs.Ytkioalfallhegaa.PSpanL
