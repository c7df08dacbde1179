-- written by a program of this session (wip/pp) over the kit's print.py; Lean checks it
import Derived.Test.YtmbkbpaoiilicaaPGroupCx0
namespace Go.Proofs.Ytmbkbpaoiilicaa.PGroupC
open Go.RowKit Go.Proofs.YtmbkbpaoiilicaaW.PrintWords Go.Proofs.YtmbkbpaoiilicaaW.PrintLast Go.Proofs.YtmbkbpaoiilicaaW.PrintMore
attribute [local go_sem] max2_int min2_int max_two min_two max_three min_three max_four min_four plus_setCell_drewN plus_cell_same   -- for this text's walks alone
set_option linter.unusedVariables false
set_option linter.unusedSimpArgs false

/-! ### busbarref12_Add: function 43 -/
mutual
def busbarref12_Add.l0 : Nat → List (S32) → List (S32) → List (S32) → Int → Int → Int → Int → Option ((List (S32)))
 | 0, _, _, _, _, _, _, _ => none
 | k + 1, x0, x5, x6, x7, x170000, x170001, x170002 => if x7 < (x0.length : Int) then (if 0 ≤ x7 then (if ((rd_T32 x0 x7).f0) < x170000 then (busbarref12_Add.j1 k x0 x5 x6 x7 true x170000 x170001 x170002 ((rd_T32 x0 x7).f0) ((rd_T32 x0 x7).f1) ((rd_T32 x0 x7).f2)) else (if ((rd_T32 x0 x7).f0) = x170000 then (busbarref12_Add.j1 k x0 x5 x6 x7 (decide (((rd_T32 x0 x7).f2) < x170001)) x170000 x170001 x170002 ((rd_T32 x0 x7).f0) ((rd_T32 x0 x7).f1) ((rd_T32 x0 x7).f2)) else (busbarref12_Add.j1 k x0 x5 x6 x7 false x170000 x170001 x170002 ((rd_T32 x0 x7).f0) ((rd_T32 x0 x7).f1) ((rd_T32 x0 x7).f2)))) else (none)) else (if x5.length < 5864062014805 then ((some (x5 ++ [(⟨x170000, x170001, x170002⟩ : S32)] : List (S32))).bind fun y170 => (if y170.length + x6.length < 5864062014805 then (some (y170 ++ x6)) else (none))) else (none))
def busbarref12_Add.j1 : Nat → List (S32) → List (S32) → List (S32) → Int → Bool → Int → Int → Int → Int → Int → Int → Option ((List (S32)))
 | 0, _, _, _, _, _, _, _, _, _, _, _ => none
 | k + 1, x0, x5, x6, x7, x31, x170000, x170001, x170002, x178000, x178001, x178002 => if x31 = true then (if x5.length < 5864062014805 then (busbarref12_Add.l0 k x0 (x5 ++ [(⟨x178000, x178001, x178002⟩ : S32)]) x6 (wrap64 (x7 + 1)) x170000 x170001 x170002) else (none)) else (if x178000 > x170000 then (if x6.length < 5864062014805 then (busbarref12_Add.l0 k x0 x5 (x6 ++ [(⟨x178000, x178001, x178002⟩ : S32)]) (wrap64 (x7 + 1)) x170000 x170001 x170002) else (none)) else (if x178001 > x170002 then (if x6.length < 5864062014805 then (busbarref12_Add.l0 k x0 x5 (x6 ++ [(⟨x178000, x178001, x178002⟩ : S32)]) (wrap64 (x7 + 1)) x170000 x170001 x170002) else (none)) else (busbarref12_Add.l0 k x0 x5 x6 (wrap64 (x7 + 1)) x170000 (mn x170001 x178001) (mx x170002 x178002))))
end
def busbarref12_Add.f (k : Nat) (l0 : List (S32)) (a1_0 : Int) (a1_1 : Int) (a1_2 : Int) : Option ((List (S32))) := busbarref12_Add.l0 k l0 ([] : List (S32)) ([] : List (S32)) 0 a1_0 a1_1 a1_2
theorem busbarref12_Add.mono_l : ∀ k, (∀ y0 y1 y2 y3 y4 y5 y6, LeO (busbarref12_Add.l0 k y0 y1 y2 y3 y4 y5 y6) (busbarref12_Add.l0 (k + 1) y0 y1 y2 y3 y4 y5 y6)) ∧ (∀ y0 y1 y2 y3 y4 y5 y6 y7 y8 y9 y10, LeO (busbarref12_Add.j1 k y0 y1 y2 y3 y4 y5 y6 y7 y8 y9 y10) (busbarref12_Add.j1 (k + 1) y0 y1 y2 y3 y4 y5 y6 y7 y8 y9 y10))
 | 0 => ⟨fun _ _ _ _ _ _ _ r h => by simp [busbarref12_Add.l0] at h, fun _ _ _ _ _ _ _ _ _ _ _ r h => by simp [busbarref12_Add.j1] at h⟩
 | k + 1 => by
  obtain ⟨ih0, ih1⟩ := busbarref12_Add.mono_l k
  refine ⟨?_, ?_⟩
  ·
   intro y0 y1 y2 y3 y4 y5 y6
   unfold busbarref12_Add.l0
   repeat' first
   | (with_reducible exact ih0 _ _ _ _ _ _ _)
   | (with_reducible exact ih1 _ _ _ _ _ _ _ _ _ _ _)
   | (with_reducible exact LeO.refl _)
   | (with_reducible exact LeO.none _)
   | (with_reducible refine LeO.ite ?_ ?_)
   | (with_reducible refine LeO.bind ?_ (fun _ => ?_))
   | exact ih0 _ _ _ _ _ _ _
   | exact ih1 _ _ _ _ _ _ _ _ _ _ _
   | exact LeO.none _
   | refine LeO.ite ?_ ?_
   | refine LeO.bind ?_ (fun _ => ?_)
  ·
   intro y0 y1 y2 y3 y4 y5 y6 y7 y8 y9 y10
   unfold busbarref12_Add.j1
   repeat' first
   | (with_reducible exact ih0 _ _ _ _ _ _ _)
   | (with_reducible exact ih1 _ _ _ _ _ _ _ _ _ _ _)
   | (with_reducible exact LeO.refl _)
   | (with_reducible exact LeO.none _)
   | (with_reducible refine LeO.ite ?_ ?_)
   | (with_reducible refine LeO.bind ?_ (fun _ => ?_))
   | exact ih0 _ _ _ _ _ _ _
   | exact ih1 _ _ _ _ _ _ _ _ _ _ _
   | exact LeO.none _
   | refine LeO.ite ?_ ?_
   | refine LeO.bind ?_ (fun _ => ?_)
theorem busbarref12_Add.mono : ∀ a0 a1 a2 a3 k, LeO (busbarref12_Add.f k a0 a1 a2 a3) (busbarref12_Add.f (k + 1) a0 a1 a2 a3) := by
 intro a0 a1 a2 a3 k
 obtain ⟨ih0, ih1⟩ := busbarref12_Add.mono_l k
 unfold busbarref12_Add.f
 repeat' first
   | (with_reducible exact ih0 _ _ _ _ _ _ _)
   | (with_reducible exact ih1 _ _ _ _ _ _ _ _ _ _ _)
   | (with_reducible exact LeO.refl _)
   | (with_reducible exact LeO.none _)
   | (with_reducible refine LeO.ite ?_ ?_)
   | (with_reducible refine LeO.bind ?_ (fun _ => ?_))
   | exact ih0 _ _ _ _ _ _ _
   | exact ih1 _ _ _ _ _ _ _ _ _ _ _
   | exact LeO.none _
   | refine LeO.ite ?_ ?_
   | refine LeO.bind ?_ (fun _ => ?_)
set_option maxHeartbeats 8000000 in
set_option maxRecDepth 100000 in
theorem busbarref12_Add.calls (k : Nat) (A0 : Option Addr) (c0 : Nat) (l0 : List (S32)) (a1_0 : Int) (a1_1 : Int) (a1_2 : Int) (r : List (S32)) (w : World) (hr0 : Kd.C k32 w A0 l0.length l0) (hc0 : l0.length ≤ c0) (h : busbarref12_Add.f k l0 a1_0 a1_1 a1_2 = some r) :
  Calls Try.prog 43 #[.slice A0 l0.length c0, .agg #[.int .i64 a1_0, .int .i64 a1_1, .int .i64 a1_2]] w fun e w' => ∃ v0_ : Value, e = .returned (v0_) ∧ Kd.R k32 32 w' w.heap.size (fun _ => True) v0_ r ∧ Below w.heap.size w w' := by
 have hu32 := Try.underlying32
 have HR0 := Aside0.mk hr0
 have HC0 := Aside0.mk hc0
 clear hr0 hc0
 have HB := Aside0.mk (Below.refl w.heap.size w)
 have H : (busbarref12_Add.l0 k l0 ([] : List (S32)) ([] : List (S32)) 0 a1_0 a1_1 a1_2) = some r := h
 clear h
 have H' := Aside0.mk H
 clear H
 go_enter Try.func43, Try.ntmps43
 go_wp2_with (first | ((with_reducible refine gate_dst (N := 3) rfl ?_); refine box_event ?hg (N := 3) ?hd (cs := #[.int .i64 a1_0, .int .i64 a1_1, .int .i64 a1_2]) (t := 32) ?hr ?_; (case hd => rfl); (case hg => rfl); (case hr => first | (go_simp; done) | (go_simp; rfl)); intro gb169 hg w3 hbox hb; have n0_ := Aside0.mk (below_step (by repeat (first | (with_reducible first | exact HB.out | apply below_alloc | apply pw_below_drewN | apply below_drew1) | exact HB.out)) hb); have n1_ := Aside0.mk (hbox); have n2_ := Aside0.mk ((by rw [hg]; exact (below_size (by repeat (first | (with_reducible first | exact HB.out | apply below_alloc | apply pw_below_drewN | apply below_drew1) | exact HB.out))) : w.heap.size ≤ gb169)); have n3_ := Aside0.mk ((by rw [hg]; exact (below_size (by repeat (first | (with_reducible first | exact HB.out | apply below_alloc | apply pw_below_drewN | apply below_drew1) | exact HB.out))) : w.heap.size ≤ gb169)); clear HB; have HB := n0_; have BK169 := n1_; have GW169 := n2_; have GE169 := n3_; clear n0_ n1_ n2_ n3_; clear hb hbox hg))
 go_loopg [5, 6, 7] k (fun kq v5 v6 v7 w' => ∃ (x5_1 : List (S32)) (x6_1 : List (S32)) (x7_1 : Int) (x170001_1 : Int) (x170002_1 : Int), v7 = .int .i64 x7_1 ∧ Aside0 (busbarref12_Add.l0 kq l0 x5_1 x6_1 x7_1 a1_0 x170001_1 x170002_1 = some r) ∧ Aside0 (kq ≤ k) ∧ Aside0 (Kd.R k32 32 w' w.heap.size (fun k_ => some k_ ≠ (v6 : Value).ownBlock ∧ k_ ≠ gb169) v5 x5_1) ∧ Aside0 (Kd.R k32 32 w' w.heap.size (fun k_ => some k_ ≠ (v5 : Value).ownBlock ∧ k_ ≠ gb169) v6 x6_1) ∧ Aside0 (w'.heap[gb169]? = some (.cells #[.int .i64 a1_0, .int .i64 x170001_1, .int .i64 x170002_1] 32 (0, 0))) ∧ Aside0 (Below w.heap.size w w'))
 case atStart => exact ⟨(([] : List (S32))), (([] : List (S32))), (0), (a1_1), (a1_2), (by first | rfl | (simp; done) | (simp [*]; done)), H', ⟨Nat.le_refl _⟩, ⟨by first | exact Kd.R_nil _ _ _ _ _ | exact Kd.N_nil _ _ _ _ _ | exact Kd.V_nil _ _ _ _ _ | exact Kd.Q_nil _ _ _ _ _ | exact Kd.S_nil _ _ _ _ _⟩, ⟨by first | exact Kd.R_nil _ _ _ _ _ | exact Kd.N_nil _ _ _ _ _ | exact Kd.V_nil _ _ _ _ _ | exact Kd.Q_nil _ _ _ _ _ | exact Kd.S_nil _ _ _ _ _⟩, ⟨by (with_reducible repeat (first | refine blk_drewN ?_ _ | refine blk_drew ?_ | refine blk_alloc ?_ _)); exact BK169.out⟩, ⟨by repeat (first | (with_reducible first | exact HB.out | apply below_alloc | apply pw_below_drewN | apply below_drew1 | refine below_set ?_ GE169.out) | exact HB.out)⟩⟩
 case round =>
  clear H'
  try clear p2
  obtain ⟨x5_1, x6_1, x7_1, x170001_1, x170002_1, rfl, HA, HK1, HO_5, HO_6, BK169, HB⟩ := hrel
  cases gk with
  | zero => exact absurd HA.out (by simp [busbarref12_Add.l0])
  | succ k1 =>
   have H := HA.out
   clear HA
   simp only [busbarref12_Add.l0] at H
   by_cases c4 : x7_1 < (l0.length : Int)
   ·
    rw [if_pos c4] at H
    have c4b0 : decide (x7_1 < (l0.length : Int)) = true := decide_eq_true c4
    clear c4
    by_cases c5 : 0 ≤ x7_1
    ·
     rw [if_pos c5] at H
     have c5b0 : decide (0 ≤ x7_1) = true := decide_eq_true c5
     clear c5
     have HC6 := Aside0.mk H
     clear H
     have p176 : 0 ≤ (x7_1 : Int) := of_decide_eq_true (by first | (with_reducible assumption) | assumption)
     have q176 : x7_1 < (l0.length : Int) := of_decide_eq_true (by first | (with_reducible assumption) | assumption)
     obtain ⟨ad176, e176, hx176_0, hx176_1, hx176_2⟩ := at_T32 HR0.out x7_1 p176 q176
     cases e176
     replace hx176_0 := (HB.out.cell (World.block_lt_of_cell? w _ hx176_0)).trans hx176_0
     replace hx176_1 := (HB.out.cell (World.block_lt_of_cell? w _ hx176_1)).trans hx176_1
     replace hx176_2 := (HB.out.cell (World.block_lt_of_cell? w _ hx176_2)).trans hx176_2
     replace p176 := eq_true p176
     replace q176 := eq_true q176
     go_upto_region 7 with (first | ((with_reducible refine gate_dst (N := 8) rfl ?_); refine box_event ?hg (N := 8) ?hd (cs := #[.int .i64 0, .int .i64 0, .int .i64 0]) (t := 32) ?hr ?_; (case hd => rfl); (case hg => rfl); (case hr => first | (go_simp; done) | (go_simp; rfl)); intro gb177 hg w7 hbox hb; have n0_ := Aside0.mk (Kd.R_below (Kd.R_elderB (by (with_reducible repeat (first | apply Kd.R_alloc | apply Kd.R_drewN | apply Kd.R_drew)); exact HO_5.out) gb177 (Nat.le_of_eq hg.symm)) hb); have n1_ := Aside0.mk (Kd.R_below (Kd.R_elderB (by (with_reducible repeat (first | apply Kd.R_alloc | apply Kd.R_drewN | apply Kd.R_drew)); exact HO_6.out) gb177 (Nat.le_of_eq hg.symm)) hb); have n2_ := Aside0.mk (blk_below (g := gb169) (o := .cells #[.int .i64 a1_0, .int .i64 x170001_1, .int .i64 x170002_1] 32 (0, 0)) (by (with_reducible repeat (first | refine blk_drewN ?_ _ | refine blk_drew ?_ | refine blk_alloc ?_ _)); exact BK169.out) hb); have n3_ := Aside0.mk (below_step (by repeat (first | (with_reducible first | exact HB.out | apply below_alloc | apply pw_below_drewN | apply below_drew1 | refine below_set ?_ GE169.out) | exact HB.out)) hb); have n4_ := Aside0.mk (hbox); have n5_ := Aside0.mk ((by rw [hg]; exact (below_size (by repeat (first | (with_reducible first | exact HB.out | apply below_alloc | apply pw_below_drewN | apply below_drew1 | refine below_set ?_ GE169.out) | exact HB.out))) : w.heap.size ≤ gb177)); have n6_ := Aside0.mk ((by rw [hg]; exact (below_size (by repeat (first | (with_reducible first | exact HB.out | apply below_alloc | apply pw_below_drewN | apply below_drew1 | refine below_set ?_ GE169.out) | exact HB.out))) : w.heap.size ≤ gb177)); have n7_ := Aside0.mk ((by rw [hg]; exact Nat.ne_of_lt (blk_lt (g := gb169) (o := .cells #[.int .i64 a1_0, .int .i64 x170001_1, .int .i64 x170002_1] 32 (0, 0)) (by (with_reducible repeat (first | refine blk_drewN ?_ _ | refine blk_drew ?_ | refine blk_alloc ?_ _)); exact BK169.out)) : gb169 ≠ gb177)); have n8_ := Aside0.mk ((by rw [hg]; exact Nat.ne_of_gt (blk_lt (g := gb169) (o := .cells #[.int .i64 a1_0, .int .i64 x170001_1, .int .i64 x170002_1] 32 (0, 0)) (by (with_reducible repeat (first | refine blk_drewN ?_ _ | refine blk_drew ?_ | refine blk_alloc ?_ _)); exact BK169.out)) : gb177 ≠ gb169)); clear HO_5; clear HO_6; clear BK169; clear HB; have HO_5 := n0_; have HO_6 := n1_; have BK169 := n2_; have HB := n3_; have BK177 := n4_; have GW177 := n5_; have GE177 := n6_; have NB169_177 := n7_; have NB177_169 := n8_; clear n0_ n1_ n2_ n3_ n4_ n5_ n6_ n7_ n8_; clear hb hbox hg; have hnb8 := NB177_169.out; have hnc8 := NB169_177.out; have hcz9_0 : w7.cell? ⟨gb177, 0, none⟩ = some (.int .i64 0) := (blk_cell BK177.out 0).trans rfl; have hcz9_1 : w7.cell? ⟨gb177, 1, none⟩ = some (.int .i64 0) := (blk_cell BK177.out 1).trans rfl; have hcz9_2 : w7.cell? ⟨gb177, 2, none⟩ = some (.int .i64 0) := (blk_cell BK177.out 2).trans rfl; have hfz9_0 := blk_frozen BK177.out 0; have hfz9_1 := blk_frozen BK177.out 1; have hfz9_2 := blk_frozen BK177.out 2))
     (try simp only [Act.put, List.setIfInBounds_toArray, List.set_cons_zero, List.set_cons_succ])
     go_cut [31] (fun v31 wc => ∃ (kq : Nat) (x31_5 : Bool), v31 = .bool x31_5 ∧ Aside0 (busbarref12_Add.j1 kq l0 x5_1 x6_1 x7_1 x31_5 a1_0 x170001_1 x170002_1 ((rd_T32 l0 x7_1).f0) ((rd_T32 l0 x7_1).f1) ((rd_T32 l0 x7_1).f2) = some r) ∧ Aside0 (kq ≤ k1) ∧ Aside0 (Kd.R k32 32 wc w.heap.size (fun k_ => some k_ ≠ (u6 : Value).ownBlock ∧ k_ ≠ gb169 ∧ k_ ≠ gb177) u5 x5_1) ∧ Aside0 (Kd.R k32 32 wc w.heap.size (fun k_ => some k_ ≠ (u5 : Value).ownBlock ∧ k_ ≠ gb169 ∧ k_ ≠ gb177) u6 x6_1) ∧ Aside0 (wc.heap[gb169]? = some (.cells #[.int .i64 a1_0, .int .i64 x170001_1, .int .i64 x170002_1] 32 (0, 0))) ∧ Aside0 (wc.heap[gb177]? = some (.cells #[.int .i64 ((rd_T32 l0 x7_1).f0), .int .i64 ((rd_T32 l0 x7_1).f1), .int .i64 ((rd_T32 l0 x7_1).f2)] 32 (0, 0))) ∧ Aside0 (Below w.heap.size w wc))
     case first =>
      have H := HC6.out
      clear HC6
      by_cases c10 : ((rd_T32 l0 x7_1).f0) < a1_0
      ·
       rw [if_pos c10] at H
       have c10b0 : decide (((rd_T32 l0 x7_1).f0) < a1_0) = true := decide_eq_true c10
       clear c10
       (first | rw [c10b0] | (simp only [i64_w, i32_w]; rw [c10b0]) | skip)
       have H' := Aside0.mk H
       clear H
       have hnb11 := NB177_169.out
       have hnc11 := NB169_177.out
       have hcz12_0 : w7.cell? ⟨gb177, 0, none⟩ = some (.int .i64 0) := (blk_cell BK177.out 0).trans rfl
       have hcz12_1 : w7.cell? ⟨gb177, 1, none⟩ = some (.int .i64 0) := (blk_cell BK177.out 1).trans rfl
       have hcz12_2 : w7.cell? ⟨gb177, 2, none⟩ = some (.int .i64 0) := (blk_cell BK177.out 2).trans rfl
       have hfz12_0 := blk_frozen BK177.out 0
       have hfz12_1 := blk_frozen BK177.out 1
       have hfz12_2 := blk_frozen BK177.out 2
       have hcz13_0 : w7.cell? ⟨gb169, 0, none⟩ = some (.int .i64 a1_0) := (blk_cell BK169.out 0).trans rfl
       have hcz13_1 : w7.cell? ⟨gb169, 1, none⟩ = some (.int .i64 x170001_1) := (blk_cell BK169.out 1).trans rfl
       have hcz13_2 : w7.cell? ⟨gb169, 2, none⟩ = some (.int .i64 x170002_1) := (blk_cell BK169.out 2).trans rfl
       have hfz13_0 := blk_frozen BK169.out 0
       have hfz13_1 := blk_frozen BK169.out 1
       have hfz13_2 := blk_frozen BK169.out 2
       go_wp2
       go_meet
       case rel => exact ⟨_, (true), (by first | rfl | (simp; done) | (simp [*]; done)), H', ⟨by have := HK1.out; first | omega | exact Nat.le_refl _⟩, ⟨by (with_reducible repeat (first | apply Kd.R_alloc | apply Kd.R_drewN | apply Kd.R_drew)); exact Kd.R_mono (Kd.R_far (p := ⟨gb177, 2, none⟩) (Kd.R_far (p := ⟨gb177, 1, none⟩) (Kd.R_far (p := ⟨gb177, 0, none⟩) (Kd.R_mono HO_5.out (fun k_ hk => (⟨hk, hk.2⟩ : _ ∧ k_ ≠ gb177))) (fun _ hk => hk.2) (.int .i64 ((rd_T32 l0 x7_1).f0))) (fun _ hk => hk.2) (.int .i64 ((rd_T32 l0 x7_1).f1))) (fun _ hk => hk.2) (.int .i64 ((rd_T32 l0 x7_1).f2))) (fun _ hk => ⟨hk.1.1.1, ⟨hk.1.1.2, hk.1.2⟩⟩)⟩, ⟨by (with_reducible repeat (first | apply Kd.R_alloc | apply Kd.R_drewN | apply Kd.R_drew)); exact Kd.R_mono (Kd.R_far (p := ⟨gb177, 2, none⟩) (Kd.R_far (p := ⟨gb177, 1, none⟩) (Kd.R_far (p := ⟨gb177, 0, none⟩) (Kd.R_mono HO_6.out (fun k_ hk => (⟨hk, hk.2⟩ : _ ∧ k_ ≠ gb177))) (fun _ hk => hk.2) (.int .i64 ((rd_T32 l0 x7_1).f0))) (fun _ hk => hk.2) (.int .i64 ((rd_T32 l0 x7_1).f1))) (fun _ hk => hk.2) (.int .i64 ((rd_T32 l0 x7_1).f2))) (fun _ hk => ⟨hk.1.1.1, ⟨hk.1.1.2, hk.1.2⟩⟩)⟩, ⟨by (with_reducible repeat (first | refine blk_drewN ?_ _ | refine blk_drew ?_ | refine blk_alloc ?_ _)); refine blk_far ?_ NB169_177.out _; (with_reducible repeat (first | refine blk_drewN ?_ _ | refine blk_drew ?_ | refine blk_alloc ?_ _)); refine blk_far ?_ NB169_177.out _; (with_reducible repeat (first | refine blk_drewN ?_ _ | refine blk_drew ?_ | refine blk_alloc ?_ _)); refine blk_far ?_ NB169_177.out _; (with_reducible repeat (first | refine blk_drewN ?_ _ | refine blk_drew ?_ | refine blk_alloc ?_ _)); exact BK169.out⟩, ⟨by (with_reducible repeat (first | refine blk_drewN ?_ _ | refine blk_drew ?_ | refine blk_alloc ?_ _)); refine blk_put (cs := #[.int .i64 ((rd_T32 l0 x7_1).f0), .int .i64 ((rd_T32 l0 x7_1).f1), .int .i64 0]) ?_ 2 _ rfl; (with_reducible repeat (first | refine blk_drewN ?_ _ | refine blk_drew ?_ | refine blk_alloc ?_ _)); refine blk_put (cs := #[.int .i64 ((rd_T32 l0 x7_1).f0), .int .i64 0, .int .i64 0]) ?_ 1 _ rfl; (with_reducible repeat (first | refine blk_drewN ?_ _ | refine blk_drew ?_ | refine blk_alloc ?_ _)); refine blk_put (cs := #[.int .i64 0, .int .i64 0, .int .i64 0]) ?_ 0 _ rfl; (with_reducible repeat (first | refine blk_drewN ?_ _ | refine blk_drew ?_ | refine blk_alloc ?_ _)); exact BK177.out⟩, ⟨by repeat (first | (with_reducible first | exact HB.out | apply below_alloc | apply pw_below_drewN | apply below_drew1 | refine below_set ?_ GE169.out | refine below_set ?_ GE177.out) | exact HB.out)⟩⟩
      ·
       rw [if_neg c10] at H
       have c10b0 : decide (((rd_T32 l0 x7_1).f0) < a1_0) = false := decide_eq_false c10
       clear c10
       (first | rw [c10b0] | (simp only [i64_w, i32_w]; rw [c10b0]) | skip)
       by_cases c14 : ((rd_T32 l0 x7_1).f0) = a1_0
       ·
        rw [if_pos c14] at H
        have c14b0 : (((rd_T32 l0 x7_1).f0) == a1_0) = true := beq_iff_eq.mpr c14
        have c14b1 : (((rd_T32 l0 x7_1).f0) != a1_0) = false := bne_eq_false_iff_eq.mpr c14
        clear c14
        have H' := Aside0.mk H
        clear H
        have hnb15 := NB177_169.out
        have hnc15 := NB169_177.out
        have hcz16_0 : w7.cell? ⟨gb177, 0, none⟩ = some (.int .i64 0) := (blk_cell BK177.out 0).trans rfl
        have hcz16_1 : w7.cell? ⟨gb177, 1, none⟩ = some (.int .i64 0) := (blk_cell BK177.out 1).trans rfl
        have hcz16_2 : w7.cell? ⟨gb177, 2, none⟩ = some (.int .i64 0) := (blk_cell BK177.out 2).trans rfl
        have hfz16_0 := blk_frozen BK177.out 0
        have hfz16_1 := blk_frozen BK177.out 1
        have hfz16_2 := blk_frozen BK177.out 2
        have hcz17_0 : w7.cell? ⟨gb169, 0, none⟩ = some (.int .i64 a1_0) := (blk_cell BK169.out 0).trans rfl
        have hcz17_1 : w7.cell? ⟨gb169, 1, none⟩ = some (.int .i64 x170001_1) := (blk_cell BK169.out 1).trans rfl
        have hcz17_2 : w7.cell? ⟨gb169, 2, none⟩ = some (.int .i64 x170002_1) := (blk_cell BK169.out 2).trans rfl
        have hfz17_0 := blk_frozen BK169.out 0
        have hfz17_1 := blk_frozen BK169.out 1
        have hfz17_2 := blk_frozen BK169.out 2
        go_wp2
        go_meet
        case rel => exact ⟨_, (decide (((rd_T32 l0 x7_1).f2) < x170001_1)), (by first | rfl | (simp; done) | (simp [*]; done)), H', ⟨by have := HK1.out; first | omega | exact Nat.le_refl _⟩, ⟨by (with_reducible repeat (first | apply Kd.R_alloc | apply Kd.R_drewN | apply Kd.R_drew)); exact Kd.R_mono (Kd.R_far (p := ⟨gb177, 2, none⟩) (Kd.R_far (p := ⟨gb177, 1, none⟩) (Kd.R_far (p := ⟨gb177, 0, none⟩) (Kd.R_mono HO_5.out (fun k_ hk => (⟨hk, hk.2⟩ : _ ∧ k_ ≠ gb177))) (fun _ hk => hk.2) (.int .i64 ((rd_T32 l0 x7_1).f0))) (fun _ hk => hk.2) (.int .i64 ((rd_T32 l0 x7_1).f1))) (fun _ hk => hk.2) (.int .i64 ((rd_T32 l0 x7_1).f2))) (fun _ hk => ⟨hk.1.1.1, ⟨hk.1.1.2, hk.1.2⟩⟩)⟩, ⟨by (with_reducible repeat (first | apply Kd.R_alloc | apply Kd.R_drewN | apply Kd.R_drew)); exact Kd.R_mono (Kd.R_far (p := ⟨gb177, 2, none⟩) (Kd.R_far (p := ⟨gb177, 1, none⟩) (Kd.R_far (p := ⟨gb177, 0, none⟩) (Kd.R_mono HO_6.out (fun k_ hk => (⟨hk, hk.2⟩ : _ ∧ k_ ≠ gb177))) (fun _ hk => hk.2) (.int .i64 ((rd_T32 l0 x7_1).f0))) (fun _ hk => hk.2) (.int .i64 ((rd_T32 l0 x7_1).f1))) (fun _ hk => hk.2) (.int .i64 ((rd_T32 l0 x7_1).f2))) (fun _ hk => ⟨hk.1.1.1, ⟨hk.1.1.2, hk.1.2⟩⟩)⟩, ⟨by (with_reducible repeat (first | refine blk_drewN ?_ _ | refine blk_drew ?_ | refine blk_alloc ?_ _)); refine blk_far ?_ NB169_177.out _; (with_reducible repeat (first | refine blk_drewN ?_ _ | refine blk_drew ?_ | refine blk_alloc ?_ _)); refine blk_far ?_ NB169_177.out _; (with_reducible repeat (first | refine blk_drewN ?_ _ | refine blk_drew ?_ | refine blk_alloc ?_ _)); refine blk_far ?_ NB169_177.out _; (with_reducible repeat (first | refine blk_drewN ?_ _ | refine blk_drew ?_ | refine blk_alloc ?_ _)); exact BK169.out⟩, ⟨by (with_reducible repeat (first | refine blk_drewN ?_ _ | refine blk_drew ?_ | refine blk_alloc ?_ _)); refine blk_put (cs := #[.int .i64 ((rd_T32 l0 x7_1).f0), .int .i64 ((rd_T32 l0 x7_1).f1), .int .i64 0]) ?_ 2 _ rfl; (with_reducible repeat (first | refine blk_drewN ?_ _ | refine blk_drew ?_ | refine blk_alloc ?_ _)); refine blk_put (cs := #[.int .i64 ((rd_T32 l0 x7_1).f0), .int .i64 0, .int .i64 0]) ?_ 1 _ rfl; (with_reducible repeat (first | refine blk_drewN ?_ _ | refine blk_drew ?_ | refine blk_alloc ?_ _)); refine blk_put (cs := #[.int .i64 0, .int .i64 0, .int .i64 0]) ?_ 0 _ rfl; (with_reducible repeat (first | refine blk_drewN ?_ _ | refine blk_drew ?_ | refine blk_alloc ?_ _)); exact BK177.out⟩, ⟨by repeat (first | (with_reducible first | exact HB.out | apply below_alloc | apply pw_below_drewN | apply below_drew1 | refine below_set ?_ GE169.out | refine below_set ?_ GE177.out) | exact HB.out)⟩⟩
       ·
        rw [if_neg c14] at H
        have c14b0 : (((rd_T32 l0 x7_1).f0) == a1_0) = false := beq_eq_false_iff_ne.mpr c14
        have c14b1 : (((rd_T32 l0 x7_1).f0) != a1_0) = true := bne_iff_ne.mpr c14
        have H' := Aside0.mk H
        clear H
        have hnb18 := NB177_169.out
        have hnc18 := NB169_177.out
        have hcz19_0 : w7.cell? ⟨gb177, 0, none⟩ = some (.int .i64 0) := (blk_cell BK177.out 0).trans rfl
        have hcz19_1 : w7.cell? ⟨gb177, 1, none⟩ = some (.int .i64 0) := (blk_cell BK177.out 1).trans rfl
        have hcz19_2 : w7.cell? ⟨gb177, 2, none⟩ = some (.int .i64 0) := (blk_cell BK177.out 2).trans rfl
        have hfz19_0 := blk_frozen BK177.out 0
        have hfz19_1 := blk_frozen BK177.out 1
        have hfz19_2 := blk_frozen BK177.out 2
        have hcz20_0 : w7.cell? ⟨gb169, 0, none⟩ = some (.int .i64 a1_0) := (blk_cell BK169.out 0).trans rfl
        have hcz20_1 : w7.cell? ⟨gb169, 1, none⟩ = some (.int .i64 x170001_1) := (blk_cell BK169.out 1).trans rfl
        have hcz20_2 : w7.cell? ⟨gb169, 2, none⟩ = some (.int .i64 x170002_1) := (blk_cell BK169.out 2).trans rfl
        have hfz20_0 := blk_frozen BK169.out 0
        have hfz20_1 := blk_frozen BK169.out 1
        have hfz20_2 := blk_frozen BK169.out 2
        go_wp2
        go_meet
        case rel => exact ⟨_, (false), (by first | rfl | (simp; done) | (simp [*]; done)), H', ⟨by have := HK1.out; first | omega | exact Nat.le_refl _⟩, ⟨by (with_reducible repeat (first | apply Kd.R_alloc | apply Kd.R_drewN | apply Kd.R_drew)); exact Kd.R_mono (Kd.R_far (p := ⟨gb177, 2, none⟩) (Kd.R_far (p := ⟨gb177, 1, none⟩) (Kd.R_far (p := ⟨gb177, 0, none⟩) (Kd.R_mono HO_5.out (fun k_ hk => (⟨hk, hk.2⟩ : _ ∧ k_ ≠ gb177))) (fun _ hk => hk.2) (.int .i64 ((rd_T32 l0 x7_1).f0))) (fun _ hk => hk.2) (.int .i64 ((rd_T32 l0 x7_1).f1))) (fun _ hk => hk.2) (.int .i64 ((rd_T32 l0 x7_1).f2))) (fun _ hk => ⟨hk.1.1.1, ⟨hk.1.1.2, hk.1.2⟩⟩)⟩, ⟨by (with_reducible repeat (first | apply Kd.R_alloc | apply Kd.R_drewN | apply Kd.R_drew)); exact Kd.R_mono (Kd.R_far (p := ⟨gb177, 2, none⟩) (Kd.R_far (p := ⟨gb177, 1, none⟩) (Kd.R_far (p := ⟨gb177, 0, none⟩) (Kd.R_mono HO_6.out (fun k_ hk => (⟨hk, hk.2⟩ : _ ∧ k_ ≠ gb177))) (fun _ hk => hk.2) (.int .i64 ((rd_T32 l0 x7_1).f0))) (fun _ hk => hk.2) (.int .i64 ((rd_T32 l0 x7_1).f1))) (fun _ hk => hk.2) (.int .i64 ((rd_T32 l0 x7_1).f2))) (fun _ hk => ⟨hk.1.1.1, ⟨hk.1.1.2, hk.1.2⟩⟩)⟩, ⟨by (with_reducible repeat (first | refine blk_drewN ?_ _ | refine blk_drew ?_ | refine blk_alloc ?_ _)); refine blk_far ?_ NB169_177.out _; (with_reducible repeat (first | refine blk_drewN ?_ _ | refine blk_drew ?_ | refine blk_alloc ?_ _)); refine blk_far ?_ NB169_177.out _; (with_reducible repeat (first | refine blk_drewN ?_ _ | refine blk_drew ?_ | refine blk_alloc ?_ _)); refine blk_far ?_ NB169_177.out _; (with_reducible repeat (first | refine blk_drewN ?_ _ | refine blk_drew ?_ | refine blk_alloc ?_ _)); exact BK169.out⟩, ⟨by (with_reducible repeat (first | refine blk_drewN ?_ _ | refine blk_drew ?_ | refine blk_alloc ?_ _)); refine blk_put (cs := #[.int .i64 ((rd_T32 l0 x7_1).f0), .int .i64 ((rd_T32 l0 x7_1).f1), .int .i64 0]) ?_ 2 _ rfl; (with_reducible repeat (first | refine blk_drewN ?_ _ | refine blk_drew ?_ | refine blk_alloc ?_ _)); refine blk_put (cs := #[.int .i64 ((rd_T32 l0 x7_1).f0), .int .i64 0, .int .i64 0]) ?_ 1 _ rfl; (with_reducible repeat (first | refine blk_drewN ?_ _ | refine blk_drew ?_ | refine blk_alloc ?_ _)); refine blk_put (cs := #[.int .i64 0, .int .i64 0, .int .i64 0]) ?_ 0 _ rfl; (with_reducible repeat (first | refine blk_drewN ?_ _ | refine blk_drew ?_ | refine blk_alloc ?_ _)); exact BK177.out⟩, ⟨by repeat (first | (with_reducible first | exact HB.out | apply below_alloc | apply pw_below_drewN | apply below_drew1 | refine below_set ?_ GE169.out | refine below_set ?_ GE177.out) | exact HB.out)⟩⟩
     case rest =>
      clear HC6
      try clear c1
      try clear p1
      try clear q1
      try clear hx1
      try clear p2
      try clear c4
      try clear c4b0
      try clear c5
      try clear c5b0
      try clear c8
      try clear c10
      try clear c10b0
      try clear c11
      try clear c14
      try clear c14b0
      try clear c14b1
      try clear c15
      try clear p17
      try clear q17
      try clear hx17
      try clear c18
      try clear hcz12_0
      try clear hcz12_1
      try clear hcz12_2
      try clear hcz13_0
      try clear hcz13_1
      try clear hcz13_2
      try clear hcz16_0
      try clear hcz16_1
      try clear hcz16_2
      try clear hcz17_0
      try clear hcz17_1
      try clear hcz17_2
      try clear hcz19_0
      try clear hcz19_1
      try clear hcz19_2
      try clear hcz20_0
      try clear hcz20_1
      try clear hcz20_2
      try clear hcz9_0
      try clear hcz9_1
      try clear hcz9_2
      try clear hfz12_0
      try clear hfz12_1
      try clear hfz12_2
      try clear hfz13_0
      try clear hfz13_1
      try clear hfz13_2
      try clear hfz16_0
      try clear hfz16_1
      try clear hfz16_2
      try clear hfz17_0
      try clear hfz17_1
      try clear hfz17_2
      try clear hfz19_0
      try clear hfz19_1
      try clear hfz19_2
      try clear hfz20_0
      try clear hfz20_1
      try clear hfz20_2
      try clear hfz9_0
      try clear hfz9_1
      try clear hfz9_2
      try clear hx176_0
      try clear hx176_1
      try clear hx176_2
      try clear p176
      try clear p2
      try clear q176
      obtain ⟨kq, x31_5, rfl, HA, HJ5, HO_5, HO_6, BK169, BK177, HB⟩ := hcut
      cases kq with
      | zero => exact absurd HA.out (by simp [busbarref12_Add.j1])
      | succ kj5 =>
       have H := HA.out
       clear HA
       simp only [busbarref12_Add.j1] at H
       by_cases c21 : x31_5 = true
       ·
        subst c21
        have H1 : (if x5_1.length < 5864062014805 then (busbarref12_Add.l0 kj5 l0 (x5_1 ++ [(⟨((rd_T32 l0 x7_1).f0), ((rd_T32 l0 x7_1).f1), ((rd_T32 l0 x7_1).f2)⟩ : S32)]) x6_1 (wrap64 (x7_1 + 1)) a1_0 x170001_1 x170002_1) else (none)) = some r := by rw [if_pos rfl] at H; exact H
        clear H
        have H := H1
        clear H1
        by_cases c22 : x5_1.length < 5864062014805
        ·
         rw [if_pos c22] at H
         have LMc22 := Aside0.mk c22
         clear c22
         obtain ⟨y178, hy178⟩ : ∃ y_ : List (S32), y_ = (x5_1 ++ [(⟨((rd_T32 l0 x7_1).f0), ((rd_T32 l0 x7_1).f1), ((rd_T32 l0 x7_1).f2)⟩ : S32)]) := ⟨_, rfl⟩
         replace H : (busbarref12_Add.l0 kj5 l0 y178 x6_1 (wrap64 (x7_1 + 1)) a1_0 x170001_1 x170002_1) = some r := by first | (rw [hy178]; with_reducible exact H) | (have H2_ := (Option.bind_some _ _).symm.trans H; rw [hy178]; with_reducible exact H2_) | (have H2_ := (Option.bind_some _ _).symm.trans H; with_reducible exact H2_) | with_reducible exact H | (rw [hy178]; exact H) | exact H
         have Ny178 := Aside0.mk hy178
         clear hy178
         have H' := Aside0.mk H
         clear H
         have hnb23 := NB177_169.out
         have hnc23 := NB169_177.out
         have hcz24_0 : wc.cell? ⟨gb177, 0, none⟩ = some (.int .i64 ((rd_T32 l0 x7_1).f0)) := (blk_cell BK177.out 0).trans rfl
         have hcz24_1 : wc.cell? ⟨gb177, 1, none⟩ = some (.int .i64 ((rd_T32 l0 x7_1).f1)) := (blk_cell BK177.out 1).trans rfl
         have hcz24_2 : wc.cell? ⟨gb177, 2, none⟩ = some (.int .i64 ((rd_T32 l0 x7_1).f2)) := (blk_cell BK177.out 2).trans rfl
         have hfz24_0 := blk_frozen BK177.out 0
         have hfz24_1 := blk_frozen BK177.out 1
         have hfz24_2 := blk_frozen BK177.out 2
         go_wp2_with (first | ((with_reducible refine gate_builtin (b := .append) (xs := #[.tmp 51, .tmp 53]) rfl ?_); at_builtin; refine Kd.R_append k32 (w0 := w) w.heap.size rfl (.tmp 51) (.tmp 53) 25 32 (.agg #[(.int .i64 0), (.int .i64 0), (.int .i64 0)]) 24 rfl Try.underlying25 info32 rfl (by decide) (by omega) u5 x5_1 (⟨((rd_T32 l0 x7_1).f0), ((rd_T32 l0 x7_1).f1), ((rd_T32 l0 x7_1).f2)⟩ : S32) [.int .i64 ((rd_T32 l0 x7_1).f0), .int .i64 ((rd_T32 l0 x7_1).f1), .int .i64 ((rd_T32 l0 x7_1).f2)] (fun k_ => some k_ ≠ (u6 : Value).ownBlock ∧ k_ ≠ gb169 ∧ k_ ≠ gb177) (fun _ => False) rfl rfl ?aP (fun _ hk => hk.elim) ?aF ?aO ?aB ?aS ?aL ?_; (case aP => exact k32_mkM _ _ _ (⟨((rd_T32 l0 x7_1).f0), ((rd_T32 l0 x7_1).f1), ((rd_T32 l0 x7_1).f2)⟩ : S32)); (case aB => exact (by repeat (first | (with_reducible first | exact HB.out | apply below_alloc | apply pw_below_drewN | apply below_drew1 | refine below_set ?_ GE169.out | refine below_set ?_ GE177.out) | exact HB.out))); (case aF => exact (fun k_ hk => ⟨Kd.fresh' (Kd.R_lt (by (with_reducible repeat (first | apply Kd.R_alloc | apply Kd.R_drewN | apply Kd.R_drew)); exact HO_6.out)) k_ hk, Kd.freshB (g := gb169) (o := .cells #[.int .i64 a1_0, .int .i64 x170001_1, .int .i64 x170002_1] 32 (0, 0)) (by (with_reducible repeat (first | refine blk_drewN ?_ _ | refine blk_drew ?_ | refine blk_alloc ?_ _)); exact BK169.out) k_ hk, Kd.freshB (g := gb177) (o := .cells #[.int .i64 ((rd_T32 l0 x7_1).f0), .int .i64 ((rd_T32 l0 x7_1).f1), .int .i64 ((rd_T32 l0 x7_1).f2)] 32 (0, 0)) (by (with_reducible repeat (first | refine blk_drewN ?_ _ | refine blk_drew ?_ | refine blk_alloc ?_ _)); exact BK177.out) k_ hk⟩)); (case aO => exact (by (with_reducible repeat (first | apply Kd.R_alloc | apply Kd.R_drewN | apply Kd.R_drew)); exact HO_5.out)); (case aS => exact (below_size (by repeat (first | (with_reducible first | exact HB.out | apply below_alloc | apply pw_below_drewN | apply below_drew1 | refine below_set ?_ GE169.out | refine below_set ?_ GE177.out) | exact HB.out)))); (case aL => have := LMc22.out; omega); intro v179 w25 ho hb hg hat; rw [← Ny178.out] at ho; have n0_ := Aside0.mk (Kd.R_after (ok := (fun k_ => k_ ≠ gb169 ∧ k_ ≠ gb177)) (by (with_reducible repeat (first | apply Kd.R_alloc | apply Kd.R_drewN | apply Kd.R_drew)); exact Kd.R_mono HO_6.out (fun _ hk => ⟨⟨hk.2.1, hk.2.2⟩, hk.1⟩)) hg hat); have n1_ := Aside0.mk (blk_grown (g := gb169) (o := .cells #[.int .i64 a1_0, .int .i64 x170001_1, .int .i64 x170002_1] 32 (0, 0)) (by (with_reducible repeat (first | refine blk_drewN ?_ _ | refine blk_drew ?_ | refine blk_alloc ?_ _)); exact BK169.out) hg (Kd.R_away HO_5.out (fun _ hk => hk.2.1))); have n2_ := Aside0.mk (blk_grown (g := gb177) (o := .cells #[.int .i64 ((rd_T32 l0 x7_1).f0), .int .i64 ((rd_T32 l0 x7_1).f1), .int .i64 ((rd_T32 l0 x7_1).f2)] 32 (0, 0)) (by (with_reducible repeat (first | refine blk_drewN ?_ _ | refine blk_drew ?_ | refine blk_alloc ?_ _)); exact BK177.out) hg (Kd.R_away HO_5.out (fun _ hk => hk.2.2))); have n3_ := Aside0.mk (hb); have n4_ := Aside0.mk (ho); clear HO_6; clear BK169; clear BK177; clear HB; clear HO_5; have HO_6 := n0_; have BK169 := n1_; have BK177 := n2_; have HB := n3_; have HO180 := n4_; clear n0_ n1_ n2_ n3_ n4_; clear ho hb hg hat))
         go_roundg kj5
         case measure => have := HK1.out; have := HJ5.out; omega
         case rel => exact ⟨(y178), (x6_1), (wrap64 (x7_1 + 1)), (x170001_1), (x170002_1), (by first | rfl | (simp; done) | (simp [*]; done)), H', ⟨by have := HK1.out; have := HJ5.out; omega⟩, ⟨by (with_reducible repeat (first | apply Kd.R_alloc | apply Kd.R_drewN | apply Kd.R_drew)); exact Kd.R_mono HO180.out (fun _ hk => ⟨hk.1, hk.2.1⟩)⟩, ⟨by (with_reducible repeat (first | apply Kd.R_alloc | apply Kd.R_drewN | apply Kd.R_drew)); exact Kd.R_mono HO_6.out (fun _ hk => ⟨hk.2, hk.1.1⟩)⟩, ⟨by (with_reducible repeat (first | refine blk_drewN ?_ _ | refine blk_drew ?_ | refine blk_alloc ?_ _)); exact BK169.out⟩, ⟨by repeat (first | (with_reducible first | exact HB.out | apply below_alloc | apply pw_below_drewN | apply below_drew1 | refine below_set ?_ GE169.out | refine below_set ?_ GE177.out) | exact HB.out)⟩⟩
        ·
         rw [if_neg c22] at H
         exact absurd H (by simp)
       ·
        replace c21 := Bool.eq_false_iff.mpr c21
        subst c21
        have H1 : (if ((rd_T32 l0 x7_1).f0) > a1_0 then (if x6_1.length < 5864062014805 then (busbarref12_Add.l0 kj5 l0 x5_1 (x6_1 ++ [(⟨((rd_T32 l0 x7_1).f0), ((rd_T32 l0 x7_1).f1), ((rd_T32 l0 x7_1).f2)⟩ : S32)]) (wrap64 (x7_1 + 1)) a1_0 x170001_1 x170002_1) else (none)) else (if ((rd_T32 l0 x7_1).f1) > x170002_1 then (if x6_1.length < 5864062014805 then (busbarref12_Add.l0 kj5 l0 x5_1 (x6_1 ++ [(⟨((rd_T32 l0 x7_1).f0), ((rd_T32 l0 x7_1).f1), ((rd_T32 l0 x7_1).f2)⟩ : S32)]) (wrap64 (x7_1 + 1)) a1_0 x170001_1 x170002_1) else (none)) else (busbarref12_Add.l0 kj5 l0 x5_1 x6_1 (wrap64 (x7_1 + 1)) a1_0 (mn x170001_1 ((rd_T32 l0 x7_1).f1)) (mx x170002_1 ((rd_T32 l0 x7_1).f2))))) = some r := by rw [if_neg (show ¬ (false = true) by decide)] at H; exact H
        clear H
        have H := H1
        clear H1
        by_cases c26 : ((rd_T32 l0 x7_1).f0) > a1_0
        ·
         rw [if_pos c26] at H
         have c26b0 : decide (a1_0 < ((rd_T32 l0 x7_1).f0)) = true := decide_eq_true c26
         clear c26
         by_cases c27 : x6_1.length < 5864062014805
         ·
          rw [if_pos c27] at H
          have LMc27 := Aside0.mk c27
          clear c27
          obtain ⟨y181, hy181⟩ : ∃ y_ : List (S32), y_ = (x6_1 ++ [(⟨((rd_T32 l0 x7_1).f0), ((rd_T32 l0 x7_1).f1), ((rd_T32 l0 x7_1).f2)⟩ : S32)]) := ⟨_, rfl⟩
          replace H : (busbarref12_Add.l0 kj5 l0 x5_1 y181 (wrap64 (x7_1 + 1)) a1_0 x170001_1 x170002_1) = some r := by first | (rw [hy181]; with_reducible exact H) | (have H2_ := (Option.bind_some _ _).symm.trans H; rw [hy181]; with_reducible exact H2_) | (have H2_ := (Option.bind_some _ _).symm.trans H; with_reducible exact H2_) | with_reducible exact H | (rw [hy181]; exact H) | exact H
          have Ny181 := Aside0.mk hy181
          clear hy181
          have H' := Aside0.mk H
          clear H
          have hnb28 := NB177_169.out
          have hnc28 := NB169_177.out
          have hcz29_0 : wc.cell? ⟨gb177, 0, none⟩ = some (.int .i64 ((rd_T32 l0 x7_1).f0)) := (blk_cell BK177.out 0).trans rfl
          have hcz29_1 : wc.cell? ⟨gb177, 1, none⟩ = some (.int .i64 ((rd_T32 l0 x7_1).f1)) := (blk_cell BK177.out 1).trans rfl
          have hcz29_2 : wc.cell? ⟨gb177, 2, none⟩ = some (.int .i64 ((rd_T32 l0 x7_1).f2)) := (blk_cell BK177.out 2).trans rfl
          have hfz29_0 := blk_frozen BK177.out 0
          have hfz29_1 := blk_frozen BK177.out 1
          have hfz29_2 := blk_frozen BK177.out 2
          have hcz30_0 : wc.cell? ⟨gb169, 0, none⟩ = some (.int .i64 a1_0) := (blk_cell BK169.out 0).trans rfl
          have hcz30_1 : wc.cell? ⟨gb169, 1, none⟩ = some (.int .i64 x170001_1) := (blk_cell BK169.out 1).trans rfl
          have hcz30_2 : wc.cell? ⟨gb169, 2, none⟩ = some (.int .i64 x170002_1) := (blk_cell BK169.out 2).trans rfl
          have hfz30_0 := blk_frozen BK169.out 0
          have hfz30_1 := blk_frozen BK169.out 1
          have hfz30_2 := blk_frozen BK169.out 2
          go_wp2_with (first | ((with_reducible refine gate_builtin (b := .append) (xs := #[.tmp 68, .tmp 70]) rfl ?_); at_builtin; refine Kd.R_append k32 (w0 := w) w.heap.size rfl (.tmp 68) (.tmp 70) 25 32 (.agg #[(.int .i64 0), (.int .i64 0), (.int .i64 0)]) 24 rfl Try.underlying25 info32 rfl (by decide) (by omega) u6 x6_1 (⟨((rd_T32 l0 x7_1).f0), ((rd_T32 l0 x7_1).f1), ((rd_T32 l0 x7_1).f2)⟩ : S32) [.int .i64 ((rd_T32 l0 x7_1).f0), .int .i64 ((rd_T32 l0 x7_1).f1), .int .i64 ((rd_T32 l0 x7_1).f2)] (fun k_ => some k_ ≠ (u5 : Value).ownBlock ∧ k_ ≠ gb169 ∧ k_ ≠ gb177) (fun _ => False) rfl rfl ?aP (fun _ hk => hk.elim) ?aF ?aO ?aB ?aS ?aL ?_; (case aP => exact k32_mkM _ _ _ (⟨((rd_T32 l0 x7_1).f0), ((rd_T32 l0 x7_1).f1), ((rd_T32 l0 x7_1).f2)⟩ : S32)); (case aB => exact (by repeat (first | (with_reducible first | exact HB.out | apply below_alloc | apply pw_below_drewN | apply below_drew1 | refine below_set ?_ GE169.out | refine below_set ?_ GE177.out) | exact HB.out))); (case aF => exact (fun k_ hk => ⟨Kd.fresh' (Kd.R_lt (by (with_reducible repeat (first | apply Kd.R_alloc | apply Kd.R_drewN | apply Kd.R_drew)); exact HO_5.out)) k_ hk, Kd.freshB (g := gb169) (o := .cells #[.int .i64 a1_0, .int .i64 x170001_1, .int .i64 x170002_1] 32 (0, 0)) (by (with_reducible repeat (first | refine blk_drewN ?_ _ | refine blk_drew ?_ | refine blk_alloc ?_ _)); exact BK169.out) k_ hk, Kd.freshB (g := gb177) (o := .cells #[.int .i64 ((rd_T32 l0 x7_1).f0), .int .i64 ((rd_T32 l0 x7_1).f1), .int .i64 ((rd_T32 l0 x7_1).f2)] 32 (0, 0)) (by (with_reducible repeat (first | refine blk_drewN ?_ _ | refine blk_drew ?_ | refine blk_alloc ?_ _)); exact BK177.out) k_ hk⟩)); (case aO => exact (by (with_reducible repeat (first | apply Kd.R_alloc | apply Kd.R_drewN | apply Kd.R_drew)); exact HO_6.out)); (case aS => exact (below_size (by repeat (first | (with_reducible first | exact HB.out | apply below_alloc | apply pw_below_drewN | apply below_drew1 | refine below_set ?_ GE169.out | refine below_set ?_ GE177.out) | exact HB.out)))); (case aL => have := LMc27.out; omega); intro v182 w31 ho hb hg hat; rw [← Ny181.out] at ho; have n0_ := Aside0.mk (Kd.R_after (ok := (fun k_ => k_ ≠ gb169 ∧ k_ ≠ gb177)) (by (with_reducible repeat (first | apply Kd.R_alloc | apply Kd.R_drewN | apply Kd.R_drew)); exact Kd.R_mono HO_5.out (fun _ hk => ⟨⟨hk.2.1, hk.2.2⟩, hk.1⟩)) hg hat); have n1_ := Aside0.mk (blk_grown (g := gb169) (o := .cells #[.int .i64 a1_0, .int .i64 x170001_1, .int .i64 x170002_1] 32 (0, 0)) (by (with_reducible repeat (first | refine blk_drewN ?_ _ | refine blk_drew ?_ | refine blk_alloc ?_ _)); exact BK169.out) hg (Kd.R_away HO_6.out (fun _ hk => hk.2.1))); have n2_ := Aside0.mk (blk_grown (g := gb177) (o := .cells #[.int .i64 ((rd_T32 l0 x7_1).f0), .int .i64 ((rd_T32 l0 x7_1).f1), .int .i64 ((rd_T32 l0 x7_1).f2)] 32 (0, 0)) (by (with_reducible repeat (first | refine blk_drewN ?_ _ | refine blk_drew ?_ | refine blk_alloc ?_ _)); exact BK177.out) hg (Kd.R_away HO_6.out (fun _ hk => hk.2.2))); have n3_ := Aside0.mk (hb); have n4_ := Aside0.mk (ho); clear HO_5; clear BK169; clear BK177; clear HB; clear HO_6; have HO_5 := n0_; have BK169 := n1_; have BK177 := n2_; have HB := n3_; have HO183 := n4_; clear n0_ n1_ n2_ n3_ n4_; clear ho hb hg hat))
          go_roundg kj5
          case measure => have := HK1.out; have := HJ5.out; omega
          case rel => exact ⟨(x5_1), (y181), (wrap64 (x7_1 + 1)), (x170001_1), (x170002_1), (by first | rfl | (simp; done) | (simp [*]; done)), H', ⟨by have := HK1.out; have := HJ5.out; omega⟩, ⟨by (with_reducible repeat (first | apply Kd.R_alloc | apply Kd.R_drewN | apply Kd.R_drew)); exact Kd.R_mono HO_5.out (fun _ hk => ⟨hk.2, hk.1.1⟩)⟩, ⟨by (with_reducible repeat (first | apply Kd.R_alloc | apply Kd.R_drewN | apply Kd.R_drew)); exact Kd.R_mono HO183.out (fun _ hk => ⟨hk.1, hk.2.1⟩)⟩, ⟨by (with_reducible repeat (first | refine blk_drewN ?_ _ | refine blk_drew ?_ | refine blk_alloc ?_ _)); exact BK169.out⟩, ⟨by repeat (first | (with_reducible first | exact HB.out | apply below_alloc | apply pw_below_drewN | apply below_drew1 | refine below_set ?_ GE169.out | refine below_set ?_ GE177.out) | exact HB.out)⟩⟩
         ·
          rw [if_neg c27] at H
          exact absurd H (by simp)
        ·
         rw [if_neg c26] at H
         have c26b0 : decide (a1_0 < ((rd_T32 l0 x7_1).f0)) = false := decide_eq_false c26
         clear c26
         by_cases c32 : ((rd_T32 l0 x7_1).f1) > x170002_1
         ·
          rw [if_pos c32] at H
          have c32b0 : decide (x170002_1 < ((rd_T32 l0 x7_1).f1)) = true := decide_eq_true c32
          clear c32
          by_cases c33 : x6_1.length < 5864062014805
          ·
           rw [if_pos c33] at H
           have LMc33 := Aside0.mk c33
           clear c33
           obtain ⟨y184, hy184⟩ : ∃ y_ : List (S32), y_ = (x6_1 ++ [(⟨((rd_T32 l0 x7_1).f0), ((rd_T32 l0 x7_1).f1), ((rd_T32 l0 x7_1).f2)⟩ : S32)]) := ⟨_, rfl⟩
           replace H : (busbarref12_Add.l0 kj5 l0 x5_1 y184 (wrap64 (x7_1 + 1)) a1_0 x170001_1 x170002_1) = some r := by first | (rw [hy184]; with_reducible exact H) | (have H2_ := (Option.bind_some _ _).symm.trans H; rw [hy184]; with_reducible exact H2_) | (have H2_ := (Option.bind_some _ _).symm.trans H; with_reducible exact H2_) | with_reducible exact H | (rw [hy184]; exact H) | exact H
           have Ny184 := Aside0.mk hy184
           clear hy184
           have H' := Aside0.mk H
           clear H
           have hnb34 := NB177_169.out
           have hnc34 := NB169_177.out
           have hcz35_0 : wc.cell? ⟨gb177, 0, none⟩ = some (.int .i64 ((rd_T32 l0 x7_1).f0)) := (blk_cell BK177.out 0).trans rfl
           have hcz35_1 : wc.cell? ⟨gb177, 1, none⟩ = some (.int .i64 ((rd_T32 l0 x7_1).f1)) := (blk_cell BK177.out 1).trans rfl
           have hcz35_2 : wc.cell? ⟨gb177, 2, none⟩ = some (.int .i64 ((rd_T32 l0 x7_1).f2)) := (blk_cell BK177.out 2).trans rfl
           have hfz35_0 := blk_frozen BK177.out 0
           have hfz35_1 := blk_frozen BK177.out 1
           have hfz35_2 := blk_frozen BK177.out 2
           have hcz36_0 : wc.cell? ⟨gb169, 0, none⟩ = some (.int .i64 a1_0) := (blk_cell BK169.out 0).trans rfl
           have hcz36_1 : wc.cell? ⟨gb169, 1, none⟩ = some (.int .i64 x170001_1) := (blk_cell BK169.out 1).trans rfl
           have hcz36_2 : wc.cell? ⟨gb169, 2, none⟩ = some (.int .i64 x170002_1) := (blk_cell BK169.out 2).trans rfl
           have hfz36_0 := blk_frozen BK169.out 0
           have hfz36_1 := blk_frozen BK169.out 1
           have hfz36_2 := blk_frozen BK169.out 2
           go_wp2_with (first | ((with_reducible refine gate_builtin (b := .append) (xs := #[.tmp 68, .tmp 70]) rfl ?_); at_builtin; refine Kd.R_append k32 (w0 := w) w.heap.size rfl (.tmp 68) (.tmp 70) 25 32 (.agg #[(.int .i64 0), (.int .i64 0), (.int .i64 0)]) 24 rfl Try.underlying25 info32 rfl (by decide) (by omega) u6 x6_1 (⟨((rd_T32 l0 x7_1).f0), ((rd_T32 l0 x7_1).f1), ((rd_T32 l0 x7_1).f2)⟩ : S32) [.int .i64 ((rd_T32 l0 x7_1).f0), .int .i64 ((rd_T32 l0 x7_1).f1), .int .i64 ((rd_T32 l0 x7_1).f2)] (fun k_ => some k_ ≠ (u5 : Value).ownBlock ∧ k_ ≠ gb169 ∧ k_ ≠ gb177) (fun _ => False) rfl rfl ?aP (fun _ hk => hk.elim) ?aF ?aO ?aB ?aS ?aL ?_; (case aP => exact k32_mkM _ _ _ (⟨((rd_T32 l0 x7_1).f0), ((rd_T32 l0 x7_1).f1), ((rd_T32 l0 x7_1).f2)⟩ : S32)); (case aB => exact (by repeat (first | (with_reducible first | exact HB.out | apply below_alloc | apply pw_below_drewN | apply below_drew1 | refine below_set ?_ GE169.out | refine below_set ?_ GE177.out) | exact HB.out))); (case aF => exact (fun k_ hk => ⟨Kd.fresh' (Kd.R_lt (by (with_reducible repeat (first | apply Kd.R_alloc | apply Kd.R_drewN | apply Kd.R_drew)); exact HO_5.out)) k_ hk, Kd.freshB (g := gb169) (o := .cells #[.int .i64 a1_0, .int .i64 x170001_1, .int .i64 x170002_1] 32 (0, 0)) (by (with_reducible repeat (first | refine blk_drewN ?_ _ | refine blk_drew ?_ | refine blk_alloc ?_ _)); exact BK169.out) k_ hk, Kd.freshB (g := gb177) (o := .cells #[.int .i64 ((rd_T32 l0 x7_1).f0), .int .i64 ((rd_T32 l0 x7_1).f1), .int .i64 ((rd_T32 l0 x7_1).f2)] 32 (0, 0)) (by (with_reducible repeat (first | refine blk_drewN ?_ _ | refine blk_drew ?_ | refine blk_alloc ?_ _)); exact BK177.out) k_ hk⟩)); (case aO => exact (by (with_reducible repeat (first | apply Kd.R_alloc | apply Kd.R_drewN | apply Kd.R_drew)); exact HO_6.out)); (case aS => exact (below_size (by repeat (first | (with_reducible first | exact HB.out | apply below_alloc | apply pw_below_drewN | apply below_drew1 | refine below_set ?_ GE169.out | refine below_set ?_ GE177.out) | exact HB.out)))); (case aL => have := LMc33.out; omega); intro v185 w37 ho hb hg hat; rw [← Ny184.out] at ho; have n0_ := Aside0.mk (Kd.R_after (ok := (fun k_ => k_ ≠ gb169 ∧ k_ ≠ gb177)) (by (with_reducible repeat (first | apply Kd.R_alloc | apply Kd.R_drewN | apply Kd.R_drew)); exact Kd.R_mono HO_5.out (fun _ hk => ⟨⟨hk.2.1, hk.2.2⟩, hk.1⟩)) hg hat); have n1_ := Aside0.mk (blk_grown (g := gb169) (o := .cells #[.int .i64 a1_0, .int .i64 x170001_1, .int .i64 x170002_1] 32 (0, 0)) (by (with_reducible repeat (first | refine blk_drewN ?_ _ | refine blk_drew ?_ | refine blk_alloc ?_ _)); exact BK169.out) hg (Kd.R_away HO_6.out (fun _ hk => hk.2.1))); have n2_ := Aside0.mk (blk_grown (g := gb177) (o := .cells #[.int .i64 ((rd_T32 l0 x7_1).f0), .int .i64 ((rd_T32 l0 x7_1).f1), .int .i64 ((rd_T32 l0 x7_1).f2)] 32 (0, 0)) (by (with_reducible repeat (first | refine blk_drewN ?_ _ | refine blk_drew ?_ | refine blk_alloc ?_ _)); exact BK177.out) hg (Kd.R_away HO_6.out (fun _ hk => hk.2.2))); have n3_ := Aside0.mk (hb); have n4_ := Aside0.mk (ho); clear HO_5; clear BK169; clear BK177; clear HB; clear HO_6; have HO_5 := n0_; have BK169 := n1_; have BK177 := n2_; have HB := n3_; have HO186 := n4_; clear n0_ n1_ n2_ n3_ n4_; clear ho hb hg hat))
           go_roundg kj5
           case measure => have := HK1.out; have := HJ5.out; omega
           case rel => exact ⟨(x5_1), (y184), (wrap64 (x7_1 + 1)), (x170001_1), (x170002_1), (by first | rfl | (simp; done) | (simp [*]; done)), H', ⟨by have := HK1.out; have := HJ5.out; omega⟩, ⟨by (with_reducible repeat (first | apply Kd.R_alloc | apply Kd.R_drewN | apply Kd.R_drew)); exact Kd.R_mono HO_5.out (fun _ hk => ⟨hk.2, hk.1.1⟩)⟩, ⟨by (with_reducible repeat (first | apply Kd.R_alloc | apply Kd.R_drewN | apply Kd.R_drew)); exact Kd.R_mono HO186.out (fun _ hk => ⟨hk.1, hk.2.1⟩)⟩, ⟨by (with_reducible repeat (first | refine blk_drewN ?_ _ | refine blk_drew ?_ | refine blk_alloc ?_ _)); exact BK169.out⟩, ⟨by repeat (first | (with_reducible first | exact HB.out | apply below_alloc | apply pw_below_drewN | apply below_drew1 | refine below_set ?_ GE169.out | refine below_set ?_ GE177.out) | exact HB.out)⟩⟩
          ·
           rw [if_neg c33] at H
           exact absurd H (by simp)
         ·
          rw [if_neg c32] at H
          have c32b0 : decide (x170002_1 < ((rd_T32 l0 x7_1).f1)) = false := decide_eq_false c32
          clear c32
          obtain ⟨ji38, hji38⟩ : ∃ j_ : Int, (mn x170001_1 ((rd_T32 l0 x7_1).f1)) = j_ := ⟨_, rfl⟩
          replace H : (busbarref12_Add.l0 kj5 l0 x5_1 x6_1 (wrap64 (x7_1 + 1)) a1_0 ji38 (mx x170002_1 ((rd_T32 l0 x7_1).f2))) = some r := by first | (rw [hji38] at H; exact H) | (simp only [hji38] at H ⊢; exact H)
          have hji38_ : (if ((rd_T32 l0 x7_1).f1) < x170001_1 then ((rd_T32 l0 x7_1).f1) else x170001_1) = ji38 := hji38
          obtain ⟨ji39, hji39⟩ : ∃ j_ : Int, (mx x170002_1 ((rd_T32 l0 x7_1).f2)) = j_ := ⟨_, rfl⟩
          replace H : (busbarref12_Add.l0 kj5 l0 x5_1 x6_1 (wrap64 (x7_1 + 1)) a1_0 ji38 ji39) = some r := by first | (rw [hji39] at H; exact H) | (simp only [hji39] at H ⊢; exact H)
          have hji39_ : (if x170002_1 < ((rd_T32 l0 x7_1).f2) then ((rd_T32 l0 x7_1).f2) else x170002_1) = ji39 := hji39
          have H' := Aside0.mk H
          clear H
          have hnb40 := NB177_169.out
          have hnc40 := NB169_177.out
          have hcz41_0 : wc.cell? ⟨gb177, 0, none⟩ = some (.int .i64 ((rd_T32 l0 x7_1).f0)) := (blk_cell BK177.out 0).trans rfl
          have hcz41_1 : wc.cell? ⟨gb177, 1, none⟩ = some (.int .i64 ((rd_T32 l0 x7_1).f1)) := (blk_cell BK177.out 1).trans rfl
          have hcz41_2 : wc.cell? ⟨gb177, 2, none⟩ = some (.int .i64 ((rd_T32 l0 x7_1).f2)) := (blk_cell BK177.out 2).trans rfl
          have hfz41_0 := blk_frozen BK177.out 0
          have hfz41_1 := blk_frozen BK177.out 1
          have hfz41_2 := blk_frozen BK177.out 2
          have hcz42_0 : wc.cell? ⟨gb169, 0, none⟩ = some (.int .i64 a1_0) := (blk_cell BK169.out 0).trans rfl
          have hcz42_1 : wc.cell? ⟨gb169, 1, none⟩ = some (.int .i64 x170001_1) := (blk_cell BK169.out 1).trans rfl
          have hcz42_2 : wc.cell? ⟨gb169, 2, none⟩ = some (.int .i64 x170002_1) := (blk_cell BK169.out 2).trans rfl
          have hfz42_0 := blk_frozen BK169.out 0
          have hfz42_1 := blk_frozen BK169.out 1
          have hfz42_2 := blk_frozen BK169.out 2
          try go_wp2
          go_region
          try go_wp2
          go_roundg kj5
          case measure => have := HK1.out; have := HJ5.out; omega
          case rel => exact ⟨(x5_1), (x6_1), (wrap64 (x7_1 + 1)), (ji38), (ji39), (by first | rfl | (simp; done) | (simp [*]; done)), H', ⟨by have := HK1.out; have := HJ5.out; omega⟩, ⟨by (with_reducible repeat (first | apply Kd.R_alloc | apply Kd.R_drewN | apply Kd.R_drew)); exact Kd.R_mono (Kd.R_far (p := ⟨gb169, 2, none⟩) (Kd.R_far (p := ⟨gb169, 1, none⟩) (Kd.R_mono HO_5.out (fun k_ hk => (⟨hk, hk.2.1⟩ : _ ∧ k_ ≠ gb169))) (fun _ hk => hk.2) (.int .i64 ji38)) (fun _ hk => hk.2) (.int .i64 ji39)) (fun _ hk => ⟨hk.1.1, hk.1.2.1⟩)⟩, ⟨by (with_reducible repeat (first | apply Kd.R_alloc | apply Kd.R_drewN | apply Kd.R_drew)); exact Kd.R_mono (Kd.R_far (p := ⟨gb169, 2, none⟩) (Kd.R_far (p := ⟨gb169, 1, none⟩) (Kd.R_mono HO_6.out (fun k_ hk => (⟨hk, hk.2.1⟩ : _ ∧ k_ ≠ gb169))) (fun _ hk => hk.2) (.int .i64 ji38)) (fun _ hk => hk.2) (.int .i64 ji39)) (fun _ hk => ⟨hk.1.1, hk.1.2.1⟩)⟩, ⟨by (with_reducible repeat (first | refine blk_drewN ?_ _ | refine blk_drew ?_ | refine blk_alloc ?_ _)); refine blk_put (cs := #[.int .i64 a1_0, .int .i64 ji38, .int .i64 x170002_1]) ?_ 2 _ rfl; (with_reducible repeat (first | refine blk_drewN ?_ _ | refine blk_drew ?_ | refine blk_alloc ?_ _)); refine blk_put (cs := #[.int .i64 a1_0, .int .i64 x170001_1, .int .i64 x170002_1]) ?_ 1 _ rfl; (with_reducible repeat (first | refine blk_drewN ?_ _ | refine blk_drew ?_ | refine blk_alloc ?_ _)); exact BK169.out⟩, ⟨by repeat (first | (with_reducible first | exact HB.out | apply below_alloc | apply pw_below_drewN | apply below_drew1 | refine below_set ?_ GE169.out | refine below_set ?_ GE177.out) | exact HB.out)⟩⟩
    ·
     rw [if_neg c5] at H
     exact absurd H (by simp)
   ·
    rw [if_neg c4] at H
    have c4b0 : decide (x7_1 < (l0.length : Int)) = false := decide_eq_false c4
    clear c4
    by_cases c43 : x5_1.length < 5864062014805
    ·
     rw [if_pos c43] at H
     have LMc43 := Aside0.mk c43
     clear c43
     obtain ⟨y170, hy170⟩ : ∃ y_ : List (S32), y_ = (x5_1 ++ [(⟨a1_0, x170001_1, x170002_1⟩ : S32)]) := ⟨_, rfl⟩
     replace H : (if y170.length + x6_1.length < 5864062014805 then (some (y170 ++ x6_1)) else (none)) = some r := by first | (rw [hy170]; with_reducible exact H) | (have H2_ := (Option.bind_some _ _).symm.trans H; rw [hy170]; with_reducible exact H2_) | (have H2_ := (Option.bind_some _ _).symm.trans H; with_reducible exact H2_) | with_reducible exact H | (rw [hy170]; exact H) | exact H
     have Ny170 := Aside0.mk hy170
     clear hy170
     by_cases c44 : y170.length + x6_1.length < 5864062014805
     ·
      rw [if_pos c44] at H
      have LMc44 := Aside0.mk c44
      clear c44
      obtain ⟨y173, hy173⟩ : ∃ y_ : List (S32), y_ = (y170 ++ x6_1) := ⟨_, rfl⟩
      replace H : (some y173) = some r := by first | (rw [hy173]; with_reducible exact H) | (have H2_ := (Option.bind_some _ _).symm.trans H; rw [hy173]; with_reducible exact H2_) | (have H2_ := (Option.bind_some _ _).symm.trans H; with_reducible exact H2_) | with_reducible exact H | (rw [hy173]; exact H) | exact H
      have Ny173 := Aside0.mk hy173
      clear hy173
      obtain rfl := Option.some.inj H
      have hcz45_0 : wr.cell? ⟨gb169, 0, none⟩ = some (.int .i64 a1_0) := (blk_cell BK169.out 0).trans rfl
      have hcz45_1 : wr.cell? ⟨gb169, 1, none⟩ = some (.int .i64 x170001_1) := (blk_cell BK169.out 1).trans rfl
      have hcz45_2 : wr.cell? ⟨gb169, 2, none⟩ = some (.int .i64 x170002_1) := (blk_cell BK169.out 2).trans rfl
      have hfz45_0 := blk_frozen BK169.out 0
      have hfz45_1 := blk_frozen BK169.out 1
      have hfz45_2 := blk_frozen BK169.out 2
      go_wp2_with (first | ((with_reducible refine gate_builtin (b := .append) (xs := #[.tmp 72, .tmp 74]) rfl ?_); at_builtin; refine Kd.R_append k32 (w0 := w) w.heap.size rfl (.tmp 72) (.tmp 74) 25 32 (.agg #[(.int .i64 0), (.int .i64 0), (.int .i64 0)]) 24 rfl Try.underlying25 info32 rfl (by decide) (by omega) u5 x5_1 (⟨a1_0, x170001_1, x170002_1⟩ : S32) [.int .i64 a1_0, .int .i64 x170001_1, .int .i64 x170002_1] (fun k_ => some k_ ≠ (u6 : Value).ownBlock ∧ k_ ≠ gb169) (fun _ => False) rfl rfl ?aP (fun _ hk => hk.elim) ?aF ?aO ?aB ?aS ?aL ?_; (case aP => exact k32_mkM _ _ _ (⟨a1_0, x170001_1, x170002_1⟩ : S32)); (case aB => exact (by repeat (first | (with_reducible first | exact HB.out | apply below_alloc | apply pw_below_drewN | apply below_drew1 | refine below_set ?_ GE169.out) | exact HB.out))); (case aF => exact (fun k_ hk => ⟨Kd.fresh' (Kd.R_lt (by (with_reducible repeat (first | apply Kd.R_alloc | apply Kd.R_drewN | apply Kd.R_drew)); exact HO_6.out)) k_ hk, Kd.freshB (g := gb169) (o := .cells #[.int .i64 a1_0, .int .i64 x170001_1, .int .i64 x170002_1] 32 (0, 0)) (by (with_reducible repeat (first | refine blk_drewN ?_ _ | refine blk_drew ?_ | refine blk_alloc ?_ _)); exact BK169.out) k_ hk⟩)); (case aO => exact (by (with_reducible repeat (first | apply Kd.R_alloc | apply Kd.R_drewN | apply Kd.R_drew)); exact HO_5.out)); (case aS => exact (below_size (by repeat (first | (with_reducible first | exact HB.out | apply below_alloc | apply pw_below_drewN | apply below_drew1 | refine below_set ?_ GE169.out) | exact HB.out)))); (case aL => have := LMc43.out; omega); intro v171 w46 ho hb hg hat; rw [← Ny170.out] at ho; have n0_ := Aside0.mk (Kd.R_after (ok := (fun k_ => k_ ≠ gb169)) (by (with_reducible repeat (first | apply Kd.R_alloc | apply Kd.R_drewN | apply Kd.R_drew)); exact Kd.R_mono HO_6.out (fun _ hk => ⟨hk.2, hk.1⟩)) hg hat); have n1_ := Aside0.mk (blk_grown (g := gb169) (o := .cells #[.int .i64 a1_0, .int .i64 x170001_1, .int .i64 x170002_1] 32 (0, 0)) (by (with_reducible repeat (first | refine blk_drewN ?_ _ | refine blk_drew ?_ | refine blk_alloc ?_ _)); exact BK169.out) hg (Kd.R_away HO_5.out (fun _ hk => hk.2))); have n2_ := Aside0.mk (hb); have n3_ := Aside0.mk (ho); clear HO_6; clear BK169; clear HB; clear HO_5; have HO_6 := n0_; have BK169 := n1_; have HB := n2_; have HO172 := n3_; clear n0_ n1_ n2_ n3_; clear ho hb hg hat; obtain ⟨Ao48, co48, eo48⟩ := Kd.R_slice HO_6.out; subst eo48) | ((with_reducible refine gate_builtin (b := .append) (xs := #[.tmp 75, .tmp 76]) rfl ?_); at_builtin; refine Kd.R_append_rows k32 (w0 := w) w.heap.size rfl (.tmp 75) (.tmp 76) 25 32 (.agg #[(.int .i64 0), (.int .i64 0), (.int .i64 0)]) 24 rfl Try.underlying25 info32 rfl (by decide) (by omega) v171 y170 x6_1 _ _ _ (fun k_ => some k_ ≠ (.slice Ao48 x6_1.length co48 : Value).ownBlock ∧ k_ ≠ gb169) (fun _ => False) rfl rfl ?aO ?aR (fun _ _ h => h) (fun _ h => h.elim) ?aF ?aB ?aS ?aL ?_; (case aR => repeat (first | exact (Kd.R_reads' HO_6.out).2.2 | (with_reducible refine Kd.C_alloc ?_ _) | (with_reducible refine Kd.C_drewN ?_ _) | (with_reducible refine Kd.C_drew ?_))); (case aB => exact (by repeat (first | (with_reducible first | exact HB.out | apply below_alloc | apply pw_below_drewN | apply below_drew1 | refine below_set ?_ GE169.out) | exact HB.out))); (case aF => exact (fun k_ hk => ⟨Kd.fresh' (Kd.R_lt (by (with_reducible repeat (first | apply Kd.R_alloc | apply Kd.R_drewN | apply Kd.R_drew)); exact HO_6.out)) k_ hk, Kd.freshB (g := gb169) (o := .cells #[.int .i64 a1_0, .int .i64 x170001_1, .int .i64 x170002_1] 32 (0, 0)) (by (with_reducible repeat (first | refine blk_drewN ?_ _ | refine blk_drew ?_ | refine blk_alloc ?_ _)); exact BK169.out) k_ hk⟩)); (case aO => exact (by (with_reducible repeat (first | apply Kd.R_alloc | apply Kd.R_drewN | apply Kd.R_drew)); exact HO172.out)); (case aS => exact (below_size (by repeat (first | (with_reducible first | exact HB.out | apply below_alloc | apply pw_below_drewN | apply below_drew1 | refine below_set ?_ GE169.out) | exact HB.out)))); (case aL => have := LMc44.out; omega); intro v174 w47 ho hb hg hat; rw [← Ny173.out] at ho; have n0_ := Aside0.mk (Kd.R_after (ok := (fun k_ => k_ ≠ gb169)) (by (with_reducible repeat (first | apply Kd.R_alloc | apply Kd.R_drewN | apply Kd.R_drew)); exact HO_6.out) hg hat); have n1_ := Aside0.mk (blk_grown (g := gb169) (o := .cells #[.int .i64 a1_0, .int .i64 x170001_1, .int .i64 x170002_1] 32 (0, 0)) (by (with_reducible repeat (first | refine blk_drewN ?_ _ | refine blk_drew ?_ | refine blk_alloc ?_ _)); exact BK169.out) hg (Kd.R_away HO172.out (fun _ hk => hk.2))); have n2_ := Aside0.mk (hb); have n3_ := Aside0.mk (ho); clear HO_6; clear BK169; clear HB; clear HO172; have HO_6 := n0_; have BK169 := n1_; have HB := n2_; have HO175 := n3_; clear n0_ n1_ n2_ n3_; clear ho hb hg hat))
      go_ret
      exact ⟨_, by first | rfl | (simp [errW_none, errW_some] <;> rfl) | (simp [*, errW_none, errW_some] <;> rfl), by (with_reducible repeat (first | apply Kd.R_alloc | apply Kd.R_drewN | apply Kd.R_drew)); exact Kd.R_mono HO175.out (fun _ hk => trivial), by repeat (first | (with_reducible first | exact HB.out | apply below_alloc | apply pw_below_drewN | apply below_drew1 | refine below_set ?_ GE169.out) | exact HB.out)⟩
     ·
      rw [if_neg c44] at H
      exact absurd H (by simp)
    ·
     rw [if_neg c43] at H
     exact absurd H (by simp)

end Go.Proofs.Ytmbkbpaoiilicaa.PGroupC
