-- written by a program of this session (wip/pp) over the kit's print.py; Lean checks it
import Derived.Test.YtmbkbpaoiilicaaPGroupCx0
import Derived.Test.YtmbkbpaoiilicaaPGroupCx15
namespace Go.Proofs.Ytmbkbpaoiilicaa.PGroupC
open Go.RowKit Go.Proofs.YtmbkbpaoiilicaaW.PrintWords Go.Proofs.YtmbkbpaoiilicaaW.PrintLast Go.Proofs.YtmbkbpaoiilicaaW.PrintMore
attribute [local go_sem] max2_int min2_int max_two min_two max_three min_three max_four min_four plus_setCell_drewN plus_cell_same   -- for this text's walks alone
set_option linter.unusedVariables false
set_option linter.unusedSimpArgs false

/-! ### busbarref12_Groups: function 39 -/
mutual
def busbarref12_Groups.l0 : Nat → List (S30) → List (S32) → Int → Option (Int)
 | 0, _, _, _ => none
 | k + 1, x0, x1, x5 => if x5 < (x0.length : Int) then (if 0 ≤ x5 then (if ((rd_T30 x0 x5).f0) = 2 then (if ((rd_T30 x0 x5).f2) = 2 then (if ((rd_T30 x0 x5).f1) < 0 then (busbarref12_Groups.j1 k x0 x1 x5 true ((rd_T30 x0 x5).f0) ((rd_T30 x0 x5).f1) ((rd_T30 x0 x5).f2)) else (busbarref12_Groups.j1 k x0 x1 x5 (decide (((rd_T30 x0 x5).f1) ≥ 65536)) ((rd_T30 x0 x5).f0) ((rd_T30 x0 x5).f1) ((rd_T30 x0 x5).f2))) else (if ((rd_T30 x0 x5).f2) = 4 then (if ((rd_T30 x0 x5).f1) < 0 then (busbarref12_Groups.j1 k x0 x1 x5 true ((rd_T30 x0 x5).f0) ((rd_T30 x0 x5).f1) ((rd_T30 x0 x5).f2)) else (busbarref12_Groups.j1 k x0 x1 x5 (decide (((rd_T30 x0 x5).f1) ≥ 65536)) ((rd_T30 x0 x5).f0) ((rd_T30 x0 x5).f1) ((rd_T30 x0 x5).f2))) else (busbarref12_Groups.j1 k x0 x1 x5 true ((rd_T30 x0 x5).f0) ((rd_T30 x0 x5).f1) ((rd_T30 x0 x5).f2)))) else (if ((rd_T30 x0 x5).f0) = 3 then (if ((rd_T30 x0 x5).f2) = 2 then (if ((rd_T30 x0 x5).f1) < 0 then (busbarref12_Groups.j1 k x0 x1 x5 true ((rd_T30 x0 x5).f0) ((rd_T30 x0 x5).f1) ((rd_T30 x0 x5).f2)) else (busbarref12_Groups.j1 k x0 x1 x5 (decide (((rd_T30 x0 x5).f1) ≥ 65536)) ((rd_T30 x0 x5).f0) ((rd_T30 x0 x5).f1) ((rd_T30 x0 x5).f2))) else (if ((rd_T30 x0 x5).f2) = 4 then (if ((rd_T30 x0 x5).f1) < 0 then (busbarref12_Groups.j1 k x0 x1 x5 true ((rd_T30 x0 x5).f0) ((rd_T30 x0 x5).f1) ((rd_T30 x0 x5).f2)) else (busbarref12_Groups.j1 k x0 x1 x5 (decide (((rd_T30 x0 x5).f1) ≥ 65536)) ((rd_T30 x0 x5).f0) ((rd_T30 x0 x5).f1) ((rd_T30 x0 x5).f2))) else (busbarref12_Groups.j1 k x0 x1 x5 true ((rd_T30 x0 x5).f0) ((rd_T30 x0 x5).f1) ((rd_T30 x0 x5).f2)))) else (busbarref12_Groups.j1 k x0 x1 x5 true ((rd_T30 x0 x5).f0) ((rd_T30 x0 x5).f1) ((rd_T30 x0 x5).f2)))) else (none)) else (some 0)
def busbarref12_Groups.j1 : Nat → List (S30) → List (S32) → Int → Bool → Int → Int → Int → Option (Int)
 | 0, _, _, _, _, _, _, _ => none
 | k + 1, x0, x1, x5, x44, x214000, x214001, x214002 => if x44 = true then (some 1) else (if x214002 = 0 then (none) else (if (Int.tmod x214001 x214002) = 0 then (if x5 > 0 then (if 0 ≤ (wrap64 (x5 - 1)) then (if (wrap64 (x5 - 1)) < (x0.length : Int) then (if ((rd_T30 x0 (wrap64 (x5 - 1))).f0) > x214000 then (busbarref12_Groups.j2 k x0 x1 x5 true x214000 x214001 x214002) else (if ((rd_T30 x0 (wrap64 (x5 - 1))).f0) = x214000 then (busbarref12_Groups.j2 k x0 x1 x5 (decide ((wrap64 (((rd_T30 x0 (wrap64 (x5 - 1))).f1) + ((rd_T30 x0 (wrap64 (x5 - 1))).f2))) > x214001)) x214000 x214001 x214002) else (busbarref12_Groups.j2 k x0 x1 x5 false x214000 x214001 x214002))) else (none)) else (none)) else (busbarref12_Groups.j2 k x0 x1 x5 false x214000 x214001 x214002)) else (some 2)))
def busbarref12_Groups.j2 : Nat → List (S30) → List (S32) → Int → Bool → Int → Int → Int → Option (Int)
 | 0, _, _, _, _, _, _, _ => none
 | k + 1, x0, x1, x5, x92, x214000, x214001, x214002 => if x92 = true then (some 2) else ((busbarref12_Covers.f k x1 x214000 x214001 (wrap64 (x214001 + x214002))).bind fun t218 => (if t218 = true then (busbarref12_Groups.l0 k x0 x1 (wrap64 (x5 + 1))) else (some 5)))
end
def busbarref12_Groups.f (k : Nat) (l0 : List (S30)) (l1 : List (S32)) : Option (Int) := busbarref12_Groups.l0 k l0 l1 0
theorem busbarref12_Groups.mono_l : ∀ k, (∀ y0 y1 y2, LeO (busbarref12_Groups.l0 k y0 y1 y2) (busbarref12_Groups.l0 (k + 1) y0 y1 y2)) ∧ (∀ y0 y1 y2 y3 y4 y5 y6, LeO (busbarref12_Groups.j1 k y0 y1 y2 y3 y4 y5 y6) (busbarref12_Groups.j1 (k + 1) y0 y1 y2 y3 y4 y5 y6)) ∧ (∀ y0 y1 y2 y3 y4 y5 y6, LeO (busbarref12_Groups.j2 k y0 y1 y2 y3 y4 y5 y6) (busbarref12_Groups.j2 (k + 1) y0 y1 y2 y3 y4 y5 y6))
 | 0 => ⟨fun _ _ _ r h => by simp [busbarref12_Groups.l0] at h, fun _ _ _ _ _ _ _ r h => by simp [busbarref12_Groups.j1] at h, fun _ _ _ _ _ _ _ r h => by simp [busbarref12_Groups.j2] at h⟩
 | k + 1 => by
  obtain ⟨ih0, ih1, ih2⟩ := busbarref12_Groups.mono_l k
  refine ⟨?_, ?_, ?_⟩
  ·
   intro y0 y1 y2
   unfold busbarref12_Groups.l0
   repeat' first
   | (with_reducible exact ih0 _ _ _)
   | (with_reducible exact ih1 _ _ _ _ _ _ _)
   | (with_reducible exact ih2 _ _ _ _ _ _ _)
   | (with_reducible exact busbarref12_Covers.mono _ _ _ _ _)
   | (with_reducible exact LeO.refl _)
   | (with_reducible exact LeO.none _)
   | (with_reducible refine LeO.ite ?_ ?_)
   | (with_reducible refine LeO.bind ?_ (fun _ => ?_))
   | exact ih0 _ _ _
   | exact ih1 _ _ _ _ _ _ _
   | exact ih2 _ _ _ _ _ _ _
   | exact busbarref12_Covers.mono _ _ _ _ _
   | exact LeO.none _
   | refine LeO.ite ?_ ?_
   | refine LeO.bind ?_ (fun _ => ?_)
  ·
   intro y0 y1 y2 y3 y4 y5 y6
   unfold busbarref12_Groups.j1
   repeat' first
   | (with_reducible exact ih0 _ _ _)
   | (with_reducible exact ih1 _ _ _ _ _ _ _)
   | (with_reducible exact ih2 _ _ _ _ _ _ _)
   | (with_reducible exact busbarref12_Covers.mono _ _ _ _ _)
   | (with_reducible exact LeO.refl _)
   | (with_reducible exact LeO.none _)
   | (with_reducible refine LeO.ite ?_ ?_)
   | (with_reducible refine LeO.bind ?_ (fun _ => ?_))
   | exact ih0 _ _ _
   | exact ih1 _ _ _ _ _ _ _
   | exact ih2 _ _ _ _ _ _ _
   | exact busbarref12_Covers.mono _ _ _ _ _
   | exact LeO.none _
   | refine LeO.ite ?_ ?_
   | refine LeO.bind ?_ (fun _ => ?_)
  ·
   intro y0 y1 y2 y3 y4 y5 y6
   unfold busbarref12_Groups.j2
   repeat' first
   | (with_reducible exact ih0 _ _ _)
   | (with_reducible exact ih1 _ _ _ _ _ _ _)
   | (with_reducible exact ih2 _ _ _ _ _ _ _)
   | (with_reducible exact busbarref12_Covers.mono _ _ _ _ _)
   | (with_reducible exact LeO.refl _)
   | (with_reducible exact LeO.none _)
   | (with_reducible refine LeO.ite ?_ ?_)
   | (with_reducible refine LeO.bind ?_ (fun _ => ?_))
   | exact ih0 _ _ _
   | exact ih1 _ _ _ _ _ _ _
   | exact ih2 _ _ _ _ _ _ _
   | exact busbarref12_Covers.mono _ _ _ _ _
   | exact LeO.none _
   | refine LeO.ite ?_ ?_
   | refine LeO.bind ?_ (fun _ => ?_)
theorem busbarref12_Groups.mono : ∀ a0 a1 k, LeO (busbarref12_Groups.f k a0 a1) (busbarref12_Groups.f (k + 1) a0 a1) := by
 intro a0 a1 k
 obtain ⟨ih0, ih1, ih2⟩ := busbarref12_Groups.mono_l k
 unfold busbarref12_Groups.f
 repeat' first
   | (with_reducible exact ih0 _ _ _)
   | (with_reducible exact ih1 _ _ _ _ _ _ _)
   | (with_reducible exact ih2 _ _ _ _ _ _ _)
   | (with_reducible exact busbarref12_Covers.mono _ _ _ _ _)
   | (with_reducible exact LeO.refl _)
   | (with_reducible exact LeO.none _)
   | (with_reducible refine LeO.ite ?_ ?_)
   | (with_reducible refine LeO.bind ?_ (fun _ => ?_))
   | exact ih0 _ _ _
   | exact ih1 _ _ _ _ _ _ _
   | exact ih2 _ _ _ _ _ _ _
   | exact busbarref12_Covers.mono _ _ _ _ _
   | exact LeO.none _
   | refine LeO.ite ?_ ?_
   | refine LeO.bind ?_ (fun _ => ?_)
set_option maxHeartbeats 8000000 in
set_option maxRecDepth 100000 in
theorem busbarref12_Groups.calls (k : Nat) (A0 : Option Addr) (c0 : Nat) (l0 : List (S30)) (A1 : Option Addr) (c1 : Nat) (l1 : List (S32)) (r : Int) (w : World) (hr0 : Kd.C k30 w A0 l0.length l0) (hc0 : l0.length ≤ c0) (hr1 : Kd.C k32 w A1 l1.length l1) (hc1 : l1.length ≤ c1) (h : busbarref12_Groups.f k l0 l1 = some r) :
  Calls Try.prog 39 #[.slice A0 l0.length c0, .slice A1 l1.length c1] w fun e w' => e = .returned (.int .i64 r) ∧ Below w.heap.size w w' := by
 have hu30 := Try.underlying30
 have hu32 := Try.underlying32
 have HR0 := Aside0.mk hr0
 have HC0 := Aside0.mk hc0
 clear hr0 hc0
 have HR1 := Aside0.mk hr1
 have HC1 := Aside0.mk hc1
 clear hr1 hc1
 have HB := Aside0.mk (Below.refl w.heap.size w)
 have H : (busbarref12_Groups.l0 k l0 l1 0) = some r := h
 clear h
 have H' := Aside0.mk H
 clear H
 go_enter Try.func39, Try.ntmps39
 go_wp2
 repeat (go_quiet (fail); try go_wp2)
 go_loopg [5] k (fun kq v5 w' => ∃ (x5_1 : Int), v5 = .int .i64 x5_1 ∧ Aside0 (busbarref12_Groups.l0 kq l0 l1 x5_1 = some r) ∧ Aside0 (kq ≤ k) ∧ Aside0 (Below w.heap.size w w'))
 case atStart => exact ⟨(0), (by first | rfl | (simp; done) | (simp [*]; done)), H', ⟨Nat.le_refl _⟩, ⟨by repeat (first | (with_reducible first | exact HB.out | apply below_alloc | apply pw_below_drewN | apply below_drew1) | exact HB.out)⟩⟩
 case round =>
  clear H'
  try clear c1
  try clear p2
  obtain ⟨x5_1, rfl, HA, HK1, HB⟩ := hrel
  cases gk with
  | zero => exact absurd HA.out (by simp [busbarref12_Groups.l0])
  | succ k1 =>
   have H := HA.out
   clear HA
   simp only [busbarref12_Groups.l0] at H
   by_cases c3 : x5_1 < (l0.length : Int)
   ·
    rw [if_pos c3] at H
    have c3b0 : decide (x5_1 < (l0.length : Int)) = true := decide_eq_true c3
    clear c3
    by_cases c4 : 0 ≤ x5_1
    ·
     rw [if_pos c4] at H
     have c4b0 : decide (0 ≤ x5_1) = true := decide_eq_true c4
     clear c4
     have HC5 := Aside0.mk H
     clear H
     have p212 : 0 ≤ (x5_1 : Int) := of_decide_eq_true (by first | (with_reducible assumption) | assumption)
     have q212 : x5_1 < (l0.length : Int) := of_decide_eq_true (by first | (with_reducible assumption) | assumption)
     obtain ⟨ad212, e212, hx212_0, hx212_1, hx212_2⟩ := at_T30 HR0.out x5_1 p212 q212
     cases e212
     replace hx212_0 := (HB.out.cell (World.block_lt_of_cell? w _ hx212_0)).trans hx212_0
     replace hx212_1 := (HB.out.cell (World.block_lt_of_cell? w _ hx212_1)).trans hx212_1
     replace hx212_2 := (HB.out.cell (World.block_lt_of_cell? w _ hx212_2)).trans hx212_2
     replace p212 := eq_true p212
     replace q212 := eq_true q212
     go_upto_region 5 with (first | ((with_reducible refine gate_dst (N := 6) rfl ?_); refine box_event ?hg (N := 6) ?hd (cs := #[.int .i64 0, .int .i64 0, .int .i64 0]) (t := 30) ?hr ?_; (case hd => rfl); (case hg => rfl); (case hr => first | (go_simp; done) | (go_simp; rfl)); intro gb213 hg w6 hbox hb; have n0_ := Aside0.mk (below_step (by repeat (first | (with_reducible first | exact HB.out | apply below_alloc | apply pw_below_drewN | apply below_drew1) | exact HB.out)) hb); have n1_ := Aside0.mk (hbox); have n2_ := Aside0.mk ((by rw [hg]; exact (below_size (by repeat (first | (with_reducible first | exact HB.out | apply below_alloc | apply pw_below_drewN | apply below_drew1) | exact HB.out))) : w.heap.size ≤ gb213)); have n3_ := Aside0.mk ((by rw [hg]; exact (below_size (by repeat (first | (with_reducible first | exact HB.out | apply below_alloc | apply pw_below_drewN | apply below_drew1) | exact HB.out))) : w.heap.size ≤ gb213)); clear HB; have HB := n0_; have BK213 := n1_; have GW213 := n2_; have GE213 := n3_; clear n0_ n1_ n2_ n3_; clear hb hbox hg; have hcz7_0 : w6.cell? ⟨gb213, 0, none⟩ = some (.int .i64 0) := (blk_cell BK213.out 0).trans rfl; have hcz7_1 : w6.cell? ⟨gb213, 1, none⟩ = some (.int .i64 0) := (blk_cell BK213.out 1).trans rfl; have hcz7_2 : w6.cell? ⟨gb213, 2, none⟩ = some (.int .i64 0) := (blk_cell BK213.out 2).trans rfl; have hfz7_0 := blk_frozen BK213.out 0; have hfz7_1 := blk_frozen BK213.out 1; have hfz7_2 := blk_frozen BK213.out 2))
     repeat (go_quiet (first | ((with_reducible refine gate_dst (N := 6) rfl ?_); refine box_event ?hg (N := 6) ?hd (cs := #[.int .i64 0, .int .i64 0, .int .i64 0]) (t := 30) ?hr ?_; (case hd => rfl); (case hg => rfl); (case hr => first | (go_simp; done) | (go_simp; rfl)); intro gb213 hg w6 hbox hb; have n0_ := Aside0.mk (below_step (by repeat (first | (with_reducible first | exact HB.out | apply below_alloc | apply pw_below_drewN | apply below_drew1) | exact HB.out)) hb); have n1_ := Aside0.mk (hbox); have n2_ := Aside0.mk ((by rw [hg]; exact (below_size (by repeat (first | (with_reducible first | exact HB.out | apply below_alloc | apply pw_below_drewN | apply below_drew1) | exact HB.out))) : w.heap.size ≤ gb213)); have n3_ := Aside0.mk ((by rw [hg]; exact (below_size (by repeat (first | (with_reducible first | exact HB.out | apply below_alloc | apply pw_below_drewN | apply below_drew1) | exact HB.out))) : w.heap.size ≤ gb213)); clear HB; have HB := n0_; have BK213 := n1_; have GW213 := n2_; have GE213 := n3_; clear n0_ n1_ n2_ n3_; clear hb hbox hg; have hcz7_0 : w6.cell? ⟨gb213, 0, none⟩ = some (.int .i64 0) := (blk_cell BK213.out 0).trans rfl; have hcz7_1 : w6.cell? ⟨gb213, 1, none⟩ = some (.int .i64 0) := (blk_cell BK213.out 1).trans rfl; have hcz7_2 : w6.cell? ⟨gb213, 2, none⟩ = some (.int .i64 0) := (blk_cell BK213.out 2).trans rfl; have hfz7_0 := blk_frozen BK213.out 0; have hfz7_1 := blk_frozen BK213.out 1; have hfz7_2 := blk_frozen BK213.out 2)); go_upto_region 5 with (first | ((with_reducible refine gate_dst (N := 6) rfl ?_); refine box_event ?hg (N := 6) ?hd (cs := #[.int .i64 0, .int .i64 0, .int .i64 0]) (t := 30) ?hr ?_; (case hd => rfl); (case hg => rfl); (case hr => first | (go_simp; done) | (go_simp; rfl)); intro gb213 hg w6 hbox hb; have n0_ := Aside0.mk (below_step (by repeat (first | (with_reducible first | exact HB.out | apply below_alloc | apply pw_below_drewN | apply below_drew1) | exact HB.out)) hb); have n1_ := Aside0.mk (hbox); have n2_ := Aside0.mk ((by rw [hg]; exact (below_size (by repeat (first | (with_reducible first | exact HB.out | apply below_alloc | apply pw_below_drewN | apply below_drew1) | exact HB.out))) : w.heap.size ≤ gb213)); have n3_ := Aside0.mk ((by rw [hg]; exact (below_size (by repeat (first | (with_reducible first | exact HB.out | apply below_alloc | apply pw_below_drewN | apply below_drew1) | exact HB.out))) : w.heap.size ≤ gb213)); clear HB; have HB := n0_; have BK213 := n1_; have GW213 := n2_; have GE213 := n3_; clear n0_ n1_ n2_ n3_; clear hb hbox hg; have hcz7_0 : w6.cell? ⟨gb213, 0, none⟩ = some (.int .i64 0) := (blk_cell BK213.out 0).trans rfl; have hcz7_1 : w6.cell? ⟨gb213, 1, none⟩ = some (.int .i64 0) := (blk_cell BK213.out 1).trans rfl; have hcz7_2 : w6.cell? ⟨gb213, 2, none⟩ = some (.int .i64 0) := (blk_cell BK213.out 2).trans rfl; have hfz7_0 := blk_frozen BK213.out 0; have hfz7_1 := blk_frozen BK213.out 1; have hfz7_2 := blk_frozen BK213.out 2)))
     (try simp only [Act.put, List.setIfInBounds_toArray, List.set_cons_zero, List.set_cons_succ])
     go_cut [44] (fun v44 wc => ∃ (kq : Nat) (x44_4 : Bool), v44 = .bool x44_4 ∧ Aside0 (busbarref12_Groups.j1 kq l0 l1 x5_1 x44_4 ((rd_T30 l0 x5_1).f0) ((rd_T30 l0 x5_1).f1) ((rd_T30 l0 x5_1).f2) = some r) ∧ Aside0 (kq ≤ k1) ∧ Aside0 (wc.heap[gb213]? = some (.cells #[.int .i64 ((rd_T30 l0 x5_1).f0), .int .i64 ((rd_T30 l0 x5_1).f1), .int .i64 ((rd_T30 l0 x5_1).f2)] 30 (0, 0))) ∧ Aside0 (Below w.heap.size w wc))
     case first =>
      have H := HC5.out
      clear HC5
      by_cases c8 : ((rd_T30 l0 x5_1).f0) = 2
      ·
       rw [if_pos c8] at H
       have c8b0 : (((rd_T30 l0 x5_1).f0) == 2) = true := beq_iff_eq.mpr c8
       have c8b1 : (((rd_T30 l0 x5_1).f0) != 2) = false := bne_eq_false_iff_eq.mpr c8
       clear c8
       (first | rw [c8b0] | (simp only [i64_w, i32_w]; rw [c8b0]) | skip)
       by_cases c9 : ((rd_T30 l0 x5_1).f2) = 2
       ·
        rw [if_pos c9] at H
        have c9b0 : (((rd_T30 l0 x5_1).f2) == 2) = true := beq_iff_eq.mpr c9
        have c9b1 : (((rd_T30 l0 x5_1).f2) != 2) = false := bne_eq_false_iff_eq.mpr c9
        clear c9
        by_cases c10 : ((rd_T30 l0 x5_1).f1) < 0
        ·
         rw [if_pos c10] at H
         have c10b0 : decide (((rd_T30 l0 x5_1).f1) < 0) = true := decide_eq_true c10
         clear c10
         have H' := Aside0.mk H
         clear H
         have hcz11_0 : w6.cell? ⟨gb213, 0, none⟩ = some (.int .i64 0) := (blk_cell BK213.out 0).trans rfl
         have hcz11_1 : w6.cell? ⟨gb213, 1, none⟩ = some (.int .i64 0) := (blk_cell BK213.out 1).trans rfl
         have hcz11_2 : w6.cell? ⟨gb213, 2, none⟩ = some (.int .i64 0) := (blk_cell BK213.out 2).trans rfl
         have hfz11_0 := blk_frozen BK213.out 0
         have hfz11_1 := blk_frozen BK213.out 1
         have hfz11_2 := blk_frozen BK213.out 2
         go_wp2
         repeat (go_quiet (fail); try go_wp2)
         go_meet
         case rel => exact ⟨_, (true), (by first | rfl | (simp; done) | (simp [*]; done)), H', ⟨by have := HK1.out; first | omega | exact Nat.le_refl _⟩, ⟨by (with_reducible repeat (first | refine blk_drewN ?_ _ | refine blk_drew ?_ | refine blk_alloc ?_ _)); refine blk_put (cs := #[.int .i64 ((rd_T30 l0 x5_1).f0), .int .i64 ((rd_T30 l0 x5_1).f1), .int .i64 0]) ?_ 2 _ rfl; (with_reducible repeat (first | refine blk_drewN ?_ _ | refine blk_drew ?_ | refine blk_alloc ?_ _)); refine blk_put (cs := #[.int .i64 ((rd_T30 l0 x5_1).f0), .int .i64 0, .int .i64 0]) ?_ 1 _ rfl; (with_reducible repeat (first | refine blk_drewN ?_ _ | refine blk_drew ?_ | refine blk_alloc ?_ _)); refine blk_put (cs := #[.int .i64 0, .int .i64 0, .int .i64 0]) ?_ 0 _ rfl; (with_reducible repeat (first | refine blk_drewN ?_ _ | refine blk_drew ?_ | refine blk_alloc ?_ _)); exact BK213.out⟩, ⟨by repeat (first | (with_reducible first | exact HB.out | apply below_alloc | apply pw_below_drewN | apply below_drew1 | refine below_set ?_ GE213.out) | exact HB.out)⟩⟩
        ·
         rw [if_neg c10] at H
         have c10b0 : decide (((rd_T30 l0 x5_1).f1) < 0) = false := decide_eq_false c10
         clear c10
         have H' := Aside0.mk H
         clear H
         have hcz12_0 : w6.cell? ⟨gb213, 0, none⟩ = some (.int .i64 0) := (blk_cell BK213.out 0).trans rfl
         have hcz12_1 : w6.cell? ⟨gb213, 1, none⟩ = some (.int .i64 0) := (blk_cell BK213.out 1).trans rfl
         have hcz12_2 : w6.cell? ⟨gb213, 2, none⟩ = some (.int .i64 0) := (blk_cell BK213.out 2).trans rfl
         have hfz12_0 := blk_frozen BK213.out 0
         have hfz12_1 := blk_frozen BK213.out 1
         have hfz12_2 := blk_frozen BK213.out 2
         go_wp2
         repeat (go_quiet (fail); try go_wp2)
         go_meet
         case rel => exact ⟨_, (decide (((rd_T30 l0 x5_1).f1) ≥ 65536)), (by first | rfl | (simp; done) | (simp [*]; done)), H', ⟨by have := HK1.out; first | omega | exact Nat.le_refl _⟩, ⟨by (with_reducible repeat (first | refine blk_drewN ?_ _ | refine blk_drew ?_ | refine blk_alloc ?_ _)); refine blk_put (cs := #[.int .i64 ((rd_T30 l0 x5_1).f0), .int .i64 ((rd_T30 l0 x5_1).f1), .int .i64 0]) ?_ 2 _ rfl; (with_reducible repeat (first | refine blk_drewN ?_ _ | refine blk_drew ?_ | refine blk_alloc ?_ _)); refine blk_put (cs := #[.int .i64 ((rd_T30 l0 x5_1).f0), .int .i64 0, .int .i64 0]) ?_ 1 _ rfl; (with_reducible repeat (first | refine blk_drewN ?_ _ | refine blk_drew ?_ | refine blk_alloc ?_ _)); refine blk_put (cs := #[.int .i64 0, .int .i64 0, .int .i64 0]) ?_ 0 _ rfl; (with_reducible repeat (first | refine blk_drewN ?_ _ | refine blk_drew ?_ | refine blk_alloc ?_ _)); exact BK213.out⟩, ⟨by repeat (first | (with_reducible first | exact HB.out | apply below_alloc | apply pw_below_drewN | apply below_drew1 | refine below_set ?_ GE213.out) | exact HB.out)⟩⟩
       ·
        rw [if_neg c9] at H
        have c9b0 : (((rd_T30 l0 x5_1).f2) == 2) = false := beq_eq_false_iff_ne.mpr c9
        have c9b1 : (((rd_T30 l0 x5_1).f2) != 2) = true := bne_iff_ne.mpr c9
        by_cases c13 : ((rd_T30 l0 x5_1).f2) = 4
        ·
         rw [if_pos c13] at H
         have c13b0 : (((rd_T30 l0 x5_1).f2) == 4) = true := beq_iff_eq.mpr c13
         have c13b1 : (((rd_T30 l0 x5_1).f2) != 4) = false := bne_eq_false_iff_eq.mpr c13
         clear c13
         by_cases c14 : ((rd_T30 l0 x5_1).f1) < 0
         ·
          rw [if_pos c14] at H
          have c14b0 : decide (((rd_T30 l0 x5_1).f1) < 0) = true := decide_eq_true c14
          clear c14
          have H' := Aside0.mk H
          clear H
          have hcz15_0 : w6.cell? ⟨gb213, 0, none⟩ = some (.int .i64 0) := (blk_cell BK213.out 0).trans rfl
          have hcz15_1 : w6.cell? ⟨gb213, 1, none⟩ = some (.int .i64 0) := (blk_cell BK213.out 1).trans rfl
          have hcz15_2 : w6.cell? ⟨gb213, 2, none⟩ = some (.int .i64 0) := (blk_cell BK213.out 2).trans rfl
          have hfz15_0 := blk_frozen BK213.out 0
          have hfz15_1 := blk_frozen BK213.out 1
          have hfz15_2 := blk_frozen BK213.out 2
          go_wp2
          repeat (go_quiet (fail); try go_wp2)
          go_meet
          case rel => exact ⟨_, (true), (by first | rfl | (simp; done) | (simp [*]; done)), H', ⟨by have := HK1.out; first | omega | exact Nat.le_refl _⟩, ⟨by (with_reducible repeat (first | refine blk_drewN ?_ _ | refine blk_drew ?_ | refine blk_alloc ?_ _)); refine blk_put (cs := #[.int .i64 ((rd_T30 l0 x5_1).f0), .int .i64 ((rd_T30 l0 x5_1).f1), .int .i64 0]) ?_ 2 _ rfl; (with_reducible repeat (first | refine blk_drewN ?_ _ | refine blk_drew ?_ | refine blk_alloc ?_ _)); refine blk_put (cs := #[.int .i64 ((rd_T30 l0 x5_1).f0), .int .i64 0, .int .i64 0]) ?_ 1 _ rfl; (with_reducible repeat (first | refine blk_drewN ?_ _ | refine blk_drew ?_ | refine blk_alloc ?_ _)); refine blk_put (cs := #[.int .i64 0, .int .i64 0, .int .i64 0]) ?_ 0 _ rfl; (with_reducible repeat (first | refine blk_drewN ?_ _ | refine blk_drew ?_ | refine blk_alloc ?_ _)); exact BK213.out⟩, ⟨by repeat (first | (with_reducible first | exact HB.out | apply below_alloc | apply pw_below_drewN | apply below_drew1 | refine below_set ?_ GE213.out) | exact HB.out)⟩⟩
         ·
          rw [if_neg c14] at H
          have c14b0 : decide (((rd_T30 l0 x5_1).f1) < 0) = false := decide_eq_false c14
          clear c14
          have H' := Aside0.mk H
          clear H
          have hcz16_0 : w6.cell? ⟨gb213, 0, none⟩ = some (.int .i64 0) := (blk_cell BK213.out 0).trans rfl
          have hcz16_1 : w6.cell? ⟨gb213, 1, none⟩ = some (.int .i64 0) := (blk_cell BK213.out 1).trans rfl
          have hcz16_2 : w6.cell? ⟨gb213, 2, none⟩ = some (.int .i64 0) := (blk_cell BK213.out 2).trans rfl
          have hfz16_0 := blk_frozen BK213.out 0
          have hfz16_1 := blk_frozen BK213.out 1
          have hfz16_2 := blk_frozen BK213.out 2
          go_wp2
          repeat (go_quiet (fail); try go_wp2)
          go_meet
          case rel => exact ⟨_, (decide (((rd_T30 l0 x5_1).f1) ≥ 65536)), (by first | rfl | (simp; done) | (simp [*]; done)), H', ⟨by have := HK1.out; first | omega | exact Nat.le_refl _⟩, ⟨by (with_reducible repeat (first | refine blk_drewN ?_ _ | refine blk_drew ?_ | refine blk_alloc ?_ _)); refine blk_put (cs := #[.int .i64 ((rd_T30 l0 x5_1).f0), .int .i64 ((rd_T30 l0 x5_1).f1), .int .i64 0]) ?_ 2 _ rfl; (with_reducible repeat (first | refine blk_drewN ?_ _ | refine blk_drew ?_ | refine blk_alloc ?_ _)); refine blk_put (cs := #[.int .i64 ((rd_T30 l0 x5_1).f0), .int .i64 0, .int .i64 0]) ?_ 1 _ rfl; (with_reducible repeat (first | refine blk_drewN ?_ _ | refine blk_drew ?_ | refine blk_alloc ?_ _)); refine blk_put (cs := #[.int .i64 0, .int .i64 0, .int .i64 0]) ?_ 0 _ rfl; (with_reducible repeat (first | refine blk_drewN ?_ _ | refine blk_drew ?_ | refine blk_alloc ?_ _)); exact BK213.out⟩, ⟨by repeat (first | (with_reducible first | exact HB.out | apply below_alloc | apply pw_below_drewN | apply below_drew1 | refine below_set ?_ GE213.out) | exact HB.out)⟩⟩
        ·
         rw [if_neg c13] at H
         have c13b0 : (((rd_T30 l0 x5_1).f2) == 4) = false := beq_eq_false_iff_ne.mpr c13
         have c13b1 : (((rd_T30 l0 x5_1).f2) != 4) = true := bne_iff_ne.mpr c13
         have H' := Aside0.mk H
         clear H
         have hcz17_0 : w6.cell? ⟨gb213, 0, none⟩ = some (.int .i64 0) := (blk_cell BK213.out 0).trans rfl
         have hcz17_1 : w6.cell? ⟨gb213, 1, none⟩ = some (.int .i64 0) := (blk_cell BK213.out 1).trans rfl
         have hcz17_2 : w6.cell? ⟨gb213, 2, none⟩ = some (.int .i64 0) := (blk_cell BK213.out 2).trans rfl
         have hfz17_0 := blk_frozen BK213.out 0
         have hfz17_1 := blk_frozen BK213.out 1
         have hfz17_2 := blk_frozen BK213.out 2
         go_wp2
         repeat (go_quiet (fail); try go_wp2)
         go_meet
         case rel => exact ⟨_, (true), (by first | rfl | (simp; done) | (simp [*]; done)), H', ⟨by have := HK1.out; first | omega | exact Nat.le_refl _⟩, ⟨by (with_reducible repeat (first | refine blk_drewN ?_ _ | refine blk_drew ?_ | refine blk_alloc ?_ _)); refine blk_put (cs := #[.int .i64 ((rd_T30 l0 x5_1).f0), .int .i64 ((rd_T30 l0 x5_1).f1), .int .i64 0]) ?_ 2 _ rfl; (with_reducible repeat (first | refine blk_drewN ?_ _ | refine blk_drew ?_ | refine blk_alloc ?_ _)); refine blk_put (cs := #[.int .i64 ((rd_T30 l0 x5_1).f0), .int .i64 0, .int .i64 0]) ?_ 1 _ rfl; (with_reducible repeat (first | refine blk_drewN ?_ _ | refine blk_drew ?_ | refine blk_alloc ?_ _)); refine blk_put (cs := #[.int .i64 0, .int .i64 0, .int .i64 0]) ?_ 0 _ rfl; (with_reducible repeat (first | refine blk_drewN ?_ _ | refine blk_drew ?_ | refine blk_alloc ?_ _)); exact BK213.out⟩, ⟨by repeat (first | (with_reducible first | exact HB.out | apply below_alloc | apply pw_below_drewN | apply below_drew1 | refine below_set ?_ GE213.out) | exact HB.out)⟩⟩
      ·
       rw [if_neg c8] at H
       have c8b0 : (((rd_T30 l0 x5_1).f0) == 2) = false := beq_eq_false_iff_ne.mpr c8
       have c8b1 : (((rd_T30 l0 x5_1).f0) != 2) = true := bne_iff_ne.mpr c8
       (first | rw [c8b0] | (simp only [i64_w, i32_w]; rw [c8b0]) | skip)
       by_cases c18 : ((rd_T30 l0 x5_1).f0) = 3
       ·
        rw [if_pos c18] at H
        have c18b0 : (((rd_T30 l0 x5_1).f0) == 3) = true := beq_iff_eq.mpr c18
        have c18b1 : (((rd_T30 l0 x5_1).f0) != 3) = false := bne_eq_false_iff_eq.mpr c18
        clear c18
        by_cases c19 : ((rd_T30 l0 x5_1).f2) = 2
        ·
         rw [if_pos c19] at H
         have c19b0 : (((rd_T30 l0 x5_1).f2) == 2) = true := beq_iff_eq.mpr c19
         have c19b1 : (((rd_T30 l0 x5_1).f2) != 2) = false := bne_eq_false_iff_eq.mpr c19
         clear c19
         by_cases c20 : ((rd_T30 l0 x5_1).f1) < 0
         ·
          rw [if_pos c20] at H
          have c20b0 : decide (((rd_T30 l0 x5_1).f1) < 0) = true := decide_eq_true c20
          clear c20
          have H' := Aside0.mk H
          clear H
          have hcz21_0 : w6.cell? ⟨gb213, 0, none⟩ = some (.int .i64 0) := (blk_cell BK213.out 0).trans rfl
          have hcz21_1 : w6.cell? ⟨gb213, 1, none⟩ = some (.int .i64 0) := (blk_cell BK213.out 1).trans rfl
          have hcz21_2 : w6.cell? ⟨gb213, 2, none⟩ = some (.int .i64 0) := (blk_cell BK213.out 2).trans rfl
          have hfz21_0 := blk_frozen BK213.out 0
          have hfz21_1 := blk_frozen BK213.out 1
          have hfz21_2 := blk_frozen BK213.out 2
          go_wp2
          repeat (go_quiet (fail); try go_wp2)
          go_meet
          case rel => exact ⟨_, (true), (by first | rfl | (simp; done) | (simp [*]; done)), H', ⟨by have := HK1.out; first | omega | exact Nat.le_refl _⟩, ⟨by (with_reducible repeat (first | refine blk_drewN ?_ _ | refine blk_drew ?_ | refine blk_alloc ?_ _)); refine blk_put (cs := #[.int .i64 ((rd_T30 l0 x5_1).f0), .int .i64 ((rd_T30 l0 x5_1).f1), .int .i64 0]) ?_ 2 _ rfl; (with_reducible repeat (first | refine blk_drewN ?_ _ | refine blk_drew ?_ | refine blk_alloc ?_ _)); refine blk_put (cs := #[.int .i64 ((rd_T30 l0 x5_1).f0), .int .i64 0, .int .i64 0]) ?_ 1 _ rfl; (with_reducible repeat (first | refine blk_drewN ?_ _ | refine blk_drew ?_ | refine blk_alloc ?_ _)); refine blk_put (cs := #[.int .i64 0, .int .i64 0, .int .i64 0]) ?_ 0 _ rfl; (with_reducible repeat (first | refine blk_drewN ?_ _ | refine blk_drew ?_ | refine blk_alloc ?_ _)); exact BK213.out⟩, ⟨by repeat (first | (with_reducible first | exact HB.out | apply below_alloc | apply pw_below_drewN | apply below_drew1 | refine below_set ?_ GE213.out) | exact HB.out)⟩⟩
         ·
          rw [if_neg c20] at H
          have c20b0 : decide (((rd_T30 l0 x5_1).f1) < 0) = false := decide_eq_false c20
          clear c20
          have H' := Aside0.mk H
          clear H
          have hcz22_0 : w6.cell? ⟨gb213, 0, none⟩ = some (.int .i64 0) := (blk_cell BK213.out 0).trans rfl
          have hcz22_1 : w6.cell? ⟨gb213, 1, none⟩ = some (.int .i64 0) := (blk_cell BK213.out 1).trans rfl
          have hcz22_2 : w6.cell? ⟨gb213, 2, none⟩ = some (.int .i64 0) := (blk_cell BK213.out 2).trans rfl
          have hfz22_0 := blk_frozen BK213.out 0
          have hfz22_1 := blk_frozen BK213.out 1
          have hfz22_2 := blk_frozen BK213.out 2
          go_wp2
          repeat (go_quiet (fail); try go_wp2)
          go_meet
          case rel => exact ⟨_, (decide (((rd_T30 l0 x5_1).f1) ≥ 65536)), (by first | rfl | (simp; done) | (simp [*]; done)), H', ⟨by have := HK1.out; first | omega | exact Nat.le_refl _⟩, ⟨by (with_reducible repeat (first | refine blk_drewN ?_ _ | refine blk_drew ?_ | refine blk_alloc ?_ _)); refine blk_put (cs := #[.int .i64 ((rd_T30 l0 x5_1).f0), .int .i64 ((rd_T30 l0 x5_1).f1), .int .i64 0]) ?_ 2 _ rfl; (with_reducible repeat (first | refine blk_drewN ?_ _ | refine blk_drew ?_ | refine blk_alloc ?_ _)); refine blk_put (cs := #[.int .i64 ((rd_T30 l0 x5_1).f0), .int .i64 0, .int .i64 0]) ?_ 1 _ rfl; (with_reducible repeat (first | refine blk_drewN ?_ _ | refine blk_drew ?_ | refine blk_alloc ?_ _)); refine blk_put (cs := #[.int .i64 0, .int .i64 0, .int .i64 0]) ?_ 0 _ rfl; (with_reducible repeat (first | refine blk_drewN ?_ _ | refine blk_drew ?_ | refine blk_alloc ?_ _)); exact BK213.out⟩, ⟨by repeat (first | (with_reducible first | exact HB.out | apply below_alloc | apply pw_below_drewN | apply below_drew1 | refine below_set ?_ GE213.out) | exact HB.out)⟩⟩
        ·
         rw [if_neg c19] at H
         have c19b0 : (((rd_T30 l0 x5_1).f2) == 2) = false := beq_eq_false_iff_ne.mpr c19
         have c19b1 : (((rd_T30 l0 x5_1).f2) != 2) = true := bne_iff_ne.mpr c19
         by_cases c23 : ((rd_T30 l0 x5_1).f2) = 4
         ·
          rw [if_pos c23] at H
          have c23b0 : (((rd_T30 l0 x5_1).f2) == 4) = true := beq_iff_eq.mpr c23
          have c23b1 : (((rd_T30 l0 x5_1).f2) != 4) = false := bne_eq_false_iff_eq.mpr c23
          clear c23
          by_cases c24 : ((rd_T30 l0 x5_1).f1) < 0
          ·
           rw [if_pos c24] at H
           have c24b0 : decide (((rd_T30 l0 x5_1).f1) < 0) = true := decide_eq_true c24
           clear c24
           have H' := Aside0.mk H
           clear H
           have hcz25_0 : w6.cell? ⟨gb213, 0, none⟩ = some (.int .i64 0) := (blk_cell BK213.out 0).trans rfl
           have hcz25_1 : w6.cell? ⟨gb213, 1, none⟩ = some (.int .i64 0) := (blk_cell BK213.out 1).trans rfl
           have hcz25_2 : w6.cell? ⟨gb213, 2, none⟩ = some (.int .i64 0) := (blk_cell BK213.out 2).trans rfl
           have hfz25_0 := blk_frozen BK213.out 0
           have hfz25_1 := blk_frozen BK213.out 1
           have hfz25_2 := blk_frozen BK213.out 2
           go_wp2
           repeat (go_quiet (fail); try go_wp2)
           go_meet
           case rel => exact ⟨_, (true), (by first | rfl | (simp; done) | (simp [*]; done)), H', ⟨by have := HK1.out; first | omega | exact Nat.le_refl _⟩, ⟨by (with_reducible repeat (first | refine blk_drewN ?_ _ | refine blk_drew ?_ | refine blk_alloc ?_ _)); refine blk_put (cs := #[.int .i64 ((rd_T30 l0 x5_1).f0), .int .i64 ((rd_T30 l0 x5_1).f1), .int .i64 0]) ?_ 2 _ rfl; (with_reducible repeat (first | refine blk_drewN ?_ _ | refine blk_drew ?_ | refine blk_alloc ?_ _)); refine blk_put (cs := #[.int .i64 ((rd_T30 l0 x5_1).f0), .int .i64 0, .int .i64 0]) ?_ 1 _ rfl; (with_reducible repeat (first | refine blk_drewN ?_ _ | refine blk_drew ?_ | refine blk_alloc ?_ _)); refine blk_put (cs := #[.int .i64 0, .int .i64 0, .int .i64 0]) ?_ 0 _ rfl; (with_reducible repeat (first | refine blk_drewN ?_ _ | refine blk_drew ?_ | refine blk_alloc ?_ _)); exact BK213.out⟩, ⟨by repeat (first | (with_reducible first | exact HB.out | apply below_alloc | apply pw_below_drewN | apply below_drew1 | refine below_set ?_ GE213.out) | exact HB.out)⟩⟩
          ·
           rw [if_neg c24] at H
           have c24b0 : decide (((rd_T30 l0 x5_1).f1) < 0) = false := decide_eq_false c24
           clear c24
           have H' := Aside0.mk H
           clear H
           have hcz26_0 : w6.cell? ⟨gb213, 0, none⟩ = some (.int .i64 0) := (blk_cell BK213.out 0).trans rfl
           have hcz26_1 : w6.cell? ⟨gb213, 1, none⟩ = some (.int .i64 0) := (blk_cell BK213.out 1).trans rfl
           have hcz26_2 : w6.cell? ⟨gb213, 2, none⟩ = some (.int .i64 0) := (blk_cell BK213.out 2).trans rfl
           have hfz26_0 := blk_frozen BK213.out 0
           have hfz26_1 := blk_frozen BK213.out 1
           have hfz26_2 := blk_frozen BK213.out 2
           go_wp2
           repeat (go_quiet (fail); try go_wp2)
           go_meet
           case rel => exact ⟨_, (decide (((rd_T30 l0 x5_1).f1) ≥ 65536)), (by first | rfl | (simp; done) | (simp [*]; done)), H', ⟨by have := HK1.out; first | omega | exact Nat.le_refl _⟩, ⟨by (with_reducible repeat (first | refine blk_drewN ?_ _ | refine blk_drew ?_ | refine blk_alloc ?_ _)); refine blk_put (cs := #[.int .i64 ((rd_T30 l0 x5_1).f0), .int .i64 ((rd_T30 l0 x5_1).f1), .int .i64 0]) ?_ 2 _ rfl; (with_reducible repeat (first | refine blk_drewN ?_ _ | refine blk_drew ?_ | refine blk_alloc ?_ _)); refine blk_put (cs := #[.int .i64 ((rd_T30 l0 x5_1).f0), .int .i64 0, .int .i64 0]) ?_ 1 _ rfl; (with_reducible repeat (first | refine blk_drewN ?_ _ | refine blk_drew ?_ | refine blk_alloc ?_ _)); refine blk_put (cs := #[.int .i64 0, .int .i64 0, .int .i64 0]) ?_ 0 _ rfl; (with_reducible repeat (first | refine blk_drewN ?_ _ | refine blk_drew ?_ | refine blk_alloc ?_ _)); exact BK213.out⟩, ⟨by repeat (first | (with_reducible first | exact HB.out | apply below_alloc | apply pw_below_drewN | apply below_drew1 | refine below_set ?_ GE213.out) | exact HB.out)⟩⟩
         ·
          rw [if_neg c23] at H
          have c23b0 : (((rd_T30 l0 x5_1).f2) == 4) = false := beq_eq_false_iff_ne.mpr c23
          have c23b1 : (((rd_T30 l0 x5_1).f2) != 4) = true := bne_iff_ne.mpr c23
          have H' := Aside0.mk H
          clear H
          have hcz27_0 : w6.cell? ⟨gb213, 0, none⟩ = some (.int .i64 0) := (blk_cell BK213.out 0).trans rfl
          have hcz27_1 : w6.cell? ⟨gb213, 1, none⟩ = some (.int .i64 0) := (blk_cell BK213.out 1).trans rfl
          have hcz27_2 : w6.cell? ⟨gb213, 2, none⟩ = some (.int .i64 0) := (blk_cell BK213.out 2).trans rfl
          have hfz27_0 := blk_frozen BK213.out 0
          have hfz27_1 := blk_frozen BK213.out 1
          have hfz27_2 := blk_frozen BK213.out 2
          go_wp2
          repeat (go_quiet (fail); try go_wp2)
          go_meet
          case rel => exact ⟨_, (true), (by first | rfl | (simp; done) | (simp [*]; done)), H', ⟨by have := HK1.out; first | omega | exact Nat.le_refl _⟩, ⟨by (with_reducible repeat (first | refine blk_drewN ?_ _ | refine blk_drew ?_ | refine blk_alloc ?_ _)); refine blk_put (cs := #[.int .i64 ((rd_T30 l0 x5_1).f0), .int .i64 ((rd_T30 l0 x5_1).f1), .int .i64 0]) ?_ 2 _ rfl; (with_reducible repeat (first | refine blk_drewN ?_ _ | refine blk_drew ?_ | refine blk_alloc ?_ _)); refine blk_put (cs := #[.int .i64 ((rd_T30 l0 x5_1).f0), .int .i64 0, .int .i64 0]) ?_ 1 _ rfl; (with_reducible repeat (first | refine blk_drewN ?_ _ | refine blk_drew ?_ | refine blk_alloc ?_ _)); refine blk_put (cs := #[.int .i64 0, .int .i64 0, .int .i64 0]) ?_ 0 _ rfl; (with_reducible repeat (first | refine blk_drewN ?_ _ | refine blk_drew ?_ | refine blk_alloc ?_ _)); exact BK213.out⟩, ⟨by repeat (first | (with_reducible first | exact HB.out | apply below_alloc | apply pw_below_drewN | apply below_drew1 | refine below_set ?_ GE213.out) | exact HB.out)⟩⟩
       ·
        rw [if_neg c18] at H
        have c18b0 : (((rd_T30 l0 x5_1).f0) == 3) = false := beq_eq_false_iff_ne.mpr c18
        have c18b1 : (((rd_T30 l0 x5_1).f0) != 3) = true := bne_iff_ne.mpr c18
        have H' := Aside0.mk H
        clear H
        have hcz28_0 : w6.cell? ⟨gb213, 0, none⟩ = some (.int .i64 0) := (blk_cell BK213.out 0).trans rfl
        have hcz28_1 : w6.cell? ⟨gb213, 1, none⟩ = some (.int .i64 0) := (blk_cell BK213.out 1).trans rfl
        have hcz28_2 : w6.cell? ⟨gb213, 2, none⟩ = some (.int .i64 0) := (blk_cell BK213.out 2).trans rfl
        have hfz28_0 := blk_frozen BK213.out 0
        have hfz28_1 := blk_frozen BK213.out 1
        have hfz28_2 := blk_frozen BK213.out 2
        go_wp2
        repeat (go_quiet (fail); try go_wp2)
        go_meet
        case rel => exact ⟨_, (true), (by first | rfl | (simp; done) | (simp [*]; done)), H', ⟨by have := HK1.out; first | omega | exact Nat.le_refl _⟩, ⟨by (with_reducible repeat (first | refine blk_drewN ?_ _ | refine blk_drew ?_ | refine blk_alloc ?_ _)); refine blk_put (cs := #[.int .i64 ((rd_T30 l0 x5_1).f0), .int .i64 ((rd_T30 l0 x5_1).f1), .int .i64 0]) ?_ 2 _ rfl; (with_reducible repeat (first | refine blk_drewN ?_ _ | refine blk_drew ?_ | refine blk_alloc ?_ _)); refine blk_put (cs := #[.int .i64 ((rd_T30 l0 x5_1).f0), .int .i64 0, .int .i64 0]) ?_ 1 _ rfl; (with_reducible repeat (first | refine blk_drewN ?_ _ | refine blk_drew ?_ | refine blk_alloc ?_ _)); refine blk_put (cs := #[.int .i64 0, .int .i64 0, .int .i64 0]) ?_ 0 _ rfl; (with_reducible repeat (first | refine blk_drewN ?_ _ | refine blk_drew ?_ | refine blk_alloc ?_ _)); exact BK213.out⟩, ⟨by repeat (first | (with_reducible first | exact HB.out | apply below_alloc | apply pw_below_drewN | apply below_drew1 | refine below_set ?_ GE213.out) | exact HB.out)⟩⟩
     case rest =>
      clear HC5
      try clear c1
      try clear c2
      try clear p2
      try clear q2
      try clear hx2
      try clear c3
      try clear c3b0
      try clear c4
      try clear c4b0
      try clear c8
      try clear c8b0
      try clear c8b1
      try clear c9
      try clear c9b0
      try clear c9b1
      try clear c10
      try clear c10b0
      try clear c13
      try clear c13b0
      try clear c13b1
      try clear c14
      try clear c14b0
      try clear c18
      try clear c18b0
      try clear c18b1
      try clear c19
      try clear c19b0
      try clear c19b1
      try clear c20
      try clear c20b0
      try clear p21
      try clear q21
      try clear hx21
      try clear c23
      try clear c23b0
      try clear c23b1
      try clear c24
      try clear c24b0
      try clear hcz11_0
      try clear hcz11_1
      try clear hcz11_2
      try clear hcz12_0
      try clear hcz12_1
      try clear hcz12_2
      try clear hcz15_0
      try clear hcz15_1
      try clear hcz15_2
      try clear hcz16_0
      try clear hcz16_1
      try clear hcz16_2
      try clear hcz17_0
      try clear hcz17_1
      try clear hcz17_2
      try clear hcz21_0
      try clear hcz21_1
      try clear hcz21_2
      try clear hcz22_0
      try clear hcz22_1
      try clear hcz22_2
      try clear hcz25_0
      try clear hcz25_1
      try clear hcz25_2
      try clear hcz26_0
      try clear hcz26_1
      try clear hcz26_2
      try clear hcz27_0
      try clear hcz27_1
      try clear hcz27_2
      try clear hcz28_0
      try clear hcz28_1
      try clear hcz28_2
      try clear hcz7_0
      try clear hcz7_1
      try clear hcz7_2
      try clear hfz11_0
      try clear hfz11_1
      try clear hfz11_2
      try clear hfz12_0
      try clear hfz12_1
      try clear hfz12_2
      try clear hfz15_0
      try clear hfz15_1
      try clear hfz15_2
      try clear hfz16_0
      try clear hfz16_1
      try clear hfz16_2
      try clear hfz17_0
      try clear hfz17_1
      try clear hfz17_2
      try clear hfz21_0
      try clear hfz21_1
      try clear hfz21_2
      try clear hfz22_0
      try clear hfz22_1
      try clear hfz22_2
      try clear hfz25_0
      try clear hfz25_1
      try clear hfz25_2
      try clear hfz26_0
      try clear hfz26_1
      try clear hfz26_2
      try clear hfz27_0
      try clear hfz27_1
      try clear hfz27_2
      try clear hfz28_0
      try clear hfz28_1
      try clear hfz28_2
      try clear hfz7_0
      try clear hfz7_1
      try clear hfz7_2
      try clear hx212_0
      try clear hx212_1
      try clear hx212_2
      try clear p2
      try clear p212
      try clear q212
      obtain ⟨kq, x44_4, rfl, HA, HJ4, BK213, HB⟩ := hcut
      cases kq with
      | zero => exact absurd HA.out (by simp [busbarref12_Groups.j1])
      | succ kj4 =>
       have H := HA.out
       clear HA
       simp only [busbarref12_Groups.j1] at H
       by_cases c29 : x44_4 = true
       ·
        subst c29
        have H1 : (some 1) = some r := by rw [if_pos rfl] at H; exact H
        clear H
        have H := H1
        clear H1
        obtain rfl := Option.some.inj H
        go_wp2
        repeat (go_quiet (fail); try go_wp2)
        go_ret
        exact ⟨by first | rfl | (simp [errW_none, errW_some] <;> rfl) | (simp [*, errW_none, errW_some] <;> rfl), by repeat (first | (with_reducible first | exact HB.out | apply below_alloc | apply pw_below_drewN | apply below_drew1 | refine below_set ?_ GE213.out) | exact HB.out)⟩
       ·
        replace c29 := Bool.eq_false_iff.mpr c29
        subst c29
        have H1 : (if ((rd_T30 l0 x5_1).f2) = 0 then (none) else (if (Int.tmod ((rd_T30 l0 x5_1).f1) ((rd_T30 l0 x5_1).f2)) = 0 then (if x5_1 > 0 then (if 0 ≤ (wrap64 (x5_1 - 1)) then (if (wrap64 (x5_1 - 1)) < (l0.length : Int) then (if ((rd_T30 l0 (wrap64 (x5_1 - 1))).f0) > ((rd_T30 l0 x5_1).f0) then (busbarref12_Groups.j2 kj4 l0 l1 x5_1 true ((rd_T30 l0 x5_1).f0) ((rd_T30 l0 x5_1).f1) ((rd_T30 l0 x5_1).f2)) else (if ((rd_T30 l0 (wrap64 (x5_1 - 1))).f0) = ((rd_T30 l0 x5_1).f0) then (busbarref12_Groups.j2 kj4 l0 l1 x5_1 (decide ((wrap64 (((rd_T30 l0 (wrap64 (x5_1 - 1))).f1) + ((rd_T30 l0 (wrap64 (x5_1 - 1))).f2))) > ((rd_T30 l0 x5_1).f1))) ((rd_T30 l0 x5_1).f0) ((rd_T30 l0 x5_1).f1) ((rd_T30 l0 x5_1).f2)) else (busbarref12_Groups.j2 kj4 l0 l1 x5_1 false ((rd_T30 l0 x5_1).f0) ((rd_T30 l0 x5_1).f1) ((rd_T30 l0 x5_1).f2)))) else (none)) else (none)) else (busbarref12_Groups.j2 kj4 l0 l1 x5_1 false ((rd_T30 l0 x5_1).f0) ((rd_T30 l0 x5_1).f1) ((rd_T30 l0 x5_1).f2))) else (some 2))) = some r := by rw [if_neg (show ¬ (false = true) by decide)] at H; exact H
        clear H
        have H := H1
        clear H1
        by_cases c30 : ((rd_T30 l0 x5_1).f2) = 0
        ·
         rw [if_pos c30] at H
         exact absurd H (by simp)
        ·
         rw [if_neg c30] at H
         have c30b0 : (((rd_T30 l0 x5_1).f2) == 0) = false := beq_eq_false_iff_ne.mpr c30
         have c30b1 : (((rd_T30 l0 x5_1).f2) != 0) = true := bne_iff_ne.mpr c30
         by_cases c31 : (Int.tmod ((rd_T30 l0 x5_1).f1) ((rd_T30 l0 x5_1).f2)) = 0
         ·
          rw [if_pos c31] at H
          have c31b0 : ((Int.tmod ((rd_T30 l0 x5_1).f1) ((rd_T30 l0 x5_1).f2)) == 0) = true := beq_iff_eq.mpr c31
          have c31b1 : ((Int.tmod ((rd_T30 l0 x5_1).f1) ((rd_T30 l0 x5_1).f2)) != 0) = false := bne_eq_false_iff_eq.mpr c31
          clear c31
          have HC32 := Aside0.mk H
          clear H
          have hcz33_0 : wc.cell? ⟨gb213, 0, none⟩ = some (.int .i64 ((rd_T30 l0 x5_1).f0)) := (blk_cell BK213.out 0).trans rfl
          have hcz33_1 : wc.cell? ⟨gb213, 1, none⟩ = some (.int .i64 ((rd_T30 l0 x5_1).f1)) := (blk_cell BK213.out 1).trans rfl
          have hcz33_2 : wc.cell? ⟨gb213, 2, none⟩ = some (.int .i64 ((rd_T30 l0 x5_1).f2)) := (blk_cell BK213.out 2).trans rfl
          have hfz33_0 := blk_frozen BK213.out 0
          have hfz33_1 := blk_frozen BK213.out 1
          have hfz33_2 := blk_frozen BK213.out 2
          go_upto_region 9 with (fail)
          repeat (go_quiet (fail); go_upto_region 9 with (fail))
          go_cut [92] (fun v92 wc => ∃ (kq : Nat) (x92_31 : Bool), v92 = .bool x92_31 ∧ Aside0 (busbarref12_Groups.j2 kq l0 l1 x5_1 x92_31 ((rd_T30 l0 x5_1).f0) ((rd_T30 l0 x5_1).f1) ((rd_T30 l0 x5_1).f2) = some r) ∧ Aside0 (kq ≤ kj4) ∧ Aside0 (wc.heap[gb213]? = some (.cells #[.int .i64 ((rd_T30 l0 x5_1).f0), .int .i64 ((rd_T30 l0 x5_1).f1), .int .i64 ((rd_T30 l0 x5_1).f2)] 30 (0, 0))) ∧ Aside0 (Below w.heap.size w wc))
          case first =>
           have H := HC32.out
           clear HC32
           by_cases c34 : x5_1 > 0
           ·
            rw [if_pos c34] at H
            have c34b0 : decide (0 < x5_1) = true := decide_eq_true c34
            clear c34
            (first | rw [c34b0] | (simp only [i64_w, i32_w]; rw [c34b0]) | skip)
            obtain ⟨ji35, hji35⟩ : ∃ j_ : Int, (wrap64 (x5_1 - 1)) = j_ := ⟨_, rfl⟩
            replace H : (if 0 ≤ (ji35) then (if (ji35) < (l0.length : Int) then (if ((rd_T30 l0 (ji35)).f0) > ((rd_T30 l0 x5_1).f0) then (busbarref12_Groups.j2 kj4 l0 l1 x5_1 true ((rd_T30 l0 x5_1).f0) ((rd_T30 l0 x5_1).f1) ((rd_T30 l0 x5_1).f2)) else (if ((rd_T30 l0 (ji35)).f0) = ((rd_T30 l0 x5_1).f0) then (busbarref12_Groups.j2 kj4 l0 l1 x5_1 (decide ((wrap64 (((rd_T30 l0 (ji35)).f1) + ((rd_T30 l0 (ji35)).f2))) > ((rd_T30 l0 x5_1).f1))) ((rd_T30 l0 x5_1).f0) ((rd_T30 l0 x5_1).f1) ((rd_T30 l0 x5_1).f2)) else (busbarref12_Groups.j2 kj4 l0 l1 x5_1 false ((rd_T30 l0 x5_1).f0) ((rd_T30 l0 x5_1).f1) ((rd_T30 l0 x5_1).f2)))) else (none)) else (none)) = some r := by first | (rw [hji35] at H; exact H) | (simp only [hji35] at H ⊢; exact H)
            have hji35w : (IntKind.i64.wrap (x5_1 - 1)) = ji35 := (i64_w _).trans hji35
            by_cases c36 : 0 ≤ (ji35)
            ·
             rw [if_pos c36] at H
             have c36b0 : decide (0 ≤ (ji35)) = true := decide_eq_true c36
             clear c36
             by_cases c37 : (ji35) < (l0.length : Int)
             ·
              rw [if_pos c37] at H
              have c37b0 : decide ((ji35) < (l0.length : Int)) = true := decide_eq_true c37
              clear c37
              by_cases c38 : ((rd_T30 l0 (ji35)).f0) > ((rd_T30 l0 x5_1).f0)
              ·
               rw [if_pos c38] at H
               have c38b0 : decide (((rd_T30 l0 x5_1).f0) < ((rd_T30 l0 (ji35)).f0)) = true := decide_eq_true c38
               clear c38
               have H' := Aside0.mk H
               clear H
               have p214 : 0 ≤ ((ji35) : Int) := of_decide_eq_true (by first | (with_reducible assumption) | assumption)
               have q214 : (ji35) < (l0.length : Int) := of_decide_eq_true (by first | (with_reducible assumption) | assumption)
               obtain ⟨ad214, e214, hx214_0, hx214_1, hx214_2⟩ := at_T30 HR0.out (ji35) p214 q214
               obtain rfl : ad212 = ad214 := (by injection e214)
               replace hx214_0 := (HB.out.cell (World.block_lt_of_cell? w _ hx214_0)).trans hx214_0
               replace hx214_1 := (HB.out.cell (World.block_lt_of_cell? w _ hx214_1)).trans hx214_1
               replace hx214_2 := (HB.out.cell (World.block_lt_of_cell? w _ hx214_2)).trans hx214_2
               replace p214 := eq_true p214
               replace q214 := eq_true q214
               have hcz39_0 : wc.cell? ⟨gb213, 0, none⟩ = some (.int .i64 ((rd_T30 l0 x5_1).f0)) := (blk_cell BK213.out 0).trans rfl
               have hcz39_1 : wc.cell? ⟨gb213, 1, none⟩ = some (.int .i64 ((rd_T30 l0 x5_1).f1)) := (blk_cell BK213.out 1).trans rfl
               have hcz39_2 : wc.cell? ⟨gb213, 2, none⟩ = some (.int .i64 ((rd_T30 l0 x5_1).f2)) := (blk_cell BK213.out 2).trans rfl
               have hfz39_0 := blk_frozen BK213.out 0
               have hfz39_1 := blk_frozen BK213.out 1
               have hfz39_2 := blk_frozen BK213.out 2
               go_wp2
               repeat (go_quiet (fail); try go_wp2)
               go_meet
               case rel => exact ⟨_, (true), (by first | rfl | (simp; done) | (simp [*]; done)), H', ⟨by have := HK1.out; have := HJ4.out; first | omega | exact Nat.le_refl _⟩, ⟨by (with_reducible repeat (first | refine blk_drewN ?_ _ | refine blk_drew ?_ | refine blk_alloc ?_ _)); exact BK213.out⟩, ⟨by repeat (first | (with_reducible first | exact HB.out | apply below_alloc | apply pw_below_drewN | apply below_drew1 | refine below_set ?_ GE213.out) | exact HB.out)⟩⟩
              ·
               rw [if_neg c38] at H
               have c38b0 : decide (((rd_T30 l0 x5_1).f0) < ((rd_T30 l0 (ji35)).f0)) = false := decide_eq_false c38
               clear c38
               by_cases c40 : ((rd_T30 l0 (ji35)).f0) = ((rd_T30 l0 x5_1).f0)
               ·
                rw [if_pos c40] at H
                have c40b0 : (((rd_T30 l0 (ji35)).f0) == ((rd_T30 l0 x5_1).f0)) = true := beq_iff_eq.mpr c40
                have c40b1 : (((rd_T30 l0 (ji35)).f0) != ((rd_T30 l0 x5_1).f0)) = false := bne_eq_false_iff_eq.mpr c40
                clear c40
                have H' := Aside0.mk H
                clear H
                have p214 : 0 ≤ ((ji35) : Int) := of_decide_eq_true (by first | (with_reducible assumption) | assumption)
                have q214 : (ji35) < (l0.length : Int) := of_decide_eq_true (by first | (with_reducible assumption) | assumption)
                obtain ⟨ad214, e214, hx214_0, hx214_1, hx214_2⟩ := at_T30 HR0.out (ji35) p214 q214
                obtain rfl : ad212 = ad214 := (by injection e214)
                replace hx214_0 := (HB.out.cell (World.block_lt_of_cell? w _ hx214_0)).trans hx214_0
                replace hx214_1 := (HB.out.cell (World.block_lt_of_cell? w _ hx214_1)).trans hx214_1
                replace hx214_2 := (HB.out.cell (World.block_lt_of_cell? w _ hx214_2)).trans hx214_2
                replace p214 := eq_true p214
                replace q214 := eq_true q214
                have hcz41_0 : wc.cell? ⟨gb213, 0, none⟩ = some (.int .i64 ((rd_T30 l0 x5_1).f0)) := (blk_cell BK213.out 0).trans rfl
                have hcz41_1 : wc.cell? ⟨gb213, 1, none⟩ = some (.int .i64 ((rd_T30 l0 x5_1).f1)) := (blk_cell BK213.out 1).trans rfl
                have hcz41_2 : wc.cell? ⟨gb213, 2, none⟩ = some (.int .i64 ((rd_T30 l0 x5_1).f2)) := (blk_cell BK213.out 2).trans rfl
                have hfz41_0 := blk_frozen BK213.out 0
                have hfz41_1 := blk_frozen BK213.out 1
                have hfz41_2 := blk_frozen BK213.out 2
                have p215 : 0 ≤ ((ji35) : Int) := of_decide_eq_true (by first | (with_reducible assumption) | assumption)
                have q215 : (ji35) < (l0.length : Int) := of_decide_eq_true (by first | (with_reducible assumption) | assumption)
                obtain ⟨ad215, e215, hx215_0, hx215_1, hx215_2⟩ := at_T30 HR0.out (ji35) p215 q215
                obtain rfl : ad212 = ad215 := (by injection e215)
                replace hx215_0 := (HB.out.cell (World.block_lt_of_cell? w _ hx215_0)).trans hx215_0
                replace hx215_1 := (HB.out.cell (World.block_lt_of_cell? w _ hx215_1)).trans hx215_1
                replace hx215_2 := (HB.out.cell (World.block_lt_of_cell? w _ hx215_2)).trans hx215_2
                replace p215 := eq_true p215
                replace q215 := eq_true q215
                have p216 : 0 ≤ ((ji35) : Int) := of_decide_eq_true (by first | (with_reducible assumption) | assumption)
                have q216 : (ji35) < (l0.length : Int) := of_decide_eq_true (by first | (with_reducible assumption) | assumption)
                obtain ⟨ad216, e216, hx216_0, hx216_1, hx216_2⟩ := at_T30 HR0.out (ji35) p216 q216
                obtain rfl : ad212 = ad216 := (by injection e216)
                replace hx216_0 := (HB.out.cell (World.block_lt_of_cell? w _ hx216_0)).trans hx216_0
                replace hx216_1 := (HB.out.cell (World.block_lt_of_cell? w _ hx216_1)).trans hx216_1
                replace hx216_2 := (HB.out.cell (World.block_lt_of_cell? w _ hx216_2)).trans hx216_2
                replace p216 := eq_true p216
                replace q216 := eq_true q216
                have p217 : 0 ≤ ((ji35) : Int) := of_decide_eq_true (by first | (with_reducible assumption) | assumption)
                have q217 : (ji35) < (l0.length : Int) := of_decide_eq_true (by first | (with_reducible assumption) | assumption)
                obtain ⟨ad217, e217, hx217_0, hx217_1, hx217_2⟩ := at_T30 HR0.out (ji35) p217 q217
                obtain rfl : ad212 = ad217 := (by injection e217)
                replace hx217_0 := (HB.out.cell (World.block_lt_of_cell? w _ hx217_0)).trans hx217_0
                replace hx217_1 := (HB.out.cell (World.block_lt_of_cell? w _ hx217_1)).trans hx217_1
                replace hx217_2 := (HB.out.cell (World.block_lt_of_cell? w _ hx217_2)).trans hx217_2
                replace p217 := eq_true p217
                replace q217 := eq_true q217
                go_wp2
                repeat (go_quiet (fail); try go_wp2)
                go_meet
                case rel => exact ⟨_, (decide ((wrap64 (((rd_T30 l0 (ji35)).f1) + ((rd_T30 l0 (ji35)).f2))) > ((rd_T30 l0 x5_1).f1))), (by first | rfl | (simp; done) | (simp only [← hji35] <;> (first | rfl | simp)) | (simp [*]; done)), H', ⟨by have := HK1.out; have := HJ4.out; first | omega | exact Nat.le_refl _⟩, ⟨by (with_reducible repeat (first | refine blk_drewN ?_ _ | refine blk_drew ?_ | refine blk_alloc ?_ _)); exact BK213.out⟩, ⟨by repeat (first | (with_reducible first | exact HB.out | apply below_alloc | apply pw_below_drewN | apply below_drew1 | refine below_set ?_ GE213.out) | exact HB.out)⟩⟩
               ·
                rw [if_neg c40] at H
                have c40b0 : (((rd_T30 l0 (ji35)).f0) == ((rd_T30 l0 x5_1).f0)) = false := beq_eq_false_iff_ne.mpr c40
                have c40b1 : (((rd_T30 l0 (ji35)).f0) != ((rd_T30 l0 x5_1).f0)) = true := bne_iff_ne.mpr c40
                have H' := Aside0.mk H
                clear H
                have p214 : 0 ≤ ((ji35) : Int) := of_decide_eq_true (by first | (with_reducible assumption) | assumption)
                have q214 : (ji35) < (l0.length : Int) := of_decide_eq_true (by first | (with_reducible assumption) | assumption)
                obtain ⟨ad214, e214, hx214_0, hx214_1, hx214_2⟩ := at_T30 HR0.out (ji35) p214 q214
                obtain rfl : ad212 = ad214 := (by injection e214)
                replace hx214_0 := (HB.out.cell (World.block_lt_of_cell? w _ hx214_0)).trans hx214_0
                replace hx214_1 := (HB.out.cell (World.block_lt_of_cell? w _ hx214_1)).trans hx214_1
                replace hx214_2 := (HB.out.cell (World.block_lt_of_cell? w _ hx214_2)).trans hx214_2
                replace p214 := eq_true p214
                replace q214 := eq_true q214
                have hcz42_0 : wc.cell? ⟨gb213, 0, none⟩ = some (.int .i64 ((rd_T30 l0 x5_1).f0)) := (blk_cell BK213.out 0).trans rfl
                have hcz42_1 : wc.cell? ⟨gb213, 1, none⟩ = some (.int .i64 ((rd_T30 l0 x5_1).f1)) := (blk_cell BK213.out 1).trans rfl
                have hcz42_2 : wc.cell? ⟨gb213, 2, none⟩ = some (.int .i64 ((rd_T30 l0 x5_1).f2)) := (blk_cell BK213.out 2).trans rfl
                have hfz42_0 := blk_frozen BK213.out 0
                have hfz42_1 := blk_frozen BK213.out 1
                have hfz42_2 := blk_frozen BK213.out 2
                have p215 : 0 ≤ ((ji35) : Int) := of_decide_eq_true (by first | (with_reducible assumption) | assumption)
                have q215 : (ji35) < (l0.length : Int) := of_decide_eq_true (by first | (with_reducible assumption) | assumption)
                obtain ⟨ad215, e215, hx215_0, hx215_1, hx215_2⟩ := at_T30 HR0.out (ji35) p215 q215
                obtain rfl : ad212 = ad215 := (by injection e215)
                replace hx215_0 := (HB.out.cell (World.block_lt_of_cell? w _ hx215_0)).trans hx215_0
                replace hx215_1 := (HB.out.cell (World.block_lt_of_cell? w _ hx215_1)).trans hx215_1
                replace hx215_2 := (HB.out.cell (World.block_lt_of_cell? w _ hx215_2)).trans hx215_2
                replace p215 := eq_true p215
                replace q215 := eq_true q215
                go_wp2
                repeat (go_quiet (fail); try go_wp2)
                go_meet
                case rel => exact ⟨_, (false), (by first | rfl | (simp; done) | (simp [*]; done)), H', ⟨by have := HK1.out; have := HJ4.out; first | omega | exact Nat.le_refl _⟩, ⟨by (with_reducible repeat (first | refine blk_drewN ?_ _ | refine blk_drew ?_ | refine blk_alloc ?_ _)); exact BK213.out⟩, ⟨by repeat (first | (with_reducible first | exact HB.out | apply below_alloc | apply pw_below_drewN | apply below_drew1 | refine below_set ?_ GE213.out) | exact HB.out)⟩⟩
             ·
              rw [if_neg c37] at H
              exact absurd H (by simp)
            ·
             rw [if_neg c36] at H
             exact absurd H (by simp)
           ·
            rw [if_neg c34] at H
            have c34b0 : decide (0 < x5_1) = false := decide_eq_false c34
            clear c34
            (first | rw [c34b0] | (simp only [i64_w, i32_w]; rw [c34b0]) | skip)
            have H' := Aside0.mk H
            clear H
            go_wp2
            repeat (go_quiet (fail); try go_wp2)
            go_meet
            case rel => exact ⟨_, (false), (by first | rfl | (simp; done) | (simp [*]; done)), H', ⟨by have := HK1.out; have := HJ4.out; first | omega | exact Nat.le_refl _⟩, ⟨by (with_reducible repeat (first | refine blk_drewN ?_ _ | refine blk_drew ?_ | refine blk_alloc ?_ _)); exact BK213.out⟩, ⟨by repeat (first | (with_reducible first | exact HB.out | apply below_alloc | apply pw_below_drewN | apply below_drew1 | refine below_set ?_ GE213.out) | exact HB.out)⟩⟩
          case rest =>
           clear HC32
           try clear c1
           try clear c2
           try clear p2
           try clear q2
           try clear hx2
           try clear c3
           try clear c3b0
           try clear c4
           try clear c4b0
           try clear p6
           try clear c8
           try clear c8b0
           try clear c8b1
           try clear c9
           try clear c9b0
           try clear c9b1
           try clear c10
           try clear c10b0
           try clear c13
           try clear c13b0
           try clear c13b1
           try clear c14
           try clear c14b0
           try clear c18
           try clear c18b0
           try clear c18b1
           try clear c19
           try clear c19b0
           try clear c19b1
           try clear c20
           try clear c20b0
           try clear p21
           try clear q21
           try clear hx21
           try clear c23
           try clear c23b0
           try clear c23b1
           try clear c24
           try clear c24b0
           try clear c29
           try clear c30
           try clear c30b0
           try clear c30b1
           try clear c31
           try clear c31b0
           try clear c31b1
           try clear c34
           try clear c34b0
           try clear c36
           try clear c36b0
           try clear c37
           try clear c37b0
           try clear c38
           try clear c38b0
           try clear c39
           try clear c40
           try clear c40b0
           try clear c40b1
           try clear hcz11_0
           try clear hcz11_1
           try clear hcz11_2
           try clear hcz12_0
           try clear hcz12_1
           try clear hcz12_2
           try clear hcz15_0
           try clear hcz15_1
           try clear hcz15_2
           try clear hcz16_0
           try clear hcz16_1
           try clear hcz16_2
           try clear hcz17_0
           try clear hcz17_1
           try clear hcz17_2
           try clear hcz21_0
           try clear hcz21_1
           try clear hcz21_2
           try clear hcz22_0
           try clear hcz22_1
           try clear hcz22_2
           try clear hcz25_0
           try clear hcz25_1
           try clear hcz25_2
           try clear hcz26_0
           try clear hcz26_1
           try clear hcz26_2
           try clear hcz27_0
           try clear hcz27_1
           try clear hcz27_2
           try clear hcz28_0
           try clear hcz28_1
           try clear hcz28_2
           try clear hcz33_0
           try clear hcz33_1
           try clear hcz33_2
           try clear hcz39_0
           try clear hcz39_1
           try clear hcz39_2
           try clear hcz41_0
           try clear hcz41_1
           try clear hcz41_2
           try clear hcz42_0
           try clear hcz42_1
           try clear hcz42_2
           try clear hcz7_0
           try clear hcz7_1
           try clear hcz7_2
           try clear hfz11_0
           try clear hfz11_1
           try clear hfz11_2
           try clear hfz12_0
           try clear hfz12_1
           try clear hfz12_2
           try clear hfz15_0
           try clear hfz15_1
           try clear hfz15_2
           try clear hfz16_0
           try clear hfz16_1
           try clear hfz16_2
           try clear hfz17_0
           try clear hfz17_1
           try clear hfz17_2
           try clear hfz21_0
           try clear hfz21_1
           try clear hfz21_2
           try clear hfz22_0
           try clear hfz22_1
           try clear hfz22_2
           try clear hfz25_0
           try clear hfz25_1
           try clear hfz25_2
           try clear hfz26_0
           try clear hfz26_1
           try clear hfz26_2
           try clear hfz27_0
           try clear hfz27_1
           try clear hfz27_2
           try clear hfz28_0
           try clear hfz28_1
           try clear hfz28_2
           try clear hfz33_0
           try clear hfz33_1
           try clear hfz33_2
           try clear hfz39_0
           try clear hfz39_1
           try clear hfz39_2
           try clear hfz41_0
           try clear hfz41_1
           try clear hfz41_2
           try clear hfz42_0
           try clear hfz42_1
           try clear hfz42_2
           try clear hfz7_0
           try clear hfz7_1
           try clear hfz7_2
           try clear hx212_0
           try clear hx212_1
           try clear hx212_2
           try clear hx214_0
           try clear hx214_1
           try clear hx214_2
           try clear hx215_0
           try clear hx215_1
           try clear hx215_2
           try clear hx216_0
           try clear hx216_1
           try clear hx216_2
           try clear hx217_0
           try clear hx217_1
           try clear hx217_2
           try clear p2
           try clear p21
           try clear p212
           try clear p214
           try clear p215
           try clear p216
           try clear p217
           try clear q2
           try clear q21
           try clear q212
           try clear q214
           try clear q215
           try clear q216
           try clear q217
           obtain ⟨kq, x92_31, rfl, HA, HJ31, BK213, HB⟩ := hcut
           cases kq with
           | zero => exact absurd HA.out (by simp [busbarref12_Groups.j2])
           | succ kj31 =>
            have H := HA.out
            clear HA
            simp only [busbarref12_Groups.j2] at H
            by_cases c43 : x92_31 = true
            ·
             subst c43
             have H1 : (some 2) = some r := by rw [if_pos rfl] at H; exact H
             clear H
             have H := H1
             clear H1
             obtain rfl := Option.some.inj H
             go_wp2
             repeat (go_quiet (fail); try go_wp2)
             go_ret
             exact ⟨by first | rfl | (simp [errW_none, errW_some] <;> rfl) | (simp [*, errW_none, errW_some] <;> rfl), by repeat (first | (with_reducible first | exact HB.out | apply below_alloc | apply pw_below_drewN | apply below_drew1 | refine below_set ?_ GE213.out) | exact HB.out)⟩
            ·
             replace c43 := Bool.eq_false_iff.mpr c43
             subst c43
             have H1 : ((busbarref12_Covers.f kj31 l1 ((rd_T30 l0 x5_1).f0) ((rd_T30 l0 x5_1).f1) (wrap64 (((rd_T30 l0 x5_1).f1) + ((rd_T30 l0 x5_1).f2)))).bind fun t218 => (if t218 = true then (busbarref12_Groups.l0 kj31 l0 l1 (wrap64 (x5_1 + 1))) else (some 5))) = some r := by rw [if_neg (show ¬ (false = true) by decide)] at H; exact H
             clear H
             have H := H1
             clear H1
             replace H := Option.bind_eq_some_iff.mp H
             obtain ⟨t218, A440, H⟩ := H
             replace H : (if t218 = true then (busbarref12_Groups.l0 kj31 l0 l1 (wrap64 (x5_1 + 1))) else (some 5)) = some r := H
             have A44 := Aside0.mk A440
             clear A440
             by_cases c45 : t218 = true
             ·
              subst c45
              have H1 : (busbarref12_Groups.l0 kj31 l0 l1 (wrap64 (x5_1 + 1))) = some r := by rw [if_pos rfl] at H; exact H
              clear H
              have H := H1
              clear H1
              have H' := Aside0.mk H
              clear H
              have hcz46_0 : wc.cell? ⟨gb213, 0, none⟩ = some (.int .i64 ((rd_T30 l0 x5_1).f0)) := (blk_cell BK213.out 0).trans rfl
              have hcz46_1 : wc.cell? ⟨gb213, 1, none⟩ = some (.int .i64 ((rd_T30 l0 x5_1).f1)) := (blk_cell BK213.out 1).trans rfl
              have hcz46_2 : wc.cell? ⟨gb213, 2, none⟩ = some (.int .i64 ((rd_T30 l0 x5_1).f2)) := (blk_cell BK213.out 2).trans rfl
              have hfz46_0 := blk_frozen BK213.out 0
              have hfz46_1 := blk_frozen BK213.out 1
              have hfz46_2 := blk_frozen BK213.out 2
              go_wp2_with (first | (go_at_call 51; (with_reducible refine (busbarref12_Covers.calls kj31 _ _ l1 ((rd_T30 l0 x5_1).f0) ((rd_T30 l0 x5_1).f1) (wrap64 (((rd_T30 l0 x5_1).f1) + ((rd_T30 l0 x5_1).f2))) true _ ?side1 ?side2 A44.out).mono ?_); (case side1 => repeat (first | exact (Kd.C_below HR1.out HB.out) | (with_reducible refine Kd.C_alloc ?_ _) | (with_reducible refine Kd.C_drewN ?_ _) | (with_reducible refine Kd.C_drew ?_))); (case side2 => exact HC1.out); rintro e w47 ⟨rfl, hb⟩; have n0_ := Aside0.mk (blk_below (g := gb213) (o := .cells #[.int .i64 ((rd_T30 l0 x5_1).f0), .int .i64 ((rd_T30 l0 x5_1).f1), .int .i64 ((rd_T30 l0 x5_1).f2)] 30 (0, 0)) (by (with_reducible repeat (first | refine blk_drewN ?_ _ | refine blk_drew ?_ | refine blk_alloc ?_ _)); exact BK213.out) hb); have n1_ := Aside0.mk (below_step (by repeat (first | (with_reducible first | exact HB.out | apply below_alloc | apply pw_below_drewN | apply below_drew1 | refine below_set ?_ GE213.out) | exact HB.out)) hb); clear BK213; clear HB; have BK213 := n0_; have HB := n1_; clear n0_ n1_; (try clear hb); (try clear hb2); (try clear hk); (try clear hi)))
              repeat (go_quiet (first | (go_at_call 51; (with_reducible refine (busbarref12_Covers.calls kj31 _ _ l1 ((rd_T30 l0 x5_1).f0) ((rd_T30 l0 x5_1).f1) (wrap64 (((rd_T30 l0 x5_1).f1) + ((rd_T30 l0 x5_1).f2))) true _ ?side1 ?side2 A44.out).mono ?_); (case side1 => repeat (first | exact (Kd.C_below HR1.out HB.out) | (with_reducible refine Kd.C_alloc ?_ _) | (with_reducible refine Kd.C_drewN ?_ _) | (with_reducible refine Kd.C_drew ?_))); (case side2 => exact HC1.out); rintro e w47 ⟨rfl, hb⟩; have n0_ := Aside0.mk (blk_below (g := gb213) (o := .cells #[.int .i64 ((rd_T30 l0 x5_1).f0), .int .i64 ((rd_T30 l0 x5_1).f1), .int .i64 ((rd_T30 l0 x5_1).f2)] 30 (0, 0)) (by (with_reducible repeat (first | refine blk_drewN ?_ _ | refine blk_drew ?_ | refine blk_alloc ?_ _)); exact BK213.out) hb); have n1_ := Aside0.mk (below_step (by repeat (first | (with_reducible first | exact HB.out | apply below_alloc | apply pw_below_drewN | apply below_drew1 | refine below_set ?_ GE213.out) | exact HB.out)) hb); clear BK213; clear HB; have BK213 := n0_; have HB := n1_; clear n0_ n1_; (try clear hb); (try clear hb2); (try clear hk); (try clear hi))); try go_wp2_with (first | (go_at_call 51; (with_reducible refine (busbarref12_Covers.calls kj31 _ _ l1 ((rd_T30 l0 x5_1).f0) ((rd_T30 l0 x5_1).f1) (wrap64 (((rd_T30 l0 x5_1).f1) + ((rd_T30 l0 x5_1).f2))) true _ ?side1 ?side2 A44.out).mono ?_); (case side1 => repeat (first | exact (Kd.C_below HR1.out HB.out) | (with_reducible refine Kd.C_alloc ?_ _) | (with_reducible refine Kd.C_drewN ?_ _) | (with_reducible refine Kd.C_drew ?_))); (case side2 => exact HC1.out); rintro e w47 ⟨rfl, hb⟩; have n0_ := Aside0.mk (blk_below (g := gb213) (o := .cells #[.int .i64 ((rd_T30 l0 x5_1).f0), .int .i64 ((rd_T30 l0 x5_1).f1), .int .i64 ((rd_T30 l0 x5_1).f2)] 30 (0, 0)) (by (with_reducible repeat (first | refine blk_drewN ?_ _ | refine blk_drew ?_ | refine blk_alloc ?_ _)); exact BK213.out) hb); have n1_ := Aside0.mk (below_step (by repeat (first | (with_reducible first | exact HB.out | apply below_alloc | apply pw_below_drewN | apply below_drew1 | refine below_set ?_ GE213.out) | exact HB.out)) hb); clear BK213; clear HB; have BK213 := n0_; have HB := n1_; clear n0_ n1_; (try clear hb); (try clear hb2); (try clear hk); (try clear hi))))
              go_roundg kj31
              case measure => have := HK1.out; have := HJ4.out; have := HJ31.out; omega
              case rel => exact ⟨(wrap64 (x5_1 + 1)), (by first | rfl | (simp; done) | (simp [*]; done)), H', ⟨by have := HK1.out; have := HJ4.out; have := HJ31.out; omega⟩, ⟨by repeat (first | (with_reducible first | exact HB.out | apply below_alloc | apply pw_below_drewN | apply below_drew1 | refine below_set ?_ GE213.out) | exact HB.out)⟩⟩
             ·
              replace c45 := Bool.eq_false_iff.mpr c45
              subst c45
              have H1 : (some 5) = some r := by rw [if_neg (show ¬ (false = true) by decide)] at H; exact H
              clear H
              have H := H1
              clear H1
              obtain rfl := Option.some.inj H
              have hcz48_0 : wc.cell? ⟨gb213, 0, none⟩ = some (.int .i64 ((rd_T30 l0 x5_1).f0)) := (blk_cell BK213.out 0).trans rfl
              have hcz48_1 : wc.cell? ⟨gb213, 1, none⟩ = some (.int .i64 ((rd_T30 l0 x5_1).f1)) := (blk_cell BK213.out 1).trans rfl
              have hcz48_2 : wc.cell? ⟨gb213, 2, none⟩ = some (.int .i64 ((rd_T30 l0 x5_1).f2)) := (blk_cell BK213.out 2).trans rfl
              have hfz48_0 := blk_frozen BK213.out 0
              have hfz48_1 := blk_frozen BK213.out 1
              have hfz48_2 := blk_frozen BK213.out 2
              go_wp2_with (first | (go_at_call 51; (with_reducible refine (busbarref12_Covers.calls kj31 _ _ l1 ((rd_T30 l0 x5_1).f0) ((rd_T30 l0 x5_1).f1) (wrap64 (((rd_T30 l0 x5_1).f1) + ((rd_T30 l0 x5_1).f2))) false _ ?side1 ?side2 A44.out).mono ?_); (case side1 => repeat (first | exact (Kd.C_below HR1.out HB.out) | (with_reducible refine Kd.C_alloc ?_ _) | (with_reducible refine Kd.C_drewN ?_ _) | (with_reducible refine Kd.C_drew ?_))); (case side2 => exact HC1.out); rintro e w49 ⟨rfl, hb⟩; have n0_ := Aside0.mk (blk_below (g := gb213) (o := .cells #[.int .i64 ((rd_T30 l0 x5_1).f0), .int .i64 ((rd_T30 l0 x5_1).f1), .int .i64 ((rd_T30 l0 x5_1).f2)] 30 (0, 0)) (by (with_reducible repeat (first | refine blk_drewN ?_ _ | refine blk_drew ?_ | refine blk_alloc ?_ _)); exact BK213.out) hb); have n1_ := Aside0.mk (below_step (by repeat (first | (with_reducible first | exact HB.out | apply below_alloc | apply pw_below_drewN | apply below_drew1 | refine below_set ?_ GE213.out) | exact HB.out)) hb); clear BK213; clear HB; have BK213 := n0_; have HB := n1_; clear n0_ n1_; (try clear hb); (try clear hb2); (try clear hk); (try clear hi)))
              repeat (go_quiet (first | (go_at_call 51; (with_reducible refine (busbarref12_Covers.calls kj31 _ _ l1 ((rd_T30 l0 x5_1).f0) ((rd_T30 l0 x5_1).f1) (wrap64 (((rd_T30 l0 x5_1).f1) + ((rd_T30 l0 x5_1).f2))) false _ ?side1 ?side2 A44.out).mono ?_); (case side1 => repeat (first | exact (Kd.C_below HR1.out HB.out) | (with_reducible refine Kd.C_alloc ?_ _) | (with_reducible refine Kd.C_drewN ?_ _) | (with_reducible refine Kd.C_drew ?_))); (case side2 => exact HC1.out); rintro e w49 ⟨rfl, hb⟩; have n0_ := Aside0.mk (blk_below (g := gb213) (o := .cells #[.int .i64 ((rd_T30 l0 x5_1).f0), .int .i64 ((rd_T30 l0 x5_1).f1), .int .i64 ((rd_T30 l0 x5_1).f2)] 30 (0, 0)) (by (with_reducible repeat (first | refine blk_drewN ?_ _ | refine blk_drew ?_ | refine blk_alloc ?_ _)); exact BK213.out) hb); have n1_ := Aside0.mk (below_step (by repeat (first | (with_reducible first | exact HB.out | apply below_alloc | apply pw_below_drewN | apply below_drew1 | refine below_set ?_ GE213.out) | exact HB.out)) hb); clear BK213; clear HB; have BK213 := n0_; have HB := n1_; clear n0_ n1_; (try clear hb); (try clear hb2); (try clear hk); (try clear hi))); try go_wp2_with (first | (go_at_call 51; (with_reducible refine (busbarref12_Covers.calls kj31 _ _ l1 ((rd_T30 l0 x5_1).f0) ((rd_T30 l0 x5_1).f1) (wrap64 (((rd_T30 l0 x5_1).f1) + ((rd_T30 l0 x5_1).f2))) false _ ?side1 ?side2 A44.out).mono ?_); (case side1 => repeat (first | exact (Kd.C_below HR1.out HB.out) | (with_reducible refine Kd.C_alloc ?_ _) | (with_reducible refine Kd.C_drewN ?_ _) | (with_reducible refine Kd.C_drew ?_))); (case side2 => exact HC1.out); rintro e w49 ⟨rfl, hb⟩; have n0_ := Aside0.mk (blk_below (g := gb213) (o := .cells #[.int .i64 ((rd_T30 l0 x5_1).f0), .int .i64 ((rd_T30 l0 x5_1).f1), .int .i64 ((rd_T30 l0 x5_1).f2)] 30 (0, 0)) (by (with_reducible repeat (first | refine blk_drewN ?_ _ | refine blk_drew ?_ | refine blk_alloc ?_ _)); exact BK213.out) hb); have n1_ := Aside0.mk (below_step (by repeat (first | (with_reducible first | exact HB.out | apply below_alloc | apply pw_below_drewN | apply below_drew1 | refine below_set ?_ GE213.out) | exact HB.out)) hb); clear BK213; clear HB; have BK213 := n0_; have HB := n1_; clear n0_ n1_; (try clear hb); (try clear hb2); (try clear hk); (try clear hi))))
              go_ret
              exact ⟨by first | rfl | (simp [errW_none, errW_some] <;> rfl) | (simp [*, errW_none, errW_some] <;> rfl), by repeat (first | (with_reducible first | exact HB.out | apply below_alloc | apply pw_below_drewN | apply below_drew1 | refine below_set ?_ GE213.out) | exact HB.out)⟩
         ·
          rw [if_neg c31] at H
          have c31b0 : ((Int.tmod ((rd_T30 l0 x5_1).f1) ((rd_T30 l0 x5_1).f2)) == 0) = false := beq_eq_false_iff_ne.mpr c31
          have c31b1 : ((Int.tmod ((rd_T30 l0 x5_1).f1) ((rd_T30 l0 x5_1).f2)) != 0) = true := bne_iff_ne.mpr c31
          obtain rfl := Option.some.inj H
          have hcz50_0 : wc.cell? ⟨gb213, 0, none⟩ = some (.int .i64 ((rd_T30 l0 x5_1).f0)) := (blk_cell BK213.out 0).trans rfl
          have hcz50_1 : wc.cell? ⟨gb213, 1, none⟩ = some (.int .i64 ((rd_T30 l0 x5_1).f1)) := (blk_cell BK213.out 1).trans rfl
          have hcz50_2 : wc.cell? ⟨gb213, 2, none⟩ = some (.int .i64 ((rd_T30 l0 x5_1).f2)) := (blk_cell BK213.out 2).trans rfl
          have hfz50_0 := blk_frozen BK213.out 0
          have hfz50_1 := blk_frozen BK213.out 1
          have hfz50_2 := blk_frozen BK213.out 2
          go_wp2
          repeat (go_quiet (fail); try go_wp2)
          go_ret
          exact ⟨by first | rfl | (simp [errW_none, errW_some] <;> rfl) | (simp [*, errW_none, errW_some] <;> rfl), by repeat (first | (with_reducible first | exact HB.out | apply below_alloc | apply pw_below_drewN | apply below_drew1 | refine below_set ?_ GE213.out) | exact HB.out)⟩
    ·
     rw [if_neg c4] at H
     exact absurd H (by simp)
   ·
    rw [if_neg c3] at H
    have c3b0 : decide (x5_1 < (l0.length : Int)) = false := decide_eq_false c3
    clear c3
    obtain rfl := Option.some.inj H
    go_wp2
    repeat (go_quiet (fail); try go_wp2)
    go_ret
    exact ⟨by first | rfl | (simp [errW_none, errW_some] <;> rfl) | (simp [*, errW_none, errW_some] <;> rfl), by repeat (first | (with_reducible first | exact HB.out | apply below_alloc | apply pw_below_drewN | apply below_drew1) | exact HB.out)⟩

end Go.Proofs.Ytmbkbpaoiilicaa.PGroupC
