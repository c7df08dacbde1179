-- written by a program of this session (wip/pp) over the kit's print.py; Lean checks it
import Derived.Test.YtmbkbpaoiilicaaPGroupAx0
import Derived.Test.YtmbkbpaoiilicaaPGroupAx2
import Derived.Test.YtmbkbpaoiilicaaPGroupAx5
import Derived.Test.YtmbkbpaoiilicaaPGroupAx19
namespace Go.Proofs.Ytmbkbpaoiilicaa.PGroupA
open Go.RowKit Go.Proofs.YtmbkbpaoiilicaaW.PrintWords Go.Proofs.YtmbkbpaoiilicaaW.PrintLast Go.Proofs.YtmbkbpaoiilicaaW.PrintMore
attribute [local go_sem] max2_int min2_int max_two min_two max_three min_three max_four min_four plus_setCell_drewN plus_cell_same   -- for this text's walks alone
set_option linter.unusedVariables false
set_option linter.unusedSimpArgs false

attribute [local go_sem high] eqA32
/-! ### span_Covers: function 42 -/
def span_Covers.l0 : Nat → List (S32) → Int → Int → Int → Int → Int → Option (Bool)
 | 0, _, _, _, _, _, _ => none
 | k + 1, x7, x8, x9, x115000, x115001, x115002 => if x9 < x8 then (if 0 ≤ x9 then (if x9 < (x7.length : Int) then ((span_both.f ((rd_T32 x7 x9).f0) ((rd_T32 x7 x9).f1) ((rd_T32 x7 x9).f2) x115000 x115001 x115002).bind fun bt117 => (if (bt117.1 == x115000 && (bt117.2.1 == x115001 && (bt117.2.2 == x115002))) = true then (some true) else (span_Covers.l0 k x7 x8 (wrap64 (x9 + 1)) x115000 x115001 x115002))) else (none)) else (none)) else (some false)
def span_Covers.f (k : Nat) (l0 : List (S32)) (a1_0 : Int) (a1_1 : Int) (a1_2 : Int) : Option (Bool) := span_Covers.l0 k l0 (l0.length : Int) 0 a1_0 a1_1 a1_2
theorem span_Covers.mono_l : ∀ k, (∀ y0 y1 y2 y3 y4 y5, LeO (span_Covers.l0 k y0 y1 y2 y3 y4 y5) (span_Covers.l0 (k + 1) y0 y1 y2 y3 y4 y5))
 | 0 => fun _ _ _ _ _ _ r h => by simp [span_Covers.l0] at h
 | k + 1 => by
  have ih0 := span_Covers.mono_l k
  ·
   intro y0 y1 y2 y3 y4 y5
   unfold span_Covers.l0
   repeat' first
   | (with_reducible exact ih0 _ _ _ _ _ _)
   | (with_reducible exact LeO.refl _)
   | (with_reducible exact LeO.none _)
   | (with_reducible refine LeO.ite ?_ ?_)
   | (with_reducible refine LeO.bind ?_ (fun _ => ?_))
   | exact ih0 _ _ _ _ _ _
   | exact LeO.none _
   | refine LeO.ite ?_ ?_
   | refine LeO.bind ?_ (fun _ => ?_)
theorem span_Covers.mono : ∀ a0 a1 a2 a3 k, LeO (span_Covers.f k a0 a1 a2 a3) (span_Covers.f (k + 1) a0 a1 a2 a3) := by
 intro a0 a1 a2 a3 k
 have ih0 := span_Covers.mono_l k
 unfold span_Covers.f
 repeat' first
   | (with_reducible exact ih0 _ _ _ _ _ _)
   | (with_reducible exact LeO.refl _)
   | (with_reducible exact LeO.none _)
   | (with_reducible refine LeO.ite ?_ ?_)
   | (with_reducible refine LeO.bind ?_ (fun _ => ?_))
   | exact ih0 _ _ _ _ _ _
   | exact LeO.none _
   | refine LeO.ite ?_ ?_
   | refine LeO.bind ?_ (fun _ => ?_)
set_option maxHeartbeats 8000000 in
set_option maxRecDepth 100000 in
theorem span_Covers.calls (k : Nat) (A0 : Option Addr) (c0 : Nat) (l0 : List (S32)) (a1_0 : Int) (a1_1 : Int) (a1_2 : Int) (r : Bool) (w : World) (hr0 : Kd.C k32 w A0 l0.length l0) (hc0 : l0.length ≤ c0) (h : span_Covers.f k l0 a1_0 a1_1 a1_2 = some r) :
  Calls Try.prog 42 #[.slice A0 l0.length c0, .agg #[.int .i64 a1_0, .int .i64 a1_1, .int .i64 a1_2]] w fun e w' => e = .returned (.bool r) ∧ Below w.heap.size w w' := by
 have hu32 := Try.underlying32
 have HR0 := Aside0.mk hr0
 have HC0 := Aside0.mk hc0
 clear hr0 hc0
 have HB := Aside0.mk (Below.refl w.heap.size w)
 have H : (span_Covers.l0 k l0 (l0.length : Int) 0 a1_0 a1_1 a1_2) = some r := h
 clear h
 have H' := Aside0.mk H
 clear H
 go_enter Try.func42, Try.ntmps42
 go_wp2_with (first | ((with_reducible refine gate_dst (N := 3) rfl ?_); refine box_event ?hg (N := 3) ?hd (cs := #[.int .i64 a1_0, .int .i64 a1_1, .int .i64 a1_2]) (t := 32) ?hr ?_; (case hd => rfl); (case hg => rfl); (case hr => first | (go_simp; done) | (go_simp; rfl)); intro gb114 hg w3 hbox hb; have n0_ := Aside0.mk (below_step (by repeat (first | (with_reducible first | exact HB.out | apply below_alloc | apply pw_below_drewN | apply below_drew1) | exact HB.out)) hb); have n1_ := Aside0.mk (hbox); have n2_ := Aside0.mk ((by rw [hg]; exact (below_size (by repeat (first | (with_reducible first | exact HB.out | apply below_alloc | apply pw_below_drewN | apply below_drew1) | exact HB.out))) : w.heap.size ≤ gb114)); have n3_ := Aside0.mk ((by rw [hg]; exact (below_size (by repeat (first | (with_reducible first | exact HB.out | apply below_alloc | apply pw_below_drewN | apply below_drew1) | exact HB.out))) : w.heap.size ≤ gb114)); clear HB; have HB := n0_; have BK114 := n1_; have GW114 := n2_; have GE114 := n3_; clear n0_ n1_ n2_ n3_; clear hb hbox hg))
 go_loopg [9] k (fun kq v9 w' => ∃ (x9_1 : Int), v9 = .int .i64 x9_1 ∧ Aside0 (span_Covers.l0 kq l0 (l0.length : Int) x9_1 a1_0 a1_1 a1_2 = some r) ∧ Aside0 (kq ≤ k) ∧ Aside0 (w'.heap[gb114]? = some (.cells #[.int .i64 a1_0, .int .i64 a1_1, .int .i64 a1_2] 32 (0, 0))) ∧ Aside0 (Below w.heap.size w w'))
 case atStart => exact ⟨(0), (by first | rfl | (simp; done) | (simp [*]; done)), H', ⟨Nat.le_refl _⟩, ⟨by (with_reducible repeat (first | refine blk_drewN ?_ _ | refine blk_drew ?_ | refine blk_alloc ?_ _)); exact BK114.out⟩, ⟨by repeat (first | (with_reducible first | exact HB.out | apply below_alloc | apply pw_below_drewN | apply below_drew1 | refine below_set ?_ GE114.out) | exact HB.out)⟩⟩
 case round =>
  clear H'
  try clear p2
  obtain ⟨x9_1, rfl, HA, HK1, BK114, HB⟩ := hrel
  cases gk with
  | zero => exact absurd HA.out (by simp [span_Covers.l0])
  | succ k1 =>
   have H := HA.out
   clear HA
   simp only [span_Covers.l0] at H
   by_cases c4 : x9_1 < (l0.length : Int)
   ·
    rw [if_pos c4] at H
    have c4b0 : decide (x9_1 < (l0.length : Int)) = true := decide_eq_true c4
    clear c4
    by_cases c5 : 0 ≤ x9_1
    ·
     rw [if_pos c5] at H
     have c5b0 : decide (0 ≤ x9_1) = true := decide_eq_true c5
     clear c5
     by_cases c6 : x9_1 < (l0.length : Int)
     ·
      rw [if_pos c6] at H
      have c6b0 : decide (x9_1 < (l0.length : Int)) = true := decide_eq_true c6
      clear c6
      replace H := Option.bind_eq_some_iff.mp H
      obtain ⟨⟨t117, t118, t119⟩, A70, H⟩ := H
      replace H : (if (t117 == a1_0 && (t118 == a1_1 && (t119 == a1_2))) = true then (some true) else (span_Covers.l0 k1 l0 (l0.length : Int) (wrap64 (x9_1 + 1)) a1_0 a1_1 a1_2)) = some r := H
      have A7 := Aside0.mk A70
      clear A70
      by_cases c8 : (t117 == a1_0 && (t118 == a1_1 && (t119 == a1_2))) = true
      ·
       rw [if_pos c8] at H
       have c8b0 : (t117 == a1_0 && (t118 == a1_1 && (t119 == a1_2))) = true := c8
       (try (have c8b1 : decide (t117 = a1_0 && (t118 == a1_1 && (t119 == a1_2))) = true := by simpa using c8))
       (try (have c8b2 : (t117 == a1_0 && (t118 == a1_1 && (t119 == a1_2))) = true := by simpa using c8))
       clear c8
       obtain rfl := Option.some.inj H
       have p115 : 0 ≤ (x9_1 : Int) := of_decide_eq_true (by first | (with_reducible assumption) | assumption)
       have q115 : x9_1 < (l0.length : Int) := of_decide_eq_true (by first | (with_reducible assumption) | assumption)
       obtain ⟨ad115, e115, hx115_0, hx115_1, hx115_2⟩ := at_T32 HR0.out x9_1 p115 q115
       cases e115
       replace hx115_0 := (HB.out.cell (World.block_lt_of_cell? w _ hx115_0)).trans hx115_0
       replace hx115_1 := (HB.out.cell (World.block_lt_of_cell? w _ hx115_1)).trans hx115_1
       replace hx115_2 := (HB.out.cell (World.block_lt_of_cell? w _ hx115_2)).trans hx115_2
       replace p115 := eq_true p115
       replace q115 := eq_true q115
       try go_wp2_with (first | ((with_reducible refine gate_dst (N := 6) rfl ?_); refine box_event ?hg (N := 6) ?hd (cs := #[.int .i64 0, .int .i64 0, .int .i64 0]) (t := 32) ?hr ?_; (case hd => rfl); (case hg => rfl); (case hr => first | (go_simp; done) | (go_simp; rfl)); intro gb116 hg w9 hbox hb; have n0_ := Aside0.mk (blk_below (g := gb114) (o := .cells #[.int .i64 a1_0, .int .i64 a1_1, .int .i64 a1_2] 32 (0, 0)) (by (with_reducible repeat (first | refine blk_drewN ?_ _ | refine blk_drew ?_ | refine blk_alloc ?_ _)); exact BK114.out) hb); have n1_ := Aside0.mk (below_step (by repeat (first | (with_reducible first | exact HB.out | apply below_alloc | apply pw_below_drewN | apply below_drew1 | refine below_set ?_ GE114.out) | exact HB.out)) hb); have n2_ := Aside0.mk (hbox); have n3_ := Aside0.mk ((by rw [hg]; exact (below_size (by repeat (first | (with_reducible first | exact HB.out | apply below_alloc | apply pw_below_drewN | apply below_drew1 | refine below_set ?_ GE114.out) | exact HB.out))) : w.heap.size ≤ gb116)); have n4_ := Aside0.mk ((by rw [hg]; exact (below_size (by repeat (first | (with_reducible first | exact HB.out | apply below_alloc | apply pw_below_drewN | apply below_drew1 | refine below_set ?_ GE114.out) | exact HB.out))) : w.heap.size ≤ gb116)); have n5_ := Aside0.mk ((by rw [hg]; exact Nat.ne_of_lt (blk_lt (g := gb114) (o := .cells #[.int .i64 a1_0, .int .i64 a1_1, .int .i64 a1_2] 32 (0, 0)) (by (with_reducible repeat (first | refine blk_drewN ?_ _ | refine blk_drew ?_ | refine blk_alloc ?_ _)); exact BK114.out)) : gb114 ≠ gb116)); have n6_ := Aside0.mk ((by rw [hg]; exact Nat.ne_of_gt (blk_lt (g := gb114) (o := .cells #[.int .i64 a1_0, .int .i64 a1_1, .int .i64 a1_2] 32 (0, 0)) (by (with_reducible repeat (first | refine blk_drewN ?_ _ | refine blk_drew ?_ | refine blk_alloc ?_ _)); exact BK114.out)) : gb116 ≠ gb114)); clear BK114; clear HB; have BK114 := n0_; have HB := n1_; have BK116 := n2_; have GW116 := n3_; have GE116 := n4_; have NB114_116 := n5_; have NB116_114 := n6_; clear n0_ n1_ n2_ n3_ n4_ n5_ n6_; clear hb hbox hg; have hnb10 := NB116_114.out; have hnc10 := NB114_116.out; have hcz11_0 : w9.cell? ⟨gb116, 0, none⟩ = some (.int .i64 0) := (blk_cell BK116.out 0).trans rfl; have hcz11_1 : w9.cell? ⟨gb116, 1, none⟩ = some (.int .i64 0) := (blk_cell BK116.out 1).trans rfl; have hcz11_2 : w9.cell? ⟨gb116, 2, none⟩ = some (.int .i64 0) := (blk_cell BK116.out 2).trans rfl; have hfz11_0 := blk_frozen BK116.out 0; have hfz11_1 := blk_frozen BK116.out 1; have hfz11_2 := blk_frozen BK116.out 2))
       have n0_ : Aside0 ((((w9.setCell ⟨gb116, 0, none⟩ (.int .i64 ((rd_T32 l0 x9_1).f0))).setCell ⟨gb116, 1, none⟩ (.int .i64 ((rd_T32 l0 x9_1).f1))).setCell ⟨gb116, 2, none⟩ (.int .i64 ((rd_T32 l0 x9_1).f2))).heap[gb114]? = some (.cells #[.int .i64 a1_0, .int .i64 a1_1, .int .i64 a1_2] 32 (0, 0))) := ⟨by (with_reducible repeat (first | refine blk_drewN ?_ _ | refine blk_drew ?_ | refine blk_alloc ?_ _)); refine blk_far ?_ NB114_116.out _; (with_reducible repeat (first | refine blk_drewN ?_ _ | refine blk_drew ?_ | refine blk_alloc ?_ _)); refine blk_far ?_ NB114_116.out _; (with_reducible repeat (first | refine blk_drewN ?_ _ | refine blk_drew ?_ | refine blk_alloc ?_ _)); refine blk_far ?_ NB114_116.out _; (with_reducible repeat (first | refine blk_drewN ?_ _ | refine blk_drew ?_ | refine blk_alloc ?_ _)); exact BK114.out⟩
       have n1_ : Aside0 ((((w9.setCell ⟨gb116, 0, none⟩ (.int .i64 ((rd_T32 l0 x9_1).f0))).setCell ⟨gb116, 1, none⟩ (.int .i64 ((rd_T32 l0 x9_1).f1))).setCell ⟨gb116, 2, none⟩ (.int .i64 ((rd_T32 l0 x9_1).f2))).heap[gb116]? = some (.cells #[.int .i64 ((rd_T32 l0 x9_1).f0), .int .i64 ((rd_T32 l0 x9_1).f1), .int .i64 ((rd_T32 l0 x9_1).f2)] 32 (0, 0))) := ⟨by (with_reducible repeat (first | refine blk_drewN ?_ _ | refine blk_drew ?_ | refine blk_alloc ?_ _)); refine blk_put (cs := #[.int .i64 ((rd_T32 l0 x9_1).f0), .int .i64 ((rd_T32 l0 x9_1).f1), .int .i64 0]) ?_ 2 _ rfl; (with_reducible repeat (first | refine blk_drewN ?_ _ | refine blk_drew ?_ | refine blk_alloc ?_ _)); refine blk_put (cs := #[.int .i64 ((rd_T32 l0 x9_1).f0), .int .i64 0, .int .i64 0]) ?_ 1 _ rfl; (with_reducible repeat (first | refine blk_drewN ?_ _ | refine blk_drew ?_ | refine blk_alloc ?_ _)); refine blk_put (cs := #[.int .i64 0, .int .i64 0, .int .i64 0]) ?_ 0 _ rfl; (with_reducible repeat (first | refine blk_drewN ?_ _ | refine blk_drew ?_ | refine blk_alloc ?_ _)); exact BK116.out⟩
       have n2_ : Aside0 (Below w.heap.size w (((w9.setCell ⟨gb116, 0, none⟩ (.int .i64 ((rd_T32 l0 x9_1).f0))).setCell ⟨gb116, 1, none⟩ (.int .i64 ((rd_T32 l0 x9_1).f1))).setCell ⟨gb116, 2, none⟩ (.int .i64 ((rd_T32 l0 x9_1).f2)))) := ⟨by repeat (first | (with_reducible first | exact HB.out | apply below_alloc | apply pw_below_drewN | apply below_drew1 | refine below_set ?_ GE114.out | refine below_set ?_ GE116.out) | exact HB.out)⟩
       (try clear BK114)
       (try clear BK116)
       (try clear HB)
       first | (rw [drewN_self (((w9.setCell ⟨gb116, 0, none⟩ (.int .i64 ((rd_T32 l0 x9_1).f0))).setCell ⟨gb116, 1, none⟩ (.int .i64 ((rd_T32 l0 x9_1).f1))).setCell ⟨gb116, 2, none⟩ (.int .i64 ((rd_T32 l0 x9_1).f2)))]; generalize hq_ : World.drewN (((w9.setCell ⟨gb116, 0, none⟩ (.int .i64 ((rd_T32 l0 x9_1).f0))).setCell ⟨gb116, 1, none⟩ (.int .i64 ((rd_T32 l0 x9_1).f1))).setCell ⟨gb116, 2, none⟩ (.int .i64 ((rd_T32 l0 x9_1).f2))) _ = w12; have m0_ : Aside0 (w12.heap[gb114]? = some (.cells #[.int .i64 a1_0, .int .i64 a1_1, .int .i64 a1_2] 32 (0, 0))) := ⟨by rw [← hq_]; first | exact Kd.R_drewN n0_.out _ | exact Kd.Q_drewN n0_.out _ | exact blk_drewN n0_.out _ | exact pw_below_drewN n0_.out _ | exact Kd.S_drewN n0_.out _ | exact n0_.out⟩; have m1_ : Aside0 (w12.heap[gb116]? = some (.cells #[.int .i64 ((rd_T32 l0 x9_1).f0), .int .i64 ((rd_T32 l0 x9_1).f1), .int .i64 ((rd_T32 l0 x9_1).f2)] 32 (0, 0))) := ⟨by rw [← hq_]; first | exact Kd.R_drewN n1_.out _ | exact Kd.Q_drewN n1_.out _ | exact blk_drewN n1_.out _ | exact pw_below_drewN n1_.out _ | exact Kd.S_drewN n1_.out _ | exact n1_.out⟩; have m2_ : Aside0 (Below w.heap.size w w12) := ⟨by rw [← hq_]; first | exact Kd.R_drewN n2_.out _ | exact Kd.Q_drewN n2_.out _ | exact blk_drewN n2_.out _ | exact pw_below_drewN n2_.out _ | exact Kd.S_drewN n2_.out _ | exact n2_.out⟩; clear hq_ n0_ n1_ n2_; have n0_ := m0_; have n1_ := m1_; have n2_ := m2_; clear m0_ m1_ m2_) | (generalize (((w9.setCell ⟨gb116, 0, none⟩ (.int .i64 ((rd_T32 l0 x9_1).f0))).setCell ⟨gb116, 1, none⟩ (.int .i64 ((rd_T32 l0 x9_1).f1))).setCell ⟨gb116, 2, none⟩ (.int .i64 ((rd_T32 l0 x9_1).f2))) = w12 at n0_ n1_ n2_ ⊢)
       have BK114 := n0_
       have BK116 := n1_
       have HB := n2_
       clear n0_ n1_ n2_
       have n0_ := Aside0.mk (blk_drew BK114.out)
       have n1_ := Aside0.mk (blk_drew BK116.out)
       have n2_ := Aside0.mk (below_drew1 HB.out)
       clear BK114
       clear BK116
       clear HB
       have BK114 := n0_
       have BK116 := n1_
       have HB := n2_
       clear n0_ n1_ n2_
       refine start_ (n := 5) (S := fun w' => w'.cell? ⟨gb116, 0, none⟩ = some (.int .i64 ((rd_T32 l0 x9_1).f0)) ∧ w'.cell? ⟨gb116, 1, none⟩ = some (.int .i64 ((rd_T32 l0 x9_1).f1)) ∧ w'.cell? ⟨gb116, 2, none⟩ = some (.int .i64 ((rd_T32 l0 x9_1).f2)) ∧ w'.cell? ⟨gb114, 0, none⟩ = some (.int .i64 a1_0) ∧ w'.cell? ⟨gb114, 1, none⟩ = some (.int .i64 a1_1) ∧ w'.cell? ⟨gb114, 2, none⟩ = some (.int .i64 a1_2)) (ds := []) #[false,false,false,false,false] (by kernel_rfl) rfl rfl ⟨(blk_cell BK116.out 0).trans rfl, (blk_cell BK116.out 1).trans rfl, (blk_cell BK116.out 2).trans rfl, (blk_cell BK114.out 0).trans rfl, (blk_cell BK114.out 1).trans rfl, (blk_cell BK114.out 2).trans rfl⟩ (fun hHeld => ?_)
       generalize w12.drew = w13 at BK114 BK116 HB hHeld ⊢
       refine take_ (i := 0) (N := some 13) (v := ?_) (a' := ?_) #[true,false,false,false,false] rfl rfl (by kernel_rfl) (fun _ _ _ h => h) (Or.inl ⟨by rfl, ?_⟩) hHeld ?_ ?_
       rotate_left
       ·
        rintro w' ⟨s0, s1, s2, s3, s4, s5⟩
        go_simp
        with_reducible rfl
       rotate_left
       ·
        simp only [Act.put, List.setIfInBounds_toArray, List.set_cons_zero, List.set_cons_succ, i64_w, i32_w]
        rfl
       refine take_ (i := 1) (N := some 14) (v := ?_) (a' := ?_) #[true,true,false,false,false] rfl rfl (by kernel_rfl) (fun _ _ _ h => h) (Or.inl ⟨by rfl, ?_⟩) hHeld ?_ ?_
       rotate_left
       ·
        rintro w' ⟨s0, s1, s2, s3, s4, s5⟩
        go_simp
        with_reducible rfl
       rotate_left
       ·
        simp only [Act.put, List.setIfInBounds_toArray, List.set_cons_zero, List.set_cons_succ, i64_w, i32_w]
        rfl
       refine take_ (i := 3) (N := some 16) (v := ?_) (a' := ?_) #[true,true,false,true,false] rfl rfl (by kernel_rfl) (fun _ _ _ h => h) (Or.inl ⟨by rfl, ?_⟩) hHeld ?_ ?_
       rotate_left
       ·
        rintro w' ⟨s0, s1, s2, s3, s4, s5⟩
        go_simp
        with_reducible rfl
       rotate_left
       ·
        simp only [Act.put, List.setIfInBounds_toArray, List.set_cons_zero, List.set_cons_succ, i64_w, i32_w]
        rfl
       refine one_ (i := 2) (N := some 15) #[true,true,true,true,false] rfl rfl (by kernel_rfl) (by decide) (fun K hK => ?_)
       refine goes_ Try.func59 (by kernel_rfl) rfl #[.agg #[.int .i64 ((rd_T32 l0 x9_1).f0), .int .i64 ((rd_T32 l0 x9_1).f1), .int .i64 ((rd_T32 l0 x9_1).f2)], .agg #[.int .i64 a1_0, .int .i64 a1_1, .int .i64 a1_2]] (by rfl) rfl rfl (by (try simp only [List.map_toArray, List.map_cons, List.map_nil]); first | done | rfl | (simp only [List.length_drop, List.length_take]; rfl)) ?_
       with_reducible refine (span_both.calls ((rd_T32 l0 x9_1).f0) ((rd_T32 l0 x9_1).f1) ((rd_T32 l0 x9_1).f2) a1_0 a1_1 a1_2 t117 t118 t119 _ A7.out).mono ?_
       rintro e w14 ⟨rfl, hb⟩
       refine ⟨_, rfl, ?_⟩
       have n0_ := Aside0.mk (blk_below (g := gb114) (o := .cells #[.int .i64 a1_0, .int .i64 a1_1, .int .i64 a1_2] 32 (0, 0)) (by (with_reducible repeat (first | refine blk_drewN ?_ _ | refine blk_drew ?_ | refine blk_alloc ?_ _)); exact BK114.out) hb)
       have n1_ := Aside0.mk (blk_below (g := gb116) (o := .cells #[.int .i64 ((rd_T32 l0 x9_1).f0), .int .i64 ((rd_T32 l0 x9_1).f1), .int .i64 ((rd_T32 l0 x9_1).f2)] 32 (0, 0)) (by (with_reducible repeat (first | refine blk_drewN ?_ _ | refine blk_drew ?_ | refine blk_alloc ?_ _)); exact BK116.out) hb)
       have n2_ := Aside0.mk (below_step (by repeat (first | (with_reducible first | exact HB.out | apply below_alloc | apply pw_below_drewN | apply below_drew1 | refine below_set ?_ GE114.out | refine below_set ?_ GE116.out) | exact HB.out)) hb)
       clear BK114
       clear BK116
       clear HB
       have BK114 := n0_
       have BK116 := n1_
       have HB := n2_
       clear n0_ n1_ n2_
       (try clear hb)
       (try clear hb2)
       (try clear hk)
       (try clear hi)
       refine hK.out _ _ ⟨(blk_cell BK116.out 0).trans rfl, (blk_cell BK116.out 1).trans rfl, (blk_cell BK116.out 2).trans rfl, (blk_cell BK114.out 0).trans rfl, (blk_cell BK114.out 1).trans rfl, (blk_cell BK114.out 2).trans rfl⟩ (fun hHeld => ?_)
       clear hK K
       refine norm_ (a' := ?_) ?_ ?_
       rotate_left
       ·
        show Act.put _ (some 15) _ = _
        simp only [Act.put, List.setIfInBounds_toArray, List.set_cons_zero, List.set_cons_succ, i64_w, i32_w]
        rfl
       refine pure_ (i := 4) (N := some 17) (v := ?_) (a' := ?_) #[true,true,true,true,true] rfl rfl (by kernel_rfl) (fun _ _ _ h => h) (Or.inl ⟨by rfl, ?_⟩) ?_ ?_
       rotate_left
       ·
        intro w'
        go_simp
        with_reducible rfl
       rotate_left
       ·
        simp only [Act.put, List.setIfInBounds_toArray, List.set_cons_zero, List.set_cons_succ, i64_w, i32_w]
        rfl
       refine done_ (by kernel_rfl) ?_
       try go_wp2
       go_ret
       exact ⟨by first | rfl | (simp [errW_none, errW_some] <;> rfl) | (simp [*, errW_none, errW_some] <;> rfl), by repeat (first | (with_reducible first | exact HB.out | apply below_alloc | apply pw_below_drewN | apply below_drew1 | refine below_set ?_ GE114.out | refine below_set ?_ GE116.out) | exact HB.out)⟩
      ·
       rw [if_neg c8] at H
       have c8b0 : (t117 == a1_0 && (t118 == a1_1 && (t119 == a1_2))) = false := by simpa using c8
       (try (have c8b1 : decide (t117 = a1_0 && (t118 == a1_1 && (t119 == a1_2))) = false := by simpa using c8))
       (try (have c8b2 : (t117 == a1_0 && (t118 == a1_1 && (t119 == a1_2))) = false := by simpa using c8))
       (try (have c8b3 : ¬ (t117 = a1_0 && (t118 == a1_1 && (t119 == a1_2))) := by simpa using c8))
       clear c8
       have H' := Aside0.mk H
       clear H
       have p115 : 0 ≤ (x9_1 : Int) := of_decide_eq_true (by first | (with_reducible assumption) | assumption)
       have q115 : x9_1 < (l0.length : Int) := of_decide_eq_true (by first | (with_reducible assumption) | assumption)
       obtain ⟨ad115, e115, hx115_0, hx115_1, hx115_2⟩ := at_T32 HR0.out x9_1 p115 q115
       cases e115
       replace hx115_0 := (HB.out.cell (World.block_lt_of_cell? w _ hx115_0)).trans hx115_0
       replace hx115_1 := (HB.out.cell (World.block_lt_of_cell? w _ hx115_1)).trans hx115_1
       replace hx115_2 := (HB.out.cell (World.block_lt_of_cell? w _ hx115_2)).trans hx115_2
       replace p115 := eq_true p115
       replace q115 := eq_true q115
       try go_wp2_with (first | ((with_reducible refine gate_dst (N := 6) rfl ?_); refine box_event ?hg (N := 6) ?hd (cs := #[.int .i64 0, .int .i64 0, .int .i64 0]) (t := 32) ?hr ?_; (case hd => rfl); (case hg => rfl); (case hr => first | (go_simp; done) | (go_simp; rfl)); intro gb116 hg w15 hbox hb; have n0_ := Aside0.mk (blk_below (g := gb114) (o := .cells #[.int .i64 a1_0, .int .i64 a1_1, .int .i64 a1_2] 32 (0, 0)) (by (with_reducible repeat (first | refine blk_drewN ?_ _ | refine blk_drew ?_ | refine blk_alloc ?_ _)); exact BK114.out) hb); have n1_ := Aside0.mk (below_step (by repeat (first | (with_reducible first | exact HB.out | apply below_alloc | apply pw_below_drewN | apply below_drew1 | refine below_set ?_ GE114.out) | exact HB.out)) hb); have n2_ := Aside0.mk (hbox); have n3_ := Aside0.mk ((by rw [hg]; exact (below_size (by repeat (first | (with_reducible first | exact HB.out | apply below_alloc | apply pw_below_drewN | apply below_drew1 | refine below_set ?_ GE114.out) | exact HB.out))) : w.heap.size ≤ gb116)); have n4_ := Aside0.mk ((by rw [hg]; exact (below_size (by repeat (first | (with_reducible first | exact HB.out | apply below_alloc | apply pw_below_drewN | apply below_drew1 | refine below_set ?_ GE114.out) | exact HB.out))) : w.heap.size ≤ gb116)); have n5_ := Aside0.mk ((by rw [hg]; exact Nat.ne_of_lt (blk_lt (g := gb114) (o := .cells #[.int .i64 a1_0, .int .i64 a1_1, .int .i64 a1_2] 32 (0, 0)) (by (with_reducible repeat (first | refine blk_drewN ?_ _ | refine blk_drew ?_ | refine blk_alloc ?_ _)); exact BK114.out)) : gb114 ≠ gb116)); have n6_ := Aside0.mk ((by rw [hg]; exact Nat.ne_of_gt (blk_lt (g := gb114) (o := .cells #[.int .i64 a1_0, .int .i64 a1_1, .int .i64 a1_2] 32 (0, 0)) (by (with_reducible repeat (first | refine blk_drewN ?_ _ | refine blk_drew ?_ | refine blk_alloc ?_ _)); exact BK114.out)) : gb116 ≠ gb114)); clear BK114; clear HB; have BK114 := n0_; have HB := n1_; have BK116 := n2_; have GW116 := n3_; have GE116 := n4_; have NB114_116 := n5_; have NB116_114 := n6_; clear n0_ n1_ n2_ n3_ n4_ n5_ n6_; clear hb hbox hg; have hnb16 := NB116_114.out; have hnc16 := NB114_116.out; have hcz17_0 : w15.cell? ⟨gb116, 0, none⟩ = some (.int .i64 0) := (blk_cell BK116.out 0).trans rfl; have hcz17_1 : w15.cell? ⟨gb116, 1, none⟩ = some (.int .i64 0) := (blk_cell BK116.out 1).trans rfl; have hcz17_2 : w15.cell? ⟨gb116, 2, none⟩ = some (.int .i64 0) := (blk_cell BK116.out 2).trans rfl; have hfz17_0 := blk_frozen BK116.out 0; have hfz17_1 := blk_frozen BK116.out 1; have hfz17_2 := blk_frozen BK116.out 2))
       have n0_ : Aside0 ((((w15.setCell ⟨gb116, 0, none⟩ (.int .i64 ((rd_T32 l0 x9_1).f0))).setCell ⟨gb116, 1, none⟩ (.int .i64 ((rd_T32 l0 x9_1).f1))).setCell ⟨gb116, 2, none⟩ (.int .i64 ((rd_T32 l0 x9_1).f2))).heap[gb114]? = some (.cells #[.int .i64 a1_0, .int .i64 a1_1, .int .i64 a1_2] 32 (0, 0))) := ⟨by (with_reducible repeat (first | refine blk_drewN ?_ _ | refine blk_drew ?_ | refine blk_alloc ?_ _)); refine blk_far ?_ NB114_116.out _; (with_reducible repeat (first | refine blk_drewN ?_ _ | refine blk_drew ?_ | refine blk_alloc ?_ _)); refine blk_far ?_ NB114_116.out _; (with_reducible repeat (first | refine blk_drewN ?_ _ | refine blk_drew ?_ | refine blk_alloc ?_ _)); refine blk_far ?_ NB114_116.out _; (with_reducible repeat (first | refine blk_drewN ?_ _ | refine blk_drew ?_ | refine blk_alloc ?_ _)); exact BK114.out⟩
       have n1_ : Aside0 ((((w15.setCell ⟨gb116, 0, none⟩ (.int .i64 ((rd_T32 l0 x9_1).f0))).setCell ⟨gb116, 1, none⟩ (.int .i64 ((rd_T32 l0 x9_1).f1))).setCell ⟨gb116, 2, none⟩ (.int .i64 ((rd_T32 l0 x9_1).f2))).heap[gb116]? = some (.cells #[.int .i64 ((rd_T32 l0 x9_1).f0), .int .i64 ((rd_T32 l0 x9_1).f1), .int .i64 ((rd_T32 l0 x9_1).f2)] 32 (0, 0))) := ⟨by (with_reducible repeat (first | refine blk_drewN ?_ _ | refine blk_drew ?_ | refine blk_alloc ?_ _)); refine blk_put (cs := #[.int .i64 ((rd_T32 l0 x9_1).f0), .int .i64 ((rd_T32 l0 x9_1).f1), .int .i64 0]) ?_ 2 _ rfl; (with_reducible repeat (first | refine blk_drewN ?_ _ | refine blk_drew ?_ | refine blk_alloc ?_ _)); refine blk_put (cs := #[.int .i64 ((rd_T32 l0 x9_1).f0), .int .i64 0, .int .i64 0]) ?_ 1 _ rfl; (with_reducible repeat (first | refine blk_drewN ?_ _ | refine blk_drew ?_ | refine blk_alloc ?_ _)); refine blk_put (cs := #[.int .i64 0, .int .i64 0, .int .i64 0]) ?_ 0 _ rfl; (with_reducible repeat (first | refine blk_drewN ?_ _ | refine blk_drew ?_ | refine blk_alloc ?_ _)); exact BK116.out⟩
       have n2_ : Aside0 (Below w.heap.size w (((w15.setCell ⟨gb116, 0, none⟩ (.int .i64 ((rd_T32 l0 x9_1).f0))).setCell ⟨gb116, 1, none⟩ (.int .i64 ((rd_T32 l0 x9_1).f1))).setCell ⟨gb116, 2, none⟩ (.int .i64 ((rd_T32 l0 x9_1).f2)))) := ⟨by repeat (first | (with_reducible first | exact HB.out | apply below_alloc | apply pw_below_drewN | apply below_drew1 | refine below_set ?_ GE114.out | refine below_set ?_ GE116.out) | exact HB.out)⟩
       (try clear BK114)
       (try clear BK116)
       (try clear HB)
       first | (rw [drewN_self (((w15.setCell ⟨gb116, 0, none⟩ (.int .i64 ((rd_T32 l0 x9_1).f0))).setCell ⟨gb116, 1, none⟩ (.int .i64 ((rd_T32 l0 x9_1).f1))).setCell ⟨gb116, 2, none⟩ (.int .i64 ((rd_T32 l0 x9_1).f2)))]; generalize hq_ : World.drewN (((w15.setCell ⟨gb116, 0, none⟩ (.int .i64 ((rd_T32 l0 x9_1).f0))).setCell ⟨gb116, 1, none⟩ (.int .i64 ((rd_T32 l0 x9_1).f1))).setCell ⟨gb116, 2, none⟩ (.int .i64 ((rd_T32 l0 x9_1).f2))) _ = w18; have m0_ : Aside0 (w18.heap[gb114]? = some (.cells #[.int .i64 a1_0, .int .i64 a1_1, .int .i64 a1_2] 32 (0, 0))) := ⟨by rw [← hq_]; first | exact Kd.R_drewN n0_.out _ | exact Kd.Q_drewN n0_.out _ | exact blk_drewN n0_.out _ | exact pw_below_drewN n0_.out _ | exact Kd.S_drewN n0_.out _ | exact n0_.out⟩; have m1_ : Aside0 (w18.heap[gb116]? = some (.cells #[.int .i64 ((rd_T32 l0 x9_1).f0), .int .i64 ((rd_T32 l0 x9_1).f1), .int .i64 ((rd_T32 l0 x9_1).f2)] 32 (0, 0))) := ⟨by rw [← hq_]; first | exact Kd.R_drewN n1_.out _ | exact Kd.Q_drewN n1_.out _ | exact blk_drewN n1_.out _ | exact pw_below_drewN n1_.out _ | exact Kd.S_drewN n1_.out _ | exact n1_.out⟩; have m2_ : Aside0 (Below w.heap.size w w18) := ⟨by rw [← hq_]; first | exact Kd.R_drewN n2_.out _ | exact Kd.Q_drewN n2_.out _ | exact blk_drewN n2_.out _ | exact pw_below_drewN n2_.out _ | exact Kd.S_drewN n2_.out _ | exact n2_.out⟩; clear hq_ n0_ n1_ n2_; have n0_ := m0_; have n1_ := m1_; have n2_ := m2_; clear m0_ m1_ m2_) | (generalize (((w15.setCell ⟨gb116, 0, none⟩ (.int .i64 ((rd_T32 l0 x9_1).f0))).setCell ⟨gb116, 1, none⟩ (.int .i64 ((rd_T32 l0 x9_1).f1))).setCell ⟨gb116, 2, none⟩ (.int .i64 ((rd_T32 l0 x9_1).f2))) = w18 at n0_ n1_ n2_ ⊢)
       have BK114 := n0_
       have BK116 := n1_
       have HB := n2_
       clear n0_ n1_ n2_
       have n0_ := Aside0.mk (blk_drew BK114.out)
       have n1_ := Aside0.mk (blk_drew BK116.out)
       have n2_ := Aside0.mk (below_drew1 HB.out)
       clear BK114
       clear BK116
       clear HB
       have BK114 := n0_
       have BK116 := n1_
       have HB := n2_
       clear n0_ n1_ n2_
       refine start_ (n := 5) (S := fun w' => w'.cell? ⟨gb116, 0, none⟩ = some (.int .i64 ((rd_T32 l0 x9_1).f0)) ∧ w'.cell? ⟨gb116, 1, none⟩ = some (.int .i64 ((rd_T32 l0 x9_1).f1)) ∧ w'.cell? ⟨gb116, 2, none⟩ = some (.int .i64 ((rd_T32 l0 x9_1).f2)) ∧ w'.cell? ⟨gb114, 0, none⟩ = some (.int .i64 a1_0) ∧ w'.cell? ⟨gb114, 1, none⟩ = some (.int .i64 a1_1) ∧ w'.cell? ⟨gb114, 2, none⟩ = some (.int .i64 a1_2)) (ds := []) #[false,false,false,false,false] (by kernel_rfl) rfl rfl ⟨(blk_cell BK116.out 0).trans rfl, (blk_cell BK116.out 1).trans rfl, (blk_cell BK116.out 2).trans rfl, (blk_cell BK114.out 0).trans rfl, (blk_cell BK114.out 1).trans rfl, (blk_cell BK114.out 2).trans rfl⟩ (fun hHeld => ?_)
       generalize w18.drew = w19 at BK114 BK116 HB hHeld ⊢
       refine take_ (i := 0) (N := some 13) (v := ?_) (a' := ?_) #[true,false,false,false,false] rfl rfl (by kernel_rfl) (fun _ _ _ h => h) (Or.inl ⟨by rfl, ?_⟩) hHeld ?_ ?_
       rotate_left
       ·
        rintro w' ⟨s0, s1, s2, s3, s4, s5⟩
        go_simp
        with_reducible rfl
       rotate_left
       ·
        simp only [Act.put, List.setIfInBounds_toArray, List.set_cons_zero, List.set_cons_succ, i64_w, i32_w]
        rfl
       refine take_ (i := 1) (N := some 14) (v := ?_) (a' := ?_) #[true,true,false,false,false] rfl rfl (by kernel_rfl) (fun _ _ _ h => h) (Or.inl ⟨by rfl, ?_⟩) hHeld ?_ ?_
       rotate_left
       ·
        rintro w' ⟨s0, s1, s2, s3, s4, s5⟩
        go_simp
        with_reducible rfl
       rotate_left
       ·
        simp only [Act.put, List.setIfInBounds_toArray, List.set_cons_zero, List.set_cons_succ, i64_w, i32_w]
        rfl
       refine take_ (i := 3) (N := some 16) (v := ?_) (a' := ?_) #[true,true,false,true,false] rfl rfl (by kernel_rfl) (fun _ _ _ h => h) (Or.inl ⟨by rfl, ?_⟩) hHeld ?_ ?_
       rotate_left
       ·
        rintro w' ⟨s0, s1, s2, s3, s4, s5⟩
        go_simp
        with_reducible rfl
       rotate_left
       ·
        simp only [Act.put, List.setIfInBounds_toArray, List.set_cons_zero, List.set_cons_succ, i64_w, i32_w]
        rfl
       refine one_ (i := 2) (N := some 15) #[true,true,true,true,false] rfl rfl (by kernel_rfl) (by decide) (fun K hK => ?_)
       refine goes_ Try.func59 (by kernel_rfl) rfl #[.agg #[.int .i64 ((rd_T32 l0 x9_1).f0), .int .i64 ((rd_T32 l0 x9_1).f1), .int .i64 ((rd_T32 l0 x9_1).f2)], .agg #[.int .i64 a1_0, .int .i64 a1_1, .int .i64 a1_2]] (by rfl) rfl rfl (by (try simp only [List.map_toArray, List.map_cons, List.map_nil]); first | done | rfl | (simp only [List.length_drop, List.length_take]; rfl)) ?_
       with_reducible refine (span_both.calls ((rd_T32 l0 x9_1).f0) ((rd_T32 l0 x9_1).f1) ((rd_T32 l0 x9_1).f2) a1_0 a1_1 a1_2 t117 t118 t119 _ A7.out).mono ?_
       rintro e w20 ⟨rfl, hb⟩
       refine ⟨_, rfl, ?_⟩
       have n0_ := Aside0.mk (blk_below (g := gb114) (o := .cells #[.int .i64 a1_0, .int .i64 a1_1, .int .i64 a1_2] 32 (0, 0)) (by (with_reducible repeat (first | refine blk_drewN ?_ _ | refine blk_drew ?_ | refine blk_alloc ?_ _)); exact BK114.out) hb)
       have n1_ := Aside0.mk (blk_below (g := gb116) (o := .cells #[.int .i64 ((rd_T32 l0 x9_1).f0), .int .i64 ((rd_T32 l0 x9_1).f1), .int .i64 ((rd_T32 l0 x9_1).f2)] 32 (0, 0)) (by (with_reducible repeat (first | refine blk_drewN ?_ _ | refine blk_drew ?_ | refine blk_alloc ?_ _)); exact BK116.out) hb)
       have n2_ := Aside0.mk (below_step (by repeat (first | (with_reducible first | exact HB.out | apply below_alloc | apply pw_below_drewN | apply below_drew1 | refine below_set ?_ GE114.out | refine below_set ?_ GE116.out) | exact HB.out)) hb)
       clear BK114
       clear BK116
       clear HB
       have BK114 := n0_
       have BK116 := n1_
       have HB := n2_
       clear n0_ n1_ n2_
       (try clear hb)
       (try clear hb2)
       (try clear hk)
       (try clear hi)
       refine hK.out _ _ ⟨(blk_cell BK116.out 0).trans rfl, (blk_cell BK116.out 1).trans rfl, (blk_cell BK116.out 2).trans rfl, (blk_cell BK114.out 0).trans rfl, (blk_cell BK114.out 1).trans rfl, (blk_cell BK114.out 2).trans rfl⟩ (fun hHeld => ?_)
       clear hK K
       refine norm_ (a' := ?_) ?_ ?_
       rotate_left
       ·
        show Act.put _ (some 15) _ = _
        simp only [Act.put, List.setIfInBounds_toArray, List.set_cons_zero, List.set_cons_succ, i64_w, i32_w]
        rfl
       refine pure_ (i := 4) (N := some 17) (v := ?_) (a' := ?_) #[true,true,true,true,true] rfl rfl (by kernel_rfl) (fun _ _ _ h => h) (Or.inl ⟨by rfl, ?_⟩) ?_ ?_
       rotate_left
       ·
        intro w'
        go_simp
        with_reducible rfl
       rotate_left
       ·
        simp only [Act.put, List.setIfInBounds_toArray, List.set_cons_zero, List.set_cons_succ, i64_w, i32_w]
        rfl
       refine done_ (by kernel_rfl) ?_
       try go_wp2
       go_roundg k1
       case measure => have := HK1.out; omega
       case rel => exact ⟨(wrap64 (x9_1 + 1)), (by first | rfl | (simp; done) | (simp [*]; done)), H', ⟨by have := HK1.out; omega⟩, ⟨by (with_reducible repeat (first | refine blk_drewN ?_ _ | refine blk_drew ?_ | refine blk_alloc ?_ _)); exact BK114.out⟩, ⟨by repeat (first | (with_reducible first | exact HB.out | apply below_alloc | apply pw_below_drewN | apply below_drew1 | refine below_set ?_ GE114.out | refine below_set ?_ GE116.out) | exact HB.out)⟩⟩
     ·
      rw [if_neg c6] at H
      exact absurd H (by simp)
    ·
     rw [if_neg c5] at H
     exact absurd H (by simp)
   ·
    rw [if_neg c4] at H
    have c4b0 : decide (x9_1 < (l0.length : Int)) = false := decide_eq_false c4
    clear c4
    obtain rfl := Option.some.inj H
    go_wp2
    go_ret
    exact ⟨by first | rfl | (simp [errW_none, errW_some] <;> rfl) | (simp [*, errW_none, errW_some] <;> rfl), by repeat (first | (with_reducible first | exact HB.out | apply below_alloc | apply pw_below_drewN | apply below_drew1 | refine below_set ?_ GE114.out) | exact HB.out)⟩

end Go.Proofs.Ytmbkbpaoiilicaa.PGroupA
