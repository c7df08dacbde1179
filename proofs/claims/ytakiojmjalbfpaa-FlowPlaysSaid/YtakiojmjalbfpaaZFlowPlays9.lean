/- Words and walks for FlowPlays (made of the session's own texts; each part by itself). -/
import Derived.Test.YtakiojmjalbfpaaZFlowPlays8
namespace Go.Proofs.Ytakiojmjalbfpaa.PFlow
open Go.RowKit Go.Proofs.YtakiojmjalbfpaaW.PrintWords Go.Proofs.YtakiojmjalbfpaaW.PrintLast Go.Proofs.YtakiojmjalbfpaaW.PrintMore
attribute [local go_sem] max2_int min2_int max_two min_two max_three min_three max_four min_four plus_setCell_drewN plus_cell_same   -- for this text's walks alone
set_option linter.unusedVariables false
set_option linter.unusedSimpArgs false
def busbarref5_Cut.f (k : Nat) (l0 : List Int) : Option (Int × Int × List Int × Int × Int) := (busbarref5_GetHead.f k l0).bind fun bt384 => (if bt384.2.2.2 = 0 then (if (l0.length : Int) < (wrap64 (6 + bt384.2.1)) then (some (0, 0, ([] : List Int), 0, 3)) else (if 7 ≤ (wrap64 (6 + bt384.2.1)) then (if (wrap64 (6 + bt384.2.1)) ≤ (l0.length : Int) then (if ([] : List Int).length + ((l0.take ((wrap64 (6 + bt384.2.1)) : Int).toNat).drop 7).length < 140737488355328 then (some (bt384.1, bt384.2.2.1, (([] : List Int) ++ ((l0.take ((wrap64 (6 + bt384.2.1)) : Int).toNat).drop 7)), wrap64 (6 + bt384.2.1), 0)) else (none)) else (none)) else (none))) else (some (0, 0, ([] : List Int), 0, bt384.2.2.2)))
theorem busbarref5_Cut.mono : ∀ a0 k, LeO (busbarref5_Cut.f k a0) (busbarref5_Cut.f (k + 1) a0) := by
 intro a0 k
 unfold busbarref5_Cut.f
 repeat' first
   | (with_reducible exact busbarref5_GetHead.mono _ _)
   | (with_reducible exact LeO.refl _)
   | (with_reducible exact LeO.none _)
   | (with_reducible refine LeO.ite ?_ ?_)
   | (with_reducible refine LeO.bind ?_ (fun _ => ?_))
   | exact busbarref5_GetHead.mono _ _
   | exact LeO.none _
   | refine LeO.ite ?_ ?_
   | refine LeO.bind ?_ (fun _ => ?_)
def busbarref5_Cut.T6 : Bool × List (List Nat × List Nat) := (true, [([], []), ([0], [0]), ([], []), ([2], [2]), ([], []), ([], []), ([5], [5]), ([6], [6]), ([4, 7], [4, 7]), ([8], [8]), ([1, 3, 9], [1, 3, 9]), ([], []), ([11], [11]), ([12], [12]), ([10, 9, 0, 1, 2, 3, 4, 5, 6, 7, 8, 9, 10], [10]), ([13, 14, 0, 1, 2, 3, 4, 5, 6, 7, 8, 9, 10, 11, 12, 13, 14], [13]), ([15, 0, 1, 2, 3, 4, 5, 6, 7, 8, 9, 10, 11, 12, 13, 14, 15], [])])
def busbarref5_Cut.B6 : List Nat := [0, 1, 0, 4, 0, 0, 32, 96, 240, 496, 1023, 0, 2048, 6144, 2047, 32767, 65535]
theorem busbarref5_Cut.tab6 : rtab .any (opsOf Try.f57 6) = busbarref5_Cut.T6 := by kernel_rfl
theorem busbarref5_Cut.bits6 : waitsOk busbarref5_Cut.T6.2 busbarref5_Cut.B6 = true := by kernel_rfl
set_option maxHeartbeats 8000000 in
set_option maxRecDepth 100000 in
theorem busbarref5_Cut.calls (k : Nat) (A0 : Option Addr) (c0 : Nat) (l0 : List Int) (r1 : Int) (r2 : Int) (r3 : List Int) (r4 : Int) (r5 : Int) (w : World) (hr0 : Kd.C (Kd.int .u8) w A0 l0.length l0) (hc0 : l0.length ≤ c0) (h : busbarref5_Cut.f k l0 = some (r1, r2, r3, r4, r5)) :
  Calls Try.prog 57 #[.slice A0 l0.length c0] w fun e w' => ∃ v2_ : Value, e = .returned (.tuple #[.agg #[.int .i64 r1, .int .i64 r2, v2_], .int .i64 r4, .int .i64 r5]) ∧ Kd.R (Kd.int .u8) 5 w' w.heap.size (fun _ => True) v2_ r3 ∧ Below w.heap.size w w' := by
 have hu60 := Try.underlying60
 have hu91 := Try.underlying91
 have HR0 := Aside0.mk hr0
 have HC0 := Aside0.mk hc0
 clear hr0 hc0
 have HB := Aside0.mk (Below.refl w.heap.size w)
 have H : ((busbarref5_GetHead.f k l0).bind fun bt384 => (if bt384.2.2.2 = 0 then (if (l0.length : Int) < (wrap64 (6 + bt384.2.1)) then (some (0, 0, ([] : List Int), 0, 3)) else (if 7 ≤ (wrap64 (6 + bt384.2.1)) then (if (wrap64 (6 + bt384.2.1)) ≤ (l0.length : Int) then (if ([] : List Int).length + ((l0.take ((wrap64 (6 + bt384.2.1)) : Int).toNat).drop 7).length < 140737488355328 then (some (bt384.1, bt384.2.2.1, (([] : List Int) ++ ((l0.take ((wrap64 (6 + bt384.2.1)) : Int).toNat).drop 7)), wrap64 (6 + bt384.2.1), 0)) else (none)) else (none)) else (none))) else (some (0, 0, ([] : List Int), 0, bt384.2.2.2)))) = some (r1, r2, r3, r4, r5) := h
 clear h
 replace H := Option.bind_eq_some_iff.mp H
 obtain ⟨⟨t384, t385, t386, t387⟩, A20, H⟩ := H
 replace H : (if t387 = 0 then (if (l0.length : Int) < (wrap64 (6 + t385)) then (some (0, 0, ([] : List Int), 0, 3)) else (if 7 ≤ (wrap64 (6 + t385)) then (if (wrap64 (6 + t385)) ≤ (l0.length : Int) then (if ([] : List Int).length + ((l0.take ((wrap64 (6 + t385)) : Int).toNat).drop 7).length < 140737488355328 then (some (t384, t386, (([] : List Int) ++ ((l0.take ((wrap64 (6 + t385)) : Int).toNat).drop 7)), wrap64 (6 + t385), 0)) else (none)) else (none)) else (none))) else (some (0, 0, ([] : List Int), 0, t387))) = some (r1, r2, r3, r4, r5) := H
 have A2 := Aside0.mk A20
 clear A20
 by_cases c3 : t387 = 0
 ·
  rw [if_pos c3] at H
  have c3b0 : (t387 == 0) = true := beq_iff_eq.mpr c3
  have c3b1 : (t387 != 0) = false := bne_eq_false_iff_eq.mpr c3
  clear c3
  by_cases c4 : (l0.length : Int) < (wrap64 (6 + t385))
  ·
   rw [if_pos c4] at H
   have c4b0 : decide ((l0.length : Int) < (wrap64 (6 + t385))) = true := decide_eq_true c4
   clear c4
   simp only [Option.some.injEq, Prod.mk.injEq] at H
   obtain ⟨rfl, rfl, rfl, rfl, rfl⟩ := H
   go_enter Try.func57, Try.ntmps57
   go_wp2_with (first | ((with_reducible refine gate_dst (N := 2) rfl ?_); refine box_event ?hg (N := 2) ?hd (cs := #[.int .i64 0, .int .i64 0, .slice none 0 0]) (t := 60) ?hr ?_; (case hd => rfl); (case hg => rfl); (case hr => first | (go_simp; done) | (go_simp; rfl)); intro gb383 hg w5 hbox hb; have n0_ := Aside0.mk (below_step (by repeat (first | (with_reducible first | exact HB.out | apply below_alloc | apply pw_below_drewN | apply below_drew1) | exact HB.out)) hb); have n1_ := Aside0.mk (hbox); have n2_ := Aside0.mk ((by rw [hg]; exact (below_size (by repeat (first | (with_reducible first | exact HB.out | apply below_alloc | apply pw_below_drewN | apply below_drew1) | exact HB.out))) : w.heap.size ≤ gb383)); have n3_ := Aside0.mk ((by rw [hg]; exact (below_size (by repeat (first | (with_reducible first | exact HB.out | apply below_alloc | apply pw_below_drewN | apply below_drew1) | exact HB.out))) : w.heap.size ≤ gb383)); clear HB; have HB := n0_; have BK383 := n1_; have GW383 := n2_; have GE383 := n3_; clear n0_ n1_ n2_ n3_; clear hb hbox hg) | ((with_reducible refine gate_callee (f := 68) rfl ?_); refine goesL_ (some 9) rfl rfl Try.func68 (by kernel_rfl) rfl #[.slice A0 l0.length c0] rfl (by (try simp only [List.map_toArray, List.map_cons, List.map_nil]); first | done | rfl | (simp only [List.length_drop, List.length_take]; rfl)) ?_; (with_reducible refine (busbarref5_GetHead.calls k _ _ l0 t384 t385 t386 t387 _ ?side1 ?side2 A2.out).mono ?_); (case side1 => repeat (first | exact (Kd.C_below HR0.out HB.out) | (with_reducible refine Kd.C_alloc ?_ _) | (with_reducible refine Kd.C_drewN ?_ _) | (with_reducible refine Kd.C_drew ?_))); (case side2 => exact HC0.out); rintro e w6 ⟨rfl, hb⟩; refine ⟨_, rfl, ?_⟩; have n0_ := Aside0.mk (blk_below (g := gb383) (o := .cells #[.int .i64 0, .int .i64 0, .slice none 0 0] 60 (0, 0)) (by (with_reducible repeat (first | refine blk_drewN ?_ _ | refine blk_drew ?_ | refine blk_alloc ?_ _)); exact BK383.out) hb); have n1_ := Aside0.mk (below_step (by repeat (first | (with_reducible first | exact HB.out | apply below_alloc | apply pw_below_drewN | apply below_drew1 | refine below_set ?_ GE383.out) | exact HB.out)) hb); clear BK383; clear HB; have BK383 := n0_; have HB := n1_; clear n0_ n1_; (try clear hb); (try clear hb2); (try clear hk); (try clear hi)) | ((with_reducible refine gate_dst (N := 5) rfl ?_); refine box_event ?hg (N := 5) ?hd (cs := #[.int .i64 0, .int .i64 0, .int .i64 0]) (t := 91) ?hr ?_; (case hd => rfl); (case hg => rfl); (case hr => first | (go_simp; done) | (go_simp; rfl)); intro gb388 hg w7 hbox hb; have n0_ := Aside0.mk (blk_below (g := gb383) (o := .cells #[.int .i64 0, .int .i64 0, .slice none 0 0] 60 (0, 0)) (by (with_reducible repeat (first | refine blk_drewN ?_ _ | refine blk_drew ?_ | refine blk_alloc ?_ _)); exact BK383.out) hb); have n1_ := Aside0.mk (below_step (by repeat (first | (with_reducible first | exact HB.out | apply below_alloc | apply pw_below_drewN | apply below_drew1 | refine below_set ?_ GE383.out) | exact HB.out)) hb); have n2_ := Aside0.mk (hbox); have n3_ := Aside0.mk ((by rw [hg]; exact (below_size (by repeat (first | (with_reducible first | exact HB.out | apply below_alloc | apply pw_below_drewN | apply below_drew1 | refine below_set ?_ GE383.out) | exact HB.out))) : w.heap.size ≤ gb388)); have n4_ := Aside0.mk ((by rw [hg]; exact (below_size (by repeat (first | (with_reducible first | exact HB.out | apply below_alloc | apply pw_below_drewN | apply below_drew1 | refine below_set ?_ GE383.out) | exact HB.out))) : w.heap.size ≤ gb388)); have n5_ := Aside0.mk ((by rw [hg]; exact Nat.ne_of_lt (blk_lt (g := gb383) (o := .cells #[.int .i64 0, .int .i64 0, .slice none 0 0] 60 (0, 0)) (by (with_reducible repeat (first | refine blk_drewN ?_ _ | refine blk_drew ?_ | refine blk_alloc ?_ _)); exact BK383.out)) : gb383 ≠ gb388)); have n6_ := Aside0.mk ((by rw [hg]; exact Nat.ne_of_gt (blk_lt (g := gb383) (o := .cells #[.int .i64 0, .int .i64 0, .slice none 0 0] 60 (0, 0)) (by (with_reducible repeat (first | refine blk_drewN ?_ _ | refine blk_drew ?_ | refine blk_alloc ?_ _)); exact BK383.out)) : gb388 ≠ gb383)); clear BK383; clear HB; have BK383 := n0_; have HB := n1_; have BK388 := n2_; have GW388 := n3_; have GE388 := n4_; have NB383_388 := n5_; have NB388_383 := n6_; clear n0_ n1_ n2_ n3_ n4_ n5_ n6_; clear hb hbox hg; have hnb8 := NB388_383.out; have hnc8 := NB383_388.out; have hcz9_0 : w7.cell? ⟨gb388, 0, none⟩ = some (.int .i64 0) := (blk_cell BK388.out 0).trans rfl; have hcz9_1 : w7.cell? ⟨gb388, 1, none⟩ = some (.int .i64 0) := (blk_cell BK388.out 1).trans rfl; have hcz9_2 : w7.cell? ⟨gb388, 2, none⟩ = some (.int .i64 0) := (blk_cell BK388.out 2).trans rfl; have hfz9_0 := blk_frozen BK388.out 0; have hfz9_1 := blk_frozen BK388.out 1; have hfz9_2 := blk_frozen BK388.out 2; have hcz10_0 : w7.cell? ⟨gb383, 0, none⟩ = some (.int .i64 0) := (blk_cell BK383.out 0).trans rfl; have hcz10_1 : w7.cell? ⟨gb383, 1, none⟩ = some (.int .i64 0) := (blk_cell BK383.out 1).trans rfl; have hcz10_2 : w7.cell? ⟨gb383, 2, none⟩ = some (.slice none 0 0) := (blk_cell BK383.out 2).trans rfl; have hfz10_0 := blk_frozen BK383.out 0; have hfz10_1 := blk_frozen BK383.out 1; have hfz10_2 := blk_frozen BK383.out 2))
   refine bodyPost_ret (results_ctt rfl _ _ gb383 60 #[.int .i64 0, .int .i64 0, .slice none 0 0] (0, 0) _ rfl (by (with_reducible repeat (first | refine blk_drewN ?_ _ | refine blk_drew ?_ | refine blk_alloc ?_ _)); refine blk_put (cs := #[.int .i64 0, .int .i64 0, .slice none 0 0]) ?_ 2 _ rfl; (with_reducible repeat (first | refine blk_drewN ?_ _ | refine blk_drew ?_ | refine blk_alloc ?_ _)); refine blk_put (cs := #[.int .i64 0, .int .i64 0, .slice none 0 0]) ?_ 1 _ rfl; (with_reducible repeat (first | refine blk_drewN ?_ _ | refine blk_drew ?_ | refine blk_alloc ?_ _)); refine blk_put (cs := #[.int .i64 0, .int .i64 0, .slice none 0 0]) ?_ 0 _ rfl; (with_reducible repeat (first | refine blk_drewN ?_ _ | refine blk_drew ?_ | refine blk_alloc ?_ _)); refine blk_far ?_ NB383_388.out _; (with_reducible repeat (first | refine blk_drewN ?_ _ | refine blk_drew ?_ | refine blk_alloc ?_ _)); refine blk_far ?_ NB383_388.out _; (with_reducible repeat (first | refine blk_drewN ?_ _ | refine blk_drew ?_ | refine blk_alloc ?_ _)); refine blk_far ?_ NB383_388.out _; (with_reducible repeat (first | refine blk_drewN ?_ _ | refine blk_drew ?_ | refine blk_alloc ?_ _)); exact BK383.out) Try.underlying60 rfl (by kernel_rfl)) rfl ?_
   exact ⟨_, by first | rfl | (simp [errW_none, errW_some] <;> rfl) | (simp [*, errW_none, errW_some] <;> rfl), by first | exact Kd.R_nil _ _ _ _ _ | exact Kd.N_nil _ _ _ _ _ | exact Kd.V_nil _ _ _ _ _ | exact Kd.Q_nil _ _ _ _ _ | exact Kd.S_nil _ _ _ _ _, by repeat (first | (with_reducible first | exact HB.out | apply below_alloc | apply pw_below_drewN | apply below_drew1 | refine below_set ?_ GE383.out | refine below_set ?_ GE388.out) | exact HB.out)⟩
  ·
   rw [if_neg c4] at H
   have c4b0 : decide ((l0.length : Int) < (wrap64 (6 + t385))) = false := decide_eq_false c4
   clear c4
   by_cases c11 : 7 ≤ (wrap64 (6 + t385))
   ·
    rw [if_pos c11] at H
    have c11b0 := eq_true c11
    have c11b1 : decide (7 ≤ (wrap64 (6 + t385))) = true := decide_eq_true c11
    by_cases c12 : (wrap64 (6 + t385)) ≤ (l0.length : Int)
    ·
     rw [if_pos c12] at H
     have c12b0 := eq_true c12
     have c12b1 : decide ((wrap64 (6 + t385)) ≤ (l0.length : Int)) = true := decide_eq_true c12
     by_cases c13 : ([] : List Int).length + ((l0.take ((wrap64 (6 + t385)) : Int).toNat).drop 7).length < 140737488355328
     ·
      rw [if_pos c13] at H
      have LMc13 := Aside0.mk c13
      clear c13
      obtain ⟨y390, hy390⟩ : ∃ y_ : List Int, y_ = (([] : List Int) ++ ((l0.take ((wrap64 (6 + t385)) : Int).toNat).drop 7)) := ⟨_, rfl⟩
      replace H : (some (t384, t386, y390, wrap64 (6 + t385), 0)) = some (r1, r2, r3, r4, r5) := by first | (rw [hy390]; with_reducible exact H) | (have H2_ := (Option.bind_some _ _).symm.trans H; rw [hy390]; with_reducible exact H2_) | (have H2_ := (Option.bind_some _ _).symm.trans H; with_reducible exact H2_) | with_reducible exact H | (rw [hy390]; exact H) | exact H
      have Ny390 := Aside0.mk hy390
      clear hy390
      simp only [Option.some.injEq, Prod.mk.injEq] at H
      obtain ⟨rfl, rfl, rfl, rfl, rfl⟩ := H
      go_enter Try.func57, Try.ntmps57
      try go_wp2_with (first | ((with_reducible refine gate_dst (N := 2) rfl ?_); refine box_event ?hg (N := 2) ?hd (cs := #[.int .i64 0, .int .i64 0, .slice none 0 0]) (t := 60) ?hr ?_; (case hd => rfl); (case hg => rfl); (case hr => first | (go_simp; done) | (go_simp; rfl)); intro gb383 hg w14 hbox hb; have n0_ := Aside0.mk (below_step (by repeat (first | (with_reducible first | exact HB.out | apply below_alloc | apply pw_below_drewN | apply below_drew1) | exact HB.out)) hb); have n1_ := Aside0.mk (hbox); have n2_ := Aside0.mk ((by rw [hg]; exact (below_size (by repeat (first | (with_reducible first | exact HB.out | apply below_alloc | apply pw_below_drewN | apply below_drew1) | exact HB.out))) : w.heap.size ≤ gb383)); have n3_ := Aside0.mk ((by rw [hg]; exact (below_size (by repeat (first | (with_reducible first | exact HB.out | apply below_alloc | apply pw_below_drewN | apply below_drew1) | exact HB.out))) : w.heap.size ≤ gb383)); clear HB; have HB := n0_; have BK383 := n1_; have GW383 := n2_; have GE383 := n3_; clear n0_ n1_ n2_ n3_; clear hb hbox hg) | ((with_reducible refine gate_callee (f := 68) rfl ?_); refine goesL_ (some 9) rfl rfl Try.func68 (by kernel_rfl) rfl #[.slice A0 l0.length c0] rfl (by (try simp only [List.map_toArray, List.map_cons, List.map_nil]); first | done | rfl | (simp only [List.length_drop, List.length_take]; rfl)) ?_; (with_reducible refine (busbarref5_GetHead.calls k _ _ l0 t384 t385 t386 t387 _ ?side1 ?side2 A2.out).mono ?_); (case side1 => repeat (first | exact (Kd.C_below HR0.out HB.out) | (with_reducible refine Kd.C_alloc ?_ _) | (with_reducible refine Kd.C_drewN ?_ _) | (with_reducible refine Kd.C_drew ?_))); (case side2 => exact HC0.out); rintro e w15 ⟨rfl, hb⟩; refine ⟨_, rfl, ?_⟩; have n0_ := Aside0.mk (blk_below (g := gb383) (o := .cells #[.int .i64 0, .int .i64 0, .slice none 0 0] 60 (0, 0)) (by (with_reducible repeat (first | refine blk_drewN ?_ _ | refine blk_drew ?_ | refine blk_alloc ?_ _)); exact BK383.out) hb); have n1_ := Aside0.mk (below_step (by repeat (first | (with_reducible first | exact HB.out | apply below_alloc | apply pw_below_drewN | apply below_drew1 | refine below_set ?_ GE383.out) | exact HB.out)) hb); clear BK383; clear HB; have BK383 := n0_; have HB := n1_; clear n0_ n1_; (try clear hb); (try clear hb2); (try clear hk); (try clear hi)) | ((with_reducible refine gate_dst (N := 5) rfl ?_); refine box_event ?hg (N := 5) ?hd (cs := #[.int .i64 0, .int .i64 0, .int .i64 0]) (t := 91) ?hr ?_; (case hd => rfl); (case hg => rfl); (case hr => first | (go_simp; done) | (go_simp; rfl)); intro gb388 hg w16 hbox hb; have n0_ := Aside0.mk (blk_below (g := gb383) (o := .cells #[.int .i64 0, .int .i64 0, .slice none 0 0] 60 (0, 0)) (by (with_reducible repeat (first | refine blk_drewN ?_ _ | refine blk_drew ?_ | refine blk_alloc ?_ _)); exact BK383.out) hb); have n1_ := Aside0.mk (below_step (by repeat (first | (with_reducible first | exact HB.out | apply below_alloc | apply pw_below_drewN | apply below_drew1 | refine below_set ?_ GE383.out) | exact HB.out)) hb); have n2_ := Aside0.mk (hbox); have n3_ := Aside0.mk ((by rw [hg]; exact (below_size (by repeat (first | (with_reducible first | exact HB.out | apply below_alloc | apply pw_below_drewN | apply below_drew1 | refine below_set ?_ GE383.out) | exact HB.out))) : w.heap.size ≤ gb388)); have n4_ := Aside0.mk ((by rw [hg]; exact (below_size (by repeat (first | (with_reducible first | exact HB.out | apply below_alloc | apply pw_below_drewN | apply below_drew1 | refine below_set ?_ GE383.out) | exact HB.out))) : w.heap.size ≤ gb388)); have n5_ := Aside0.mk ((by rw [hg]; exact Nat.ne_of_lt (blk_lt (g := gb383) (o := .cells #[.int .i64 0, .int .i64 0, .slice none 0 0] 60 (0, 0)) (by (with_reducible repeat (first | refine blk_drewN ?_ _ | refine blk_drew ?_ | refine blk_alloc ?_ _)); exact BK383.out)) : gb383 ≠ gb388)); have n6_ := Aside0.mk ((by rw [hg]; exact Nat.ne_of_gt (blk_lt (g := gb383) (o := .cells #[.int .i64 0, .int .i64 0, .slice none 0 0] 60 (0, 0)) (by (with_reducible repeat (first | refine blk_drewN ?_ _ | refine blk_drew ?_ | refine blk_alloc ?_ _)); exact BK383.out)) : gb388 ≠ gb383)); clear BK383; clear HB; have BK383 := n0_; have HB := n1_; have BK388 := n2_; have GW388 := n3_; have GE388 := n4_; have NB383_388 := n5_; have NB388_383 := n6_; clear n0_ n1_ n2_ n3_ n4_ n5_ n6_; clear hb hbox hg; have hnb17 := NB388_383.out; have hnc17 := NB383_388.out; have hcz18_0 : w16.cell? ⟨gb388, 0, none⟩ = some (.int .i64 0) := (blk_cell BK388.out 0).trans rfl; have hcz18_1 : w16.cell? ⟨gb388, 1, none⟩ = some (.int .i64 0) := (blk_cell BK388.out 1).trans rfl; have hcz18_2 : w16.cell? ⟨gb388, 2, none⟩ = some (.int .i64 0) := (blk_cell BK388.out 2).trans rfl; have hfz18_0 := blk_frozen BK388.out 0; have hfz18_1 := blk_frozen BK388.out 1; have hfz18_2 := blk_frozen BK388.out 2))
      have n0_ : Aside0 ((((w16.setCell ⟨gb388, 0, none⟩ (.int .i64 t384)).setCell ⟨gb388, 1, none⟩ (.int .i64 t385)).setCell ⟨gb388, 2, none⟩ (.int .i64 t386)).heap[gb383]? = some (.cells #[.int .i64 0, .int .i64 0, .slice none 0 0] 60 (0, 0))) := ⟨by (with_reducible repeat (first | refine blk_drewN ?_ _ | refine blk_drew ?_ | refine blk_alloc ?_ _)); refine blk_far ?_ NB383_388.out _; (with_reducible repeat (first | refine blk_drewN ?_ _ | refine blk_drew ?_ | refine blk_alloc ?_ _)); refine blk_far ?_ NB383_388.out _; (with_reducible repeat (first | refine blk_drewN ?_ _ | refine blk_drew ?_ | refine blk_alloc ?_ _)); refine blk_far ?_ NB383_388.out _; (with_reducible repeat (first | refine blk_drewN ?_ _ | refine blk_drew ?_ | refine blk_alloc ?_ _)); exact BK383.out⟩
      have n1_ : Aside0 ((((w16.setCell ⟨gb388, 0, none⟩ (.int .i64 t384)).setCell ⟨gb388, 1, none⟩ (.int .i64 t385)).setCell ⟨gb388, 2, none⟩ (.int .i64 t386)).heap[gb388]? = some (.cells #[.int .i64 t384, .int .i64 t385, .int .i64 t386] 91 (0, 0))) := ⟨by (with_reducible repeat (first | refine blk_drewN ?_ _ | refine blk_drew ?_ | refine blk_alloc ?_ _)); refine blk_put (cs := #[.int .i64 t384, .int .i64 t385, .int .i64 0]) ?_ 2 _ rfl; (with_reducible repeat (first | refine blk_drewN ?_ _ | refine blk_drew ?_ | refine blk_alloc ?_ _)); refine blk_put (cs := #[.int .i64 t384, .int .i64 0, .int .i64 0]) ?_ 1 _ rfl; (with_reducible repeat (first | refine blk_drewN ?_ _ | refine blk_drew ?_ | refine blk_alloc ?_ _)); refine blk_put (cs := #[.int .i64 0, .int .i64 0, .int .i64 0]) ?_ 0 _ rfl; (with_reducible repeat (first | refine blk_drewN ?_ _ | refine blk_drew ?_ | refine blk_alloc ?_ _)); exact BK388.out⟩
      have n2_ : Aside0 (Below w.heap.size w (((w16.setCell ⟨gb388, 0, none⟩ (.int .i64 t384)).setCell ⟨gb388, 1, none⟩ (.int .i64 t385)).setCell ⟨gb388, 2, none⟩ (.int .i64 t386))) := ⟨by repeat (first | (with_reducible first | exact HB.out | apply below_alloc | apply pw_below_drewN | apply below_drew1 | refine below_set ?_ GE383.out | refine below_set ?_ GE388.out) | exact HB.out)⟩
      (try clear BK383)
      (try clear BK388)
      (try clear HB)
      first | (rw [drewN_self (((w16.setCell ⟨gb388, 0, none⟩ (.int .i64 t384)).setCell ⟨gb388, 1, none⟩ (.int .i64 t385)).setCell ⟨gb388, 2, none⟩ (.int .i64 t386))]; generalize hq_ : World.drewN (((w16.setCell ⟨gb388, 0, none⟩ (.int .i64 t384)).setCell ⟨gb388, 1, none⟩ (.int .i64 t385)).setCell ⟨gb388, 2, none⟩ (.int .i64 t386)) _ = w19; have m0_ : Aside0 (w19.heap[gb383]? = some (.cells #[.int .i64 0, .int .i64 0, .slice none 0 0] 60 (0, 0))) := ⟨by rw [← hq_]; first | exact Kd.R_drewN n0_.out _ | exact Kd.Q_drewN n0_.out _ | exact blk_drewN n0_.out _ | exact pw_below_drewN n0_.out _ | exact Kd.S_drewN n0_.out _ | exact n0_.out⟩; have m1_ : Aside0 (w19.heap[gb388]? = some (.cells #[.int .i64 t384, .int .i64 t385, .int .i64 t386] 91 (0, 0))) := ⟨by rw [← hq_]; first | exact Kd.R_drewN n1_.out _ | exact Kd.Q_drewN n1_.out _ | exact blk_drewN n1_.out _ | exact pw_below_drewN n1_.out _ | exact Kd.S_drewN n1_.out _ | exact n1_.out⟩; have m2_ : Aside0 (Below w.heap.size w w19) := ⟨by rw [← hq_]; first | exact Kd.R_drewN n2_.out _ | exact Kd.Q_drewN n2_.out _ | exact blk_drewN n2_.out _ | exact pw_below_drewN n2_.out _ | exact Kd.S_drewN n2_.out _ | exact n2_.out⟩; clear hq_ n0_ n1_ n2_; have n0_ := m0_; have n1_ := m1_; have n2_ := m2_; clear m0_ m1_ m2_) | (generalize (((w16.setCell ⟨gb388, 0, none⟩ (.int .i64 t384)).setCell ⟨gb388, 1, none⟩ (.int .i64 t385)).setCell ⟨gb388, 2, none⟩ (.int .i64 t386)) = w19 at n0_ n1_ n2_ ⊢)
      have BK383 := n0_
      have BK388 := n1_
      have HB := n2_
      clear n0_ n1_ n2_
      have n0_ := Aside0.mk (blk_drew BK383.out)
      have n1_ := Aside0.mk (blk_drew BK388.out)
      have n2_ := Aside0.mk (below_drew1 HB.out)
      clear BK383
      clear BK388
      clear HB
      have BK383 := n0_
      have BK388 := n1_
      have HB := n2_
      clear n0_ n1_ n2_
      obtain ⟨i021, hi021, _, hsz21, _⟩ := info_parts info5
      obtain ⟨A21, hcut21, hA21, hC21⟩ := print_mid_of (P := Try.prog) (Value.int .u8) 0 30 5 .i64 .i64 Try.underlying30 hi021 hsz21 A0 c0 l0 7 (wrap64 (6 + t385)) (by omega) (by first | omega | exact of_decide_eq_true (by first | (with_reducible assumption) | assumption)) (of_decide_eq_true (by first | (with_reducible assumption) | assumption)) HC0.out
      have HR389 := Aside0.mk (Kd.C_of_reads (h1 := fun _ => rfl) (hA21 _ (Kd.reads_of_C HR0.out)))
      have HC389 := Aside0.mk hC21
      clear hA21 hC21 hi021 hsz21
      refine start_ (n := 17) (S := fun w' => w'.cell? ⟨gb388, 0, none⟩ = some (.int .i64 t384) ∧ w'.cell? ⟨gb388, 1, none⟩ = some (.int .i64 t385) ∧ w'.cell? ⟨gb388, 2, none⟩ = some (.int .i64 t386)) (ds := []) #[false,false,false,false,false,false,false,false,false,false,false,false,false,false,false,false,false] (by kernel_rfl) rfl rfl ⟨(blk_cell BK388.out 0).trans rfl, (blk_cell BK388.out 1).trans rfl, (blk_cell BK388.out 2).trans rfl⟩ (fun hHeld => ?_); refine with_tabW busbarref5_Cut.tab6 busbarref5_Cut.bits6 (fun HT_ HW_ => ?_)
      generalize w19.drew = w20 at BK383 BK388 HB HR389 hHeld ⊢
      refine pure_ (i := 0) (N := some 23) (v := ?_) (a' := ?_) #[true,false,false,false,false,false,false,false,false,false,false,false,false,false,false,false,false] rfl rfl (any_of HT_.out (by kernel_rfl)) (fun _ _ _ h => h) (Or.inl ⟨by rfl, ?_⟩) ?_ ?_
      rotate_left
      ·
       intro w'
       go_simp
       with_reducible rfl
      rotate_left
      ·
       simp only [Act.put, List.setIfInBounds_toArray, List.set_cons_zero, List.set_cons_succ, i64_w, i32_w]
       rfl
      refine pure_ (i := 2) (N := some 25) (v := ?_) (a' := ?_) #[true,false,true,false,false,false,false,false,false,false,false,false,false,false,false,false,false] rfl rfl (any_of HT_.out (by kernel_rfl)) (fun _ _ _ h => h) (Or.inl ⟨by rfl, ?_⟩) ?_ ?_
      rotate_left
      ·
       intro w'
       go_simp
       with_reducible rfl
      rotate_left
      ·
       simp only [Act.put, List.setIfInBounds_toArray, List.set_cons_zero, List.set_cons_succ, i64_w, i32_w]
       rfl
      refine pure_ (i := 4) (N := some 27) (v := ?_) (a' := ?_) #[true,false,true,false,true,false,false,false,false,false,false,false,false,false,false,false,false] rfl rfl (any_of HT_.out (by kernel_rfl)) (fun _ _ _ h => h) (Or.inl ⟨by rfl, ?_⟩) ?_ ?_
      rotate_left
      ·
       intro w'
       go_simp
       with_reducible rfl
      rotate_left
      ·
       simp only [Act.put, List.setIfInBounds_toArray, List.set_cons_zero, List.set_cons_succ, i64_w, i32_w]
       rfl
      refine pure_ (i := 5) (N := some 28) (v := ?_) (a' := ?_) #[true,false,true,false,true,true,false,false,false,false,false,false,false,false,false,false,false] rfl rfl (any_of HT_.out (by kernel_rfl)) (fun _ _ _ h => h) (Or.inl ⟨by rfl, ?_⟩) ?_ ?_
      rotate_left
      ·
       intro w'
       go_simp
       with_reducible rfl
      rotate_left
      ·
       simp only [Act.put, List.setIfInBounds_toArray, List.set_cons_zero, List.set_cons_succ, i64_w, i32_w]
       rfl
      refine pure_ (i := 11) (N := some 34) (v := ?_) (a' := ?_) #[true,false,true,false,true,true,false,false,false,false,false,true,false,false,false,false,false] rfl rfl (any_of HT_.out (by kernel_rfl)) (fun _ _ _ h => h) (Or.inl ⟨by rfl, ?_⟩) ?_ ?_
      rotate_left
      ·
       intro w'
       go_simp
       with_reducible rfl
      rotate_left
      ·
       simp only [Act.put, List.setIfInBounds_toArray, List.set_cons_zero, List.set_cons_succ, i64_w, i32_w]
       rfl
      refine take_ (i := 1) (N := some 24) (v := ?_) (a' := ?_) #[true,true,true,false,true,true,false,false,false,false,false,true,false,false,false,false,false] rfl rfl (take_ofW HT_.out HW_.out (by kernel_rfl)) (fun _ _ _ h => h) (Or.inl ⟨by rfl, ?_⟩) hHeld ?_ ?_
      rotate_left
      ·
       rintro w' ⟨s0, s1, s2⟩
       go_simp
       with_reducible rfl
      rotate_left
      ·
       simp only [Act.put, List.setIfInBounds_toArray, List.set_cons_zero, List.set_cons_succ, i64_w, i32_w]
       rfl
      refine take_ (i := 3) (N := some 26) (v := ?_) (a' := ?_) #[true,true,true,true,true,true,false,false,false,false,false,true,false,false,false,false,false] rfl rfl (take_ofW HT_.out HW_.out (by kernel_rfl)) (fun _ _ _ h => h) (Or.inl ⟨by rfl, ?_⟩) hHeld ?_ ?_
      rotate_left
      ·
       rintro w' ⟨s0, s1, s2⟩
       go_simp
       with_reducible rfl
      rotate_left
      ·
       simp only [Act.put, List.setIfInBounds_toArray, List.set_cons_zero, List.set_cons_succ, i64_w, i32_w]
       rfl
      refine take_ (i := 6) (N := some 29) (v := ?_) (a' := ?_) #[true,true,true,true,true,true,true,false,false,false,false,true,false,false,false,false,false] rfl rfl (take_ofW HT_.out HW_.out (by kernel_rfl)) (fun _ _ _ h => h) (Or.inl ⟨by rfl, ?_⟩) hHeld ?_ ?_
      rotate_left
      ·
       rintro w' ⟨s0, s1, s2⟩
       go_simp
       with_reducible rfl
      rotate_left
      ·
       simp only [Act.put, List.setIfInBounds_toArray, List.set_cons_zero, List.set_cons_succ, i64_w, i32_w]
       rfl
      refine pure_ (i := 7) (N := some 30) (v := ?_) (a' := ?_) #[true,true,true,true,true,true,true,true,false,false,false,true,false,false,false,false,false] rfl rfl (any_of HT_.out (by kernel_rfl)) (fun _ _ _ h => h) (Or.inl ⟨by rfl, ?_⟩) ?_ ?_
      rotate_left
      ·
       intro w'
       go_simp
       with_reducible rfl
      rotate_left
      ·
       simp only [Act.put, List.setIfInBounds_toArray, List.set_cons_zero, List.set_cons_succ, i64_w, i32_w]
       rfl
      refine pure_ (i := 8) (N := some 31) (v := ?_) (a' := ?_) #[true,true,true,true,true,true,true,true,true,false,false,true,false,false,false,false,false] rfl rfl (any_of HT_.out (by kernel_rfl)) (fun _ _ _ h => h) (Or.inl ⟨by rfl, ?_⟩) ?_ ?_
      rotate_left
      ·
       intro w'
       go_simp
       with_reducible rfl
      rotate_left
      ·
       simp only [Act.put, List.setIfInBounds_toArray, List.set_cons_zero, List.set_cons_succ, i64_w, i32_w]
       rfl
      refine take_ (i := 12) (N := some 35) (v := ?_) (a' := ?_) #[true,true,true,true,true,true,true,true,true,false,false,true,true,false,false,false,false] rfl rfl (take_ofW HT_.out HW_.out (by kernel_rfl)) (fun _ _ _ h => h) (Or.inl ⟨by rfl, ?_⟩) hHeld ?_ ?_
      rotate_left
      ·
       rintro w' ⟨s0, s1, s2⟩
       go_simp
       with_reducible rfl
      rotate_left
      ·
       simp only [Act.put, List.setIfInBounds_toArray, List.set_cons_zero, List.set_cons_succ, i64_w, i32_w]
       rfl
      refine pure_ (i := 13) (N := some 36) (v := ?_) (a' := ?_) #[true,true,true,true,true,true,true,true,true,false,false,true,true,true,false,false,false] rfl rfl (any_of HT_.out (by kernel_rfl)) (fun _ _ _ h => h) (Or.inl ⟨by rfl, ?_⟩) ?_ ?_
      rotate_left
      ·
       intro w'
       go_simp
       with_reducible rfl
      rotate_left
      ·
       simp only [Act.put, List.setIfInBounds_toArray, List.set_cons_zero, List.set_cons_succ, i64_w, i32_w]
       rfl
      refine one_ (i := 9) (N := some 32) #[true,true,true,true,true,true,true,true,true,true,false,true,true,true,false,false,false] rfl rfl (one_of HT_.out (by kernel_rfl)) (by decide) (fun K hK => ?_)
      refine Kd.R_append_rows_step (Kd.int .u8) (w0 := w) w.heap.size (by rfl) (.const (.slice none 0 0)) (.tmp 31) 30 5 (.int .u8 0) 1 rfl Try.underlying30 info5 rfl (by decide) (by omega) (.slice none 0 0) ([] : List Int) ((l0.take ((wrap64 (6 + t385)) : Int).toNat).drop 7) _ _ _ (fun _ => True) (fun _ => False) rfl rfl ?aO ?aR (fun _ _ h => h) (fun _ h => h.elim) ?aF ?aB ?aS ?aL ?_
      (case aR => first | (rw [← show ((l0.take ((wrap64 (6 + t385)) : Int).toNat).drop 7).length = ((wrap64 (6 + t385)).toNat - 7) from (by rw [List.length_drop, List.length_take]; have h_ : ((wrap64 (6 + t385)) : Int) ≤ (l0.length : Int) := of_decide_eq_true (by first | (with_reducible assumption) | assumption); omega)]; repeat (first | exact (Kd.C_below HR389.out HB.out) | (with_reducible refine Kd.C_alloc ?_ _) | (with_reducible refine Kd.C_drewN ?_ _) | (with_reducible refine Kd.C_drew ?_))) | (repeat (first | exact (Kd.C_below HR389.out HB.out) | (with_reducible refine Kd.C_alloc ?_ _) | (with_reducible refine Kd.C_drewN ?_ _) | (with_reducible refine Kd.C_drew ?_))))
      (case aB => exact (by repeat (first | (with_reducible first | exact HB.out | apply below_alloc | apply pw_below_drewN | apply below_drew1 | refine below_set ?_ GE383.out | refine below_set ?_ GE388.out) | exact HB.out)))
      (case aF => exact (fun _ _ => trivial))
      (case aO => exact ((Kd.R_nil _ _ _ _ (fun _ => True))))
      (case aS => exact (below_size (by repeat (first | (with_reducible first | exact HB.out | apply below_alloc | apply pw_below_drewN | apply below_drew1 | refine below_set ?_ GE383.out | refine below_set ?_ GE388.out) | exact HB.out))))
      (case aL => have := LMc13.out; have hlx_ := (show ((l0.take ((wrap64 (6 + t385)) : Int).toNat).drop 7).length = ((wrap64 (6 + t385)).toNat - 7) from (by rw [List.length_drop, List.length_take]; have h_ : ((wrap64 (6 + t385)) : Int) ≤ (l0.length : Int) := of_decide_eq_true (by first | (with_reducible assumption) | assumption); omega)); omega)
      intro v391 w22 ho hb hg hat
      rw [← Ny390.out] at ho
      have n0_ := Aside0.mk (blk_grown (g := gb383) (o := .cells #[.int .i64 0, .int .i64 0, .slice none 0 0] 60 (0, 0)) (by (with_reducible repeat (first | refine blk_drewN ?_ _ | refine blk_drew ?_ | refine blk_alloc ?_ _)); exact BK383.out) hg (by simp [Value.ownBlock]))
      have n1_ := Aside0.mk (blk_grown (g := gb388) (o := .cells #[.int .i64 t384, .int .i64 t385, .int .i64 t386] 91 (0, 0)) (by (with_reducible repeat (first | refine blk_drewN ?_ _ | refine blk_drew ?_ | refine blk_alloc ?_ _)); exact BK388.out) hg (by simp [Value.ownBlock]))
      have n2_ := Aside0.mk (hb)
      have n3_ := Aside0.mk (ho)
      clear BK383
      clear BK388
      clear HB
      have BK383 := n0_
      have BK388 := n1_
      have HB := n2_
      have HO392 := n3_
      clear n0_ n1_ n2_ n3_
      clear ho hb hg hat
      obtain ⟨Ao23, co23, eo23⟩ := Kd.R_slice HO392.out
      (first | subst eo23 | (injection eo23 with f1_ f2_ f3_; have f4_ := f1_.symm; have f5_ := f3_.symm; clear f1_ f2_ f3_; subst f4_; subst f5_))
      refine hK.out _ _ ⟨(blk_cell BK388.out 0).trans rfl, (blk_cell BK388.out 1).trans rfl, (blk_cell BK388.out 2).trans rfl⟩ (fun hHeld => ?_)
      clear hK K
      refine norm_ (a' := ?_) ?_ ?_
      rotate_left
      ·
       show Act.put _ (some 32) _ = _
       simp only [Act.put, List.setIfInBounds_toArray, List.set_cons_zero, List.set_cons_succ, i64_w, i32_w]
       rfl
      refine pure_ (i := 10) (N := some 33) (v := ?_) (a' := ?_) #[true,true,true,true,true,true,true,true,true,true,true,true,true,true,false,false,false] rfl rfl (any_of HT_.out (by kernel_rfl)) (fun _ _ _ h => h) (Or.inl ⟨by rfl, ?_⟩) ?_ ?_
      rotate_left
      ·
       intro w'
       go_simp
       with_reducible rfl
      rotate_left
      ·
       simp only [Act.put, List.setIfInBounds_toArray, List.set_cons_zero, List.set_cons_succ, i64_w, i32_w]
       rfl
      refine one_ (i := 14) (N := none) #[true,true,true,true,true,true,true,true,true,true,true,true,true,true,true,false,false] rfl rfl (one_of HT_.out (by kernel_rfl)) (by decide) (fun K hK => ?_)
      have hs24 : w22.cell? ⟨gb383, 0, none⟩ = some (.int .i64 0) := (blk_cell BK383.out 0).trans rfl
      have hfs24 := blk_frozen BK383.out 0
      have hns24_1 := NB388_383.out
      have hms24_1 := NB383_388.out
      have hs25 : w22.cell? ⟨gb383, 1, none⟩ = some (.int .i64 0) := (blk_cell BK383.out 1).trans rfl
      have hfs25 := blk_frozen BK383.out 1
      have hns25_1 := NB388_383.out
      have hms25_1 := NB383_388.out
      have hs26 : w22.cell? ⟨gb383, 2, none⟩ = some (.slice none 0 0) := (blk_cell BK383.out 2).trans rfl
      have hfs26 := blk_frozen BK383.out 2
      have hns26_1 := NB388_383.out
      have hms26_1 := NB383_388.out
      refine skip_ (w1 := ?_) (by rfl) rfl ?_ ?_
      rotate_left
      ·
       go_simp
       rfl
      refine hK.out _ _ ⟨((cell_far (p := ⟨gb383, _, none⟩) NB388_383.out _).trans (((cell_far (p := ⟨gb383, _, none⟩) NB388_383.out _).trans (((cell_far (p := ⟨gb383, _, none⟩) NB388_383.out _).trans (hHeld.1)))))), ((cell_far (p := ⟨gb383, _, none⟩) NB388_383.out _).trans (((cell_far (p := ⟨gb383, _, none⟩) NB388_383.out _).trans (((cell_far (p := ⟨gb383, _, none⟩) NB388_383.out _).trans (hHeld.2.1)))))), ((cell_far (p := ⟨gb383, _, none⟩) NB388_383.out _).trans (((cell_far (p := ⟨gb383, _, none⟩) NB388_383.out _).trans (((cell_far (p := ⟨gb383, _, none⟩) NB388_383.out _).trans (hHeld.2.2))))))⟩ (fun hHeld => ?_)
      clear hK K
      refine pure_ (i := 15) (N := some 3) (v := ?_) (a' := ?_) #[true,true,true,true,true,true,true,true,true,true,true,true,true,true,true,true,false] rfl rfl (any_of HT_.out (by kernel_rfl)) (fun _ _ _ h => h) (Or.inl ⟨by rfl, ?_⟩) ?_ ?_
      rotate_left
      ·
       intro w'
       go_simp
       with_reducible rfl
      rotate_left
      ·
       simp only [Act.put, List.setIfInBounds_toArray, List.set_cons_zero, List.set_cons_succ, i64_w, i32_w]
       rfl
      refine pure_ (i := 16) (N := some 4) (v := ?_) (a' := ?_) #[true,true,true,true,true,true,true,true,true,true,true,true,true,true,true,true,true] rfl rfl (any_of HT_.out (by kernel_rfl)) (fun _ _ _ h => h) (Or.inl ⟨by rfl, ?_⟩) ?_ ?_
      rotate_left
      ·
       intro w'
       go_simp
       with_reducible rfl
      rotate_left
      ·
       simp only [Act.put, List.setIfInBounds_toArray, List.set_cons_zero, List.set_cons_succ, i64_w, i32_w]
       rfl
      refine done_ (done_of HT_.out (by kernel_rfl)) ?_
      try go_wp2
      refine bodyPost_ret (results_ctt rfl _ _ gb383 60 #[.int .i64 t384, .int .i64 t386, .slice Ao23 y390.length co23] (0, 0) _ rfl (by (with_reducible repeat (first | refine blk_drewN ?_ _ | refine blk_drew ?_ | refine blk_alloc ?_ _)); refine blk_put (cs := #[.int .i64 t384, .int .i64 t386, .slice none 0 0]) ?_ 2 _ rfl; (with_reducible repeat (first | refine blk_drewN ?_ _ | refine blk_drew ?_ | refine blk_alloc ?_ _)); refine blk_put (cs := #[.int .i64 t384, .int .i64 0, .slice none 0 0]) ?_ 1 _ rfl; (with_reducible repeat (first | refine blk_drewN ?_ _ | refine blk_drew ?_ | refine blk_alloc ?_ _)); refine blk_put (cs := #[.int .i64 0, .int .i64 0, .slice none 0 0]) ?_ 0 _ rfl; (with_reducible repeat (first | refine blk_drewN ?_ _ | refine blk_drew ?_ | refine blk_alloc ?_ _)); exact BK383.out) Try.underlying60 rfl (by kernel_rfl)) rfl ?_
      exact ⟨_, by first | rfl | (simp [errW_none, errW_some] <;> rfl) | (simp [*, errW_none, errW_some] <;> rfl), by (with_reducible repeat (first | apply Kd.R_alloc | apply Kd.R_drewN | apply Kd.R_drew)); exact Kd.R_mono (Kd.R_far (p := ⟨gb383, 2, none⟩) (Kd.R_far (p := ⟨gb383, 1, none⟩) (Kd.R_far (p := ⟨gb383, 0, none⟩) (Kd.R_types HO392.out BK383.out (by decide)) (fun _ hk => hk.2) (.int .i64 t384)) (fun _ hk => hk.2) (.int .i64 t386)) (fun _ hk => hk.2) (.slice Ao23 y390.length co23)) (fun _ hk => trivial), by repeat (first | (with_reducible first | exact HB.out | apply below_alloc | apply pw_below_drewN | apply below_drew1 | refine below_set ?_ GE383.out | refine below_set ?_ GE388.out) | exact HB.out)⟩
     ·
      rw [if_neg c13] at H
      exact absurd H (by simp)
    ·
     rw [if_neg c12] at H
     exact absurd H (by simp)
   ·
    rw [if_neg c11] at H
    exact absurd H (by simp)
 ·
  rw [if_neg c3] at H
  have c3b0 : (t387 == 0) = false := beq_eq_false_iff_ne.mpr c3
  have c3b1 : (t387 != 0) = true := bne_iff_ne.mpr c3
  simp only [Option.some.injEq, Prod.mk.injEq] at H
  obtain ⟨rfl, rfl, rfl, rfl, rfl⟩ := H
  go_enter Try.func57, Try.ntmps57
  go_wp2_with (first | ((with_reducible refine gate_dst (N := 2) rfl ?_); refine box_event ?hg (N := 2) ?hd (cs := #[.int .i64 0, .int .i64 0, .slice none 0 0]) (t := 60) ?hr ?_; (case hd => rfl); (case hg => rfl); (case hr => first | (go_simp; done) | (go_simp; rfl)); intro gb383 hg w27 hbox hb; have n0_ := Aside0.mk (below_step (by repeat (first | (with_reducible first | exact HB.out | apply below_alloc | apply pw_below_drewN | apply below_drew1) | exact HB.out)) hb); have n1_ := Aside0.mk (hbox); have n2_ := Aside0.mk ((by rw [hg]; exact (below_size (by repeat (first | (with_reducible first | exact HB.out | apply below_alloc | apply pw_below_drewN | apply below_drew1) | exact HB.out))) : w.heap.size ≤ gb383)); have n3_ := Aside0.mk ((by rw [hg]; exact (below_size (by repeat (first | (with_reducible first | exact HB.out | apply below_alloc | apply pw_below_drewN | apply below_drew1) | exact HB.out))) : w.heap.size ≤ gb383)); clear HB; have HB := n0_; have BK383 := n1_; have GW383 := n2_; have GE383 := n3_; clear n0_ n1_ n2_ n3_; clear hb hbox hg) | ((with_reducible refine gate_callee (f := 68) rfl ?_); refine goesL_ (some 9) rfl rfl Try.func68 (by kernel_rfl) rfl #[.slice A0 l0.length c0] rfl (by (try simp only [List.map_toArray, List.map_cons, List.map_nil]); first | done | rfl | (simp only [List.length_drop, List.length_take]; rfl)) ?_; (with_reducible refine (busbarref5_GetHead.calls k _ _ l0 t384 t385 t386 t387 _ ?side1 ?side2 A2.out).mono ?_); (case side1 => repeat (first | exact (Kd.C_below HR0.out HB.out) | (with_reducible refine Kd.C_alloc ?_ _) | (with_reducible refine Kd.C_drewN ?_ _) | (with_reducible refine Kd.C_drew ?_))); (case side2 => exact HC0.out); rintro e w28 ⟨rfl, hb⟩; refine ⟨_, rfl, ?_⟩; have n0_ := Aside0.mk (blk_below (g := gb383) (o := .cells #[.int .i64 0, .int .i64 0, .slice none 0 0] 60 (0, 0)) (by (with_reducible repeat (first | refine blk_drewN ?_ _ | refine blk_drew ?_ | refine blk_alloc ?_ _)); exact BK383.out) hb); have n1_ := Aside0.mk (below_step (by repeat (first | (with_reducible first | exact HB.out | apply below_alloc | apply pw_below_drewN | apply below_drew1 | refine below_set ?_ GE383.out) | exact HB.out)) hb); clear BK383; clear HB; have BK383 := n0_; have HB := n1_; clear n0_ n1_; (try clear hb); (try clear hb2); (try clear hk); (try clear hi)) | ((with_reducible refine gate_dst (N := 5) rfl ?_); refine box_event ?hg (N := 5) ?hd (cs := #[.int .i64 0, .int .i64 0, .int .i64 0]) (t := 91) ?hr ?_; (case hd => rfl); (case hg => rfl); (case hr => first | (go_simp; done) | (go_simp; rfl)); intro gb388 hg w29 hbox hb; have n0_ := Aside0.mk (blk_below (g := gb383) (o := .cells #[.int .i64 0, .int .i64 0, .slice none 0 0] 60 (0, 0)) (by (with_reducible repeat (first | refine blk_drewN ?_ _ | refine blk_drew ?_ | refine blk_alloc ?_ _)); exact BK383.out) hb); have n1_ := Aside0.mk (below_step (by repeat (first | (with_reducible first | exact HB.out | apply below_alloc | apply pw_below_drewN | apply below_drew1 | refine below_set ?_ GE383.out) | exact HB.out)) hb); have n2_ := Aside0.mk (hbox); have n3_ := Aside0.mk ((by rw [hg]; exact (below_size (by repeat (first | (with_reducible first | exact HB.out | apply below_alloc | apply pw_below_drewN | apply below_drew1 | refine below_set ?_ GE383.out) | exact HB.out))) : w.heap.size ≤ gb388)); have n4_ := Aside0.mk ((by rw [hg]; exact (below_size (by repeat (first | (with_reducible first | exact HB.out | apply below_alloc | apply pw_below_drewN | apply below_drew1 | refine below_set ?_ GE383.out) | exact HB.out))) : w.heap.size ≤ gb388)); have n5_ := Aside0.mk ((by rw [hg]; exact Nat.ne_of_lt (blk_lt (g := gb383) (o := .cells #[.int .i64 0, .int .i64 0, .slice none 0 0] 60 (0, 0)) (by (with_reducible repeat (first | refine blk_drewN ?_ _ | refine blk_drew ?_ | refine blk_alloc ?_ _)); exact BK383.out)) : gb383 ≠ gb388)); have n6_ := Aside0.mk ((by rw [hg]; exact Nat.ne_of_gt (blk_lt (g := gb383) (o := .cells #[.int .i64 0, .int .i64 0, .slice none 0 0] 60 (0, 0)) (by (with_reducible repeat (first | refine blk_drewN ?_ _ | refine blk_drew ?_ | refine blk_alloc ?_ _)); exact BK383.out)) : gb388 ≠ gb383)); clear BK383; clear HB; have BK383 := n0_; have HB := n1_; have BK388 := n2_; have GW388 := n3_; have GE388 := n4_; have NB383_388 := n5_; have NB388_383 := n6_; clear n0_ n1_ n2_ n3_ n4_ n5_ n6_; clear hb hbox hg; have hnb30 := NB388_383.out; have hnc30 := NB383_388.out; have hcz31_0 : w29.cell? ⟨gb388, 0, none⟩ = some (.int .i64 0) := (blk_cell BK388.out 0).trans rfl; have hcz31_1 : w29.cell? ⟨gb388, 1, none⟩ = some (.int .i64 0) := (blk_cell BK388.out 1).trans rfl; have hcz31_2 : w29.cell? ⟨gb388, 2, none⟩ = some (.int .i64 0) := (blk_cell BK388.out 2).trans rfl; have hfz31_0 := blk_frozen BK388.out 0; have hfz31_1 := blk_frozen BK388.out 1; have hfz31_2 := blk_frozen BK388.out 2; have hcz32_0 : w29.cell? ⟨gb383, 0, none⟩ = some (.int .i64 0) := (blk_cell BK383.out 0).trans rfl; have hcz32_1 : w29.cell? ⟨gb383, 1, none⟩ = some (.int .i64 0) := (blk_cell BK383.out 1).trans rfl; have hcz32_2 : w29.cell? ⟨gb383, 2, none⟩ = some (.slice none 0 0) := (blk_cell BK383.out 2).trans rfl; have hfz32_0 := blk_frozen BK383.out 0; have hfz32_1 := blk_frozen BK383.out 1; have hfz32_2 := blk_frozen BK383.out 2))
  refine bodyPost_ret (results_ctt rfl _ _ gb383 60 #[.int .i64 0, .int .i64 0, .slice none 0 0] (0, 0) _ rfl (by (with_reducible repeat (first | refine blk_drewN ?_ _ | refine blk_drew ?_ | refine blk_alloc ?_ _)); refine blk_put (cs := #[.int .i64 0, .int .i64 0, .slice none 0 0]) ?_ 2 _ rfl; (with_reducible repeat (first | refine blk_drewN ?_ _ | refine blk_drew ?_ | refine blk_alloc ?_ _)); refine blk_put (cs := #[.int .i64 0, .int .i64 0, .slice none 0 0]) ?_ 1 _ rfl; (with_reducible repeat (first | refine blk_drewN ?_ _ | refine blk_drew ?_ | refine blk_alloc ?_ _)); refine blk_put (cs := #[.int .i64 0, .int .i64 0, .slice none 0 0]) ?_ 0 _ rfl; (with_reducible repeat (first | refine blk_drewN ?_ _ | refine blk_drew ?_ | refine blk_alloc ?_ _)); refine blk_far ?_ NB383_388.out _; (with_reducible repeat (first | refine blk_drewN ?_ _ | refine blk_drew ?_ | refine blk_alloc ?_ _)); refine blk_far ?_ NB383_388.out _; (with_reducible repeat (first | refine blk_drewN ?_ _ | refine blk_drew ?_ | refine blk_alloc ?_ _)); refine blk_far ?_ NB383_388.out _; (with_reducible repeat (first | refine blk_drewN ?_ _ | refine blk_drew ?_ | refine blk_alloc ?_ _)); exact BK383.out) Try.underlying60 rfl (by kernel_rfl)) rfl ?_
  exact ⟨_, by first | rfl | (simp [errW_none, errW_some] <;> rfl) | (simp [*, errW_none, errW_some] <;> rfl), by first | exact Kd.R_nil _ _ _ _ _ | exact Kd.N_nil _ _ _ _ _ | exact Kd.V_nil _ _ _ _ _ | exact Kd.Q_nil _ _ _ _ _ | exact Kd.S_nil _ _ _ _ _, by repeat (first | (with_reducible first | exact HB.out | apply below_alloc | apply pw_below_drewN | apply below_drew1 | refine below_set ?_ GE383.out | refine below_set ?_ GE388.out) | exact HB.out)⟩
end Go.Proofs.Ytakiojmjalbfpaa.PFlow
namespace Go.Proofs.Ytakiojmjalbfpaa.PFlow
open Go.RowKit Go.Proofs.YtakiojmjalbfpaaW.PrintWords Go.Proofs.YtakiojmjalbfpaaW.PrintLast Go.Proofs.YtakiojmjalbfpaaW.PrintMore
attribute [local go_sem] max2_int min2_int max_two min_two max_three min_three max_four min_four plus_setCell_drewN plus_cell_same   -- for this text's walks alone
set_option linter.unusedVariables false
set_option linter.unusedSimpArgs false
def word_Put.f (l0 : List Int) (a1 : Int) : Option (List Int) := if 0 ≤ (wrap64 ((l0.length : Int) + 2)) then (if (wrap64 ((l0.length : Int) + 2) : Int).toNat ≤ 281474976710656 then ((some (List.replicate 0 0 : List Int)).bind fun y393 => (if y393.length + l0.length < 140737488355328 then ((some (y393 ++ l0 : List Int)).bind fun y396 => ((some (([(a1 / 256) % 256, (a1) % 256] : List Int) : List Int)).bind fun y399 => (if y396.length + y399.length < 140737488355328 then (some (y396 ++ y399)) else (none)))) else (none))) else (none)) else (none)
set_option maxHeartbeats 8000000 in
set_option maxRecDepth 100000 in
theorem word_Put.calls (A0 : Option Addr) (c0 : Nat) (l0 : List Int) (a1 : Int) (r : List Int) (w : World) (hr0 : Kd.C (Kd.int .u8) w A0 l0.length l0) (hc0 : l0.length ≤ c0) (h : word_Put.f l0 a1 = some r) :
  Calls Try.prog 66 #[.slice A0 l0.length c0, .int .u16 a1] w fun e w' => ∃ v0_ : Value, e = .returned (v0_) ∧ Kd.R (Kd.int .u8) 5 w' w.heap.size (fun _ => True) v0_ r ∧ Below w.heap.size w w' := by
 have HR0 := Aside0.mk hr0
 have HC0 := Aside0.mk hc0
 clear hr0 hc0
 have HB := Aside0.mk (Below.refl w.heap.size w)
 have H : (if 0 ≤ (wrap64 ((l0.length : Int) + 2)) then (if (wrap64 ((l0.length : Int) + 2) : Int).toNat ≤ 281474976710656 then ((some (List.replicate 0 0 : List Int)).bind fun y393 => (if y393.length + l0.length < 140737488355328 then ((some (y393 ++ l0 : List Int)).bind fun y396 => ((some (([(a1 / 256) % 256, (a1) % 256] : List Int) : List Int)).bind fun y399 => (if y396.length + y399.length < 140737488355328 then (some (y396 ++ y399)) else (none)))) else (none))) else (none)) else (none)) = some r := h
 clear h
 obtain ⟨ji3, hji3⟩ : ∃ j_ : Int, (wrap64 ((l0.length : Int) + 2)) = j_ := ⟨_, rfl⟩
 replace H : (if 0 ≤ (ji3) then (if (ji3 : Int).toNat ≤ 281474976710656 then ((some (List.replicate 0 0 : List Int)).bind fun y393 => (if y393.length + l0.length < 140737488355328 then ((some (y393 ++ l0 : List Int)).bind fun y396 => ((some (([(a1 / 256) % 256, (a1) % 256] : List Int) : List Int)).bind fun y399 => (if y396.length + y399.length < 140737488355328 then (some (y396 ++ y399)) else (none)))) else (none))) else (none)) else (none)) = some r := by first | (rw [hji3] at H; exact H) | (simp only [hji3] at H ⊢; exact H)
 have hji3w : (IntKind.i64.wrap ((l0.length : Int) + 2)) = ji3 := (i64_w _).trans hji3
 by_cases c4 : 0 ≤ (ji3)
 ·
  rw [if_pos c4] at H
  have c4b0 := eq_true c4
  have c4b1 : decide (0 ≤ (ji3)) = true := decide_eq_true c4
  clear c4
  by_cases c5 : (ji3 : Int).toNat ≤ 281474976710656
  ·
   rw [if_pos c5] at H
   have c5b0 := eq_true c5
   have c5b1 : decide ((ji3 : Int).toNat ≤ 281474976710656) = true := decide_eq_true c5
   clear c5
   obtain ⟨y393, hy393⟩ : ∃ y_ : List Int, y_ = (List.replicate 0 0) := ⟨_, rfl⟩
   replace H : (if y393.length + l0.length < 140737488355328 then ((some (y393 ++ l0 : List Int)).bind fun y396 => ((some (([(a1 / 256) % 256, (a1) % 256] : List Int) : List Int)).bind fun y399 => (if y396.length + y399.length < 140737488355328 then (some (y396 ++ y399)) else (none)))) else (none)) = some r := by first | (rw [hy393]; with_reducible exact H) | (have H2_ := (Option.bind_some _ _).symm.trans H; rw [hy393]; with_reducible exact H2_) | (have H2_ := (Option.bind_some _ _).symm.trans H; with_reducible exact H2_) | with_reducible exact H | (rw [hy393]; exact H) | exact H
   have Ny393 := Aside0.mk hy393
   clear hy393
   by_cases c6 : y393.length + l0.length < 140737488355328
   ·
    rw [if_pos c6] at H
    have LMc6 := Aside0.mk c6
    clear c6
    obtain ⟨y396, hy396⟩ : ∃ y_ : List Int, y_ = (y393 ++ l0) := ⟨_, rfl⟩
    replace H : ((some (([(a1 / 256) % 256, (a1) % 256] : List Int) : List Int)).bind fun y399 => (if y396.length + y399.length < 140737488355328 then (some (y396 ++ y399)) else (none))) = some r := by first | (rw [hy396]; with_reducible exact H) | (have H2_ := (Option.bind_some _ _).symm.trans H; rw [hy396]; with_reducible exact H2_) | (have H2_ := (Option.bind_some _ _).symm.trans H; with_reducible exact H2_) | with_reducible exact H | (rw [hy396]; exact H) | exact H
    have Ny396 := Aside0.mk hy396
    clear hy396
    obtain ⟨y399, hy399⟩ : ∃ y_ : List Int, y_ = (([(a1 / 256) % 256, (a1) % 256] : List Int)) := ⟨_, rfl⟩
    replace H : (if y396.length + y399.length < 140737488355328 then (some (y396 ++ y399)) else (none)) = some r := by first | (rw [hy399]; with_reducible exact H) | (have H2_ := (Option.bind_some _ _).symm.trans H; rw [hy399]; with_reducible exact H2_) | (have H2_ := (Option.bind_some _ _).symm.trans H; with_reducible exact H2_) | with_reducible exact H | (rw [hy399]; exact H) | exact H
    have Ny399 := Aside0.mk hy399
    clear hy399
    by_cases c7 : y396.length + y399.length < 140737488355328
    ·
     rw [if_pos c7] at H
     have LMc7 := Aside0.mk c7
     clear c7
     obtain ⟨y402, hy402⟩ : ∃ y_ : List Int, y_ = (y396 ++ y399) := ⟨_, rfl⟩
     replace H : (some y402) = some r := by first | (rw [hy402]; with_reducible exact H) | (have H2_ := (Option.bind_some _ _).symm.trans H; rw [hy402]; with_reducible exact H2_) | (have H2_ := (Option.bind_some _ _).symm.trans H; with_reducible exact H2_) | with_reducible exact H | (rw [hy402]; exact H) | exact H
     have Ny402 := Aside0.mk hy402
     clear hy402
     obtain rfl := Option.some.inj H
     go_enter Try.func66, Try.ntmps66
     go_wp2_with (first | ((with_reducible refine gate_dst (N := 9) rfl ?_); refine Kd.R_make0 (Kd.int .u8) _ 5 rfl (N := 9) rfl 30 _ _ rfl ji3 rfl rfl Try.underlying30 (.int .u8 0) 1 info5 rfl (by decide) (by omega) 0 (ok := fun _ => True) (okp := fun _ => True) rfl (fun _ hk => hk) trivial (of_decide_eq_true (by first | (with_reducible assumption) | assumption)) (Nat.le_trans (Nat.mul_le_mul_right _ (of_decide_eq_true (by first | (with_reducible assumption) | assumption) : ji3.toNat ≤ 281474976710656)) (by omega)) (Below.refl _ _) (Nat.le_refl _) ?_; intro v394 w8 ho9 hb hg_ hnew_; clear hg_ hnew_; (first | rw [← Ny393.out] at ho9 | (simp only [Int.reduceToNat] at ho9; rw [← Ny393.out] at ho9)); have n0_ := Aside0.mk (Kd.R_lower ho9 (below_size (by repeat (first | (with_reducible first | exact HB.out | apply below_alloc | apply pw_below_drewN | apply below_drew1) | exact HB.out)))); have n1_ := Aside0.mk (below_step (by repeat (first | (with_reducible first | exact HB.out | apply below_alloc | apply pw_below_drewN | apply below_drew1) | exact HB.out)) hb); clear HB; have HO395 := n0_; have HB := n1_; clear n0_ n1_; clear hb ho9) | ((with_reducible refine gate_builtin (b := .append) (xs := #[.tmp 10, .tmp 11]) rfl ?_); at_builtin; refine Kd.R_append_rows (Kd.int .u8) (w0 := w) w.heap.size rfl (.tmp 10) (.tmp 11) 30 5 (.int .u8 0) 1 rfl Try.underlying30 info5 rfl (by decide) (by omega) v394 y393 l0 _ _ _ (fun _ => True) (fun _ => False) rfl rfl ?aO ?aR (fun _ _ h => h) (fun _ h => h.elim) ?aF ?aB ?aS ?aL ?_; (case aR => repeat (first | exact (Kd.C_below HR0.out HB.out) | (with_reducible refine Kd.C_alloc ?_ _) | (with_reducible refine Kd.C_drewN ?_ _) | (with_reducible refine Kd.C_drew ?_))); (case aB => exact (by repeat (first | (with_reducible first | exact HB.out | apply below_alloc | apply pw_below_drewN | apply below_drew1) | exact HB.out))); (case aF => exact (fun _ _ => trivial)); (case aO => exact (by (with_reducible repeat (first | apply Kd.R_alloc | apply Kd.R_drewN | apply Kd.R_drew)); exact HO395.out)); (case aS => exact (below_size (by repeat (first | (with_reducible first | exact HB.out | apply below_alloc | apply pw_below_drewN | apply below_drew1) | exact HB.out)))); (case aL => have := LMc6.out; omega); intro v397 w10 ho hb hg hat; rw [← Ny396.out] at ho; have n0_ := Aside0.mk (hb); have n1_ := Aside0.mk (ho); clear HB; clear HO395; have HB := n0_; have HO398 := n1_; clear n0_ n1_; clear ho hb hg hat) | ((with_reducible refine gate_dst (N := 19) rfl ?_); refine Kd.R_lit (Kd.int .u8) _ 5 ?hg (N := 19) ?hd (xs := ([(a1 / 256) % 256, (a1) % 256] : List Int)) (inner := [.int .u8 ((a1 / 256) % 256), .int .u8 ((a1) % 256)]) (ok := fun _ => True) (okp := fun _ => True) ?hr ?hp (fun _ hk => hk) trivial (Below.refl _ _) (Nat.le_refl _) (by simp) ?_; (case hd => rfl); (case hg => rfl); (case hr => first | (go_simp; done) | (go_simp; rfl)); (case hp => exact (Reps.one (show Kd.M (Kd.int .u8) _ _ _ ((a1 / 256) % 256) [.int .u8 ((a1 / 256) % 256)] from rfl) (Reps.one (show Kd.M (Kd.int .u8) _ _ _ ((a1) % 256) [.int .u8 ((a1) % 256)] from rfl) (Reps.none _ _)))); intro v400 w11 ho12 hb hg_ hnew_; clear hg_ hnew_; (first | rw [← Ny399.out] at ho12 | (simp only [Int.reduceToNat] at ho12; rw [← Ny399.out] at ho12)); have n0_ := Aside0.mk (Kd.R_elder' (by (with_reducible repeat (first | apply Kd.R_alloc | apply Kd.R_drewN | apply Kd.R_drew)); exact HO398.out) (Kd.R_base ho12) hb); have n1_ := Aside0.mk (Kd.R_lower (Kd.R_new' ho12 (Kd.R_lt (by (with_reducible repeat (first | apply Kd.R_alloc | apply Kd.R_drewN | apply Kd.R_drew)); exact HO398.out))) (below_size (by repeat (first | (with_reducible first | exact HB.out | apply below_alloc | apply pw_below_drewN | apply below_drew1) | exact HB.out)))); have n2_ := Aside0.mk (below_step (by repeat (first | (with_reducible first | exact HB.out | apply below_alloc | apply pw_below_drewN | apply below_drew1) | exact HB.out)) hb); clear HO398; clear HB; have HO398 := n0_; have HO401 := n1_; have HB := n2_; clear n0_ n1_ n2_; clear hb ho12; obtain ⟨Ao14, co14, eo14⟩ := Kd.R_slice HO401.out; subst eo14) | ((with_reducible refine gate_builtin (b := .append) (xs := #[.tmp 13, .tmp 19]) rfl ?_); at_builtin; refine Kd.R_append_rows (Kd.int .u8) (w0 := w) w.heap.size rfl (.tmp 13) (.tmp 19) 30 5 (.int .u8 0) 1 rfl Try.underlying30 info5 rfl (by decide) (by omega) v397 y396 y399 _ _ _ (fun k_ => some k_ ≠ (.slice Ao14 y399.length co14 : Value).ownBlock) (fun _ => False) rfl rfl ?aO ?aR (fun _ _ h => h) (fun _ h => h.elim) ?aF ?aB ?aS ?aL ?_; (case aR => repeat (first | exact (Kd.R_reads' HO401.out).2.2 | (with_reducible refine Kd.C_alloc ?_ _) | (with_reducible refine Kd.C_drewN ?_ _) | (with_reducible refine Kd.C_drew ?_))); (case aB => exact (by repeat (first | (with_reducible first | exact HB.out | apply below_alloc | apply pw_below_drewN | apply below_drew1) | exact HB.out))); (case aF => exact (fun k_ hk => Kd.fresh' (Kd.R_lt (by (with_reducible repeat (first | apply Kd.R_alloc | apply Kd.R_drewN | apply Kd.R_drew)); exact HO401.out)) k_ hk)); (case aO => exact (by (with_reducible repeat (first | apply Kd.R_alloc | apply Kd.R_drewN | apply Kd.R_drew)); exact Kd.R_mono HO398.out (fun _ hk => by first | exact hk.2 | exact hk))); (case aS => exact (below_size (by repeat (first | (with_reducible first | exact HB.out | apply below_alloc | apply pw_below_drewN | apply below_drew1) | exact HB.out)))); (case aL => have := LMc7.out; omega); intro v403 w13 ho hb hg hat; rw [← Ny402.out] at ho; have n0_ := Aside0.mk (Kd.R_after (ok := (fun _ => True)) (by (with_reducible repeat (first | apply Kd.R_alloc | apply Kd.R_drewN | apply Kd.R_drew)); exact HO401.out) hg hat); have n1_ := Aside0.mk (hb); have n2_ := Aside0.mk (ho); clear HO401; clear HB; clear HO398; have HO401 := n0_; have HB := n1_; have HO404 := n2_; clear n0_ n1_ n2_; clear ho hb hg hat))
     go_ret
     exact ⟨_, by first | rfl | (simp [errW_none, errW_some] <;> rfl) | (simp only [← hji3]; first | rfl | (simp [errW_none, errW_some] <;> rfl)) | (simp [*, errW_none, errW_some] <;> rfl), by (with_reducible repeat (first | apply Kd.R_alloc | apply Kd.R_drewN | apply Kd.R_drew)); exact Kd.R_mono HO404.out (fun _ hk => trivial), by repeat (first | (with_reducible first | exact HB.out | apply below_alloc | apply pw_below_drewN | apply below_drew1) | exact HB.out)⟩
    ·
     rw [if_neg c7] at H
     exact absurd H (by simp)
   ·
    rw [if_neg c6] at H
    exact absurd H (by simp)
  ·
   rw [if_neg c5] at H
   exact absurd H (by simp)
 ·
  rw [if_neg c4] at H
  exact absurd H (by simp)
end Go.Proofs.Ytakiojmjalbfpaa.PFlow
namespace Go.Proofs.Ytakiojmjalbfpaa.PFlow
open Go.RowKit Go.Proofs.YtakiojmjalbfpaaW.PrintWords Go.Proofs.YtakiojmjalbfpaaW.PrintLast Go.Proofs.YtakiojmjalbfpaaW.PrintMore
attribute [local go_sem] max2_int min2_int max_two min_two max_three min_three max_four min_four plus_setCell_drewN plus_cell_same   -- for this text's walks alone
set_option linter.unusedVariables false
set_option linter.unusedSimpArgs false
attribute [local go_sem high] eqA85
def head_Put.f (a0_0 : Int) (a0_1 : Int) (a0_2 : Int) : Option (List Int × Int) := (head_held.f a0_0 a0_1 a0_2).bind fun bt406 => (if (!(a0_0 == bt406.1) || (!(a0_1 == bt406.2.1) || (!(a0_2 == bt406.2.2)))) = true then (some (([] : List Int), 1)) else ((word_Put.f ([] : List Int) (IntKind.u16.wrap (a0_0))).bind fun t409 => ((word_Put.f t409 0).bind fun t412 => ((word_Put.f t412 (IntKind.u16.wrap (a0_1))).bind fun t415 => (if t415.length < 140737488355328 then (some ((t415 ++ [(a0_2) % 256]), 0)) else (none))))))
set_option maxHeartbeats 8000000 in
set_option maxRecDepth 100000 in
theorem head_Put.calls (a0_0 : Int) (a0_1 : Int) (a0_2 : Int) (r1 : List Int) (r2 : Int) (w : World) (h : head_Put.f a0_0 a0_1 a0_2 = some (r1, r2)) :
  Calls Try.prog 51 #[.agg #[.int .i64 a0_0, .int .i64 a0_1, .int .i64 a0_2]] w fun e w' => ∃ v0_ : Value, e = .returned (.tuple #[v0_, .int .i64 r2]) ∧ Kd.R (Kd.int .u8) 5 w' w.heap.size (fun _ => True) v0_ r1 ∧ Below w.heap.size w w' := by
 have hu85 := Try.underlying85
 have HB := Aside0.mk (Below.refl w.heap.size w)
 have H : ((head_held.f a0_0 a0_1 a0_2).bind fun bt406 => (if (!(a0_0 == bt406.1) || (!(a0_1 == bt406.2.1) || (!(a0_2 == bt406.2.2)))) = true then (some (([] : List Int), 1)) else ((word_Put.f ([] : List Int) (IntKind.u16.wrap (a0_0))).bind fun t409 => ((word_Put.f t409 0).bind fun t412 => ((word_Put.f t412 (IntKind.u16.wrap (a0_1))).bind fun t415 => (if t415.length < 140737488355328 then (some ((t415 ++ [(a0_2) % 256]), 0)) else (none))))))) = some (r1, r2) := h
 clear h
 replace H := Option.bind_eq_some_iff.mp H
 obtain ⟨⟨t406, t407, t408⟩, A20, H⟩ := H
 replace H : (if (!(a0_0 == t406) || (!(a0_1 == t407) || (!(a0_2 == t408)))) = true then (some (([] : List Int), 1)) else ((word_Put.f ([] : List Int) (IntKind.u16.wrap (a0_0))).bind fun t409 => ((word_Put.f t409 0).bind fun t412 => ((word_Put.f t412 (IntKind.u16.wrap (a0_1))).bind fun t415 => (if t415.length < 140737488355328 then (some ((t415 ++ [(a0_2) % 256]), 0)) else (none)))))) = some (r1, r2) := H
 have A2 := Aside0.mk A20
 clear A20
 by_cases c3 : (!(a0_0 == t406) || (!(a0_1 == t407) || (!(a0_2 == t408)))) = true
 ·
  rw [if_pos c3] at H
  have c3b0 : (!(a0_0 == t406) || (!(a0_1 == t407) || (!(a0_2 == t408)))) = true := c3
  clear c3
  simp only [Option.some.injEq, Prod.mk.injEq] at H
  obtain ⟨rfl, rfl⟩ := H
  go_enter Try.func51, Try.ntmps51
  try go_wp2_with (first | ((with_reducible refine gate_dst (N := 1) rfl ?_); refine box_event ?hg (N := 1) ?hd (cs := #[.int .i64 a0_0, .int .i64 a0_1, .int .i64 a0_2]) (t := 85) ?hr ?_; (case hd => rfl); (case hg => rfl); (case hr => first | (go_simp; done) | (go_simp; rfl)); intro gb405 hg w4 hbox hb; have n0_ := Aside0.mk (below_step (by repeat (first | (with_reducible first | exact HB.out | apply below_alloc | apply pw_below_drewN | apply below_drew1) | exact HB.out)) hb); have n1_ := Aside0.mk (hbox); have n2_ := Aside0.mk ((by rw [hg]; exact (below_size (by repeat (first | (with_reducible first | exact HB.out | apply below_alloc | apply pw_below_drewN | apply below_drew1) | exact HB.out))) : w.heap.size ≤ gb405)); have n3_ := Aside0.mk ((by rw [hg]; exact (below_size (by repeat (first | (with_reducible first | exact HB.out | apply below_alloc | apply pw_below_drewN | apply below_drew1) | exact HB.out))) : w.heap.size ≤ gb405)); clear HB; have HB := n0_; have BK405 := n1_; have GW405 := n2_; have GE405 := n3_; clear n0_ n1_ n2_ n3_; clear hb hbox hg))
  have n0_ := Aside0.mk (blk_drew BK405.out)
  have n1_ := Aside0.mk (below_drew1 HB.out)
  clear BK405
  clear HB
  have BK405 := n0_
  have HB := n1_
  clear n0_ n1_
  refine start_ (n := 4) (S := fun w' => w'.cell? ⟨gb405, 0, none⟩ = some (.int .i64 a0_0) ∧ w'.cell? ⟨gb405, 1, none⟩ = some (.int .i64 a0_1) ∧ w'.cell? ⟨gb405, 2, none⟩ = some (.int .i64 a0_2)) (ds := []) #[false,false,false,false] (by kernel_rfl) rfl rfl ⟨(blk_cell BK405.out 0).trans rfl, (blk_cell BK405.out 1).trans rfl, (blk_cell BK405.out 2).trans rfl⟩ (fun hHeld => ?_)
  generalize w4.drew = w5 at BK405 HB hHeld ⊢
  refine take_ (i := 0) (N := some 5) (v := ?_) (a' := ?_) #[true,false,false,false] rfl rfl (by kernel_rfl) (fun _ _ _ h => h) (Or.inl ⟨by rfl, ?_⟩) hHeld ?_ ?_
  rotate_left
  ·
   rintro w' ⟨s0, s1, s2⟩
   go_simp
   with_reducible rfl
  rotate_left
  ·
   simp only [Act.put, List.setIfInBounds_toArray, List.set_cons_zero, List.set_cons_succ, i64_w, i32_w]
   rfl
  refine take_ (i := 1) (N := some 6) (v := ?_) (a' := ?_) #[true,true,false,false] rfl rfl (by kernel_rfl) (fun _ _ _ h => h) (Or.inl ⟨by rfl, ?_⟩) hHeld ?_ ?_
  rotate_left
  ·
   rintro w' ⟨s0, s1, s2⟩
   go_simp
   with_reducible rfl
  rotate_left
  ·
   simp only [Act.put, List.setIfInBounds_toArray, List.set_cons_zero, List.set_cons_succ, i64_w, i32_w]
   rfl
  refine one_ (i := 2) (N := some 7) #[true,true,true,false] rfl rfl (by kernel_rfl) (by decide) (fun K hK => ?_)
  refine goes_ Try.func65 (by kernel_rfl) rfl #[.agg #[.int .i64 a0_0, .int .i64 a0_1, .int .i64 a0_2]] (by rfl) rfl rfl (by (try simp only [List.map_toArray, List.map_cons, List.map_nil]); first | done | rfl | (simp only [List.length_drop, List.length_take]; rfl)) ?_
  with_reducible refine (head_held.calls a0_0 a0_1 a0_2 t406 t407 t408 _ A2.out).mono ?_
  rintro e w6 ⟨rfl, hb⟩
  refine ⟨_, rfl, ?_⟩
  have n0_ := Aside0.mk (blk_below (g := gb405) (o := .cells #[.int .i64 a0_0, .int .i64 a0_1, .int .i64 a0_2] 85 (0, 0)) (by (with_reducible repeat (first | refine blk_drewN ?_ _ | refine blk_drew ?_ | refine blk_alloc ?_ _)); exact BK405.out) hb)
  have n1_ := Aside0.mk (below_step (by repeat (first | (with_reducible first | exact HB.out | apply below_alloc | apply pw_below_drewN | apply below_drew1 | refine below_set ?_ GE405.out) | exact HB.out)) hb)
  clear BK405
  clear HB
  have BK405 := n0_
  have HB := n1_
  clear n0_ n1_
  (try clear hb)
  (try clear hb2)
  (try clear hk)
  (try clear hi)
  refine hK.out _ _ ⟨(blk_cell BK405.out 0).trans rfl, (blk_cell BK405.out 1).trans rfl, (blk_cell BK405.out 2).trans rfl⟩ (fun hHeld => ?_)
  clear hK K
  refine norm_ (a' := ?_) ?_ ?_
  rotate_left
  ·
   show Act.put _ (some 7) _ = _
   simp only [Act.put, List.setIfInBounds_toArray, List.set_cons_zero, List.set_cons_succ, i64_w, i32_w]
   rfl
  refine pure_ (i := 3) (N := some 8) (v := ?_) (a' := ?_) #[true,true,true,true] rfl rfl (by kernel_rfl) (fun _ _ _ h => h) (Or.inl ⟨by rfl, ?_⟩) ?_ ?_
  rotate_left
  ·
   intro w'
   go_simp
   with_reducible rfl
  rotate_left
  ·
   simp only [Act.put, List.setIfInBounds_toArray, List.set_cons_zero, List.set_cons_succ, i64_w, i32_w]
   rfl
  refine done_ (by kernel_rfl) ?_
  try go_wp2
  go_ret2
  exact ⟨_, by first | rfl | (simp [errW_none, errW_some] <;> rfl) | (simp [*, errW_none, errW_some] <;> rfl), by first | exact Kd.R_nil _ _ _ _ _ | exact Kd.N_nil _ _ _ _ _ | exact Kd.V_nil _ _ _ _ _ | exact Kd.Q_nil _ _ _ _ _ | exact Kd.S_nil _ _ _ _ _, by repeat (first | (with_reducible first | exact HB.out | apply below_alloc | apply pw_below_drewN | apply below_drew1 | refine below_set ?_ GE405.out) | exact HB.out)⟩
 ·
  rw [if_neg c3] at H
  have c3b0 : (!(a0_0 == t406) || (!(a0_1 == t407) || (!(a0_2 == t408)))) = false := by simpa using c3
  clear c3
  replace H := Option.bind_eq_some_iff.mp H
  obtain ⟨t409, A70, H⟩ := H
  replace H : ((word_Put.f t409 0).bind fun t412 => ((word_Put.f t412 (IntKind.u16.wrap (a0_1))).bind fun t415 => (if t415.length < 140737488355328 then (some ((t415 ++ [(a0_2) % 256]), 0)) else (none)))) = some (r1, r2) := H
  have A7 := Aside0.mk A70
  clear A70
  replace H := Option.bind_eq_some_iff.mp H
  obtain ⟨t412, A80, H⟩ := H
  replace H : ((word_Put.f t412 (IntKind.u16.wrap (a0_1))).bind fun t415 => (if t415.length < 140737488355328 then (some ((t415 ++ [(a0_2) % 256]), 0)) else (none))) = some (r1, r2) := H
  have A8 := Aside0.mk A80
  clear A80
  replace H := Option.bind_eq_some_iff.mp H
  obtain ⟨t415, A90, H⟩ := H
  replace H : (if t415.length < 140737488355328 then (some ((t415 ++ [(a0_2) % 256]), 0)) else (none)) = some (r1, r2) := H
  have A9 := Aside0.mk A90
  clear A90
  by_cases c10 : t415.length < 140737488355328
  ·
   rw [if_pos c10] at H
   have LMc10 := Aside0.mk c10
   clear c10
   obtain ⟨y418, hy418⟩ : ∃ y_ : List Int, y_ = (t415 ++ [(a0_2) % 256]) := ⟨_, rfl⟩
   replace H : (some (y418, 0)) = some (r1, r2) := by first | (rw [hy418]; with_reducible exact H) | (have H2_ := (Option.bind_some _ _).symm.trans H; rw [hy418]; with_reducible exact H2_) | (have H2_ := (Option.bind_some _ _).symm.trans H; with_reducible exact H2_) | with_reducible exact H | (rw [hy418]; exact H) | exact H
   have Ny418 := Aside0.mk hy418
   clear hy418
   simp only [Option.some.injEq, Prod.mk.injEq] at H
   obtain ⟨rfl, rfl⟩ := H
   go_enter Try.func51, Try.ntmps51
   try go_wp2_with (first | ((with_reducible refine gate_dst (N := 1) rfl ?_); refine box_event ?hg (N := 1) ?hd (cs := #[.int .i64 a0_0, .int .i64 a0_1, .int .i64 a0_2]) (t := 85) ?hr ?_; (case hd => rfl); (case hg => rfl); (case hr => first | (go_simp; done) | (go_simp; rfl)); intro gb405 hg w11 hbox hb; have n0_ := Aside0.mk (below_step (by repeat (first | (with_reducible first | exact HB.out | apply below_alloc | apply pw_below_drewN | apply below_drew1) | exact HB.out)) hb); have n1_ := Aside0.mk (hbox); have n2_ := Aside0.mk ((by rw [hg]; exact (below_size (by repeat (first | (with_reducible first | exact HB.out | apply below_alloc | apply pw_below_drewN | apply below_drew1) | exact HB.out))) : w.heap.size ≤ gb405)); have n3_ := Aside0.mk ((by rw [hg]; exact (below_size (by repeat (first | (with_reducible first | exact HB.out | apply below_alloc | apply pw_below_drewN | apply below_drew1) | exact HB.out))) : w.heap.size ≤ gb405)); clear HB; have HB := n0_; have BK405 := n1_; have GW405 := n2_; have GE405 := n3_; clear n0_ n1_ n2_ n3_; clear hb hbox hg))
   have n0_ := Aside0.mk (blk_drew BK405.out)
   have n1_ := Aside0.mk (below_drew1 HB.out)
   clear BK405
   clear HB
   have BK405 := n0_
   have HB := n1_
   clear n0_ n1_
   refine start_ (n := 4) (S := fun w' => w'.cell? ⟨gb405, 0, none⟩ = some (.int .i64 a0_0) ∧ w'.cell? ⟨gb405, 1, none⟩ = some (.int .i64 a0_1) ∧ w'.cell? ⟨gb405, 2, none⟩ = some (.int .i64 a0_2)) (ds := []) #[false,false,false,false] (by kernel_rfl) rfl rfl ⟨(blk_cell BK405.out 0).trans rfl, (blk_cell BK405.out 1).trans rfl, (blk_cell BK405.out 2).trans rfl⟩ (fun hHeld => ?_)
   generalize w11.drew = w12 at BK405 HB hHeld ⊢
   refine take_ (i := 0) (N := some 5) (v := ?_) (a' := ?_) #[true,false,false,false] rfl rfl (by kernel_rfl) (fun _ _ _ h => h) (Or.inl ⟨by rfl, ?_⟩) hHeld ?_ ?_
   rotate_left
   ·
    rintro w' ⟨s0, s1, s2⟩
    go_simp
    with_reducible rfl
   rotate_left
   ·
    simp only [Act.put, List.setIfInBounds_toArray, List.set_cons_zero, List.set_cons_succ, i64_w, i32_w]
    rfl
   refine take_ (i := 1) (N := some 6) (v := ?_) (a' := ?_) #[true,true,false,false] rfl rfl (by kernel_rfl) (fun _ _ _ h => h) (Or.inl ⟨by rfl, ?_⟩) hHeld ?_ ?_
   rotate_left
   ·
    rintro w' ⟨s0, s1, s2⟩
    go_simp
    with_reducible rfl
   rotate_left
   ·
    simp only [Act.put, List.setIfInBounds_toArray, List.set_cons_zero, List.set_cons_succ, i64_w, i32_w]
    rfl
   refine one_ (i := 2) (N := some 7) #[true,true,true,false] rfl rfl (by kernel_rfl) (by decide) (fun K hK => ?_)
   refine goes_ Try.func65 (by kernel_rfl) rfl #[.agg #[.int .i64 a0_0, .int .i64 a0_1, .int .i64 a0_2]] (by rfl) rfl rfl (by (try simp only [List.map_toArray, List.map_cons, List.map_nil]); first | done | rfl | (simp only [List.length_drop, List.length_take]; rfl)) ?_
   with_reducible refine (head_held.calls a0_0 a0_1 a0_2 t406 t407 t408 _ A2.out).mono ?_
   rintro e w13 ⟨rfl, hb⟩
   refine ⟨_, rfl, ?_⟩
   have n0_ := Aside0.mk (blk_below (g := gb405) (o := .cells #[.int .i64 a0_0, .int .i64 a0_1, .int .i64 a0_2] 85 (0, 0)) (by (with_reducible repeat (first | refine blk_drewN ?_ _ | refine blk_drew ?_ | refine blk_alloc ?_ _)); exact BK405.out) hb)
   have n1_ := Aside0.mk (below_step (by repeat (first | (with_reducible first | exact HB.out | apply below_alloc | apply pw_below_drewN | apply below_drew1 | refine below_set ?_ GE405.out) | exact HB.out)) hb)
   clear BK405
   clear HB
   have BK405 := n0_
   have HB := n1_
   clear n0_ n1_
   (try clear hb)
   (try clear hb2)
   (try clear hk)
   (try clear hi)
   refine hK.out _ _ ⟨(blk_cell BK405.out 0).trans rfl, (blk_cell BK405.out 1).trans rfl, (blk_cell BK405.out 2).trans rfl⟩ (fun hHeld => ?_)
   clear hK K
   refine norm_ (a' := ?_) ?_ ?_
   rotate_left
   ·
    show Act.put _ (some 7) _ = _
    simp only [Act.put, List.setIfInBounds_toArray, List.set_cons_zero, List.set_cons_succ, i64_w, i32_w]
    rfl
   refine pure_ (i := 3) (N := some 8) (v := ?_) (a' := ?_) #[true,true,true,true] rfl rfl (by kernel_rfl) (fun _ _ _ h => h) (Or.inl ⟨by rfl, ?_⟩) ?_ ?_
   rotate_left
   ·
    intro w'
    go_simp
    with_reducible rfl
   rotate_left
   ·
    simp only [Act.put, List.setIfInBounds_toArray, List.set_cons_zero, List.set_cons_succ, i64_w, i32_w]
    rfl
   refine done_ (by kernel_rfl) ?_
   have hcz14_0 : w13.cell? ⟨gb405, 0, none⟩ = some (.int .i64 a0_0) := (blk_cell BK405.out 0).trans rfl
   have hcz14_1 : w13.cell? ⟨gb405, 1, none⟩ = some (.int .i64 a0_1) := (blk_cell BK405.out 1).trans rfl
   have hcz14_2 : w13.cell? ⟨gb405, 2, none⟩ = some (.int .i64 a0_2) := (blk_cell BK405.out 2).trans rfl
   have hfz14_0 := blk_frozen BK405.out 0
   have hfz14_1 := blk_frozen BK405.out 1
   have hfz14_2 := blk_frozen BK405.out 2
   try go_wp2_with (first | ((with_reducible refine gate_callee (f := 66) rfl ?_); refine goesL_ (some 12) rfl rfl Try.func66 (by kernel_rfl) rfl #[.slice none 0 0, .int .u16 (IntKind.u16.wrap (a0_0))] rfl (by (try simp only [List.map_toArray, List.map_cons, List.map_nil]); first | done | rfl | (simp only [List.length_drop, List.length_take]; rfl)) ?_; (refine (word_Put.calls _ _ ([] : List Int) (IntKind.u16.wrap (a0_0)) t409 _ ?side1 ?side2 A7.out).mono ?_); (case side1 => exact Kd.C_nil _ _); (case side2 => exact Nat.le_refl _); rintro e w15 ⟨v410, rfl, ho0, hb⟩; refine ⟨_, rfl, ?_⟩; have n0_ := Aside0.mk (Kd.R_lower ho0 (below_size (by repeat (first | (with_reducible first | exact HB.out | apply below_alloc | apply pw_below_drewN | apply below_drew1 | refine below_set ?_ GE405.out) | exact HB.out)))); have n1_ := Aside0.mk (blk_below (g := gb405) (o := .cells #[.int .i64 a0_0, .int .i64 a0_1, .int .i64 a0_2] 85 (0, 0)) (by (with_reducible repeat (first | refine blk_drewN ?_ _ | refine blk_drew ?_ | refine blk_alloc ?_ _)); exact BK405.out) hb); have n2_ := Aside0.mk (below_step (by repeat (first | (with_reducible first | exact HB.out | apply below_alloc | apply pw_below_drewN | apply below_drew1 | refine below_set ?_ GE405.out) | exact HB.out)) hb); clear BK405; clear HB; have HO411 := n0_; have BK405 := n1_; have HB := n2_; clear n0_ n1_ n2_; (try clear hb); (try clear hb2); (try clear hk); (try clear hi); (try clear ho0); obtain ⟨Ao16, co16, eo16⟩ := Kd.R_slice HO411.out; subst eo16) | ((with_reducible refine gate_callee (f := 66) rfl ?_); refine goesL_ (some 14) rfl rfl Try.func66 (by kernel_rfl) rfl #[.slice Ao16 t409.length co16, .int .u16 0] rfl (by (try simp only [List.map_toArray, List.map_cons, List.map_nil]); first | done | rfl | (simp only [List.length_drop, List.length_take]; rfl)) ?_; (with_reducible refine (word_Put.calls _ _ t409 0 t412 _ ?side1 ?side2 A8.out).mono ?_); (case side1 => repeat (first | exact (Kd.R_reads' HO411.out).2.2 | (with_reducible refine Kd.C_alloc ?_ _) | (with_reducible refine Kd.C_drewN ?_ _) | (with_reducible refine Kd.C_drew ?_))); (case side2 => exact (Kd.R_reads' HO411.out).2.1); rintro e w17 ⟨v413, rfl, ho0, hb⟩; refine ⟨_, rfl, ?_⟩; have n0_ := Aside0.mk (Kd.R_elder' (by (with_reducible repeat (first | apply Kd.R_alloc | apply Kd.R_drewN | apply Kd.R_drew)); exact HO411.out) (Kd.R_base ho0) hb); have n1_ := Aside0.mk (Kd.R_lower (Kd.R_new' ho0 (Kd.R_lt (by (with_reducible repeat (first | apply Kd.R_alloc | apply Kd.R_drewN | apply Kd.R_drew)); exact HO411.out))) (below_size (by repeat (first | (with_reducible first | exact HB.out | apply below_alloc | apply pw_below_drewN | apply below_drew1 | refine below_set ?_ GE405.out) | exact HB.out)))); have n2_ := Aside0.mk (blk_below (g := gb405) (o := .cells #[.int .i64 a0_0, .int .i64 a0_1, .int .i64 a0_2] 85 (0, 0)) (by (with_reducible repeat (first | refine blk_drewN ?_ _ | refine blk_drew ?_ | refine blk_alloc ?_ _)); exact BK405.out) hb); have n3_ := Aside0.mk (below_step (by repeat (first | (with_reducible first | exact HB.out | apply below_alloc | apply pw_below_drewN | apply below_drew1 | refine below_set ?_ GE405.out) | exact HB.out)) hb); clear HO411; clear BK405; clear HB; have HO411 := n0_; have HO414 := n1_; have BK405 := n2_; have HB := n3_; clear n0_ n1_ n2_ n3_; (try clear hb); (try clear hb2); (try clear hk); (try clear hi); (try clear ho0); have hcz18_0 : w17.cell? ⟨gb405, 0, none⟩ = some (.int .i64 a0_0) := (blk_cell BK405.out 0).trans rfl; have hcz18_1 : w17.cell? ⟨gb405, 1, none⟩ = some (.int .i64 a0_1) := (blk_cell BK405.out 1).trans rfl; have hcz18_2 : w17.cell? ⟨gb405, 2, none⟩ = some (.int .i64 a0_2) := (blk_cell BK405.out 2).trans rfl; have hfz18_0 := blk_frozen BK405.out 0; have hfz18_1 := blk_frozen BK405.out 1; have hfz18_2 := blk_frozen BK405.out 2; obtain ⟨Ao19, co19, eo19⟩ := Kd.R_slice HO414.out; subst eo19) | ((with_reducible refine gate_callee (f := 66) rfl ?_); refine goesL_ (some 19) rfl rfl Try.func66 (by kernel_rfl) rfl #[.slice Ao19 t412.length co19, .int .u16 (IntKind.u16.wrap (a0_1))] rfl (by (try simp only [List.map_toArray, List.map_cons, List.map_nil]); first | done | rfl | (simp only [List.length_drop, List.length_take]; rfl)) ?_; (with_reducible refine (word_Put.calls _ _ t412 (IntKind.u16.wrap (a0_1)) t415 _ ?side1 ?side2 A9.out).mono ?_); (case side1 => repeat (first | exact (Kd.R_reads' HO414.out).2.2 | (with_reducible refine Kd.C_alloc ?_ _) | (with_reducible refine Kd.C_drewN ?_ _) | (with_reducible refine Kd.C_drew ?_))); (case side2 => exact (Kd.R_reads' HO414.out).2.1); rintro e w20 ⟨v416, rfl, ho0, hb⟩; refine ⟨_, rfl, ?_⟩; have n0_ := Aside0.mk (Kd.R_elder' (by (with_reducible repeat (first | apply Kd.R_alloc | apply Kd.R_drewN | apply Kd.R_drew)); exact HO411.out) (Kd.R_base ho0) hb); have n1_ := Aside0.mk (Kd.R_elder' (by (with_reducible repeat (first | apply Kd.R_alloc | apply Kd.R_drewN | apply Kd.R_drew)); exact HO414.out) (Kd.R_base ho0) hb); have n2_ := Aside0.mk (Kd.R_lower (Kd.R_new' (Kd.R_new' ho0 (Kd.R_lt (by (with_reducible repeat (first | apply Kd.R_alloc | apply Kd.R_drewN | apply Kd.R_drew)); exact HO411.out))) (Kd.R_lt (by (with_reducible repeat (first | apply Kd.R_alloc | apply Kd.R_drewN | apply Kd.R_drew)); exact HO414.out))) (below_size (by repeat (first | (with_reducible first | exact HB.out | apply below_alloc | apply pw_below_drewN | apply below_drew1 | refine below_set ?_ GE405.out) | exact HB.out)))); have n3_ := Aside0.mk (blk_below (g := gb405) (o := .cells #[.int .i64 a0_0, .int .i64 a0_1, .int .i64 a0_2] 85 (0, 0)) (by (with_reducible repeat (first | refine blk_drewN ?_ _ | refine blk_drew ?_ | refine blk_alloc ?_ _)); exact BK405.out) hb); have n4_ := Aside0.mk (below_step (by repeat (first | (with_reducible first | exact HB.out | apply below_alloc | apply pw_below_drewN | apply below_drew1 | refine below_set ?_ GE405.out) | exact HB.out)) hb); clear HO411; clear HO414; clear BK405; clear HB; have HO411 := n0_; have HO414 := n1_; have HO417 := n2_; have BK405 := n3_; have HB := n4_; clear n0_ n1_ n2_ n3_ n4_; (try clear hb); (try clear hb2); (try clear hk); (try clear hi); (try clear ho0); have hcz21_0 : w20.cell? ⟨gb405, 0, none⟩ = some (.int .i64 a0_0) := (blk_cell BK405.out 0).trans rfl; have hcz21_1 : w20.cell? ⟨gb405, 1, none⟩ = some (.int .i64 a0_1) := (blk_cell BK405.out 1).trans rfl; have hcz21_2 : w20.cell? ⟨gb405, 2, none⟩ = some (.int .i64 a0_2) := (blk_cell BK405.out 2).trans rfl; have hfz21_0 := blk_frozen BK405.out 0; have hfz21_1 := blk_frozen BK405.out 1; have hfz21_2 := blk_frozen BK405.out 2) | ((with_reducible refine gate_builtin (b := .append) (xs := #[.tmp 20, .tmp 24]) rfl ?_); at_builtin; refine Kd.R_append (Kd.int .u8) (w0 := w) w.heap.size rfl (.tmp 20) (.tmp 24) 30 5 (.int .u8 0) 1 rfl Try.underlying30 info5 rfl (by decide) (by omega) v416 t415 ((a0_2) % 256) [.int .u8 ((a0_2) % 256)] (fun k_ => some k_ ≠ (.slice Ao16 t409.length co16 : Value).ownBlock ∧ some k_ ≠ (.slice Ao19 t412.length co19 : Value).ownBlock) (fun _ => False) rfl rfl ?aP (fun _ hk => hk.elim) ?aF ?aO ?aB ?aS ?aL ?_; (case aP => exact rfl); (case aB => exact (by repeat (first | (with_reducible first | exact HB.out | apply below_alloc | apply pw_below_drewN | apply below_drew1 | refine below_set ?_ GE405.out) | exact HB.out))); (case aF => exact (fun k_ hk => ⟨Kd.fresh' (Kd.R_lt (by (with_reducible repeat (first | apply Kd.R_alloc | apply Kd.R_drewN | apply Kd.R_drew)); exact HO411.out)) k_ hk, Kd.fresh' (Kd.R_lt (by (with_reducible repeat (first | apply Kd.R_alloc | apply Kd.R_drewN | apply Kd.R_drew)); exact HO414.out)) k_ hk⟩)); (case aO => exact (by (with_reducible repeat (first | apply Kd.R_alloc | apply Kd.R_drewN | apply Kd.R_drew)); exact Kd.R_mono HO417.out (fun _ hk => ⟨hk.1.2, hk.2⟩))); (case aS => exact (below_size (by repeat (first | (with_reducible first | exact HB.out | apply below_alloc | apply pw_below_drewN | apply below_drew1 | refine below_set ?_ GE405.out) | exact HB.out)))); (case aL => have := LMc10.out; omega); intro v419 w22 ho hb hg hat; rw [← Ny418.out] at ho; have n0_ := Aside0.mk (blk_grown (g := gb405) (o := .cells #[.int .i64 a0_0, .int .i64 a0_1, .int .i64 a0_2] 85 (0, 0)) (by (with_reducible repeat (first | refine blk_drewN ?_ _ | refine blk_drew ?_ | refine blk_alloc ?_ _)); exact BK405.out) hg (Kd.R_ne HO417.out BK405.out (by decide))); have n1_ := Aside0.mk (Kd.R_after (ok := (fun k_ => some k_ ≠ (.slice Ao19 t412.length co19 : Value).ownBlock)) (by (with_reducible repeat (first | apply Kd.R_alloc | apply Kd.R_drewN | apply Kd.R_drew)); exact Kd.R_mono HO411.out (fun _ hk => ⟨hk.1.2, hk.2⟩)) hg hat); have n2_ := Aside0.mk (Kd.R_after (ok := (fun k_ => some k_ ≠ (.slice Ao16 t409.length co16 : Value).ownBlock)) (by (with_reducible repeat (first | apply Kd.R_alloc | apply Kd.R_drewN | apply Kd.R_drew)); exact Kd.R_mono HO414.out (fun _ hk => ⟨hk.1.2, hk.2⟩)) hg hat); have n3_ := Aside0.mk (hb); have n4_ := Aside0.mk (ho); clear BK405; clear HO411; clear HO414; clear HB; clear HO417; have BK405 := n0_; have HO411 := n1_; have HO414 := n2_; have HB := n3_; have HO420 := n4_; clear n0_ n1_ n2_ n3_ n4_; clear ho hb hg hat))
   go_ret2
   exact ⟨_, by first | rfl | (simp [errW_none, errW_some] <;> rfl) | (simp [*, errW_none, errW_some] <;> rfl), by (with_reducible repeat (first | apply Kd.R_alloc | apply Kd.R_drewN | apply Kd.R_drew)); exact Kd.R_mono HO420.out (fun _ hk => trivial), by repeat (first | (with_reducible first | exact HB.out | apply below_alloc | apply pw_below_drewN | apply below_drew1 | refine below_set ?_ GE405.out) | exact HB.out)⟩
  ·
   rw [if_neg c10] at H
   exact absurd H (by simp)
end Go.Proofs.Ytakiojmjalbfpaa.PFlow
namespace Go.Proofs.Ytakiojmjalbfpaa.PFlow
open Go.RowKit Go.Proofs.YtakiojmjalbfpaaW.PrintWords Go.Proofs.YtakiojmjalbfpaaW.PrintLast Go.Proofs.YtakiojmjalbfpaaW.PrintMore
attribute [local go_sem] max2_int min2_int max_two min_two max_three min_three max_four min_four plus_setCell_drewN plus_cell_same   -- for this text's walks alone
set_option linter.unusedVariables false
set_option linter.unusedSimpArgs false
def adu_Bytes.f (a0_0 : Int) (a0_1 : Int) (l0_2 : List Int) : Option (List Int × Int) := (head_Put.f a0_0 (wrap64 ((l0_2.length : Int) + 1)) a0_1).bind fun bt422 => (if bt422.2 = 0 then (if 0 ≤ (wrap64 (7 + (l0_2.length : Int))) then (if (wrap64 (7 + (l0_2.length : Int)) : Int).toNat ≤ 281474976710656 then ((some (List.replicate (wrap64 (7 + (l0_2.length : Int)) : Int).toNat 0 : List Int)).bind fun y426 => (if 0 < y426.length then ((some (Kd.laid y426 0 (min bt422.1.length y426.length) bt422.1 : List Int)).bind fun y429 => (if 0 ≤ (Kd.cnt bt422.1.length y429.length) then (if (Kd.cnt bt422.1.length y429.length) ≤ (y429.length : Int) then (if 0 < y429.length then (some ((Kd.laid y429 ((Kd.cnt bt422.1.length y429.length) : Int).toNat (min l0_2.length (y429.drop ((Kd.cnt bt422.1.length y429.length) : Int).toNat).length) l0_2), 0)) else (none)) else (none)) else (none))) else (none))) else (none)) else (none)) else (some (([] : List Int), bt422.2)))
def adu_Bytes.T5 : Bool × List (List Nat × List Nat) := (true, [([], []), ([], []), ([], []), ([1, 2], [1, 2]), ([0, 3], [0, 3]), ([], []), ([5], [5]), ([4, 6, 3], [4, 6])])
def adu_Bytes.B5 : List Nat := [0, 0, 0, 6, 15, 0, 32, 127]
theorem adu_Bytes.tab5 : rtab .any (opsOf Try.f30 5) = adu_Bytes.T5 := by kernel_rfl
theorem adu_Bytes.bits5 : waitsOk adu_Bytes.T5.2 adu_Bytes.B5 = true := by kernel_rfl
set_option maxHeartbeats 8000000 in
set_option maxRecDepth 100000 in
theorem adu_Bytes.calls (a0_0 : Int) (a0_1 : Int) (A0_2 : Option Addr) (c0_2 : Nat) (l0_2 : List Int) (r1 : List Int) (r2 : Int) (w : World) (hr0_2 : Kd.C (Kd.int .u8) w A0_2 l0_2.length l0_2) (hc0_2 : l0_2.length ≤ c0_2) (h : adu_Bytes.f a0_0 a0_1 l0_2 = some (r1, r2)) :
  Calls Try.prog 30 #[.agg #[.int .i64 a0_0, .int .i64 a0_1, .slice A0_2 l0_2.length c0_2]] w fun e w' => ∃ v0_ : Value, e = .returned (.tuple #[v0_, .int .i64 r2]) ∧ Kd.R (Kd.int .u8) 5 w' w.heap.size (fun _ => True) v0_ r1 ∧ Below w.heap.size w w' := by
 have hu53 := Try.underlying53
 have hu85 := Try.underlying85
 have HR0_2 := Aside0.mk hr0_2
 have HC0_2 := Aside0.mk hc0_2
 clear hr0_2 hc0_2
 have HB := Aside0.mk (Below.refl w.heap.size w)
 have H : ((head_Put.f a0_0 (wrap64 ((l0_2.length : Int) + 1)) a0_1).bind fun bt422 => (if bt422.2 = 0 then (if 0 ≤ (wrap64 (7 + (l0_2.length : Int))) then (if (wrap64 (7 + (l0_2.length : Int)) : Int).toNat ≤ 281474976710656 then ((some (List.replicate (wrap64 (7 + (l0_2.length : Int)) : Int).toNat 0 : List Int)).bind fun y426 => (if 0 < y426.length then ((some (Kd.laid y426 0 (min bt422.1.length y426.length) bt422.1 : List Int)).bind fun y429 => (if 0 ≤ (Kd.cnt bt422.1.length y429.length) then (if (Kd.cnt bt422.1.length y429.length) ≤ (y429.length : Int) then (if 0 < y429.length then (some ((Kd.laid y429 ((Kd.cnt bt422.1.length y429.length) : Int).toNat (min l0_2.length (y429.drop ((Kd.cnt bt422.1.length y429.length) : Int).toNat).length) l0_2), 0)) else (none)) else (none)) else (none))) else (none))) else (none)) else (none)) else (some (([] : List Int), bt422.2)))) = some (r1, r2) := h
 clear h
 replace H := Option.bind_eq_some_iff.mp H
 obtain ⟨⟨t422, t425⟩, A20, H⟩ := H
 replace H : (if t425 = 0 then (if 0 ≤ (wrap64 (7 + (l0_2.length : Int))) then (if (wrap64 (7 + (l0_2.length : Int)) : Int).toNat ≤ 281474976710656 then ((some (List.replicate (wrap64 (7 + (l0_2.length : Int)) : Int).toNat 0 : List Int)).bind fun y426 => (if 0 < y426.length then ((some (Kd.laid y426 0 (min t422.length y426.length) t422 : List Int)).bind fun y429 => (if 0 ≤ (Kd.cnt t422.length y429.length) then (if (Kd.cnt t422.length y429.length) ≤ (y429.length : Int) then (if 0 < y429.length then (some ((Kd.laid y429 ((Kd.cnt t422.length y429.length) : Int).toNat (min l0_2.length (y429.drop ((Kd.cnt t422.length y429.length) : Int).toNat).length) l0_2), 0)) else (none)) else (none)) else (none))) else (none))) else (none)) else (none)) else (some (([] : List Int), t425))) = some (r1, r2) := H
 have A2 := Aside0.mk A20
 clear A20
 by_cases c3 : t425 = 0
 ·
  rw [if_pos c3] at H
  have c3b0 : (t425 == 0) = true := beq_iff_eq.mpr c3
  have c3b1 : (t425 != 0) = false := bne_eq_false_iff_eq.mpr c3
  clear c3
  obtain ⟨ji4, hji4⟩ : ∃ j_ : Int, (wrap64 (7 + (l0_2.length : Int))) = j_ := ⟨_, rfl⟩
  replace H : (if 0 ≤ (ji4) then (if (ji4 : Int).toNat ≤ 281474976710656 then ((some (List.replicate (ji4 : Int).toNat 0 : List Int)).bind fun y426 => (if 0 < y426.length then ((some (Kd.laid y426 0 (min t422.length y426.length) t422 : List Int)).bind fun y429 => (if 0 ≤ (Kd.cnt t422.length y429.length) then (if (Kd.cnt t422.length y429.length) ≤ (y429.length : Int) then (if 0 < y429.length then (some ((Kd.laid y429 ((Kd.cnt t422.length y429.length) : Int).toNat (min l0_2.length (y429.drop ((Kd.cnt t422.length y429.length) : Int).toNat).length) l0_2), 0)) else (none)) else (none)) else (none))) else (none))) else (none)) else (none)) = some (r1, r2) := by first | (rw [hji4] at H; exact H) | (simp only [hji4] at H ⊢; exact H)
  (try rw [hji4] at A2)
  have hji4w : (IntKind.i64.wrap (7 + (l0_2.length : Int))) = ji4 := (i64_w _).trans hji4
  by_cases c5 : 0 ≤ (ji4)
  ·
   rw [if_pos c5] at H
   have c5b0 := eq_true c5
   have c5b1 : decide (0 ≤ (ji4)) = true := decide_eq_true c5
   clear c5
   by_cases c6 : (ji4 : Int).toNat ≤ 281474976710656
   ·
    rw [if_pos c6] at H
    have c6b0 := eq_true c6
    have c6b1 : decide ((ji4 : Int).toNat ≤ 281474976710656) = true := decide_eq_true c6
    clear c6
    obtain ⟨y426, hy426⟩ : ∃ y_ : List Int, y_ = (List.replicate (ji4 : Int).toNat 0) := ⟨_, rfl⟩
    replace H : (if 0 < y426.length then ((some (Kd.laid y426 0 (min t422.length y426.length) t422 : List Int)).bind fun y429 => (if 0 ≤ (Kd.cnt t422.length y429.length) then (if (Kd.cnt t422.length y429.length) ≤ (y429.length : Int) then (if 0 < y429.length then (some ((Kd.laid y429 ((Kd.cnt t422.length y429.length) : Int).toNat (min l0_2.length (y429.drop ((Kd.cnt t422.length y429.length) : Int).toNat).length) l0_2), 0)) else (none)) else (none)) else (none))) else (none)) = some (r1, r2) := by first | (rw [hy426]; with_reducible exact H) | (have H2_ := (Option.bind_some _ _).symm.trans H; rw [hy426]; with_reducible exact H2_) | (have H2_ := (Option.bind_some _ _).symm.trans H; with_reducible exact H2_) | with_reducible exact H | (rw [hy426]; exact H) | exact H
    have Ny426 := Aside0.mk hy426
    clear hy426
    by_cases c7 : 0 < y426.length
    ·
     rw [if_pos c7] at H
     have c7b0 := eq_true c7
     have c7b1 : decide (0 < y426.length) = true := decide_eq_true c7
     clear c7
     obtain ⟨y429, hy429⟩ : ∃ y_ : List Int, y_ = (Kd.laid y426 0 (min t422.length y426.length) t422) := ⟨_, rfl⟩
     replace H : (if 0 ≤ (Kd.cnt t422.length y429.length) then (if (Kd.cnt t422.length y429.length) ≤ (y429.length : Int) then (if 0 < y429.length then (some ((Kd.laid y429 ((Kd.cnt t422.length y429.length) : Int).toNat (min l0_2.length (y429.drop ((Kd.cnt t422.length y429.length) : Int).toNat).length) l0_2), 0)) else (none)) else (none)) else (none)) = some (r1, r2) := by first | (rw [hy429]; with_reducible exact H) | (have H2_ := (Option.bind_some _ _).symm.trans H; rw [hy429]; with_reducible exact H2_) | (have H2_ := (Option.bind_some _ _).symm.trans H; with_reducible exact H2_) | with_reducible exact H | (rw [hy429]; exact H) | exact H
     have Ny429 := Aside0.mk hy429
     clear hy429
     by_cases c8 : 0 ≤ (Kd.cnt t422.length y429.length)
     ·
      rw [if_pos c8] at H
      have c8b0 := eq_true c8
      have c8b1 : decide (0 ≤ (Kd.cnt t422.length y429.length)) = true := decide_eq_true c8
      clear c8
      by_cases c9 : (Kd.cnt t422.length y429.length) ≤ (y429.length : Int)
      ·
       rw [if_pos c9] at H
       have c9b0 := eq_true c9
       have c9b1 : decide ((Kd.cnt t422.length y429.length) ≤ (y429.length : Int)) = true := decide_eq_true c9
       clear c9
       obtain ⟨y432, hy432⟩ : ∃ y_ : List Int, y_ = (y429.drop ((Kd.cnt t422.length y429.length) : Int).toNat) := ⟨_, rfl⟩
       replace H : (if 0 < y429.length then (some ((Kd.laid y429 ((Kd.cnt t422.length y429.length) : Int).toNat (min l0_2.length y432.length) l0_2), 0)) else (none)) = some (r1, r2) := by first | (rw [hy432]; with_reducible exact H) | (have H2_ := (Option.bind_some _ _).symm.trans H; rw [hy432]; with_reducible exact H2_) | (have H2_ := (Option.bind_some _ _).symm.trans H; with_reducible exact H2_) | with_reducible exact H | (rw [hy432]; exact H) | exact H
       have Ny432 := Aside0.mk hy432
       clear hy432
       by_cases c10 : 0 < y429.length
       ·
        rw [if_pos c10] at H
        have c10b0 := eq_true c10
        have c10b1 : decide (0 < y429.length) = true := decide_eq_true c10
        clear c10
        obtain ⟨y436, hy436⟩ : ∃ y_ : List Int, y_ = (Kd.laid y429 ((Kd.cnt t422.length y429.length) : Int).toNat (min l0_2.length y432.length) l0_2) := ⟨_, rfl⟩
        replace H : (some (y436, 0)) = some (r1, r2) := by first | (rw [hy436]; with_reducible exact H) | (have H2_ := (Option.bind_some _ _).symm.trans H; rw [hy436]; with_reducible exact H2_) | (have H2_ := (Option.bind_some _ _).symm.trans H; with_reducible exact H2_) | with_reducible exact H | (rw [hy436]; exact H) | exact H
        have Ny436 := Aside0.mk hy436
        clear hy436
        simp only [Option.some.injEq, Prod.mk.injEq] at H
        obtain ⟨rfl, rfl⟩ := H
        go_enter Try.func30, Try.ntmps30
        try go_wp2_with (first | ((with_reducible refine gate_dst (N := 1) rfl ?_); refine box_event ?hg (N := 1) ?hd (cs := #[.int .i64 a0_0, .int .i64 a0_1, .slice A0_2 l0_2.length c0_2]) (t := 53) ?hr ?_; (case hd => rfl); (case hg => rfl); (case hr => first | (go_simp; done) | (go_simp; rfl)); intro gb421 hg w11 hbox hb; have BK421 := Aside0.mk (hbox); have GW421 := Aside0.mk ((by rw [hg]; exact (below_size (HB.out)) : w.heap.size ≤ gb421)); have GE421 := Aside0.mk ((by rw [hg]; exact (below_size (HB.out)) : w.heap.size ≤ gb421)); replace HB := Aside0.mk (below_step (HB.out) hb); clear hb hbox hg; obtain ⟨hcz12_0, hcz12_1, hcz12_2⟩ := blkc3 BK421.out; obtain ⟨hfz12_0, hfz12_1, hfz12_2⟩ := blkf3 BK421.out) | ((with_reducible refine gate_callee (f := 51) rfl ?_); refine goesL_ (some 17) rfl rfl Try.func51 (by kernel_rfl) rfl #[.agg #[.int .i64 a0_0, .int .i64 (wrap64 ((l0_2.length : Int) + 1)), .int .i64 a0_1]] rfl (by (try simp only [List.map_toArray, List.map_cons, List.map_nil]); first | done | rfl | (simp only [List.length_drop, List.length_take]; rfl)) ?_; (with_reducible refine (head_Put.calls a0_0 (wrap64 ((l0_2.length : Int) + 1)) a0_1 t422 t425 _ A2.out).mono ?_); rintro e w13 ⟨v423, rfl, ho0, hb⟩; refine ⟨_, rfl, ?_⟩; have HO424 := Aside0.mk (Kd.R_lower ho0 (below_size (HB.out))); replace BK421 := Aside0.mk (blk_below BK421.out hb); replace HB := Aside0.mk (below_step (HB.out) hb); (try clear hb); (try clear ho0); obtain ⟨hcz14_0, hcz14_1, hcz14_2⟩ := blkc3 BK421.out; obtain ⟨hfz14_0, hfz14_1, hfz14_2⟩ := blkf3 BK421.out) | ((with_reducible refine gate_dst (N := 27) rfl ?_); refine Kd.R_make (Kd.int .u8) _ 5 rfl (N := 27) rfl 30 _ _ rfl ji4 rfl rfl Try.underlying30 (.int .u8 0) 1 info5 rfl (by decide) (by omega) 0 (ok := fun _ => True) (okp := fun _ => True) rfl (fun _ hk => hk) trivial (of_decide_eq_true (by first | (with_reducible assumption) | assumption)) (Nat.le_trans (Nat.mul_le_mul_right _ (of_decide_eq_true (by first | (with_reducible assumption) | assumption) : ji4.toNat ≤ 281474976710656)) (by omega)) (Below.refl _ _) (Nat.le_refl _) ?_; intro v427 w15 ho16 hb hg_ hnew_; clear hg_ hnew_; (first | rw [← Ny426.out] at ho16 | (simp only [Int.reduceToNat] at ho16; rw [← Ny426.out] at ho16)); have HO428 := Aside0.mk (Kd.R_lower (Kd.R_new' ho16 (Kd.R_lt (HO424.out))) (below_size (HB.out))); replace HO424 := Aside0.mk (Kd.R_elder' (HO424.out) (Kd.R_base ho16) hb); replace BK421 := Aside0.mk (blk_below BK421.out hb); replace HB := Aside0.mk (below_step (HB.out) hb); clear hb ho16))
        have n0_ := Aside0.mk (Kd.R_drew HO424.out)
        have n1_ := Aside0.mk (Kd.R_drew HO428.out)
        have n2_ := Aside0.mk (blk_drew BK421.out)
        have n3_ := Aside0.mk (below_drew1 HB.out)
        clear HO424
        clear HO428
        clear BK421
        clear HB
        have HO424 := n0_
        have HO428 := n1_
        have BK421 := n2_
        have HB := n3_
        clear n0_ n1_ n2_ n3_
        obtain ⟨Ao20, co20, eo20⟩ := Kd.R_slice HO428.out
        (first | subst eo20 | (injection eo20 with f1_ f2_ f3_; have f4_ := f1_.symm; have f5_ := f3_.symm; clear f1_ f2_ f3_; subst f4_; subst f5_))
        obtain ⟨Ao21, co21, eo21⟩ := Kd.R_slice HO424.out
        (first | subst eo21 | (injection eo21 with f1_ f2_ f3_; have f4_ := f1_.symm; have f5_ := f3_.symm; clear f1_ f2_ f3_; subst f4_; subst f5_))
        obtain ⟨go19, co19, eo19, gb19, gl19, cl19, HG19⟩ := Kd.R_form HO428.out (by have hp_ : 0 < y426.length := of_decide_eq_true (by first | (with_reducible assumption) | assumption); omega)
        (first | cases eo19 | (injection eo19 with ea_ en_ ec_; (first | subst ea_ | (injection ea_ with ea_; subst ea_)); subst ec_; clear en_))
        have GB19 := Aside0.mk gb19
        have GG19 := Aside0.mk HG19
        clear gb19 gl19 HG19
        have n_ := Aside0.mk (Kd.R_mono (ok' := (fun k_ => some k_ ≠ (.slice Ao21 t422.length co21 : Value).ownBlock)) HO428.out (fun k_ hk => by first | exact hk | exact hk.2))
        clear HO428
        have HO428 := n_
        clear n_
        refine start_ (n := 8) (S := fun w' => w'.cell? ⟨gb421, 0, none⟩ = some (.int .i64 a0_0) ∧ w'.cell? ⟨gb421, 1, none⟩ = some (.int .i64 a0_1) ∧ w'.cell? ⟨gb421, 2, none⟩ = some (.slice A0_2 l0_2.length c0_2)) (ds := []) #[false,false,false,false,false,false,false,false] (by kernel_rfl) rfl rfl ⟨(blk_cell BK421.out 0).trans rfl, (blk_cell BK421.out 1).trans rfl, (blk_cell BK421.out 2).trans rfl⟩ (fun hHeld => ?_); refine with_tabW adu_Bytes.tab5 adu_Bytes.bits5 (fun HT_ HW_ => ?_)
        generalize w15.drew = w17 at HO424 HO428 BK421 HB GG19 hHeld ⊢
        refine pure_ (i := 0) (N := some 28) (v := ?_) (a' := ?_) #[true,false,false,false,false,false,false,false] rfl rfl (any_of HT_.out (by kernel_rfl)) (fun _ _ _ h => h) (Or.inl ⟨by rfl, ?_⟩) ?_ ?_
        rotate_left
        ·
         intro w'
         go_simp
         with_reducible rfl
        rotate_left
        ·
         simp only [Act.put, List.setIfInBounds_toArray, List.set_cons_zero, List.set_cons_succ, i64_w, i32_w]
         rfl
        refine pure_ (i := 1) (N := some 29) (v := ?_) (a' := ?_) #[true,true,false,false,false,false,false,false] rfl rfl (any_of HT_.out (by kernel_rfl)) (fun _ _ _ h => h) (Or.inl ⟨by rfl, ?_⟩) ?_ ?_
        rotate_left
        ·
         intro w'
         go_simp
         with_reducible rfl
        rotate_left
        ·
         simp only [Act.put, List.setIfInBounds_toArray, List.set_cons_zero, List.set_cons_succ, i64_w, i32_w]
         rfl
        refine pure_ (i := 2) (N := some 30) (v := ?_) (a' := ?_) #[true,true,true,false,false,false,false,false] rfl rfl (any_of HT_.out (by kernel_rfl)) (fun _ _ _ h => h) (Or.inl ⟨by rfl, ?_⟩) ?_ ?_
        rotate_left
        ·
         intro w'
         go_simp
         with_reducible rfl
        rotate_left
        ·
         simp only [Act.put, List.setIfInBounds_toArray, List.set_cons_zero, List.set_cons_succ, i64_w, i32_w]
         rfl
        refine pure_ (i := 5) (N := some 33) (v := ?_) (a' := ?_) #[true,true,true,false,false,true,false,false] rfl rfl (any_of HT_.out (by kernel_rfl)) (fun _ _ _ h => h) (Or.inl ⟨by rfl, ?_⟩) ?_ ?_
        rotate_left
        ·
         intro w'
         go_simp
         with_reducible rfl
        rotate_left
        ·
         simp only [Act.put, List.setIfInBounds_toArray, List.set_cons_zero, List.set_cons_succ, i64_w, i32_w]
         rfl
        refine take_ (i := 6) (N := some 34) (v := ?_) (a' := ?_) #[true,true,true,false,false,true,true,false] rfl rfl (take_ofW HT_.out HW_.out (by kernel_rfl)) (fun _ _ _ h => h) (Or.inl ⟨by rfl, ?_⟩) hHeld ?_ ?_
        rotate_left
        ·
         rintro w' ⟨s0, s1, s2⟩
         go_simp
         with_reducible rfl
        rotate_left
        ·
         simp only [Act.put, List.setIfInBounds_toArray, List.set_cons_zero, List.set_cons_succ, i64_w, i32_w]
         rfl
        refine one_ (i := 3) (N := some 31) #[true,true,true,true,false,true,true,false] rfl rfl (one_of HT_.out (by kernel_rfl)) (by decide) (fun K hK => ?_)
        refine Kd.R_copy_at_step (Kd.int .u8) (Kd.flat_int .u8) (w0 := w) w.heap.size (by rfl) (.tmp 29) (.tmp 30) 30 30 5 rfl Try.underlying30 (by kernel_rfl) (g := go19) (n := y426.length) (c := co20) 0 t422 rfl rfl (HO428.out) ?hm ?hA ?hR (HB.out) (below_size (HB.out)) ?_
        (case hm => omega)
        (case hA => intro _; rw [Nat.zero_mul])
        (case hR => repeat (first | exact (Kd.R_reads' HO424.out).2.2 | (with_reducible refine Kd.C_alloc ?_ _) | (with_reducible refine Kd.C_drewN ?_ _) | (with_reducible refine Kd.C_drew ?_)))
        intro w18 ho hb hg
        rw [← Ny429.out] at ho
        have hn_ : y426.length = y429.length := (Kd.R_reads' ho).1
        rw [hn_] at ho ⊢
        clear hn_
        have n0_ := Aside0.mk (blk_grown (g := gb421) (o := .cells #[.int .i64 a0_0, .int .i64 a0_1, .slice A0_2 l0_2.length c0_2] 53 (0, 0)) (BK421.out) hg (Kd.R_ne HO428.out BK421.out (by decide)))
        have n1_ := Aside0.mk (Kd.R_after (v := (.slice (some ⟨go19, 0, none⟩) y426.length co20)) (v1 := .slice (some ⟨go19, 0, none⟩) y429.length co20) (ok := (fun _ => True)) (HO424.out) hg (.inl rfl))
        have n2_ := Aside0.mk (ho)
        have n3_ := Aside0.mk (hb)
        clear BK421
        clear HO424
        clear HO428
        clear HB
        have BK421 := n0_
        have HO424 := n1_
        have HO428 := n2_
        have HB := n3_
        clear n0_ n1_ n2_ n3_
        clear ho hb hg
        have q22 : ((Kd.cnt t422.length y429.length) : Int) ≤ ((y429.length : Int) : Int) := of_decide_eq_true (by first | (with_reducible assumption) | assumption)
        obtain ⟨i022, hi022, _, hsz22, _⟩ := info_parts info5
        have hroom22 : y429.length ≤ co20 := (Kd.R_reads' HO428.out).2.1
        have hC22 : Kd.C (Kd.int .u8) _ (some ⟨go19, 0, none⟩) y429.length y429 := (Kd.R_reads' HO428.out).2.2
        have q022 : (0 : Int) ≤ ((Kd.cnt t422.length y429.length) : Int) := of_decide_eq_true (by first | (with_reducible assumption) | assumption)
        have hcut22 := cut_from (P := Try.prog) 30 5 .i64 Try.underlying30 hi022 1 hsz22 (some ⟨go19, 0, none⟩) y429.length co20 (Kd.cnt t422.length y429.length) q022 q22
        have hr22 := Kd.C_drop (m := ((Kd.cnt t422.length y429.length) : Int).toNat) (c := co20) hC22 (by omega) hroom22
        obtain ⟨A22, hA22⟩ : ∃ A1, A1 = (if co20 = ((Kd.cnt t422.length y429.length) : Int).toNat then (some ⟨go19, 0, none⟩) else ((some ⟨go19, 0, none⟩) : Option Addr).map (·.add (((Kd.cnt t422.length y429.length) : Int).toNat * 1))) := ⟨_, rfl⟩
        obtain ⟨c22, hc22⟩ : ∃ c1, c1 = co20 - ((Kd.cnt t422.length y429.length) : Int).toNat := ⟨_, rfl⟩
        have hy22 : y432.length = y429.length - ((Kd.cnt t422.length y429.length) : Int).toNat := (by rw [Ny432.out, List.length_drop] <;> omega)
        rw [show (y429).drop ((Kd.cnt t422.length y429.length) : Int).toNat = y432 from Ny432.out.symm] at hr22
        replace hr22 : Kd.C (Kd.int .u8) _ A22 y432.length y432 := (by rw [hA22]; exact hr22)
        rw [← hy22, ← hA22, ← hc22] at hcut22
        have HR435 := Aside0.mk hr22
        have HC435 := Aside0.mk (show y432.length ≤ c22 from by rw [hy22, hc22]; exact Nat.sub_le_sub_right hroom22 _)
        clear hr22 hC22 hroom22 hi022 hsz22 hc22
        have KY22 := Aside0.mk hy22
        have KA22 := Aside0.mk hA22
        clear hy22 hA22
        have KL22 := Aside0.mk (show ((Kd.cnt t422.length y429.length) : Int).toNat ≤ y429.length from by omega)
        replace q22 := eq_true q22
        refine hK.out _ _ ⟨(blk_cell BK421.out 0).trans rfl, (blk_cell BK421.out 1).trans rfl, (blk_cell BK421.out 2).trans rfl⟩ (fun hHeld => ?_)
        clear hK K
        refine norm_ (a' := ?_) ?_ ?_
        rotate_left
        ·
         show Act.put _ (some 31) _ = _
         simp only [Act.put, List.setIfInBounds_toArray, List.set_cons_zero, List.set_cons_succ, i64_w, i32_w]
         rfl
        refine pure_ (i := 4) (N := some 32) (v := ?_) (a' := ?_) #[true,true,true,true,true,true,true,false] rfl rfl (any_of HT_.out (by kernel_rfl)) (fun _ _ _ h => h) (Or.inl ⟨by rfl, ?_⟩) ?_ ?_
        rotate_left
        ·
         intro w'
         go_simp
         with_reducible rfl
        rotate_left
        ·
         simp only [Act.put, List.setIfInBounds_toArray, List.set_cons_zero, List.set_cons_succ, i64_w, i32_w]
         rfl
        refine one_ (i := 7) (N := some 35) #[true,true,true,true,true,true,true,true] rfl rfl (one_of HT_.out (by kernel_rfl)) (by decide) (fun K hK => ?_)
        have hj_ : 0 ≤ ((Kd.cnt t422.length y429.length) : Int) := of_decide_eq_true (by first | (with_reducible assumption) | assumption)
        have hl_ : ((Kd.cnt t422.length y429.length) : Int) ≤ (y429.length : Int) := of_decide_eq_true (by first | (with_reducible assumption) | assumption)
        have hy1_ := KY22.out
        refine Kd.R_copy_at_step (Kd.int .u8) (Kd.flat_int .u8) (w0 := w) w.heap.size (by rfl) (.tmp 32) (.tmp 34) 30 30 5 rfl Try.underlying30 (by kernel_rfl) (g := go19) (n := y429.length) (c := co20) (((Kd.cnt t422.length y429.length) : Int).toNat) l0_2 rfl rfl (HO428.out) ?hm ?hA ?hR (HB.out) (below_size (HB.out)) ?_
        (case hm => omega)
        (case hA => intro hp_; have ha_ := KA22.out; have hc_ := (Kd.R_reads' HO428.out).2.1; rw [if_neg (by omega)] at ha_; rw [ha_, Option.map_some, add_at, Nat.zero_add]; first | done | rfl)
        (case hR => repeat (first | exact (Kd.C_below HR0_2.out HB.out) | (with_reducible refine Kd.C_alloc ?_ _) | (with_reducible refine Kd.C_drewN ?_ _) | (with_reducible refine Kd.C_drew ?_)))
        intro w23 ho hb hg
        clear hj_ hl_ hy1_
        rw [← Ny436.out] at ho
        have hn_ : y429.length = y436.length := (Kd.R_reads' ho).1
        rw [hn_] at ho ⊢
        clear hn_
        have n0_ := Aside0.mk (blk_grown (g := gb421) (o := .cells #[.int .i64 a0_0, .int .i64 a0_1, .slice A0_2 l0_2.length c0_2] 53 (0, 0)) (BK421.out) hg (Kd.R_ne HO428.out BK421.out (by decide)))
        have n1_ := Aside0.mk (Kd.R_after (v := (.slice (some ⟨go19, 0, none⟩) y429.length co20)) (v1 := .slice (some ⟨go19, 0, none⟩) y436.length co20) (ok := (fun _ => True)) (HO424.out) hg (.inl rfl))
        have n2_ := Aside0.mk (ho)
        have n3_ := Aside0.mk (hb)
        clear BK421
        clear HO424
        clear HO428
        clear HB
        have BK421 := n0_
        have HO424 := n1_
        have HO428 := n2_
        have HB := n3_
        clear n0_ n1_ n2_ n3_
        clear ho hb hg
        refine hK.out _ _ ⟨(blk_cell BK421.out 0).trans rfl, (blk_cell BK421.out 1).trans rfl, (blk_cell BK421.out 2).trans rfl⟩ (fun hHeld => ?_)
        clear hK K
        refine norm_ (a' := ?_) ?_ ?_
        rotate_left
        ·
         show Act.put _ (some 35) _ = _
         simp only [Act.put, List.setIfInBounds_toArray, List.set_cons_zero, List.set_cons_succ, i64_w, i32_w]
         rfl
        refine done_ (done_of HT_.out (by kernel_rfl)) ?_
        try go_wp2
        go_ret2
        exact ⟨_, by first | rfl | (simp [errW_none, errW_some] <;> rfl) | (simp only [← hji4]; first | rfl | (simp [errW_none, errW_some] <;> rfl)) | (simp [*, errW_none, errW_some] <;> rfl), Kd.R_mono HO428.out (fun _ hk => trivial), HB.out⟩
       ·
        rw [if_neg c10] at H
        exact absurd H (by simp)
      ·
       rw [if_neg c9] at H
       exact absurd H (by simp)
     ·
      rw [if_neg c8] at H
      exact absurd H (by simp)
    ·
     rw [if_neg c7] at H
     exact absurd H (by simp)
   ·
    rw [if_neg c6] at H
    exact absurd H (by simp)
  ·
   rw [if_neg c5] at H
   exact absurd H (by simp)
 ·
  rw [if_neg c3] at H
  have c3b0 : (t425 == 0) = false := beq_eq_false_iff_ne.mpr c3
  have c3b1 : (t425 != 0) = true := bne_iff_ne.mpr c3
  simp only [Option.some.injEq, Prod.mk.injEq] at H
  obtain ⟨rfl, rfl⟩ := H
  go_enter Try.func30, Try.ntmps30
  go_wp2_with (first | ((with_reducible refine gate_dst (N := 1) rfl ?_); refine box_event ?hg (N := 1) ?hd (cs := #[.int .i64 a0_0, .int .i64 a0_1, .slice A0_2 l0_2.length c0_2]) (t := 53) ?hr ?_; (case hd => rfl); (case hg => rfl); (case hr => first | (go_simp; done) | (go_simp; rfl)); intro gb421 hg w25 hbox hb; have BK421 := Aside0.mk (hbox); have GW421 := Aside0.mk ((by rw [hg]; exact (below_size (HB.out)) : w.heap.size ≤ gb421)); have GE421 := Aside0.mk ((by rw [hg]; exact (below_size (HB.out)) : w.heap.size ≤ gb421)); replace HB := Aside0.mk (below_step (HB.out) hb); clear hb hbox hg; obtain ⟨hcz26_0, hcz26_1, hcz26_2⟩ := blkc3 BK421.out; obtain ⟨hfz26_0, hfz26_1, hfz26_2⟩ := blkf3 BK421.out) | ((with_reducible refine gate_callee (f := 51) rfl ?_); refine goesL_ (some 17) rfl rfl Try.func51 (by kernel_rfl) rfl #[.agg #[.int .i64 a0_0, .int .i64 (wrap64 ((l0_2.length : Int) + 1)), .int .i64 a0_1]] rfl (by (try simp only [List.map_toArray, List.map_cons, List.map_nil]); first | done | rfl | (simp only [List.length_drop, List.length_take]; rfl)) ?_; (with_reducible refine (head_Put.calls a0_0 (wrap64 ((l0_2.length : Int) + 1)) a0_1 t422 t425 _ A2.out).mono ?_); rintro e w27 ⟨v423, rfl, ho0, hb⟩; refine ⟨_, rfl, ?_⟩; have HO424 := Aside0.mk (Kd.R_lower ho0 (below_size (HB.out))); replace BK421 := Aside0.mk (blk_below BK421.out hb); replace HB := Aside0.mk (below_step (HB.out) hb); (try clear hb); (try clear ho0)))
  go_ret2
  exact ⟨_, by first | rfl | (simp [errW_none, errW_some] <;> rfl) | (simp [*, errW_none, errW_some] <;> rfl), by first | exact Kd.R_nil _ _ _ _ _ | exact Kd.N_nil _ _ _ _ _ | exact Kd.V_nil _ _ _ _ _ | exact Kd.Q_nil _ _ _ _ _ | exact Kd.S_nil _ _ _ _ _, HB.out⟩
end Go.Proofs.Ytakiojmjalbfpaa.PFlow
namespace Go.Proofs.Ytakiojmjalbfpaa.PFlow
open Go.RowKit Go.Proofs.YtakiojmjalbfpaaW.PrintWords Go.Proofs.YtakiojmjalbfpaaW.PrintLast Go.Proofs.YtakiojmjalbfpaaW.PrintMore
attribute [local go_sem] max2_int min2_int max_two min_two max_three min_three max_four min_four plus_setCell_drewN plus_cell_same   -- for this text's walks alone
set_option linter.unusedVariables false
set_option linter.unusedSimpArgs false
def busbarlaw8_awake.f  : Option (Bool) := (adu_Bytes.f 1 17 (([3, 0, 0, 0, 1] : List Int))).bind fun bt442 => (if bt442.2 = 0 then (some ((strOfNums bt442.1).toList == ([0, 1, 0, 0, 0, 6, 17, 3, 0, 0, 0, 1] : List UInt8))) else (some false))
set_option maxHeartbeats 8000000 in
set_option maxRecDepth 100000 in
theorem busbarlaw8_awake.calls  (r : Bool) (w : World) (h : busbarlaw8_awake.f  = some r) :
  Calls Try.prog 27 #[] w fun e w' => e = .returned (.bool r) ∧ Below w.heap.size w w' := by
 have hu53 := Try.underlying53
 have HB := Aside0.mk (Below.refl w.heap.size w)
 have H : ((adu_Bytes.f 1 17 (([3, 0, 0, 0, 1] : List Int))).bind fun bt442 => (if bt442.2 = 0 then (some ((strOfNums bt442.1).toList == ([0, 1, 0, 0, 0, 6, 17, 3, 0, 0, 0, 1] : List UInt8))) else (some false))) = some r := h
 clear h
 obtain ⟨y439, hy439⟩ : ∃ y_ : List Int, y_ = (([3, 0, 0, 0, 1] : List Int)) := ⟨_, rfl⟩
 replace H : ((adu_Bytes.f 1 17 y439).bind fun bt442 => (if bt442.2 = 0 then (some ((strOfNums bt442.1).toList == ([0, 1, 0, 0, 0, 6, 17, 3, 0, 0, 0, 1] : List UInt8))) else (some false))) = some r := by first | (rw [hy439]; with_reducible exact H) | (have H2_ := (Option.bind_some _ _).symm.trans H; rw [hy439]; with_reducible exact H2_) | (have H2_ := (Option.bind_some _ _).symm.trans H; with_reducible exact H2_) | with_reducible exact H | (rw [hy439]; exact H) | exact H
 have Ny439 := Aside0.mk hy439
 clear hy439
 replace H := Option.bind_eq_some_iff.mp H
 obtain ⟨⟨t442, t445⟩, A10, H⟩ := H
 replace H : (if t445 = 0 then (some ((strOfNums t442).toList == ([0, 1, 0, 0, 0, 6, 17, 3, 0, 0, 0, 1] : List UInt8))) else (some false)) = some r := H
 have A1 := Aside0.mk A10
 clear A10
 by_cases c2 : t445 = 0
 ·
  rw [if_pos c2] at H
  have c2b0 : (t445 == 0) = true := beq_iff_eq.mpr c2
  have c2b1 : (t445 != 0) = false := bne_eq_false_iff_eq.mpr c2
  clear c2
  obtain rfl := Option.some.inj H
  go_enter Try.func27, Try.ntmps27
  go_wp2_with (first | ((with_reducible refine gate_dst (N := 4) rfl ?_); refine Kd.R_lit (Kd.int .u8) _ 5 ?hg (N := 4) ?hd (xs := ([3, 0, 0, 0, 1] : List Int)) (inner := [.int .u8 3, .int .u8 0, .int .u8 0, .int .u8 0, .int .u8 1]) (ok := fun _ => True) (okp := fun _ => True) ?hr ?hp (fun _ hk => hk) trivial (Below.refl _ _) (Nat.le_refl _) (by simp) ?_; (case hd => rfl); (case hg => rfl); (case hr => first | (go_simp; done) | (go_simp; rfl)); (case hp => exact (Reps.one (show Kd.M (Kd.int .u8) _ _ _ 3 [.int .u8 3] from rfl) (Reps.one (show Kd.M (Kd.int .u8) _ _ _ 0 [.int .u8 0] from rfl) (Reps.one (show Kd.M (Kd.int .u8) _ _ _ 0 [.int .u8 0] from rfl) (Reps.one (show Kd.M (Kd.int .u8) _ _ _ 0 [.int .u8 0] from rfl) (Reps.one (show Kd.M (Kd.int .u8) _ _ _ 1 [.int .u8 1] from rfl) (Reps.none _ _))))))); intro v440 w3 ho4 hb hg_ hnew_; clear hg_ hnew_; (first | rw [← Ny439.out] at ho4 | (simp only [Int.reduceToNat] at ho4; rw [← Ny439.out] at ho4)); have n0_ := Aside0.mk (Kd.R_lower ho4 (below_size (by repeat (first | (with_reducible first | exact HB.out | apply below_alloc | apply pw_below_drewN | apply below_drew1) | exact HB.out)))); have n1_ := Aside0.mk (below_step (by repeat (first | (with_reducible first | exact HB.out | apply below_alloc | apply pw_below_drewN | apply below_drew1) | exact HB.out)) hb); clear HB; have HO441 := n0_; have HB := n1_; clear n0_ n1_; clear hb ho4; obtain ⟨Ao5, co5, eo5⟩ := Kd.R_slice HO441.out; subst eo5) | ((with_reducible refine gate_callee (f := 30) rfl ?_); refine goesL_ (some 6) rfl rfl Try.func30 (by kernel_rfl) rfl #[.agg #[.int .i64 1, .int .i64 17, .slice Ao5 y439.length co5]] rfl (by (try simp only [List.map_toArray, List.map_cons, List.map_nil]); first | done | rfl | (simp only [List.length_drop, List.length_take]; rfl)) ?_; (with_reducible refine (adu_Bytes.calls 1 17 _ _ y439 t442 t445 _ ?side1 ?side2 A1.out).mono ?_); (case side1 => repeat (first | exact (Kd.R_reads' HO441.out).2.2 | (with_reducible refine Kd.C_alloc ?_ _) | (with_reducible refine Kd.C_drewN ?_ _) | (with_reducible refine Kd.C_drew ?_))); (case side2 => exact (Kd.R_reads' HO441.out).2.1); rintro e w6 ⟨v443, rfl, ho0, hb⟩; refine ⟨_, rfl, ?_⟩; have n0_ := Aside0.mk (Kd.R_elder' (by (with_reducible repeat (first | apply Kd.R_alloc | apply Kd.R_drewN | apply Kd.R_drew)); exact HO441.out) (Kd.R_base ho0) hb); have n1_ := Aside0.mk (Kd.R_lower (Kd.R_new' ho0 (Kd.R_lt (by (with_reducible repeat (first | apply Kd.R_alloc | apply Kd.R_drewN | apply Kd.R_drew)); exact HO441.out))) (below_size (by repeat (first | (with_reducible first | exact HB.out | apply below_alloc | apply pw_below_drewN | apply below_drew1) | exact HB.out)))); have n2_ := Aside0.mk (below_step (by repeat (first | (with_reducible first | exact HB.out | apply below_alloc | apply pw_below_drewN | apply below_drew1) | exact HB.out)) hb); clear HO441; clear HB; have HO441 := n0_; have HO444 := n1_; have HB := n2_; clear n0_ n1_ n2_; (try clear hb); (try clear hb2); (try clear hk); (try clear hi); (try clear ho0); have hcv7 := own_string (P := Try.prog) Try.underlying30 Try.underlying5 Try.underlying9 (Kd.own_of_R (h1 := fun _ => rfl) HO444.out)))
  go_ret
  exact ⟨by first | rfl | (simp [errW_none, errW_some] <;> rfl) | (simp [*, errW_none, errW_some] <;> rfl), by repeat (first | (with_reducible first | exact HB.out | apply below_alloc | apply pw_below_drewN | apply below_drew1) | exact HB.out)⟩
 ·
  rw [if_neg c2] at H
  have c2b0 : (t445 == 0) = false := beq_eq_false_iff_ne.mpr c2
  have c2b1 : (t445 != 0) = true := bne_iff_ne.mpr c2
  obtain rfl := Option.some.inj H
  go_enter Try.func27, Try.ntmps27
  go_wp2_with (first | ((with_reducible refine gate_dst (N := 4) rfl ?_); refine Kd.R_lit (Kd.int .u8) _ 5 ?hg (N := 4) ?hd (xs := ([3, 0, 0, 0, 1] : List Int)) (inner := [.int .u8 3, .int .u8 0, .int .u8 0, .int .u8 0, .int .u8 1]) (ok := fun _ => True) (okp := fun _ => True) ?hr ?hp (fun _ hk => hk) trivial (Below.refl _ _) (Nat.le_refl _) (by simp) ?_; (case hd => rfl); (case hg => rfl); (case hr => first | (go_simp; done) | (go_simp; rfl)); (case hp => exact (Reps.one (show Kd.M (Kd.int .u8) _ _ _ 3 [.int .u8 3] from rfl) (Reps.one (show Kd.M (Kd.int .u8) _ _ _ 0 [.int .u8 0] from rfl) (Reps.one (show Kd.M (Kd.int .u8) _ _ _ 0 [.int .u8 0] from rfl) (Reps.one (show Kd.M (Kd.int .u8) _ _ _ 0 [.int .u8 0] from rfl) (Reps.one (show Kd.M (Kd.int .u8) _ _ _ 1 [.int .u8 1] from rfl) (Reps.none _ _))))))); intro v440 w8 ho9 hb hg_ hnew_; clear hg_ hnew_; (first | rw [← Ny439.out] at ho9 | (simp only [Int.reduceToNat] at ho9; rw [← Ny439.out] at ho9)); have n0_ := Aside0.mk (Kd.R_lower ho9 (below_size (by repeat (first | (with_reducible first | exact HB.out | apply below_alloc | apply pw_below_drewN | apply below_drew1) | exact HB.out)))); have n1_ := Aside0.mk (below_step (by repeat (first | (with_reducible first | exact HB.out | apply below_alloc | apply pw_below_drewN | apply below_drew1) | exact HB.out)) hb); clear HB; have HO441 := n0_; have HB := n1_; clear n0_ n1_; clear hb ho9; obtain ⟨Ao10, co10, eo10⟩ := Kd.R_slice HO441.out; subst eo10) | ((with_reducible refine gate_callee (f := 30) rfl ?_); refine goesL_ (some 6) rfl rfl Try.func30 (by kernel_rfl) rfl #[.agg #[.int .i64 1, .int .i64 17, .slice Ao10 y439.length co10]] rfl (by (try simp only [List.map_toArray, List.map_cons, List.map_nil]); first | done | rfl | (simp only [List.length_drop, List.length_take]; rfl)) ?_; (with_reducible refine (adu_Bytes.calls 1 17 _ _ y439 t442 t445 _ ?side1 ?side2 A1.out).mono ?_); (case side1 => repeat (first | exact (Kd.R_reads' HO441.out).2.2 | (with_reducible refine Kd.C_alloc ?_ _) | (with_reducible refine Kd.C_drewN ?_ _) | (with_reducible refine Kd.C_drew ?_))); (case side2 => exact (Kd.R_reads' HO441.out).2.1); rintro e w11 ⟨v443, rfl, ho0, hb⟩; refine ⟨_, rfl, ?_⟩; have n0_ := Aside0.mk (Kd.R_elder' (by (with_reducible repeat (first | apply Kd.R_alloc | apply Kd.R_drewN | apply Kd.R_drew)); exact HO441.out) (Kd.R_base ho0) hb); have n1_ := Aside0.mk (Kd.R_lower (Kd.R_new' ho0 (Kd.R_lt (by (with_reducible repeat (first | apply Kd.R_alloc | apply Kd.R_drewN | apply Kd.R_drew)); exact HO441.out))) (below_size (by repeat (first | (with_reducible first | exact HB.out | apply below_alloc | apply pw_below_drewN | apply below_drew1) | exact HB.out)))); have n2_ := Aside0.mk (below_step (by repeat (first | (with_reducible first | exact HB.out | apply below_alloc | apply pw_below_drewN | apply below_drew1) | exact HB.out)) hb); clear HO441; clear HB; have HO441 := n0_; have HO444 := n1_; have HB := n2_; clear n0_ n1_ n2_; (try clear hb); (try clear hb2); (try clear hk); (try clear hi); (try clear ho0)))
  go_ret
  exact ⟨by first | rfl | (simp [errW_none, errW_some] <;> rfl) | (simp [*, errW_none, errW_some] <;> rfl), by repeat (first | (with_reducible first | exact HB.out | apply below_alloc | apply pw_below_drewN | apply below_drew1) | exact HB.out)⟩
end Go.Proofs.Ytakiojmjalbfpaa.PFlow
set_option linter.unusedVariables false
set_option linter.unusedSimpArgs false
namespace Go.Proofs.Ytakiojmjalbfpaa.LemBytesFlow
open Go.RowKit Go.Proofs.Ytakiojmjalbfpaa.PFlow Go.Proofs.YtakiojmjalbfpaaW.PrintWords Go.Proofs.YtakiojmjalbfpaaW.PrintLast Go.Proofs.YtakiojmjalbfpaaW.PrintMore Go.Proofs.Ytakiojmjalbfpaa.Num
theorem get_some (l : List Int) (i : Nat) (hl : l.length ≤ 100000) (h : i + 2 ≤ l.length) (hb : ∀ x ∈ l, 0 ≤ x ∧ x < 256) : word_Get.f l (i : Int) = some (l[i]'(by omega) * 256 + l[i + 1]'(by omega), true) := by
  unfold word_Get.f
  have ha := hb (l[i]'(by omega)) (List.getElem_mem _)
  have hc := hb (l[i + 1]'(by omega)) (List.getElem_mem _)
  have r0 : rd l (i : Int) = l[i]'(by omega) := by simp [rd, List.getD_eq_getElem?_getD, List.getElem?_eq_getElem (show i < l.length by omega)]
  have r1 : rd l ((i : Int) + 1) = l[i + 1]'(by omega) := by
    have : ((i : Int) + 1).toNat = i + 1 := by omega
    simp [rd, this, List.getD_eq_getElem?_getD, List.getElem?_eq_getElem (show i + 1 < l.length by omega)]
  rw [if_neg (by omega), wrap64_id (by omega) (by omega), if_neg (by omega), if_pos (by omega), if_pos (by omega), wrap64_id (by omega) (by omega), if_pos (by omega), if_pos (by omega), r0, r1]
  rw [u16_id (x := l[i]'(by omega)) (by omega) (by omega), u16_id (by omega) (by omega), u16_id (by omega) (by omega), u16_or_hi _ _ (by omega) (by omega) (by omega) (by omega) (by omega)]
end Go.Proofs.Ytakiojmjalbfpaa.LemBytesFlow
set_option linter.unusedVariables false
set_option linter.unusedSimpArgs false
namespace Go.Proofs.Ytakiojmjalbfpaa.LemHeadFlow
open Go.RowKit Go.Proofs.Ytakiojmjalbfpaa.PFlow Go.Proofs.YtakiojmjalbfpaaW.PrintWords Go.Proofs.YtakiojmjalbfpaaW.PrintLast Go.Proofs.YtakiojmjalbfpaaW.PrintMore Go.Proofs.Ytakiojmjalbfpaa.Num Go.Proofs.Ytakiojmjalbfpaa.LemBytesFlow
def Ok (t l u : Int) : Prop := 0 ≤ t ∧ t ≤ 65535 ∧ 2 ≤ l ∧ l ≤ 254 ∧ 0 ≤ u ∧ u ≤ 255
instance (t l u : Int) : Decidable (Ok t l u) := by unfold Ok; infer_instance
def hb (t l u : Int) : List Int := [t / 256, t % 256, 0, 0, 0, l, u]
theorem held1 (x a b : Int) (hab : a ≤ b) : (x == mn (mx x a) b) = decide (a ≤ x ∧ x ≤ b) := by
  rw [Bool.eq_iff_iff]
  simp only [beq_iff_eq, decide_eq_true_eq]
  unfold mn mx
  split <;> split <;> omega
theorem held_bad (t l u : Int) : (!(t == mn (mx t 0) 65535) || (!(l == mn (mx l 2) 254) || (!(u == mn (mx u 0) 255)))) = !decide (Ok t l u) := by
  have e : Ok t l u ↔ (0 ≤ t ∧ t ≤ 65535) ∧ (2 ≤ l ∧ l ≤ 254) ∧ (0 ≤ u ∧ u ≤ 255) := by unfold Ok; constructor <;> intro h <;> omega
  rw [held1 t 0 65535 (by omega), held1 l 2 254 (by omega), held1 u 0 255 (by omega), Bool.eq_iff_iff]
  simp only [Bool.or_eq_true, Bool.not_eq_true', decide_eq_false_iff_not, e]
  omega
theorem hb_of (t l u : Int) (h : Ok t l u) : [] ++ [t / 256, t % 256] ++ [0 / 256, 0 % 256] ++ [l / 256, l % 256] ++ [u % 256] = hb t l u := by
  unfold Ok at h
  rw [show l / 256 = 0 by omega, show l % 256 = l by omega, show u % 256 = u by omega]
  rfl
theorem six (l : List Int) (h : 6 ≤ l.length) : ∃ b0 b1 b2 b3 b4 b5 r, l = b0 :: b1 :: b2 :: b3 :: b4 :: b5 :: r := by
  rcases l with _ | ⟨b0, _ | ⟨b1, _ | ⟨b2, _ | ⟨b3, _ | ⟨b4, _ | ⟨b5, r⟩⟩⟩⟩⟩⟩
  · simp at h
  · simp at h
  · simp at h
  · simp at h
  · simp at h
  · simp at h
  · exact ⟨b0, b1, b2, b3, b4, b5, r, rfl⟩
theorem refput1_eq (l : List Int) (w : Int) (h0 : 0 ≤ w) (h1 : w < 65536) (hl : l.length ≤ 100000) : busbarref1_Put.f l w = some (l ++ [w / 256, w % 256]) := by
  unfold busbarref1_Put.f
  rw [if_pos (by simp; omega)]
  simp only [Option.bind_some, List.nil_append, tdiv_pos h0 (by omega : (0 : Int) ≤ 256), tmod_pos h0]
  rw [if_pos (by simp; omega), u16_id (by omega) (by omega)]
  congr 3
  · omega
  · congr 1; omega
theorem two_eq (l : List Int) (w : Int) (h0 : 0 ≤ w) (h1 : w < 65536) (hl : l.length ≤ 100000) : busbarref5_two.f l w = some (l ++ [w / 256, w % 256]) := by
  unfold busbarref5_two.f
  rw [u16_id (by omega) (by omega), refput1_eq l w h0 h1 hl]
  rfl
theorem refput_ok (t l u : Int) (h : Ok t l u) {k : Nat} (hk : 2 ≤ k) : busbarref5_PutHead.f k t l u = some (hb t l u, 0) := by
  obtain ⟨k, rfl⟩ : ∃ m, k = m + 1 := ⟨k - 1, by omega⟩
  unfold Ok at h
  unfold busbarref5_PutHead.f busbarref5_place.f busbarref5_byteful.f
  rw [if_pos (by omega), decide_eq_true (by omega)]
  simp only [Option.bind_some, if_true]
  rw [if_neg (by omega), if_neg (by omega), if_pos (by omega), decide_eq_true (by omega)]
  simp only [Option.bind_some, Bool.not_true, busbarref5_PutHead.j0, Bool.false_eq_true, if_false]
  rw [two_eq _ _ (by omega) (by omega) (by simp only [List.length_append, List.length_cons, List.length_nil]; omega)]
  simp only [Option.bind_some]
  rw [two_eq _ _ (by omega) (by omega) (by simp only [List.length_append, List.length_cons, List.length_nil]; omega)]
  simp only [Option.bind_some]
  rw [two_eq _ _ (by omega) (by omega) (by simp only [List.length_append, List.length_cons, List.length_nil]; omega)]
  simp only [Option.bind_some]
  have hl : ([] ++ [t / 256, t % 256] ++ [(0 : Int) / 256, 0 % 256] ++ [l / 256, l % 256]).length + [u % 256].length < 140737488355328 := by simp only [List.length_append, List.length_cons, List.length_nil]; omega
  rw [if_pos hl, hb_of t l u (by unfold Ok; omega)]
def hlook : List Int → Int × Int × Int × Int
  | b0 :: b1 :: b2 :: b3 :: b4 :: b5 :: r =>
    if b2 * 256 + b3 = 0 ∧ 2 ≤ b4 * 256 + b5 ∧ b4 * 256 + b5 ≤ 254 then (match r with | [] => (0, 0, 0, 3) | b6 :: _ => (b0 * 256 + b1, b4 * 256 + b5, b6, 0)) else (0, 0, 0, 2)
  | _ => (0, 0, 0, 3)
theorem hlook6 (b0 b1 b2 b3 b4 b5 : Int) : hlook [b0, b1, b2, b3, b4, b5] = if b2 * 256 + b3 = 0 ∧ 2 ≤ b4 * 256 + b5 ∧ b4 * 256 + b5 ≤ 254 then (0, 0, 0, 3) else (0, 0, 0, 2) := rfl
theorem hlook7 (b0 b1 b2 b3 b4 b5 b6 : Int) (r : List Int) : hlook (b0 :: b1 :: b2 :: b3 :: b4 :: b5 :: b6 :: r) = if b2 * 256 + b3 = 0 ∧ 2 ≤ b4 * 256 + b5 ∧ b4 * 256 + b5 ≤ 254 then (b0 * 256 + b1, b4 * 256 + b5, b6, 0) else (0, 0, 0, 2) := rfl
theorem hlook_few (l : List Int) (h : l.length < 6) : hlook l = (0, 0, 0, 3) := by
  match l, h with
  | [], _ => rfl
  | [_], _ => rfl
  | [_, _], _ => rfl
  | [_, _, _], _ => rfl
  | [_, _, _, _], _ => rfl
  | [_, _, _, _, _], _ => rfl
theorem get_eq (l : List Int) (hl : l.length ≤ 100000) (hb : B8 l) {k : Nat} (hk : 2 ≤ k) : head_Get.f k l = some (hlook l) := by
  obtain ⟨k, rfl⟩ : ∃ m, k = m + 1 := ⟨k - 1, by omega⟩
  unfold head_Get.f
  by_cases h6 : (l.length : Int) < 6
  · rw [if_pos h6, hlook_few l (by omega)]
  · rw [if_neg h6]
    obtain ⟨b0, b1, b2, b3, b4, b5, r, rfl⟩ := six l (by omega)
    · clear h6
      have g0 := get_some (b0 :: b1 :: b2 :: b3 :: b4 :: b5 :: r) 0 hl (by simp) hb
      have g2 := get_some (b0 :: b1 :: b2 :: b3 :: b4 :: b5 :: r) 2 hl (by simp) hb
      have g4 := get_some (b0 :: b1 :: b2 :: b3 :: b4 :: b5 :: r) 4 hl (by simp) hb
      simp only [List.getElem_cons_zero, List.getElem_cons_succ] at g0 g2 g4
      have e0 : word_Get.f (b0 :: b1 :: b2 :: b3 :: b4 :: b5 :: r) 0 = some (b0 * 256 + b1, true) := g0
      have e2 : word_Get.f (b0 :: b1 :: b2 :: b3 :: b4 :: b5 :: r) 2 = some (b2 * 256 + b3, true) := g2
      have e4 : word_Get.f (b0 :: b1 :: b2 :: b3 :: b4 :: b5 :: r) 4 = some (b4 * 256 + b5, true) := g4
      have c0 := hb b0 (by simp)
      have c1 := hb b1 (by simp)
      have c2 := hb b2 (by simp)
      have c3 := hb b3 (by simp)
      have c4 := hb b4 (by simp)
      have c5 := hb b5 (by simp)
      rw [e0, e2, e4]
      simp only [Option.bind_some]
      have hj : ∀ a b c, head_Get.j0 (k + 1) (b0 :: b1 :: b2 :: b3 :: b4 :: b5 :: r) true a b c = some (0, 0, 0, 2) := by intros; simp [head_Get.j0]
      by_cases hp : b2 * 256 + b3 = 0
      · rw [if_pos hp, wrap64_id (x := b0 * 256 + b1) (by omega) (by omega), wrap64_id (x := b4 * 256 + b5) (by omega) (by omega)]
        unfold head_held.f
        simp only [Option.bind_some]
        rw [held_bad]
        by_cases ho : 2 ≤ b4 * 256 + b5 ∧ b4 * 256 + b5 ≤ 254
        · rw [decide_eq_true (show Ok _ _ _ by unfold Ok; omega)]
          simp only [hlook]
          rw [if_pos ⟨hp, ho⟩]
          simp only [Bool.not_true, head_Get.j0, Bool.false_eq_true, if_false]
          match r, hb with
          | [], _ => simp
          | b6 :: r, hb =>
            have c6 := hb b6 (by simp)
            rw [if_neg (by simp; omega), if_pos (by simp; omega)]
            have hr : rd (b0 :: b1 :: b2 :: b3 :: b4 :: b5 :: b6 :: r) 6 = b6 := by simp [rd]
            rw [hr, wrap64_id (by omega) (by omega)]
        · rw [decide_eq_false (show ¬ Ok _ _ _ by unfold Ok; omega)]
          simp only [hlook]
          rw [if_neg (by omega)]
          exact hj _ _ _
      · rw [if_neg hp, hj]
        simp only [hlook]
        rw [if_neg (by omega)]
theorem hb_b8 (t l u : Int) (h : Ok t l u) : B8 (hb t l u) := by
  unfold Ok at h
  intro x hx
  simp only [hb, List.mem_cons, List.not_mem_nil, or_false] at hx
  omega
end Go.Proofs.Ytakiojmjalbfpaa.LemHeadFlow
set_option linter.unusedVariables false
set_option linter.unusedSimpArgs false
namespace Go.Proofs.Ytakiojmjalbfpaa.LemBytes2Flow
open Go.RowKit Go.Proofs.Ytakiojmjalbfpaa.PFlow Go.Proofs.YtakiojmjalbfpaaW.PrintWords Go.Proofs.YtakiojmjalbfpaaW.PrintLast Go.Proofs.YtakiojmjalbfpaaW.PrintMore Go.Proofs.Ytakiojmjalbfpaa.Num Go.Proofs.Ytakiojmjalbfpaa.LemBytesFlow
def gt (l : List Int) (at_ : Int) : Int × Bool := if 0 ≤ at_ ∧ at_ + 2 ≤ l.length then (rd l at_ * 256 + rd l (at_ + 1), true) else (0, false)
theorem rd_byte (l : List Int) (hb : B8 l) (i : Int) (h0 : 0 ≤ i) (h : i < l.length) : 0 ≤ rd l i ∧ rd l i < 256 := by
  obtain ⟨j, rfl⟩ := Int.eq_ofNat_of_zero_le h0
  rw [rd_get l j (by omega)]
  exact hb _ (List.getElem_mem _)
theorem refget_any (l : List Int) (at_ : Int) (hl : l.length ≤ 100000) (ha : -9223372036854775808 ≤ at_ ∧ at_ < 9223372036854775808) (hb : B8 l) : busbarref1_Get.f l at_ = some (gt l at_) := by
  unfold busbarref1_Get.f gt
  by_cases h0 : at_ < 0
  · rw [if_pos h0, if_neg (by omega)]
  · rw [if_neg h0, wrap64_id (x := (l.length : Int) - 2) (by omega) (by omega)]
    by_cases h : at_ + 2 ≤ l.length
    · have b0 := rd_byte l hb at_ (by omega) (by omega)
      have b1 := rd_byte l hb (at_ + 1) (by omega) (by omega)
      rw [if_neg (by omega), if_pos (by omega), if_pos (by omega), wrap64_id (by omega) (by omega), if_pos (by omega), if_pos (by omega), if_pos ⟨by omega, h⟩,
        u16_id (x := rd l at_) (by omega) (by omega), u16_id (x := rd l at_ * 256) (by omega) (by omega), u16_id (x := rd l (at_ + 1)) (by omega) (by omega), u16_id (by omega) (by omega)]
    · rw [if_pos (by omega), if_neg (by omega)]
theorem refput1_eq (l : List Int) (w : Int) (h0 : 0 ≤ w) (h1 : w < 65536) (hl : l.length ≤ 100000) : busbarref1_Put.f l w = some (l ++ [w / 256, w % 256]) := by
  unfold busbarref1_Put.f
  rw [if_pos (by simp; omega)]
  simp only [Option.bind_some, List.nil_append, tdiv_pos h0 (by omega : (0 : Int) ≤ 256), tmod_pos h0]
  rw [if_pos (by simp; omega), u16_id (by omega) (by omega)]
  congr 3
  · omega
  · congr 1; omega
end Go.Proofs.Ytakiojmjalbfpaa.LemBytes2Flow
set_option linter.unusedVariables false
set_option linter.unusedSimpArgs false
namespace Go.Proofs.Ytakiojmjalbfpaa.LemHead2Flow
open Go.RowKit Go.Proofs.Ytakiojmjalbfpaa.PFlow Go.Proofs.YtakiojmjalbfpaaW.PrintWords Go.Proofs.YtakiojmjalbfpaaW.PrintLast Go.Proofs.YtakiojmjalbfpaaW.PrintMore Go.Proofs.Ytakiojmjalbfpaa.Num Go.Proofs.Ytakiojmjalbfpaa.LemBytesFlow Go.Proofs.Ytakiojmjalbfpaa.LemBytes2Flow Go.Proofs.Ytakiojmjalbfpaa.LemHeadFlow
theorem refword_eq (l : List Int) (at_ : Int) (hl : l.length ≤ 100000) (h0 : 0 ≤ at_) (h : at_ + 2 ≤ l.length) (hb : B8 l) : busbarref5_word.f l at_ = some (rd l at_ * 256 + rd l (at_ + 1)) := by
  have b0 := rd_byte l hb at_ (by omega) (by omega)
  have b1 := rd_byte l hb (at_ + 1) (by omega) (by omega)
  unfold busbarref5_word.f
  rw [refget_any l at_ hl (by omega) hb, Option.bind_some]
  unfold gt
  rw [if_pos ⟨h0, h⟩]
  dsimp only
  rw [wrap64_id (by omega) (by omega)]
theorem refgethead_eq (l : List Int) (hl : l.length ≤ 100000) (hb : B8 l) {k : Nat} (hk : 2 ≤ k) : busbarref5_GetHead.f k l = some (hlook l) := by
  obtain ⟨k, rfl⟩ : ∃ m, k = m + 1 := ⟨k - 1, by omega⟩
  unfold busbarref5_GetHead.f
  by_cases h6 : (l.length : Int) < 6
  · rw [if_pos h6, hlook_few l (by omega)]
  · rw [if_neg h6]
    obtain ⟨b0, b1, b2, b3, b4, b5, r, rfl⟩ := six l (by omega)
    rw [refword_eq _ 4 hl (by omega) (by simp; omega) hb, Option.bind_some, refword_eq _ 2 hl (by omega) (by simp; omega) hb, Option.bind_some]
    have e2 : rd (b0 :: b1 :: b2 :: b3 :: b4 :: b5 :: r) 2 = b2 ∧ rd (b0 :: b1 :: b2 :: b3 :: b4 :: b5 :: r) (2 + 1) = b3 := ⟨rfl, rfl⟩
    have e4 : rd (b0 :: b1 :: b2 :: b3 :: b4 :: b5 :: r) 4 = b4 ∧ rd (b0 :: b1 :: b2 :: b3 :: b4 :: b5 :: r) (4 + 1) = b5 := ⟨rfl, rfl⟩
    rw [e2.1, e2.2, e4.1, e4.2]
    have hj : ∀ x, busbarref5_GetHead.j0 (k + 1) (b0 :: b1 :: b2 :: b3 :: b4 :: b5 :: r) x true = some (0, 0, 0, 2) := fun x => by rw [busbarref5_GetHead.j0, if_pos rfl]
    by_cases hp : b2 * 256 + b3 = 0 ∧ 2 ≤ b4 * 256 + b5 ∧ b4 * 256 + b5 ≤ 254
    · rw [if_pos hp.1, if_neg (by omega), decide_eq_false (by omega), busbarref5_GetHead.j0, if_neg (by decide)]
      match r, hb, hl with
      | [], hb, hl =>
        rw [hlook6, if_pos hp, if_pos (by simp)]
      | b6 :: r, hb, hl =>
        have c6 := hb b6 (by simp)
        rw [hlook7, if_pos hp, if_neg (by simp; omega), refword_eq _ 0 hl (by omega) (by simp; omega) hb, Option.bind_some, if_pos (by simp; omega)]
        have e0 : rd (b0 :: b1 :: b2 :: b3 :: b4 :: b5 :: b6 :: r) 0 = b0 ∧ rd (b0 :: b1 :: b2 :: b3 :: b4 :: b5 :: b6 :: r) (0 + 1) = b1 ∧ rd (b0 :: b1 :: b2 :: b3 :: b4 :: b5 :: b6 :: r) 6 = b6 := ⟨rfl, rfl, rfl⟩
        rw [e0.1, e0.2.1, e0.2.2, wrap64_id (by omega) (by omega)]
    · have hl2 : hlook (b0 :: b1 :: b2 :: b3 :: b4 :: b5 :: r) = (0, 0, 0, 2) := by
        match r with
        | [] => rw [hlook6, if_neg hp]
        | b6 :: r => rw [hlook7, if_neg hp]
      rw [hl2]
      by_cases h1 : b2 * 256 + b3 = 0
      · rw [if_pos h1]
        by_cases h2 : b4 * 256 + b5 < 2
        · rw [if_pos h2, hj]
        · rw [if_neg h2, decide_eq_true (by omega), hj]
      · rw [if_neg h1, hj]
end Go.Proofs.Ytakiojmjalbfpaa.LemHead2Flow
set_option linter.unusedVariables false
set_option linter.unusedSimpArgs false
namespace Go.Proofs.Ytakiojmjalbfpaa.LemAduFlow
open Go.RowKit Go.Proofs.Ytakiojmjalbfpaa.PFlow Go.Proofs.YtakiojmjalbfpaaW.PrintWords Go.Proofs.YtakiojmjalbfpaaW.PrintLast Go.Proofs.YtakiojmjalbfpaaW.PrintMore Go.Proofs.Ytakiojmjalbfpaa.Num Go.Proofs.Ytakiojmjalbfpaa.LemHeadFlow Go.Proofs.Ytakiojmjalbfpaa.LemHead2Flow
theorem hb_length (t l u : Int) : (hb t l u).length = 7 := rfl
theorem refbytes_ok (t u : Int) (p : List Int) (hp : p.length ≤ 10000) (h : Ok t ((p.length : Int) + 1) u) {k : Nat} (hk : 4 ≤ k) : busbarref5_FrameBytes.f k t u p = some (hb t ((p.length : Int) + 1) u ++ p, 0) := by
  obtain ⟨k, rfl⟩ : ∃ m, k = m + 1 := ⟨k - 1, by omega⟩
  have h' := h
  unfold Ok at h'
  unfold busbarref5_FrameBytes.f
  rw [if_neg (by omega), decide_eq_false (by omega), busbarref5_FrameBytes.j0, if_neg (by decide), wrap64_id (x := (p.length : Int) + 1) (by omega) (by omega), refput_ok _ _ _ h (by omega), Option.bind_some, if_pos rfl, if_pos (by rw [hb_length]; omega)]
def cutl (l : List Int) : Int × Int × List Int × Int × Int :=
  if (hlook l).2.2.2 = 0 then (if (l.length : Int) < 6 + (hlook l).2.1 then (0, 0, [], 0, 3) else ((hlook l).1, (hlook l).2.2.1, (l.take (6 + (hlook l).2.1).toNat).drop 7, 6 + (hlook l).2.1, 0)) else (0, 0, [], 0, (hlook l).2.2.2)
theorem hlook_le (l : List Int) (h : (hlook l).2.2.2 = 0) : 2 ≤ (hlook l).2.1 ∧ (hlook l).2.1 ≤ 254 := by
  by_cases h6 : l.length < 6
  · rw [hlook_few l h6] at h; simp at h
  · obtain ⟨b0, b1, b2, b3, b4, b5, r, rfl⟩ := six l (by omega)
    match r with
    | [] =>
      rw [hlook6] at h
      split at h <;> simp at h
    | b6 :: r =>
      rw [hlook7] at h ⊢
      split at h
      · rename_i hc
        rw [if_pos hc]
        exact hc.2
      · simp at h
theorem cut_eq (l : List Int) (hl : l.length ≤ 100000) (hb : B8 l) {k : Nat} (hk : 2 ≤ k) : adu_Cut.f k l = some (cutl l) := by
  unfold adu_Cut.f cutl
  rw [get_eq l hl hb hk, Option.bind_some]
  by_cases h0 : (hlook l).2.2.2 = 0
  · have h1 := hlook_le l h0
    rw [if_pos h0, if_pos h0, wrap64_id (by omega) (by omega)]
    by_cases h2 : (l.length : Int) < 6 + (hlook l).2.1
    · rw [if_pos h2, if_pos h2]
    · rw [if_neg h2, if_neg h2, if_pos (by omega), if_pos (by omega)]
      unfold slices_Clone_byte_byte.f
      rw [if_pos (by rw [List.length_drop, List.length_take]; omega), Option.bind_some]
  · rw [if_neg h0, if_neg h0]
theorem refcut_eq (l : List Int) (hl : l.length ≤ 100000) (hb : B8 l) {k : Nat} (hk : 2 ≤ k) : busbarref5_Cut.f k l = some (cutl l) := by
  unfold busbarref5_Cut.f cutl
  rw [refgethead_eq l hl hb hk, Option.bind_some]
  by_cases h0 : (hlook l).2.2.2 = 0
  · have h1 := hlook_le l h0
    rw [if_pos h0, if_pos h0, wrap64_id (by omega) (by omega)]
    by_cases h2 : (l.length : Int) < 6 + (hlook l).2.1
    · rw [if_pos h2, if_pos h2]
    · rw [if_neg h2, if_neg h2, if_pos (by omega), if_pos (by omega), if_pos (by rw [List.length_drop, List.length_take, List.length_nil]; omega), List.nil_append]
  · rw [if_neg h0, if_neg h0]
theorem frame_b8 (t u : Int) (p : List Int) (h : Ok t ((p.length : Int) + 1) u) (hp : B8 p) : B8 (hb t ((p.length : Int) + 1) u ++ p) := by
  intro x hx
  rcases List.mem_append.1 hx with h1 | h1
  · exact hb_b8 _ _ _ h x h1
  · exact hp x h1
end Go.Proofs.Ytakiojmjalbfpaa.LemAduFlow
namespace Go.Proofs.Ytakiojmjalbfpaa.PFlow
open Go.RowKit Go.Proofs.YtakiojmjalbfpaaW.PrintWords Go.Proofs.YtakiojmjalbfpaaW.PrintLast Go.Proofs.YtakiojmjalbfpaaW.PrintMore
attribute [local go_sem] max2_int min2_int max_two min_two max_three min_three max_four min_four plus_setCell_drewN plus_cell_same   -- for this text's walks alone
set_option linter.unusedVariables false
set_option linter.unusedSimpArgs false
def busbarlaw0_Within.f (a0 : Int) (a1 : Int) : Option (Int) := if a1 = 0 then (none) else (if (Int.tmod a0 a1) < 0 then (some (wrap64 ((Int.tmod a0 a1) + a1))) else (some (Int.tmod a0 a1)))
set_option maxHeartbeats 8000000 in
set_option maxRecDepth 100000 in
theorem busbarlaw0_Within.calls (a0 : Int) (a1 : Int) (r : Int) (w : World) (h : busbarlaw0_Within.f a0 a1 = some r) :
  Calls Try.prog 12 #[.int .i64 a0, .int .i64 a1] w fun e w' => e = .returned (.int .i64 r) ∧ Drawn0 w w' := by
 have H : (if a1 = 0 then (none) else (if (Int.tmod a0 a1) < 0 then (some (wrap64 ((Int.tmod a0 a1) + a1))) else (some (Int.tmod a0 a1)))) = some r := h
 clear h
 by_cases c3 : a1 = 0
 ·
  rw [if_pos c3] at H
  exact absurd H (by simp)
 ·
  rw [if_neg c3] at H
  have c3b0 : (a1 == 0) = false := beq_eq_false_iff_ne.mpr c3
  have c3b1 : (a1 != 0) = true := bne_iff_ne.mpr c3
  by_cases c4 : (Int.tmod a0 a1) < 0
  ·
   rw [if_pos c4] at H
   have c4b0 : decide ((Int.tmod a0 a1) < 0) = true := decide_eq_true c4
   clear c4
   obtain rfl := Option.some.inj H
   go_enter Try.func12, Try.ntmps12
   go_wp2
   go_ret
   exact ⟨by first | rfl | (simp; done) | (simp [*]; done), by repeat (first | exact Drawn0.refl _ | apply Drawn0.step)⟩
  ·
   rw [if_neg c4] at H
   have c4b0 : decide ((Int.tmod a0 a1) < 0) = false := decide_eq_false c4
   clear c4
   obtain rfl := Option.some.inj H
   go_enter Try.func12, Try.ntmps12
   go_wp2
   go_ret
   exact ⟨by first | rfl | (simp; done) | (simp [*]; done), by repeat (first | exact Drawn0.refl _ | apply Drawn0.step)⟩
end Go.Proofs.Ytakiojmjalbfpaa.PFlow
namespace Go.Proofs.Ytakiojmjalbfpaa.PFlow
open Go.RowKit Go.Proofs.YtakiojmjalbfpaaW.PrintWords Go.Proofs.YtakiojmjalbfpaaW.PrintLast Go.Proofs.YtakiojmjalbfpaaW.PrintMore
attribute [local go_sem] max2_int min2_int max_two min_two max_three min_three max_four min_four plus_setCell_drewN plus_cell_same   -- for this text's walks alone
set_option linter.unusedVariables false
set_option linter.unusedSimpArgs false
def busbarlaw0_words.l0 : Nat → Int → Int → List Int → Int → Option (List Int)
 | 0, _, _, _, _ => none
 | k + 1, x0, x1, x5, x6 => if x6 < x1 then ((busbarlaw0_Within.f x0 60000).bind fun t193 => (if x5.length < 70368744177664 then (busbarlaw0_words.l0 k x0 x1 (x5 ++ [IntKind.u16.wrap (wrap64 (t193 + x6))]) (wrap64 (x6 + 1))) else (none))) else (some x5)
def busbarlaw0_words.f (k : Nat) (a0 : Int) (a1 : Int) : Option (List Int) := busbarlaw0_words.l0 k a0 a1 ([] : List Int) 0
theorem busbarlaw0_words.mono_l : ∀ k, (∀ y0 y1 y2 y3, LeO (busbarlaw0_words.l0 k y0 y1 y2 y3) (busbarlaw0_words.l0 (k + 1) y0 y1 y2 y3))
 | 0 => fun _ _ _ _ r h => by simp [busbarlaw0_words.l0] at h
 | k + 1 => by
  have ih0 := busbarlaw0_words.mono_l k
  ·
   intro y0 y1 y2 y3
   unfold busbarlaw0_words.l0
   repeat' first
   | (with_reducible exact ih0 _ _ _ _)
   | (with_reducible exact LeO.refl _)
   | (with_reducible exact LeO.none _)
   | (with_reducible refine LeO.ite ?_ ?_)
   | (with_reducible refine LeO.bind ?_ (fun _ => ?_))
   | exact ih0 _ _ _ _
   | exact LeO.none _
   | refine LeO.ite ?_ ?_
   | refine LeO.bind ?_ (fun _ => ?_)
theorem busbarlaw0_words.mono : ∀ a0 a1 k, LeO (busbarlaw0_words.f k a0 a1) (busbarlaw0_words.f (k + 1) a0 a1) := by
 intro a0 a1 k
 have ih0 := busbarlaw0_words.mono_l k
 unfold busbarlaw0_words.f
 repeat' first
   | (with_reducible exact ih0 _ _ _ _)
   | (with_reducible exact LeO.refl _)
   | (with_reducible exact LeO.none _)
   | (with_reducible refine LeO.ite ?_ ?_)
   | (with_reducible refine LeO.bind ?_ (fun _ => ?_))
   | exact ih0 _ _ _ _
   | exact LeO.none _
   | refine LeO.ite ?_ ?_
   | refine LeO.bind ?_ (fun _ => ?_)
set_option maxHeartbeats 8000000 in
set_option maxRecDepth 100000 in
theorem busbarlaw0_words.calls (k : Nat) (a0 : Int) (a1 : Int) (r : List Int) (w : World) (h : busbarlaw0_words.f k a0 a1 = some r) :
  Calls Try.prog 50 #[.int .i64 a0, .int .i64 a1] w fun e w' => ∃ v0_ : Value, e = .returned (v0_) ∧ Kd.R (Kd.int .u16) 45 w' w.heap.size (fun _ => True) v0_ r ∧ Below w.heap.size w w' := by
 have HB := Aside0.mk (Below.refl w.heap.size w)
 have H : (busbarlaw0_words.l0 k a0 a1 ([] : List Int) 0) = some r := h
 clear h
 have H' := Aside0.mk H
 clear H
 go_enter Try.func50, Try.ntmps50
 go_wp2
 go_loopg [5, 6] k (fun kq v5 v6 w' => ∃ (x5_1 : List Int) (x6_1 : Int), v6 = .int .i64 x6_1 ∧ Aside0 (busbarlaw0_words.l0 kq a0 a1 x5_1 x6_1 = some r) ∧ Aside0 (kq ≤ k) ∧ Aside0 (Kd.R (Kd.int .u16) 45 w' w.heap.size (fun _ => True) v5 x5_1) ∧ Aside0 (Below w.heap.size w w'))
 case atStart => exact ⟨(([] : List Int)), (0), (by first | rfl | (simp; done) | (simp [*]; done)), H', ⟨Nat.le_refl _⟩, ⟨by first | exact Kd.R_nil _ _ _ _ _ | exact Kd.N_nil _ _ _ _ _ | exact Kd.V_nil _ _ _ _ _ | exact Kd.Q_nil _ _ _ _ _ | exact Kd.S_nil _ _ _ _ _⟩, ⟨by repeat (first | (with_reducible first | exact HB.out | apply below_alloc | apply pw_below_drewN | apply below_drew1) | exact HB.out)⟩⟩
 case round =>
  clear H'
  try clear p2
  obtain ⟨x5_1, x6_1, rfl, HA, HK1, HO_5, HB⟩ := hrel
  cases gk with
  | zero => exact absurd HA.out (by simp [busbarlaw0_words.l0])
  | succ k1 =>
   have H := HA.out
   clear HA
   simp only [busbarlaw0_words.l0] at H
   by_cases c3 : x6_1 < a1
   ·
    rw [if_pos c3] at H
    have c3b0 : decide (x6_1 < a1) = true := decide_eq_true c3
    clear c3
    replace H := Option.bind_eq_some_iff.mp H
    obtain ⟨t193, A40, H⟩ := H
    replace H : (if x5_1.length < 70368744177664 then (busbarlaw0_words.l0 k1 a0 a1 (x5_1 ++ [IntKind.u16.wrap (wrap64 (t193 + x6_1))]) (wrap64 (x6_1 + 1))) else (none)) = some r := H
    have A4 := Aside0.mk A40
    clear A40
    by_cases c5 : x5_1.length < 70368744177664
    ·
     rw [if_pos c5] at H
     have LMc5 := Aside0.mk c5
     clear c5
     obtain ⟨y194, hy194⟩ : ∃ y_ : List Int, y_ = (x5_1 ++ [IntKind.u16.wrap (wrap64 (t193 + x6_1))]) := ⟨_, rfl⟩
     replace H : (busbarlaw0_words.l0 k1 a0 a1 y194 (wrap64 (x6_1 + 1))) = some r := by first | (rw [hy194]; with_reducible exact H) | (have H2_ := (Option.bind_some _ _).symm.trans H; rw [hy194]; with_reducible exact H2_) | (have H2_ := (Option.bind_some _ _).symm.trans H; with_reducible exact H2_) | with_reducible exact H | (rw [hy194]; exact H) | exact H
     have Ny194 := Aside0.mk hy194
     clear hy194
     have H' := Aside0.mk H
     clear H
     go_wp2_with (first | ((with_reducible refine gate_callee (f := 12) rfl ?_); refine goesL_ (some 14) rfl rfl Try.func12 (by kernel_rfl) rfl #[.int .i64 a0, .int .i64 60000] rfl (by (try simp only [List.map_toArray, List.map_cons, List.map_nil]); first | done | rfl | (simp only [List.length_drop, List.length_take]; rfl)) ?_; (with_reducible refine (busbarlaw0_Within.calls a0 60000 t193 _ A4.out).mono ?_); rintro e w' ⟨rfl, ⟨nd, rfl⟩⟩; refine ⟨_, rfl, ?_⟩) | ((with_reducible refine gate_builtin (b := .append) (xs := #[.tmp 12, .tmp 18]) rfl ?_); at_builtin; refine Kd.R_append (Kd.int .u16) (w0 := w) w.heap.size rfl (.tmp 12) (.tmp 18) 47 45 (.int .u16 0) 2 rfl Try.underlying47 info45 rfl (by decide) (by omega) u5 x5_1 (IntKind.u16.wrap (wrap64 (t193 + x6_1))) [.int .u16 (IntKind.u16.wrap (wrap64 (t193 + x6_1)))] (fun _ => True) (fun _ => False) rfl rfl ?aP (fun _ hk => hk.elim) ?aF ?aO ?aB ?aS ?aL ?_; (case aP => exact rfl); (case aB => exact (by repeat (first | (with_reducible first | exact HB.out | apply below_alloc | apply pw_below_drewN | apply below_drew1) | exact HB.out))); (case aF => exact (fun _ _ => trivial)); (case aO => exact (by (with_reducible repeat (first | apply Kd.R_alloc | apply Kd.R_drewN | apply Kd.R_drew)); exact HO_5.out)); (case aS => exact (below_size (by repeat (first | (with_reducible first | exact HB.out | apply below_alloc | apply pw_below_drewN | apply below_drew1) | exact HB.out)))); (case aL => have := LMc5.out; omega); intro v195 w6 ho hb hg hat; rw [← Ny194.out] at ho; have n0_ := Aside0.mk (hb); have n1_ := Aside0.mk (ho); clear HB; clear HO_5; have HB := n0_; have HO196 := n1_; clear n0_ n1_; clear ho hb hg hat))
     go_roundg k1
     case measure => have := HK1.out; omega
     case rel => exact ⟨(y194), (wrap64 (x6_1 + 1)), (by first | rfl | (simp; done) | (simp [*]; done)), H', ⟨by have := HK1.out; omega⟩, ⟨by (with_reducible repeat (first | apply Kd.R_alloc | apply Kd.R_drewN | apply Kd.R_drew)); exact HO196.out⟩, ⟨by repeat (first | (with_reducible first | exact HB.out | apply below_alloc | apply pw_below_drewN | apply below_drew1) | exact HB.out)⟩⟩
    ·
     rw [if_neg c5] at H
     exact absurd H (by simp)
   ·
    rw [if_neg c3] at H
    have c3b0 : decide (x6_1 < a1) = false := decide_eq_false c3
    clear c3
    obtain rfl := Option.some.inj H
    go_wp2
    go_ret
    exact ⟨_, by first | rfl | (simp [errW_none, errW_some] <;> rfl) | (simp [*, errW_none, errW_some] <;> rfl), by (with_reducible repeat (first | apply Kd.R_alloc | apply Kd.R_drewN | apply Kd.R_drew)); exact HO_5.out, by repeat (first | (with_reducible first | exact HB.out | apply below_alloc | apply pw_below_drewN | apply below_drew1) | exact HB.out)⟩
end Go.Proofs.Ytakiojmjalbfpaa.PFlow
namespace Go.Proofs.Ytakiojmjalbfpaa.PFlow
open Go.RowKit Go.Proofs.YtakiojmjalbfpaaW.PrintWords Go.Proofs.YtakiojmjalbfpaaW.PrintLast Go.Proofs.YtakiojmjalbfpaaW.PrintMore
attribute [local go_sem] max2_int min2_int max_two min_two max_three min_three max_four min_four plus_setCell_drewN plus_cell_same   -- for this text's walks alone
set_option linter.unusedVariables false
set_option linter.unusedSimpArgs false
def busbarlaw0_Digit.f (a0 : Int) (a1 : Int) (a2 : Int) : Option (Int) := if a1 = 0 then (none) else ((busbarlaw0_Within.f (wrap64 (Int.tdiv a0 a1)) a2).bind fun t173 => (some t173))
set_option maxHeartbeats 8000000 in
set_option maxRecDepth 100000 in
theorem busbarlaw0_Digit.calls (a0 : Int) (a1 : Int) (a2 : Int) (r : Int) (w : World) (h : busbarlaw0_Digit.f a0 a1 a2 = some r) :
  Calls Try.prog 15 #[.int .i64 a0, .int .i64 a1, .int .i64 a2] w fun e w' => e = .returned (.int .i64 r) ∧ Drawn0 w w' := by
 have H : (if a1 = 0 then (none) else ((busbarlaw0_Within.f (wrap64 (Int.tdiv a0 a1)) a2).bind fun t173 => (some t173))) = some r := h
 clear h
 by_cases c4 : a1 = 0
 ·
  rw [if_pos c4] at H
  exact absurd H (by simp)
 ·
  rw [if_neg c4] at H
  have c4b0 : (a1 == 0) = false := beq_eq_false_iff_ne.mpr c4
  have c4b1 : (a1 != 0) = true := bne_iff_ne.mpr c4
  replace H := Option.bind_eq_some_iff.mp H
  obtain ⟨t173, A50, H⟩ := H
  replace H : (some t173) = some r := H
  have A5 := Aside0.mk A50
  clear A50
  obtain rfl := Option.some.inj H
  go_enter Try.func15, Try.ntmps15
  go_wp2_with (first | ((with_reducible refine gate_callee (f := 12) rfl ?_); refine goesL_ (some 11) rfl rfl Try.func12 (by kernel_rfl) rfl #[.int .i64 (wrap64 (Int.tdiv a0 a1)), .int .i64 a2] rfl (by (try simp only [List.map_toArray, List.map_cons, List.map_nil]); first | done | rfl | (simp only [List.length_drop, List.length_take]; rfl)) ?_; (with_reducible refine (busbarlaw0_Within.calls (wrap64 (Int.tdiv a0 a1)) a2 t173 _ A5.out).mono ?_); rintro e w' ⟨rfl, ⟨nd, rfl⟩⟩; refine ⟨_, rfl, ?_⟩))
  go_ret
  exact ⟨by first | rfl | (simp; done) | (simp [*]; done), by repeat (first | exact Drawn0.refl _ | apply Drawn0.step)⟩
end Go.Proofs.Ytakiojmjalbfpaa.PFlow
