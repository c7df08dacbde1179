-- written by a program of this session (wip/pp) over the kit's print.py; Lean checks it
import Derived.Test.YtgmoecbecllpiaaPPlanx0
import Derived.Test.YtgmoecbecllpiaaPPlanx10
import Derived.Test.YtgmoecbecllpiaaPPlanx11
import Derived.Test.YtgmoecbecllpiaaPPlanx14
import Derived.Test.YtgmoecbecllpiaaPPlanx16
import Derived.Test.YtgmoecbecllpiaaPPlanx17
namespace Go.Proofs.Ytgmoecbecllpiaa.PPlan
open Go.RowKit Go.Proofs.YtgmoecbecllpiaaW.PrintWords Go.Proofs.YtgmoecbecllpiaaW.PrintLast Go.Proofs.YtgmoecbecllpiaaW.PrintMore
attribute [local go_sem] max2_int min2_int max_two min_two max_three min_three max_four min_four plus_setCell_drewN plus_cell_same   -- for this text's walks alone
set_option linter.unusedVariables false
set_option linter.unusedSimpArgs false

/-! ### busbarlaw13_PlanParts: function 5 -/
def busbarlaw13_PlanParts.l0 : Nat → Int → List (S35) → Bool → Bool → Int → Int → Int → Int → Option (Bool)
 | 0, _, _, _, _, _, _, _, _ => none
 | k + 1, x5, x6, x8, x9, x10, x207000, x207001, x207002 => if x10 < x207002 then ((plan_Where.f k x6 x5 x207000 x10 (wrap64 (x10 + 1))).bind fun t207 => (if x8 = true then (if x9 = true then (busbarlaw13_PlanParts.l0 k x5 x6 (t207 == 1) (t207 == 2) (wrap64 (x10 + 1)) x207000 x207001 x207002) else (busbarlaw13_PlanParts.l0 k x5 x6 (t207 == 1) false (wrap64 (x10 + 1)) x207000 x207001 x207002)) else (if x9 = true then (busbarlaw13_PlanParts.l0 k x5 x6 false (t207 == 2) (wrap64 (x10 + 1)) x207000 x207001 x207002) else (busbarlaw13_PlanParts.l0 k x5 x6 false false (wrap64 (x10 + 1)) x207000 x207001 x207002)))) else ((plan_Where.f k x6 x5 x207000 x207001 x207002).bind fun t208 => (if ((t208 == 1) == x8) = true then (if ((t208 == 2) == x9) = true then (if x8 = true then (if x9 = true then (some false) else (if t208 ≥ 0 then (some (decide (t208 ≤ 2))) else (some false))) else (if t208 ≥ 0 then (some (decide (t208 ≤ 2))) else (some false))) else (some false)) else (some false)))
def busbarlaw13_PlanParts.f (k : Nat) (l0 : List Int) (a1 : Int) : Option (Bool) := (busbarlaw13_awake.f k).bind fun t196 => (if t196 = true then ((busbarlaw0_Spans.f k l0).bind fun t197 => ((busbarref12_Cut.f k t197 2 20 (20 + 8)).bind fun t200 => ((busbarlaw0_Span.f a1).bind fun bt203 => (busbarlaw13_PlanParts.l0 k 20 t200 true true bt203.2.1 bt203.1 bt203.2.1 (mn bt203.2.2 (wrap64 (bt203.2.1 + 30))))))) else (some false))
theorem busbarlaw13_PlanParts.mono_l : ∀ k, (∀ y0 y1 y2 y3 y4 y5 y6 y7, LeO (busbarlaw13_PlanParts.l0 k y0 y1 y2 y3 y4 y5 y6 y7) (busbarlaw13_PlanParts.l0 (k + 1) y0 y1 y2 y3 y4 y5 y6 y7))
 | 0 => fun _ _ _ _ _ _ _ _ r h => by simp [busbarlaw13_PlanParts.l0] at h
 | k + 1 => by
  have ih0 := busbarlaw13_PlanParts.mono_l k
  ·
   intro y0 y1 y2 y3 y4 y5 y6 y7
   unfold busbarlaw13_PlanParts.l0
   repeat' first
   | (with_reducible exact ih0 _ _ _ _ _ _ _ _)
   | (with_reducible exact busbarlaw0_Spans.mono _ _)
   | (with_reducible exact busbarlaw13_awake.mono _)
   | (with_reducible exact busbarref12_Cut.mono _ _ _ _ _)
   | (with_reducible exact plan_Where.mono _ _ _ _ _ _)
   | (with_reducible exact LeO.refl _)
   | (with_reducible exact LeO.none _)
   | (with_reducible refine LeO.ite ?_ ?_)
   | (with_reducible refine LeO.bind ?_ (fun _ => ?_))
   | exact ih0 _ _ _ _ _ _ _ _
   | exact busbarlaw0_Spans.mono _ _
   | exact busbarlaw13_awake.mono _
   | exact busbarref12_Cut.mono _ _ _ _ _
   | exact plan_Where.mono _ _ _ _ _ _
   | exact LeO.none _
   | refine LeO.ite ?_ ?_
   | refine LeO.bind ?_ (fun _ => ?_)
theorem busbarlaw13_PlanParts.mono : ∀ a0 a1 k, LeO (busbarlaw13_PlanParts.f k a0 a1) (busbarlaw13_PlanParts.f (k + 1) a0 a1) := by
 intro a0 a1 k
 have ih0 := busbarlaw13_PlanParts.mono_l k
 unfold busbarlaw13_PlanParts.f
 repeat' first
   | (with_reducible exact ih0 _ _ _ _ _ _ _ _)
   | (with_reducible exact busbarlaw0_Spans.mono _ _)
   | (with_reducible exact busbarlaw13_awake.mono _)
   | (with_reducible exact busbarref12_Cut.mono _ _ _ _ _)
   | (with_reducible exact plan_Where.mono _ _ _ _ _ _)
   | (with_reducible exact LeO.refl _)
   | (with_reducible exact LeO.none _)
   | (with_reducible refine LeO.ite ?_ ?_)
   | (with_reducible refine LeO.bind ?_ (fun _ => ?_))
   | exact ih0 _ _ _ _ _ _ _ _
   | exact busbarlaw0_Spans.mono _ _
   | exact busbarlaw13_awake.mono _
   | exact busbarref12_Cut.mono _ _ _ _ _
   | exact plan_Where.mono _ _ _ _ _ _
   | exact LeO.none _
   | refine LeO.ite ?_ ?_
   | refine LeO.bind ?_ (fun _ => ?_)
set_option maxHeartbeats 8000000 in
set_option maxRecDepth 100000 in
theorem busbarlaw13_PlanParts.calls (k : Nat) (A0 : Option Addr) (c0 : Nat) (l0 : List Int) (a1 : Int) (r : Bool) (w : World) (hr0 : Kd.C (Kd.int .i64) w A0 l0.length l0) (hc0 : l0.length ≤ c0) (h : busbarlaw13_PlanParts.f k l0 a1 = some r) :
  Calls Try.prog 5 #[.slice A0 l0.length c0, .int .i64 a1] w fun e w' => e = .returned (.bool r) ∧ Below w.heap.size w w' := by
 have hu35 := Try.underlying35
 have HR0 := Aside0.mk hr0
 have HC0 := Aside0.mk hc0
 clear hr0 hc0
 have HB := Aside0.mk (Below.refl w.heap.size w)
 have H : ((busbarlaw13_awake.f k).bind fun t196 => (if t196 = true then ((busbarlaw0_Spans.f k l0).bind fun t197 => ((busbarref12_Cut.f k t197 2 20 (20 + 8)).bind fun t200 => ((busbarlaw0_Span.f a1).bind fun bt203 => (busbarlaw13_PlanParts.l0 k 20 t200 true true bt203.2.1 bt203.1 bt203.2.1 (mn bt203.2.2 (wrap64 (bt203.2.1 + 30))))))) else (some false))) = some r := h
 clear h
 replace H := Option.bind_eq_some_iff.mp H
 obtain ⟨t196, A30, H⟩ := H
 replace H : (if t196 = true then ((busbarlaw0_Spans.f k l0).bind fun t197 => ((busbarref12_Cut.f k t197 2 20 (20 + 8)).bind fun t200 => ((busbarlaw0_Span.f a1).bind fun bt203 => (busbarlaw13_PlanParts.l0 k 20 t200 true true bt203.2.1 bt203.1 bt203.2.1 (mn bt203.2.2 (wrap64 (bt203.2.1 + 30))))))) else (some false)) = some r := H
 have A3 := Aside0.mk A30
 clear A30
 by_cases c4 : t196 = true
 ·
  subst c4
  have H1 : ((busbarlaw0_Spans.f k l0).bind fun t197 => ((busbarref12_Cut.f k t197 2 20 (20 + 8)).bind fun t200 => ((busbarlaw0_Span.f a1).bind fun bt203 => (busbarlaw13_PlanParts.l0 k 20 t200 true true bt203.2.1 bt203.1 bt203.2.1 (mn bt203.2.2 (wrap64 (bt203.2.1 + 30))))))) = some r := by rw [if_pos rfl] at H; exact H
  clear H
  have H := H1
  clear H1
  replace H := Option.bind_eq_some_iff.mp H
  obtain ⟨t197, A50, H⟩ := H
  replace H : ((busbarref12_Cut.f k t197 2 20 (20 + 8)).bind fun t200 => ((busbarlaw0_Span.f a1).bind fun bt203 => (busbarlaw13_PlanParts.l0 k 20 t200 true true bt203.2.1 bt203.1 bt203.2.1 (mn bt203.2.2 (wrap64 (bt203.2.1 + 30)))))) = some r := H
  have A5 := Aside0.mk A50
  clear A50
  replace H := Option.bind_eq_some_iff.mp H
  obtain ⟨t200, A60, H⟩ := H
  replace H : ((busbarlaw0_Span.f a1).bind fun bt203 => (busbarlaw13_PlanParts.l0 k 20 t200 true true bt203.2.1 bt203.1 bt203.2.1 (mn bt203.2.2 (wrap64 (bt203.2.1 + 30))))) = some r := H
  have A6 := Aside0.mk A60
  clear A60
  replace H := Option.bind_eq_some_iff.mp H
  obtain ⟨⟨t203, t204, t205⟩, A70, H⟩ := H
  replace H : (busbarlaw13_PlanParts.l0 k 20 t200 true true t204 t203 t204 (mn t205 (wrap64 (t204 + 30)))) = some r := H
  have A7 := Aside0.mk A70
  clear A70
  obtain ⟨ji8, hji8⟩ : ∃ j_ : Int, (mn t205 (wrap64 (t204 + 30))) = j_ := ⟨_, rfl⟩
  replace H : (busbarlaw13_PlanParts.l0 k 20 t200 true true t204 t203 t204 ji8) = some r := by first | (rw [hji8] at H; exact H) | (simp only [hji8] at H ⊢; exact H)
  (try rw [hji8] at A3)
  (try rw [hji8] at A5)
  (try rw [hji8] at A6)
  (try rw [hji8] at A7)
  have hji8_ : (if (wrap64 (t204 + 30)) < t205 then (wrap64 (t204 + 30)) else t205) = ji8 := hji8
  have H' := Aside0.mk H
  clear H
  go_enter Try.func5, Try.ntmps5
  go_wp2_with (first | ((with_reducible refine gate_callee (f := 12) rfl ?_); refine goesL_ (some 13) rfl rfl Try.func12 (by kernel_rfl) rfl #[] rfl (by (try simp only [List.map_toArray, List.map_cons, List.map_nil]); first | done | rfl | (simp only [List.length_drop, List.length_take]; rfl)) ?_; (with_reducible refine (busbarlaw13_awake.calls k  true _ A3.out).mono ?_); rintro e w9 ⟨rfl, hb⟩; refine ⟨_, rfl, ?_⟩; have n0_ := Aside0.mk (below_step (by repeat (first | (with_reducible first | exact HB.out | apply below_alloc | apply pw_below_drewN | apply below_drew1) | exact HB.out)) hb); clear HB; have HB := n0_; clear n0_; (try clear hb); (try clear hb2); (try clear hk); (try clear hi)) | ((with_reducible refine gate_callee (f := 16) rfl ?_); refine goesL_ (some 16) rfl rfl Try.func16 (by kernel_rfl) rfl #[.slice A0 l0.length c0] rfl (by (try simp only [List.map_toArray, List.map_cons, List.map_nil]); first | done | rfl | (simp only [List.length_drop, List.length_take]; rfl)) ?_; (with_reducible refine (busbarlaw0_Spans.calls k _ _ l0 t197 _ ?side1 ?side2 A5.out).mono ?_); (case side1 => repeat (first | exact (Kd.C_below HR0.out HB.out) | (with_reducible refine Kd.C_alloc ?_ _) | (with_reducible refine Kd.C_drewN ?_ _) | (with_reducible refine Kd.C_drew ?_))); (case side2 => exact HC0.out); rintro e w10 ⟨v198, rfl, ho0, hb⟩; refine ⟨_, rfl, ?_⟩; have n0_ := Aside0.mk (Kd.R_lower ho0 (below_size (by repeat (first | (with_reducible first | exact HB.out | apply below_alloc | apply pw_below_drewN | apply below_drew1) | exact HB.out)))); have n1_ := Aside0.mk (below_step (by repeat (first | (with_reducible first | exact HB.out | apply below_alloc | apply pw_below_drewN | apply below_drew1) | exact HB.out)) hb); clear HB; have HO199 := n0_; have HB := n1_; clear n0_ n1_; (try clear hb); (try clear hb2); (try clear hk); (try clear hi); (try clear ho0); obtain ⟨Ao11, co11, eo11⟩ := Kd.R_slice HO199.out; subst eo11) | ((with_reducible refine gate_callee (f := 20) rfl ?_); refine goesL_ (some 21) rfl rfl Try.func20 (by kernel_rfl) rfl #[.slice Ao11 t197.length co11, .agg #[.int .i64 2, .int .i64 20, .int .i64 (20 + 8)]] rfl (by (try simp only [List.map_toArray, List.map_cons, List.map_nil]); first | done | rfl | (simp only [List.length_drop, List.length_take]; rfl)) ?_; (with_reducible refine (busbarref12_Cut.calls k _ _ t197 2 20 (20 + 8) t200 _ ?side1 ?side2 A6.out).mono ?_); (case side1 => repeat (first | exact (Kd.R_reads' HO199.out).2.2 | (with_reducible refine Kd.C_alloc ?_ _) | (with_reducible refine Kd.C_drewN ?_ _) | (with_reducible refine Kd.C_drew ?_))); (case side2 => exact (Kd.R_reads' HO199.out).2.1); rintro e w12 ⟨v201, rfl, ho0, hb⟩; refine ⟨_, rfl, ?_⟩; have n0_ := Aside0.mk (Kd.R_elder' (by (with_reducible repeat (first | apply Kd.R_alloc | apply Kd.R_drewN | apply Kd.R_drew)); exact HO199.out) (Kd.R_base ho0) hb); have n1_ := Aside0.mk (Kd.R_lower (Kd.R_new' ho0 (Kd.R_lt (by (with_reducible repeat (first | apply Kd.R_alloc | apply Kd.R_drewN | apply Kd.R_drew)); exact HO199.out))) (below_size (by repeat (first | (with_reducible first | exact HB.out | apply below_alloc | apply pw_below_drewN | apply below_drew1) | exact HB.out)))); have n2_ := Aside0.mk (below_step (by repeat (first | (with_reducible first | exact HB.out | apply below_alloc | apply pw_below_drewN | apply below_drew1) | exact HB.out)) hb); clear HO199; clear HB; have HO199 := n0_; have HO202 := n1_; have HB := n2_; clear n0_ n1_ n2_; (try clear hb); (try clear hb2); (try clear hk); (try clear hi); (try clear ho0)) | ((with_reducible refine gate_callee (f := 23) rfl ?_); refine goesL_ (some 23) rfl rfl Try.func23 (by kernel_rfl) rfl #[.int .i64 a1] rfl (by (try simp only [List.map_toArray, List.map_cons, List.map_nil]); first | done | rfl | (simp only [List.length_drop, List.length_take]; rfl)) ?_; (with_reducible refine (busbarlaw0_Span.calls a1 t203 t204 t205 _ A7.out).mono ?_); rintro e w13 ⟨rfl, hb⟩; refine ⟨_, rfl, ?_⟩; have n0_ := Aside0.mk (Kd.R_below (by (with_reducible repeat (first | apply Kd.R_alloc | apply Kd.R_drewN | apply Kd.R_drew)); exact HO199.out) hb); have n1_ := Aside0.mk (Kd.R_below (by (with_reducible repeat (first | apply Kd.R_alloc | apply Kd.R_drewN | apply Kd.R_drew)); exact HO202.out) hb); have n2_ := Aside0.mk (below_step (by repeat (first | (with_reducible first | exact HB.out | apply below_alloc | apply pw_below_drewN | apply below_drew1) | exact HB.out)) hb); clear HO199; clear HO202; clear HB; have HO199 := n0_; have HO202 := n1_; have HB := n2_; clear n0_ n1_ n2_; (try clear hb); (try clear hb2); (try clear hk); (try clear hi)) | ((with_reducible refine gate_dst (N := 7) rfl ?_); refine box_event ?hg (N := 7) ?hd (cs := #[.int .i64 0, .int .i64 0, .int .i64 0]) (t := 35) ?hr ?_; (case hd => rfl); (case hg => rfl); (case hr => first | (go_simp; done) | (go_simp; rfl)); intro gb206 hg w14 hbox hb; have n0_ := Aside0.mk (Kd.R_below (Kd.R_elderB (by (with_reducible repeat (first | apply Kd.R_alloc | apply Kd.R_drewN | apply Kd.R_drew)); exact HO199.out) gb206 (Nat.le_of_eq hg.symm)) hb); have n1_ := Aside0.mk (Kd.R_below (Kd.R_elderB (by (with_reducible repeat (first | apply Kd.R_alloc | apply Kd.R_drewN | apply Kd.R_drew)); exact HO202.out) gb206 (Nat.le_of_eq hg.symm)) hb); have n2_ := Aside0.mk (below_step (by repeat (first | (with_reducible first | exact HB.out | apply below_alloc | apply pw_below_drewN | apply below_drew1) | exact HB.out)) hb); have n3_ := Aside0.mk (hbox); have n4_ := Aside0.mk ((by rw [hg]; exact (below_size (by repeat (first | (with_reducible first | exact HB.out | apply below_alloc | apply pw_below_drewN | apply below_drew1) | exact HB.out))) : w.heap.size ≤ gb206)); have n5_ := Aside0.mk ((by rw [hg]; exact (below_size (by repeat (first | (with_reducible first | exact HB.out | apply below_alloc | apply pw_below_drewN | apply below_drew1) | exact HB.out))) : w.heap.size ≤ gb206)); clear HO199; clear HO202; clear HB; have HO199 := n0_; have HO202 := n1_; have HB := n2_; have BK206 := n3_; have GW206 := n4_; have GE206 := n5_; clear n0_ n1_ n2_ n3_ n4_ n5_; clear hb hbox hg; have hcz15_0 : w14.cell? ⟨gb206, 0, none⟩ = some (.int .i64 0) := (blk_cell BK206.out 0).trans rfl; have hcz15_1 : w14.cell? ⟨gb206, 1, none⟩ = some (.int .i64 0) := (blk_cell BK206.out 1).trans rfl; have hcz15_2 : w14.cell? ⟨gb206, 2, none⟩ = some (.int .i64 0) := (blk_cell BK206.out 2).trans rfl; have hfz15_0 := blk_frozen BK206.out 0; have hfz15_1 := blk_frozen BK206.out 1; have hfz15_2 := blk_frozen BK206.out 2))
  go_loopg [8, 9, 10] k (fun kq v8 v9 v10 w' => ∃ (x8_1 : Bool) (x9_1 : Bool) (x10_1 : Int), v8 = .bool x8_1 ∧ v9 = .bool x9_1 ∧ v10 = .int .i64 x10_1 ∧ Aside0 (busbarlaw13_PlanParts.l0 kq 20 t200 x8_1 x9_1 x10_1 t203 t204 ji8 = some r) ∧ Aside0 (kq ≤ k) ∧ Aside0 (Kd.R k35 35 w' w.heap.size (fun k_ => k_ ≠ gb206) v201 t200) ∧ Aside0 (w'.heap[gb206]? = some (.cells #[.int .i64 t203, .int .i64 t204, .int .i64 ji8] 35 (0, 0))) ∧ Aside0 (Below w.heap.size w w'))
  case atStart => exact ⟨(true), (true), (t204), (by first | rfl | (simp; done) | (simp [*]; done)), (by first | rfl | (simp; done) | (simp [*]; done)), (by first | rfl | (simp; done) | (simp [*]; done)), H', ⟨Nat.le_refl _⟩, ⟨by (with_reducible repeat (first | apply Kd.R_alloc | apply Kd.R_drewN | apply Kd.R_drew)); exact Kd.R_mono (Kd.R_far (p := ⟨gb206, 2, none⟩) (Kd.R_far (p := ⟨gb206, 2, none⟩) (Kd.R_far (p := ⟨gb206, 1, none⟩) (Kd.R_far (p := ⟨gb206, 0, none⟩) (Kd.R_mono HO202.out (fun k_ hk => (⟨hk, hk.2⟩ : _ ∧ k_ ≠ gb206))) (fun _ hk => hk.2) (.int .i64 t203)) (fun _ hk => hk.2) (.int .i64 t204)) (fun _ hk => hk.2) (.int .i64 t205)) (fun _ hk => hk.2) (.int .i64 ji8)) (fun _ hk => hk.1.2)⟩, ⟨by (with_reducible repeat (first | refine blk_drewN ?_ _ | refine blk_drew ?_ | refine blk_alloc ?_ _)); refine blk_put (cs := #[.int .i64 t203, .int .i64 t204, .int .i64 t205]) ?_ 2 _ rfl; (with_reducible repeat (first | refine blk_drewN ?_ _ | refine blk_drew ?_ | refine blk_alloc ?_ _)); refine blk_put (cs := #[.int .i64 t203, .int .i64 t204, .int .i64 0]) ?_ 2 _ rfl; (with_reducible repeat (first | refine blk_drewN ?_ _ | refine blk_drew ?_ | refine blk_alloc ?_ _)); refine blk_put (cs := #[.int .i64 t203, .int .i64 0, .int .i64 0]) ?_ 1 _ rfl; (with_reducible repeat (first | refine blk_drewN ?_ _ | refine blk_drew ?_ | refine blk_alloc ?_ _)); refine blk_put (cs := #[.int .i64 0, .int .i64 0, .int .i64 0]) ?_ 0 _ rfl; (with_reducible repeat (first | refine blk_drewN ?_ _ | refine blk_drew ?_ | refine blk_alloc ?_ _)); exact BK206.out⟩, ⟨by repeat (first | (with_reducible first | exact HB.out | apply below_alloc | apply pw_below_drewN | apply below_drew1 | refine below_set ?_ GE206.out) | exact HB.out)⟩⟩
  case round =>
   clear H'
   try clear c1
   try clear c2
   try clear p2
   try clear c4
   try clear c5
   try clear p6
   try clear c12
   try clear hcz15_0
   try clear hcz15_1
   try clear hcz15_2
   try clear hfz15_0
   try clear hfz15_1
   try clear hfz15_2
   obtain ⟨x8_1, x9_1, x10_1, rfl, rfl, rfl, HA, HK1, HO_6, BK206, HB⟩ := hrel
   cases gk with
   | zero => exact absurd HA.out (by simp [busbarlaw13_PlanParts.l0])
   | succ k1 =>
    have H := HA.out
    clear HA
    simp only [busbarlaw13_PlanParts.l0] at H
    by_cases c16 : x10_1 < ji8
    ·
     rw [if_pos c16] at H
     have c16b0 : decide (x10_1 < ji8) = true := decide_eq_true c16
     clear c16
     replace H := Option.bind_eq_some_iff.mp H
     obtain ⟨t207, A170, H⟩ := H
     replace H : (if x8_1 = true then (if x9_1 = true then (busbarlaw13_PlanParts.l0 k1 20 t200 (t207 == 1) (t207 == 2) (wrap64 (x10_1 + 1)) t203 t204 ji8) else (busbarlaw13_PlanParts.l0 k1 20 t200 (t207 == 1) false (wrap64 (x10_1 + 1)) t203 t204 ji8)) else (if x9_1 = true then (busbarlaw13_PlanParts.l0 k1 20 t200 false (t207 == 2) (wrap64 (x10_1 + 1)) t203 t204 ji8) else (busbarlaw13_PlanParts.l0 k1 20 t200 false false (wrap64 (x10_1 + 1)) t203 t204 ji8))) = some r := H
     have A17 := Aside0.mk A170
     clear A170
     by_cases c18 : x8_1 = true
     ·
      subst c18
      have H1 : (if x9_1 = true then (busbarlaw13_PlanParts.l0 k1 20 t200 (t207 == 1) (t207 == 2) (wrap64 (x10_1 + 1)) t203 t204 ji8) else (busbarlaw13_PlanParts.l0 k1 20 t200 (t207 == 1) false (wrap64 (x10_1 + 1)) t203 t204 ji8)) = some r := by rw [if_pos rfl] at H; exact H
      clear H
      have H := H1
      clear H1
      by_cases c19 : x9_1 = true
      ·
       subst c19
       have H1 : (busbarlaw13_PlanParts.l0 k1 20 t200 (t207 == 1) (t207 == 2) (wrap64 (x10_1 + 1)) t203 t204 ji8) = some r := by rw [if_pos rfl] at H; exact H
       clear H
       have H := H1
       clear H1
       have H' := Aside0.mk H
       clear H
       have hcz20_0 : wr.cell? ⟨gb206, 0, none⟩ = some (.int .i64 t203) := (blk_cell BK206.out 0).trans rfl
       have hcz20_1 : wr.cell? ⟨gb206, 1, none⟩ = some (.int .i64 t204) := (blk_cell BK206.out 1).trans rfl
       have hcz20_2 : wr.cell? ⟨gb206, 2, none⟩ = some (.int .i64 ji8) := (blk_cell BK206.out 2).trans rfl
       have hfz20_0 := blk_frozen BK206.out 0
       have hfz20_1 := blk_frozen BK206.out 1
       have hfz20_2 := blk_frozen BK206.out 2
       obtain ⟨Ao21, co21, eo21⟩ := Kd.R_slice HO_6.out
       subst eo21
       go_wp2_with (first | ((with_reducible refine gate_callee (f := 21) rfl ?_); refine goesL_ (some 47) rfl rfl Try.func21 (by kernel_rfl) rfl #[.slice Ao21 t200.length co21, .int .i64 20, .agg #[.int .i64 t203, .int .i64 x10_1, .int .i64 (wrap64 (x10_1 + 1))]] rfl (by (try simp only [List.map_toArray, List.map_cons, List.map_nil]); first | done | rfl | (simp only [List.length_drop, List.length_take]; rfl)) ?_; (with_reducible refine (plan_Where.calls k1 _ _ t200 20 t203 x10_1 (wrap64 (x10_1 + 1)) t207 _ ?side1 ?side2 A17.out).mono ?_); (case side1 => repeat (first | exact (Kd.R_reads' HO_6.out).2.2 | (with_reducible refine Kd.C_alloc ?_ _) | (with_reducible refine Kd.C_drewN ?_ _) | (with_reducible refine Kd.C_drew ?_))); (case side2 => exact (Kd.R_reads' HO_6.out).2.1); rintro e w22 ⟨rfl, hb⟩; refine ⟨_, rfl, ?_⟩; have n0_ := Aside0.mk (Kd.R_below (by (with_reducible repeat (first | apply Kd.R_alloc | apply Kd.R_drewN | apply Kd.R_drew)); exact HO_6.out) hb); have n1_ := Aside0.mk (blk_below (g := gb206) (o := .cells #[.int .i64 t203, .int .i64 t204, .int .i64 ji8] 35 (0, 0)) (by (with_reducible repeat (first | refine blk_drewN ?_ _ | refine blk_drew ?_ | refine blk_alloc ?_ _)); exact BK206.out) hb); have n2_ := Aside0.mk (below_step (by repeat (first | (with_reducible first | exact HB.out | apply below_alloc | apply pw_below_drewN | apply below_drew1 | refine below_set ?_ GE206.out) | exact HB.out)) hb); clear HO_6; clear BK206; clear HB; have HO_6 := n0_; have BK206 := n1_; have HB := n2_; clear n0_ n1_ n2_; (try clear hb); (try clear hb2); (try clear hk); (try clear hi)))
       go_roundg k1
       case measure => have := HK1.out; omega
       case rel => exact ⟨((t207 == 1)), ((t207 == 2)), (wrap64 (x10_1 + 1)), (by first | rfl | (simp; done) | (simp [*]; done)), (by first | rfl | (simp; done) | (simp [*]; done)), (by first | rfl | (simp; done) | (simp [*]; done)), H', ⟨by have := HK1.out; omega⟩, ⟨by (with_reducible repeat (first | apply Kd.R_alloc | apply Kd.R_drewN | apply Kd.R_drew)); exact HO_6.out⟩, ⟨by (with_reducible repeat (first | refine blk_drewN ?_ _ | refine blk_drew ?_ | refine blk_alloc ?_ _)); exact BK206.out⟩, ⟨by repeat (first | (with_reducible first | exact HB.out | apply below_alloc | apply pw_below_drewN | apply below_drew1 | refine below_set ?_ GE206.out) | exact HB.out)⟩⟩
      ·
       replace c19 := Bool.eq_false_iff.mpr c19
       subst c19
       have H1 : (busbarlaw13_PlanParts.l0 k1 20 t200 (t207 == 1) false (wrap64 (x10_1 + 1)) t203 t204 ji8) = some r := by rw [if_neg (show ¬ (false = true) by decide)] at H; exact H
       clear H
       have H := H1
       clear H1
       have H' := Aside0.mk H
       clear H
       have hcz23_0 : wr.cell? ⟨gb206, 0, none⟩ = some (.int .i64 t203) := (blk_cell BK206.out 0).trans rfl
       have hcz23_1 : wr.cell? ⟨gb206, 1, none⟩ = some (.int .i64 t204) := (blk_cell BK206.out 1).trans rfl
       have hcz23_2 : wr.cell? ⟨gb206, 2, none⟩ = some (.int .i64 ji8) := (blk_cell BK206.out 2).trans rfl
       have hfz23_0 := blk_frozen BK206.out 0
       have hfz23_1 := blk_frozen BK206.out 1
       have hfz23_2 := blk_frozen BK206.out 2
       obtain ⟨Ao24, co24, eo24⟩ := Kd.R_slice HO_6.out
       subst eo24
       go_wp2_with (first | ((with_reducible refine gate_callee (f := 21) rfl ?_); refine goesL_ (some 47) rfl rfl Try.func21 (by kernel_rfl) rfl #[.slice Ao24 t200.length co24, .int .i64 20, .agg #[.int .i64 t203, .int .i64 x10_1, .int .i64 (wrap64 (x10_1 + 1))]] rfl (by (try simp only [List.map_toArray, List.map_cons, List.map_nil]); first | done | rfl | (simp only [List.length_drop, List.length_take]; rfl)) ?_; (with_reducible refine (plan_Where.calls k1 _ _ t200 20 t203 x10_1 (wrap64 (x10_1 + 1)) t207 _ ?side1 ?side2 A17.out).mono ?_); (case side1 => repeat (first | exact (Kd.R_reads' HO_6.out).2.2 | (with_reducible refine Kd.C_alloc ?_ _) | (with_reducible refine Kd.C_drewN ?_ _) | (with_reducible refine Kd.C_drew ?_))); (case side2 => exact (Kd.R_reads' HO_6.out).2.1); rintro e w25 ⟨rfl, hb⟩; refine ⟨_, rfl, ?_⟩; have n0_ := Aside0.mk (Kd.R_below (by (with_reducible repeat (first | apply Kd.R_alloc | apply Kd.R_drewN | apply Kd.R_drew)); exact HO_6.out) hb); have n1_ := Aside0.mk (blk_below (g := gb206) (o := .cells #[.int .i64 t203, .int .i64 t204, .int .i64 ji8] 35 (0, 0)) (by (with_reducible repeat (first | refine blk_drewN ?_ _ | refine blk_drew ?_ | refine blk_alloc ?_ _)); exact BK206.out) hb); have n2_ := Aside0.mk (below_step (by repeat (first | (with_reducible first | exact HB.out | apply below_alloc | apply pw_below_drewN | apply below_drew1 | refine below_set ?_ GE206.out) | exact HB.out)) hb); clear HO_6; clear BK206; clear HB; have HO_6 := n0_; have BK206 := n1_; have HB := n2_; clear n0_ n1_ n2_; (try clear hb); (try clear hb2); (try clear hk); (try clear hi)))
       go_roundg k1
       case measure => have := HK1.out; omega
       case rel => exact ⟨((t207 == 1)), (false), (wrap64 (x10_1 + 1)), (by first | rfl | (simp; done) | (simp [*]; done)), (by first | rfl | (simp; done) | (simp [*]; done)), (by first | rfl | (simp; done) | (simp [*]; done)), H', ⟨by have := HK1.out; omega⟩, ⟨by (with_reducible repeat (first | apply Kd.R_alloc | apply Kd.R_drewN | apply Kd.R_drew)); exact HO_6.out⟩, ⟨by (with_reducible repeat (first | refine blk_drewN ?_ _ | refine blk_drew ?_ | refine blk_alloc ?_ _)); exact BK206.out⟩, ⟨by repeat (first | (with_reducible first | exact HB.out | apply below_alloc | apply pw_below_drewN | apply below_drew1 | refine below_set ?_ GE206.out) | exact HB.out)⟩⟩
     ·
      replace c18 := Bool.eq_false_iff.mpr c18
      subst c18
      have H1 : (if x9_1 = true then (busbarlaw13_PlanParts.l0 k1 20 t200 false (t207 == 2) (wrap64 (x10_1 + 1)) t203 t204 ji8) else (busbarlaw13_PlanParts.l0 k1 20 t200 false false (wrap64 (x10_1 + 1)) t203 t204 ji8)) = some r := by rw [if_neg (show ¬ (false = true) by decide)] at H; exact H
      clear H
      have H := H1
      clear H1
      by_cases c26 : x9_1 = true
      ·
       subst c26
       have H1 : (busbarlaw13_PlanParts.l0 k1 20 t200 false (t207 == 2) (wrap64 (x10_1 + 1)) t203 t204 ji8) = some r := by rw [if_pos rfl] at H; exact H
       clear H
       have H := H1
       clear H1
       have H' := Aside0.mk H
       clear H
       have hcz27_0 : wr.cell? ⟨gb206, 0, none⟩ = some (.int .i64 t203) := (blk_cell BK206.out 0).trans rfl
       have hcz27_1 : wr.cell? ⟨gb206, 1, none⟩ = some (.int .i64 t204) := (blk_cell BK206.out 1).trans rfl
       have hcz27_2 : wr.cell? ⟨gb206, 2, none⟩ = some (.int .i64 ji8) := (blk_cell BK206.out 2).trans rfl
       have hfz27_0 := blk_frozen BK206.out 0
       have hfz27_1 := blk_frozen BK206.out 1
       have hfz27_2 := blk_frozen BK206.out 2
       obtain ⟨Ao28, co28, eo28⟩ := Kd.R_slice HO_6.out
       subst eo28
       go_wp2_with (first | ((with_reducible refine gate_callee (f := 21) rfl ?_); refine goesL_ (some 47) rfl rfl Try.func21 (by kernel_rfl) rfl #[.slice Ao28 t200.length co28, .int .i64 20, .agg #[.int .i64 t203, .int .i64 x10_1, .int .i64 (wrap64 (x10_1 + 1))]] rfl (by (try simp only [List.map_toArray, List.map_cons, List.map_nil]); first | done | rfl | (simp only [List.length_drop, List.length_take]; rfl)) ?_; (with_reducible refine (plan_Where.calls k1 _ _ t200 20 t203 x10_1 (wrap64 (x10_1 + 1)) t207 _ ?side1 ?side2 A17.out).mono ?_); (case side1 => repeat (first | exact (Kd.R_reads' HO_6.out).2.2 | (with_reducible refine Kd.C_alloc ?_ _) | (with_reducible refine Kd.C_drewN ?_ _) | (with_reducible refine Kd.C_drew ?_))); (case side2 => exact (Kd.R_reads' HO_6.out).2.1); rintro e w29 ⟨rfl, hb⟩; refine ⟨_, rfl, ?_⟩; have n0_ := Aside0.mk (Kd.R_below (by (with_reducible repeat (first | apply Kd.R_alloc | apply Kd.R_drewN | apply Kd.R_drew)); exact HO_6.out) hb); have n1_ := Aside0.mk (blk_below (g := gb206) (o := .cells #[.int .i64 t203, .int .i64 t204, .int .i64 ji8] 35 (0, 0)) (by (with_reducible repeat (first | refine blk_drewN ?_ _ | refine blk_drew ?_ | refine blk_alloc ?_ _)); exact BK206.out) hb); have n2_ := Aside0.mk (below_step (by repeat (first | (with_reducible first | exact HB.out | apply below_alloc | apply pw_below_drewN | apply below_drew1 | refine below_set ?_ GE206.out) | exact HB.out)) hb); clear HO_6; clear BK206; clear HB; have HO_6 := n0_; have BK206 := n1_; have HB := n2_; clear n0_ n1_ n2_; (try clear hb); (try clear hb2); (try clear hk); (try clear hi)))
       go_roundg k1
       case measure => have := HK1.out; omega
       case rel => exact ⟨(false), ((t207 == 2)), (wrap64 (x10_1 + 1)), (by first | rfl | (simp; done) | (simp [*]; done)), (by first | rfl | (simp; done) | (simp [*]; done)), (by first | rfl | (simp; done) | (simp [*]; done)), H', ⟨by have := HK1.out; omega⟩, ⟨by (with_reducible repeat (first | apply Kd.R_alloc | apply Kd.R_drewN | apply Kd.R_drew)); exact HO_6.out⟩, ⟨by (with_reducible repeat (first | refine blk_drewN ?_ _ | refine blk_drew ?_ | refine blk_alloc ?_ _)); exact BK206.out⟩, ⟨by repeat (first | (with_reducible first | exact HB.out | apply below_alloc | apply pw_below_drewN | apply below_drew1 | refine below_set ?_ GE206.out) | exact HB.out)⟩⟩
      ·
       replace c26 := Bool.eq_false_iff.mpr c26
       subst c26
       have H1 : (busbarlaw13_PlanParts.l0 k1 20 t200 false false (wrap64 (x10_1 + 1)) t203 t204 ji8) = some r := by rw [if_neg (show ¬ (false = true) by decide)] at H; exact H
       clear H
       have H := H1
       clear H1
       have H' := Aside0.mk H
       clear H
       have hcz30_0 : wr.cell? ⟨gb206, 0, none⟩ = some (.int .i64 t203) := (blk_cell BK206.out 0).trans rfl
       have hcz30_1 : wr.cell? ⟨gb206, 1, none⟩ = some (.int .i64 t204) := (blk_cell BK206.out 1).trans rfl
       have hcz30_2 : wr.cell? ⟨gb206, 2, none⟩ = some (.int .i64 ji8) := (blk_cell BK206.out 2).trans rfl
       have hfz30_0 := blk_frozen BK206.out 0
       have hfz30_1 := blk_frozen BK206.out 1
       have hfz30_2 := blk_frozen BK206.out 2
       obtain ⟨Ao31, co31, eo31⟩ := Kd.R_slice HO_6.out
       subst eo31
       go_wp2_with (first | ((with_reducible refine gate_callee (f := 21) rfl ?_); refine goesL_ (some 47) rfl rfl Try.func21 (by kernel_rfl) rfl #[.slice Ao31 t200.length co31, .int .i64 20, .agg #[.int .i64 t203, .int .i64 x10_1, .int .i64 (wrap64 (x10_1 + 1))]] rfl (by (try simp only [List.map_toArray, List.map_cons, List.map_nil]); first | done | rfl | (simp only [List.length_drop, List.length_take]; rfl)) ?_; (with_reducible refine (plan_Where.calls k1 _ _ t200 20 t203 x10_1 (wrap64 (x10_1 + 1)) t207 _ ?side1 ?side2 A17.out).mono ?_); (case side1 => repeat (first | exact (Kd.R_reads' HO_6.out).2.2 | (with_reducible refine Kd.C_alloc ?_ _) | (with_reducible refine Kd.C_drewN ?_ _) | (with_reducible refine Kd.C_drew ?_))); (case side2 => exact (Kd.R_reads' HO_6.out).2.1); rintro e w32 ⟨rfl, hb⟩; refine ⟨_, rfl, ?_⟩; have n0_ := Aside0.mk (Kd.R_below (by (with_reducible repeat (first | apply Kd.R_alloc | apply Kd.R_drewN | apply Kd.R_drew)); exact HO_6.out) hb); have n1_ := Aside0.mk (blk_below (g := gb206) (o := .cells #[.int .i64 t203, .int .i64 t204, .int .i64 ji8] 35 (0, 0)) (by (with_reducible repeat (first | refine blk_drewN ?_ _ | refine blk_drew ?_ | refine blk_alloc ?_ _)); exact BK206.out) hb); have n2_ := Aside0.mk (below_step (by repeat (first | (with_reducible first | exact HB.out | apply below_alloc | apply pw_below_drewN | apply below_drew1 | refine below_set ?_ GE206.out) | exact HB.out)) hb); clear HO_6; clear BK206; clear HB; have HO_6 := n0_; have BK206 := n1_; have HB := n2_; clear n0_ n1_ n2_; (try clear hb); (try clear hb2); (try clear hk); (try clear hi)))
       go_roundg k1
       case measure => have := HK1.out; omega
       case rel => exact ⟨(false), (false), (wrap64 (x10_1 + 1)), (by first | rfl | (simp; done) | (simp [*]; done)), (by first | rfl | (simp; done) | (simp [*]; done)), (by first | rfl | (simp; done) | (simp [*]; done)), H', ⟨by have := HK1.out; omega⟩, ⟨by (with_reducible repeat (first | apply Kd.R_alloc | apply Kd.R_drewN | apply Kd.R_drew)); exact HO_6.out⟩, ⟨by (with_reducible repeat (first | refine blk_drewN ?_ _ | refine blk_drew ?_ | refine blk_alloc ?_ _)); exact BK206.out⟩, ⟨by repeat (first | (with_reducible first | exact HB.out | apply below_alloc | apply pw_below_drewN | apply below_drew1 | refine below_set ?_ GE206.out) | exact HB.out)⟩⟩
    ·
     rw [if_neg c16] at H
     have c16b0 : decide (x10_1 < ji8) = false := decide_eq_false c16
     clear c16
     replace H := Option.bind_eq_some_iff.mp H
     obtain ⟨t208, A330, H⟩ := H
     replace H : (if ((t208 == 1) == x8_1) = true then (if ((t208 == 2) == x9_1) = true then (if x8_1 = true then (if x9_1 = true then (some false) else (if t208 ≥ 0 then (some (decide (t208 ≤ 2))) else (some false))) else (if t208 ≥ 0 then (some (decide (t208 ≤ 2))) else (some false))) else (some false)) else (some false)) = some r := H
     have A33 := Aside0.mk A330
     clear A330
     by_cases c34 : ((t208 == 1) == x8_1) = true
     ·
      rw [if_pos c34] at H
      have c34b0 : ((t208 == 1) == x8_1) = true := c34
      (try (have c34b1 : decide ((t208 == 1) = x8_1) = true := by simpa using c34))
      (try (have c34b2 : ((t208 == 1) == x8_1) = true := by simpa using c34))
      clear c34
      by_cases c35 : ((t208 == 2) == x9_1) = true
      ·
       rw [if_pos c35] at H
       have c35b0 : ((t208 == 2) == x9_1) = true := c35
       (try (have c35b1 : decide ((t208 == 2) = x9_1) = true := by simpa using c35))
       (try (have c35b2 : ((t208 == 2) == x9_1) = true := by simpa using c35))
       clear c35
       by_cases c36 : x8_1 = true
       ·
        subst c36
        have H1 : (if x9_1 = true then (some false) else (if t208 ≥ 0 then (some (decide (t208 ≤ 2))) else (some false))) = some r := by rw [if_pos rfl] at H; exact H
        clear H
        have H := H1
        clear H1
        by_cases c37 : x9_1 = true
        ·
         subst c37
         have H1 : (some false) = some r := by rw [if_pos rfl] at H; exact H
         clear H
         have H := H1
         clear H1
         obtain rfl := Option.some.inj H
         have hcz38_0 : wr.cell? ⟨gb206, 0, none⟩ = some (.int .i64 t203) := (blk_cell BK206.out 0).trans rfl
         have hcz38_1 : wr.cell? ⟨gb206, 1, none⟩ = some (.int .i64 t204) := (blk_cell BK206.out 1).trans rfl
         have hcz38_2 : wr.cell? ⟨gb206, 2, none⟩ = some (.int .i64 ji8) := (blk_cell BK206.out 2).trans rfl
         have hfz38_0 := blk_frozen BK206.out 0
         have hfz38_1 := blk_frozen BK206.out 1
         have hfz38_2 := blk_frozen BK206.out 2
         obtain ⟨Ao39, co39, eo39⟩ := Kd.R_slice HO_6.out
         subst eo39
         go_wp2_with (first | ((with_reducible refine gate_callee (f := 21) rfl ?_); refine goesL_ (some 61) rfl rfl Try.func21 (by kernel_rfl) rfl #[.slice Ao39 t200.length co39, .int .i64 20, .agg #[.int .i64 t203, .int .i64 t204, .int .i64 ji8]] rfl (by (try simp only [List.map_toArray, List.map_cons, List.map_nil]); first | done | (simp only [hji8]; rfl) | rfl | (simp only [List.length_drop, List.length_take]; rfl)) ?_; (with_reducible refine (plan_Where.calls k1 _ _ t200 20 t203 t204 ji8 t208 _ ?side1 ?side2 A33.out).mono ?_); (case side1 => repeat (first | exact (Kd.R_reads' HO_6.out).2.2 | (with_reducible refine Kd.C_alloc ?_ _) | (with_reducible refine Kd.C_drewN ?_ _) | (with_reducible refine Kd.C_drew ?_))); (case side2 => exact (Kd.R_reads' HO_6.out).2.1); rintro e w40 ⟨rfl, hb⟩; refine ⟨_, rfl, ?_⟩; have n0_ := Aside0.mk (Kd.R_below (by (with_reducible repeat (first | apply Kd.R_alloc | apply Kd.R_drewN | apply Kd.R_drew)); exact HO_6.out) hb); have n1_ := Aside0.mk (blk_below (g := gb206) (o := .cells #[.int .i64 t203, .int .i64 t204, .int .i64 ji8] 35 (0, 0)) (by (with_reducible repeat (first | refine blk_drewN ?_ _ | refine blk_drew ?_ | refine blk_alloc ?_ _)); exact BK206.out) hb); have n2_ := Aside0.mk (below_step (by repeat (first | (with_reducible first | exact HB.out | apply below_alloc | apply pw_below_drewN | apply below_drew1 | refine below_set ?_ GE206.out) | exact HB.out)) hb); clear HO_6; clear BK206; clear HB; have HO_6 := n0_; have BK206 := n1_; have HB := n2_; clear n0_ n1_ n2_; (try clear hb); (try clear hb2); (try clear hk); (try clear hi)))
         go_ret
         exact ⟨by first | rfl | (simp [errW_none, errW_some] <;> rfl) | (simp only [← hji8]; first | rfl | (simp [errW_none, errW_some] <;> rfl)) | (simp [*, errW_none, errW_some] <;> rfl), by repeat (first | (with_reducible first | exact HB.out | apply below_alloc | apply pw_below_drewN | apply below_drew1 | refine below_set ?_ GE206.out) | exact HB.out)⟩
        ·
         replace c37 := Bool.eq_false_iff.mpr c37
         subst c37
         have H1 : (if t208 ≥ 0 then (some (decide (t208 ≤ 2))) else (some false)) = some r := by rw [if_neg (show ¬ (false = true) by decide)] at H; exact H
         clear H
         have H := H1
         clear H1
         by_cases c41 : t208 ≥ 0
         ·
          rw [if_pos c41] at H
          have c41b0 : decide (0 ≤ t208) = true := decide_eq_true c41
          clear c41
          obtain rfl := Option.some.inj H
          have hcz42_0 : wr.cell? ⟨gb206, 0, none⟩ = some (.int .i64 t203) := (blk_cell BK206.out 0).trans rfl
          have hcz42_1 : wr.cell? ⟨gb206, 1, none⟩ = some (.int .i64 t204) := (blk_cell BK206.out 1).trans rfl
          have hcz42_2 : wr.cell? ⟨gb206, 2, none⟩ = some (.int .i64 ji8) := (blk_cell BK206.out 2).trans rfl
          have hfz42_0 := blk_frozen BK206.out 0
          have hfz42_1 := blk_frozen BK206.out 1
          have hfz42_2 := blk_frozen BK206.out 2
          obtain ⟨Ao43, co43, eo43⟩ := Kd.R_slice HO_6.out
          subst eo43
          go_wp2_with (first | ((with_reducible refine gate_callee (f := 21) rfl ?_); refine goesL_ (some 61) rfl rfl Try.func21 (by kernel_rfl) rfl #[.slice Ao43 t200.length co43, .int .i64 20, .agg #[.int .i64 t203, .int .i64 t204, .int .i64 ji8]] rfl (by (try simp only [List.map_toArray, List.map_cons, List.map_nil]); first | done | (simp only [hji8]; rfl) | rfl | (simp only [List.length_drop, List.length_take]; rfl)) ?_; (with_reducible refine (plan_Where.calls k1 _ _ t200 20 t203 t204 ji8 t208 _ ?side1 ?side2 A33.out).mono ?_); (case side1 => repeat (first | exact (Kd.R_reads' HO_6.out).2.2 | (with_reducible refine Kd.C_alloc ?_ _) | (with_reducible refine Kd.C_drewN ?_ _) | (with_reducible refine Kd.C_drew ?_))); (case side2 => exact (Kd.R_reads' HO_6.out).2.1); rintro e w44 ⟨rfl, hb⟩; refine ⟨_, rfl, ?_⟩; have n0_ := Aside0.mk (Kd.R_below (by (with_reducible repeat (first | apply Kd.R_alloc | apply Kd.R_drewN | apply Kd.R_drew)); exact HO_6.out) hb); have n1_ := Aside0.mk (blk_below (g := gb206) (o := .cells #[.int .i64 t203, .int .i64 t204, .int .i64 ji8] 35 (0, 0)) (by (with_reducible repeat (first | refine blk_drewN ?_ _ | refine blk_drew ?_ | refine blk_alloc ?_ _)); exact BK206.out) hb); have n2_ := Aside0.mk (below_step (by repeat (first | (with_reducible first | exact HB.out | apply below_alloc | apply pw_below_drewN | apply below_drew1 | refine below_set ?_ GE206.out) | exact HB.out)) hb); clear HO_6; clear BK206; clear HB; have HO_6 := n0_; have BK206 := n1_; have HB := n2_; clear n0_ n1_ n2_; (try clear hb); (try clear hb2); (try clear hk); (try clear hi)))
          go_ret
          exact ⟨by first | rfl | (simp [errW_none, errW_some] <;> rfl) | (simp only [← hji8]; first | rfl | (simp [errW_none, errW_some] <;> rfl)) | (simp [*, errW_none, errW_some] <;> rfl), by repeat (first | (with_reducible first | exact HB.out | apply below_alloc | apply pw_below_drewN | apply below_drew1 | refine below_set ?_ GE206.out) | exact HB.out)⟩
         ·
          rw [if_neg c41] at H
          have c41b0 : decide (0 ≤ t208) = false := decide_eq_false c41
          clear c41
          obtain rfl := Option.some.inj H
          have hcz45_0 : wr.cell? ⟨gb206, 0, none⟩ = some (.int .i64 t203) := (blk_cell BK206.out 0).trans rfl
          have hcz45_1 : wr.cell? ⟨gb206, 1, none⟩ = some (.int .i64 t204) := (blk_cell BK206.out 1).trans rfl
          have hcz45_2 : wr.cell? ⟨gb206, 2, none⟩ = some (.int .i64 ji8) := (blk_cell BK206.out 2).trans rfl
          have hfz45_0 := blk_frozen BK206.out 0
          have hfz45_1 := blk_frozen BK206.out 1
          have hfz45_2 := blk_frozen BK206.out 2
          obtain ⟨Ao46, co46, eo46⟩ := Kd.R_slice HO_6.out
          subst eo46
          go_wp2_with (first | ((with_reducible refine gate_callee (f := 21) rfl ?_); refine goesL_ (some 61) rfl rfl Try.func21 (by kernel_rfl) rfl #[.slice Ao46 t200.length co46, .int .i64 20, .agg #[.int .i64 t203, .int .i64 t204, .int .i64 ji8]] rfl (by (try simp only [List.map_toArray, List.map_cons, List.map_nil]); first | done | (simp only [hji8]; rfl) | rfl | (simp only [List.length_drop, List.length_take]; rfl)) ?_; (with_reducible refine (plan_Where.calls k1 _ _ t200 20 t203 t204 ji8 t208 _ ?side1 ?side2 A33.out).mono ?_); (case side1 => repeat (first | exact (Kd.R_reads' HO_6.out).2.2 | (with_reducible refine Kd.C_alloc ?_ _) | (with_reducible refine Kd.C_drewN ?_ _) | (with_reducible refine Kd.C_drew ?_))); (case side2 => exact (Kd.R_reads' HO_6.out).2.1); rintro e w47 ⟨rfl, hb⟩; refine ⟨_, rfl, ?_⟩; have n0_ := Aside0.mk (Kd.R_below (by (with_reducible repeat (first | apply Kd.R_alloc | apply Kd.R_drewN | apply Kd.R_drew)); exact HO_6.out) hb); have n1_ := Aside0.mk (blk_below (g := gb206) (o := .cells #[.int .i64 t203, .int .i64 t204, .int .i64 ji8] 35 (0, 0)) (by (with_reducible repeat (first | refine blk_drewN ?_ _ | refine blk_drew ?_ | refine blk_alloc ?_ _)); exact BK206.out) hb); have n2_ := Aside0.mk (below_step (by repeat (first | (with_reducible first | exact HB.out | apply below_alloc | apply pw_below_drewN | apply below_drew1 | refine below_set ?_ GE206.out) | exact HB.out)) hb); clear HO_6; clear BK206; clear HB; have HO_6 := n0_; have BK206 := n1_; have HB := n2_; clear n0_ n1_ n2_; (try clear hb); (try clear hb2); (try clear hk); (try clear hi)))
          go_ret
          exact ⟨by first | rfl | (simp [errW_none, errW_some] <;> rfl) | (simp only [← hji8]; first | rfl | (simp [errW_none, errW_some] <;> rfl)) | (simp [*, errW_none, errW_some] <;> rfl), by repeat (first | (with_reducible first | exact HB.out | apply below_alloc | apply pw_below_drewN | apply below_drew1 | refine below_set ?_ GE206.out) | exact HB.out)⟩
       ·
        replace c36 := Bool.eq_false_iff.mpr c36
        subst c36
        have H1 : (if t208 ≥ 0 then (some (decide (t208 ≤ 2))) else (some false)) = some r := by rw [if_neg (show ¬ (false = true) by decide)] at H; exact H
        clear H
        have H := H1
        clear H1
        by_cases c48 : t208 ≥ 0
        ·
         rw [if_pos c48] at H
         have c48b0 : decide (0 ≤ t208) = true := decide_eq_true c48
         clear c48
         obtain rfl := Option.some.inj H
         have hcz49_0 : wr.cell? ⟨gb206, 0, none⟩ = some (.int .i64 t203) := (blk_cell BK206.out 0).trans rfl
         have hcz49_1 : wr.cell? ⟨gb206, 1, none⟩ = some (.int .i64 t204) := (blk_cell BK206.out 1).trans rfl
         have hcz49_2 : wr.cell? ⟨gb206, 2, none⟩ = some (.int .i64 ji8) := (blk_cell BK206.out 2).trans rfl
         have hfz49_0 := blk_frozen BK206.out 0
         have hfz49_1 := blk_frozen BK206.out 1
         have hfz49_2 := blk_frozen BK206.out 2
         obtain ⟨Ao50, co50, eo50⟩ := Kd.R_slice HO_6.out
         subst eo50
         go_wp2_with (first | ((with_reducible refine gate_callee (f := 21) rfl ?_); refine goesL_ (some 61) rfl rfl Try.func21 (by kernel_rfl) rfl #[.slice Ao50 t200.length co50, .int .i64 20, .agg #[.int .i64 t203, .int .i64 t204, .int .i64 ji8]] rfl (by (try simp only [List.map_toArray, List.map_cons, List.map_nil]); first | done | (simp only [hji8]; rfl) | rfl | (simp only [List.length_drop, List.length_take]; rfl)) ?_; (with_reducible refine (plan_Where.calls k1 _ _ t200 20 t203 t204 ji8 t208 _ ?side1 ?side2 A33.out).mono ?_); (case side1 => repeat (first | exact (Kd.R_reads' HO_6.out).2.2 | (with_reducible refine Kd.C_alloc ?_ _) | (with_reducible refine Kd.C_drewN ?_ _) | (with_reducible refine Kd.C_drew ?_))); (case side2 => exact (Kd.R_reads' HO_6.out).2.1); rintro e w51 ⟨rfl, hb⟩; refine ⟨_, rfl, ?_⟩; have n0_ := Aside0.mk (Kd.R_below (by (with_reducible repeat (first | apply Kd.R_alloc | apply Kd.R_drewN | apply Kd.R_drew)); exact HO_6.out) hb); have n1_ := Aside0.mk (blk_below (g := gb206) (o := .cells #[.int .i64 t203, .int .i64 t204, .int .i64 ji8] 35 (0, 0)) (by (with_reducible repeat (first | refine blk_drewN ?_ _ | refine blk_drew ?_ | refine blk_alloc ?_ _)); exact BK206.out) hb); have n2_ := Aside0.mk (below_step (by repeat (first | (with_reducible first | exact HB.out | apply below_alloc | apply pw_below_drewN | apply below_drew1 | refine below_set ?_ GE206.out) | exact HB.out)) hb); clear HO_6; clear BK206; clear HB; have HO_6 := n0_; have BK206 := n1_; have HB := n2_; clear n0_ n1_ n2_; (try clear hb); (try clear hb2); (try clear hk); (try clear hi)))
         go_ret
         exact ⟨by first | rfl | (simp [errW_none, errW_some] <;> rfl) | (simp only [← hji8]; first | rfl | (simp [errW_none, errW_some] <;> rfl)) | (simp [*, errW_none, errW_some] <;> rfl), by repeat (first | (with_reducible first | exact HB.out | apply below_alloc | apply pw_below_drewN | apply below_drew1 | refine below_set ?_ GE206.out) | exact HB.out)⟩
        ·
         rw [if_neg c48] at H
         have c48b0 : decide (0 ≤ t208) = false := decide_eq_false c48
         clear c48
         obtain rfl := Option.some.inj H
         have hcz52_0 : wr.cell? ⟨gb206, 0, none⟩ = some (.int .i64 t203) := (blk_cell BK206.out 0).trans rfl
         have hcz52_1 : wr.cell? ⟨gb206, 1, none⟩ = some (.int .i64 t204) := (blk_cell BK206.out 1).trans rfl
         have hcz52_2 : wr.cell? ⟨gb206, 2, none⟩ = some (.int .i64 ji8) := (blk_cell BK206.out 2).trans rfl
         have hfz52_0 := blk_frozen BK206.out 0
         have hfz52_1 := blk_frozen BK206.out 1
         have hfz52_2 := blk_frozen BK206.out 2
         obtain ⟨Ao53, co53, eo53⟩ := Kd.R_slice HO_6.out
         subst eo53
         go_wp2_with (first | ((with_reducible refine gate_callee (f := 21) rfl ?_); refine goesL_ (some 61) rfl rfl Try.func21 (by kernel_rfl) rfl #[.slice Ao53 t200.length co53, .int .i64 20, .agg #[.int .i64 t203, .int .i64 t204, .int .i64 ji8]] rfl (by (try simp only [List.map_toArray, List.map_cons, List.map_nil]); first | done | (simp only [hji8]; rfl) | rfl | (simp only [List.length_drop, List.length_take]; rfl)) ?_; (with_reducible refine (plan_Where.calls k1 _ _ t200 20 t203 t204 ji8 t208 _ ?side1 ?side2 A33.out).mono ?_); (case side1 => repeat (first | exact (Kd.R_reads' HO_6.out).2.2 | (with_reducible refine Kd.C_alloc ?_ _) | (with_reducible refine Kd.C_drewN ?_ _) | (with_reducible refine Kd.C_drew ?_))); (case side2 => exact (Kd.R_reads' HO_6.out).2.1); rintro e w54 ⟨rfl, hb⟩; refine ⟨_, rfl, ?_⟩; have n0_ := Aside0.mk (Kd.R_below (by (with_reducible repeat (first | apply Kd.R_alloc | apply Kd.R_drewN | apply Kd.R_drew)); exact HO_6.out) hb); have n1_ := Aside0.mk (blk_below (g := gb206) (o := .cells #[.int .i64 t203, .int .i64 t204, .int .i64 ji8] 35 (0, 0)) (by (with_reducible repeat (first | refine blk_drewN ?_ _ | refine blk_drew ?_ | refine blk_alloc ?_ _)); exact BK206.out) hb); have n2_ := Aside0.mk (below_step (by repeat (first | (with_reducible first | exact HB.out | apply below_alloc | apply pw_below_drewN | apply below_drew1 | refine below_set ?_ GE206.out) | exact HB.out)) hb); clear HO_6; clear BK206; clear HB; have HO_6 := n0_; have BK206 := n1_; have HB := n2_; clear n0_ n1_ n2_; (try clear hb); (try clear hb2); (try clear hk); (try clear hi)))
         go_ret
         exact ⟨by first | rfl | (simp [errW_none, errW_some] <;> rfl) | (simp only [← hji8]; first | rfl | (simp [errW_none, errW_some] <;> rfl)) | (simp [*, errW_none, errW_some] <;> rfl), by repeat (first | (with_reducible first | exact HB.out | apply below_alloc | apply pw_below_drewN | apply below_drew1 | refine below_set ?_ GE206.out) | exact HB.out)⟩
      ·
       rw [if_neg c35] at H
       have c35b0 : ((t208 == 2) == x9_1) = false := by simpa using c35
       (try (have c35b1 : decide ((t208 == 2) = x9_1) = false := by simpa using c35))
       (try (have c35b2 : ((t208 == 2) == x9_1) = false := by simpa using c35))
       (try (have c35b3 : ¬ ((t208 == 2) = x9_1) := by simpa using c35))
       clear c35
       obtain rfl := Option.some.inj H
       have hcz55_0 : wr.cell? ⟨gb206, 0, none⟩ = some (.int .i64 t203) := (blk_cell BK206.out 0).trans rfl
       have hcz55_1 : wr.cell? ⟨gb206, 1, none⟩ = some (.int .i64 t204) := (blk_cell BK206.out 1).trans rfl
       have hcz55_2 : wr.cell? ⟨gb206, 2, none⟩ = some (.int .i64 ji8) := (blk_cell BK206.out 2).trans rfl
       have hfz55_0 := blk_frozen BK206.out 0
       have hfz55_1 := blk_frozen BK206.out 1
       have hfz55_2 := blk_frozen BK206.out 2
       obtain ⟨Ao56, co56, eo56⟩ := Kd.R_slice HO_6.out
       subst eo56
       go_wp2_with (first | ((with_reducible refine gate_callee (f := 21) rfl ?_); refine goesL_ (some 61) rfl rfl Try.func21 (by kernel_rfl) rfl #[.slice Ao56 t200.length co56, .int .i64 20, .agg #[.int .i64 t203, .int .i64 t204, .int .i64 ji8]] rfl (by (try simp only [List.map_toArray, List.map_cons, List.map_nil]); first | done | (simp only [hji8]; rfl) | rfl | (simp only [List.length_drop, List.length_take]; rfl)) ?_; (with_reducible refine (plan_Where.calls k1 _ _ t200 20 t203 t204 ji8 t208 _ ?side1 ?side2 A33.out).mono ?_); (case side1 => repeat (first | exact (Kd.R_reads' HO_6.out).2.2 | (with_reducible refine Kd.C_alloc ?_ _) | (with_reducible refine Kd.C_drewN ?_ _) | (with_reducible refine Kd.C_drew ?_))); (case side2 => exact (Kd.R_reads' HO_6.out).2.1); rintro e w57 ⟨rfl, hb⟩; refine ⟨_, rfl, ?_⟩; have n0_ := Aside0.mk (Kd.R_below (by (with_reducible repeat (first | apply Kd.R_alloc | apply Kd.R_drewN | apply Kd.R_drew)); exact HO_6.out) hb); have n1_ := Aside0.mk (blk_below (g := gb206) (o := .cells #[.int .i64 t203, .int .i64 t204, .int .i64 ji8] 35 (0, 0)) (by (with_reducible repeat (first | refine blk_drewN ?_ _ | refine blk_drew ?_ | refine blk_alloc ?_ _)); exact BK206.out) hb); have n2_ := Aside0.mk (below_step (by repeat (first | (with_reducible first | exact HB.out | apply below_alloc | apply pw_below_drewN | apply below_drew1 | refine below_set ?_ GE206.out) | exact HB.out)) hb); clear HO_6; clear BK206; clear HB; have HO_6 := n0_; have BK206 := n1_; have HB := n2_; clear n0_ n1_ n2_; (try clear hb); (try clear hb2); (try clear hk); (try clear hi)))
       go_ret
       exact ⟨by first | rfl | (simp [errW_none, errW_some] <;> rfl) | (simp only [← hji8]; first | rfl | (simp [errW_none, errW_some] <;> rfl)) | (simp [*, errW_none, errW_some] <;> rfl), by repeat (first | (with_reducible first | exact HB.out | apply below_alloc | apply pw_below_drewN | apply below_drew1 | refine below_set ?_ GE206.out) | exact HB.out)⟩
     ·
      rw [if_neg c34] at H
      have c34b0 : ((t208 == 1) == x8_1) = false := by simpa using c34
      (try (have c34b1 : decide ((t208 == 1) = x8_1) = false := by simpa using c34))
      (try (have c34b2 : ((t208 == 1) == x8_1) = false := by simpa using c34))
      (try (have c34b3 : ¬ ((t208 == 1) = x8_1) := by simpa using c34))
      clear c34
      obtain rfl := Option.some.inj H
      have hcz58_0 : wr.cell? ⟨gb206, 0, none⟩ = some (.int .i64 t203) := (blk_cell BK206.out 0).trans rfl
      have hcz58_1 : wr.cell? ⟨gb206, 1, none⟩ = some (.int .i64 t204) := (blk_cell BK206.out 1).trans rfl
      have hcz58_2 : wr.cell? ⟨gb206, 2, none⟩ = some (.int .i64 ji8) := (blk_cell BK206.out 2).trans rfl
      have hfz58_0 := blk_frozen BK206.out 0
      have hfz58_1 := blk_frozen BK206.out 1
      have hfz58_2 := blk_frozen BK206.out 2
      obtain ⟨Ao59, co59, eo59⟩ := Kd.R_slice HO_6.out
      subst eo59
      go_wp2_with (first | ((with_reducible refine gate_callee (f := 21) rfl ?_); refine goesL_ (some 61) rfl rfl Try.func21 (by kernel_rfl) rfl #[.slice Ao59 t200.length co59, .int .i64 20, .agg #[.int .i64 t203, .int .i64 t204, .int .i64 ji8]] rfl (by (try simp only [List.map_toArray, List.map_cons, List.map_nil]); first | done | (simp only [hji8]; rfl) | rfl | (simp only [List.length_drop, List.length_take]; rfl)) ?_; (with_reducible refine (plan_Where.calls k1 _ _ t200 20 t203 t204 ji8 t208 _ ?side1 ?side2 A33.out).mono ?_); (case side1 => repeat (first | exact (Kd.R_reads' HO_6.out).2.2 | (with_reducible refine Kd.C_alloc ?_ _) | (with_reducible refine Kd.C_drewN ?_ _) | (with_reducible refine Kd.C_drew ?_))); (case side2 => exact (Kd.R_reads' HO_6.out).2.1); rintro e w60 ⟨rfl, hb⟩; refine ⟨_, rfl, ?_⟩; have n0_ := Aside0.mk (Kd.R_below (by (with_reducible repeat (first | apply Kd.R_alloc | apply Kd.R_drewN | apply Kd.R_drew)); exact HO_6.out) hb); have n1_ := Aside0.mk (blk_below (g := gb206) (o := .cells #[.int .i64 t203, .int .i64 t204, .int .i64 ji8] 35 (0, 0)) (by (with_reducible repeat (first | refine blk_drewN ?_ _ | refine blk_drew ?_ | refine blk_alloc ?_ _)); exact BK206.out) hb); have n2_ := Aside0.mk (below_step (by repeat (first | (with_reducible first | exact HB.out | apply below_alloc | apply pw_below_drewN | apply below_drew1 | refine below_set ?_ GE206.out) | exact HB.out)) hb); clear HO_6; clear BK206; clear HB; have HO_6 := n0_; have BK206 := n1_; have HB := n2_; clear n0_ n1_ n2_; (try clear hb); (try clear hb2); (try clear hk); (try clear hi)))
      go_ret
      exact ⟨by first | rfl | (simp [errW_none, errW_some] <;> rfl) | (simp only [← hji8]; first | rfl | (simp [errW_none, errW_some] <;> rfl)) | (simp [*, errW_none, errW_some] <;> rfl), by repeat (first | (with_reducible first | exact HB.out | apply below_alloc | apply pw_below_drewN | apply below_drew1 | refine below_set ?_ GE206.out) | exact HB.out)⟩
 ·
  replace c4 := Bool.eq_false_iff.mpr c4
  subst c4
  have H1 : (some false) = some r := by rw [if_neg (show ¬ (false = true) by decide)] at H; exact H
  clear H
  have H := H1
  clear H1
  obtain rfl := Option.some.inj H
  go_enter Try.func5, Try.ntmps5
  go_wp2_with (first | ((with_reducible refine gate_callee (f := 12) rfl ?_); refine goesL_ (some 13) rfl rfl Try.func12 (by kernel_rfl) rfl #[] rfl (by (try simp only [List.map_toArray, List.map_cons, List.map_nil]); first | done | rfl | (simp only [List.length_drop, List.length_take]; rfl)) ?_; (with_reducible refine (busbarlaw13_awake.calls k  false _ A3.out).mono ?_); rintro e w61 ⟨rfl, hb⟩; refine ⟨_, rfl, ?_⟩; have n0_ := Aside0.mk (below_step (by repeat (first | (with_reducible first | exact HB.out | apply below_alloc | apply pw_below_drewN | apply below_drew1) | exact HB.out)) hb); clear HB; have HB := n0_; clear n0_; (try clear hb); (try clear hb2); (try clear hk); (try clear hi)))
  go_ret
  exact ⟨by first | rfl | (simp [errW_none, errW_some] <;> rfl) | (simp [*, errW_none, errW_some] <;> rfl), by repeat (first | (with_reducible first | exact HB.out | apply below_alloc | apply pw_below_drewN | apply below_drew1) | exact HB.out)⟩

/-- THE ONE PURE STATEMENT of busbarlaw13_PlanParts: yours. -/
def busbarlaw13_PlanParts.Pure : Prop := ∀ (l0 : List Int) (a1 : Int), l0.length ≤ maxLen → l0.length * 8 ≤ 140737488351232 → (∀ x ∈ l0, (Lit.int .i64 x).wf = true) → (Lit.int .i64 a1).wf = true → ∃ k, busbarlaw13_PlanParts.f k l0 a1 = some true
theorem busbarlaw13_PlanParts.walk (P : busbarlaw13_PlanParts.Pure) (a0 : Option Addr) (len0 cap0 : Nat) (z0 : List Int) (a1 : Int) (w : World) (w0 : (a0 = none ∧ len0 = 0 ∧ cap0 = 0 ∧ z0 = []) ∨ ∃ x, a0 = some x ∧ len0 ≤ cap0 ∧ cap0 ≤ maxLen ∧ z0.length = cap0 ∧ (∀ i, i < z0.length → w.cell? (x.add i) = some (.int .i64 (z0.getD i 0))) ∧ ∀ n ∈ z0, (Lit.int .i64 n).wf = true) (y0 : len0 * 8 ≤ 140737488351232) (w1 : (Lit.int .i64 a1).wf = true) :
  Calls Try.prog 5 #[.slice a0 len0 cap0, .int .i64 a1] w fun e w' => e = .returned (.bool true) ∧ Below w.heap.size w w' := by
 obtain ⟨l0, rfl, hr0, hm0, hw0, hc0⟩ := ReadsInt.ofRowC w0
 obtain ⟨k, h⟩ := P l0 a1 hm0 y0 hw0 w1
 refine (busbarlaw13_PlanParts.calls k _ _ l0 a1 true w (Kd.C_of_reads (d := (0 : Int)) (h1 := fun _ => rfl) hr0) hc0 h).mono ?_
 rintro e w' ⟨rfl, hd⟩
 exact ⟨rfl, hd⟩

end Go.Proofs.Ytgmoecbecllpiaa.PPlan
