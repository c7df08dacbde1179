-- written by a program of this session (wip/pp) over the kit's print.py; Lean checks it
import Derived.Test.YtgmoecbecllpiaaPPlanx0
import Derived.Test.YtgmoecbecllpiaaPPlanx6
import Derived.Test.YtgmoecbecllpiaaPPlanx8
import Derived.Test.YtgmoecbecllpiaaPPlanx9
import Derived.Test.YtgmoecbecllpiaaPPlanx10
import Derived.Test.YtgmoecbecllpiaaPPlanx12
import Derived.Test.YtgmoecbecllpiaaPPlanx13
import Derived.Test.YtgmoecbecllpiaaPPlanx17
namespace Go.Proofs.Ytgmoecbecllpiaa.PPlan
open Go.RowKit Go.Proofs.YtgmoecbecllpiaaW.PrintWords Go.Proofs.YtgmoecbecllpiaaW.PrintLast Go.Proofs.YtgmoecbecllpiaaW.PrintMore
attribute [local go_sem] max2_int min2_int max_two min_two max_three min_three max_four min_four plus_setCell_drewN plus_cell_same   -- for this text's walks alone
set_option linter.unusedVariables false
set_option linter.unusedSimpArgs false

/-! ### busbarlaw13_PlanWhere: function 4 -/
def busbarlaw13_PlanWhere.j0 : Nat → Int → List (S35) → Int → Bool → Option (Bool)
 | 0, _, _, _, _ => none
 | k + 1, x3, x9, x10, x40 => if x40 = true then (some false) else ((busbarlaw0_Span.f x3).bind fun bt254 => ((busbarlaw0_Within.f x3 11).bind fun t258 => ((busbarlaw0_Digit.f x3 11 9).bind fun t260 => ((plan_Where.f k x9 x10 bt254.1 bt254.2.1 bt254.2.2).bind fun t261 => ((busbarref12_Where.f k x9 x10 bt254.1 bt254.2.1 bt254.2.2).bind fun t262 => (if t261 = t262 then ((plan_Where.f k x9 x10 2 (wrap64 ((wrap64 (x10 - 2)) + t258)) (wrap64 ((wrap64 ((wrap64 ((wrap64 (x10 - 2)) + t258)) + 1)) + t260))).bind fun t263 => ((busbarref12_Where.f k x9 x10 2 (wrap64 ((wrap64 (x10 - 2)) + t258)) (wrap64 ((wrap64 ((wrap64 ((wrap64 (x10 - 2)) + t258)) + 1)) + t260))).bind fun t264 => (some (t263 == t264)))) else (some false)))))))
def busbarlaw13_PlanWhere.f (k : Nat) (l0 : List Int) (a1 : Int) (a2_0 : Int) (a2_1 : Int) (a2_2 : Int) (a3 : Int) : Option (Bool) := (busbarlaw13_awake.f k).bind fun t243 => (if t243 = true then ((busbarlaw0_Spans.f k l0).bind fun t244 => ((busbarlaw0_Within.f a1 65000).bind fun t247 => ((busbarref12_Cut.f k t244 2 (wrap64 (100 + t247)) (wrap64 ((wrap64 (100 + t247)) + 8))).bind fun t248 => ((plan_Check.f k t248 (wrap64 (100 + t247))).bind fun t251 => (if t251 = 0 then ((plan_Where.f k t248 (wrap64 (100 + t247)) a2_0 a2_1 a2_2).bind fun t252 => ((busbarref12_Where.f k t248 (wrap64 (100 + t247)) a2_0 a2_1 a2_2).bind fun t253 => (busbarlaw13_PlanWhere.j0 k a3 t248 (wrap64 (100 + t247)) (t252 != t253)))) else (busbarlaw13_PlanWhere.j0 k a3 t248 (wrap64 (100 + t247)) true)))))) else (some false))
theorem busbarlaw13_PlanWhere.mono_l : ∀ k, (∀ y0 y1 y2 y3, LeO (busbarlaw13_PlanWhere.j0 k y0 y1 y2 y3) (busbarlaw13_PlanWhere.j0 (k + 1) y0 y1 y2 y3))
 | 0 => fun _ _ _ _ r h => by simp [busbarlaw13_PlanWhere.j0] at h
 | k + 1 => by
  have ih0 := busbarlaw13_PlanWhere.mono_l k
  ·
   intro y0 y1 y2 y3
   unfold busbarlaw13_PlanWhere.j0
   repeat' first
   | (with_reducible exact ih0 _ _ _ _)
   | (with_reducible exact busbarlaw0_Spans.mono _ _)
   | (with_reducible exact busbarlaw13_awake.mono _)
   | (with_reducible exact busbarref12_Cut.mono _ _ _ _ _)
   | (with_reducible exact busbarref12_Where.mono _ _ _ _ _ _)
   | (with_reducible exact plan_Check.mono _ _ _)
   | (with_reducible exact plan_Where.mono _ _ _ _ _ _)
   | (with_reducible exact LeO.refl _)
   | (with_reducible exact LeO.none _)
   | (with_reducible refine LeO.ite ?_ ?_)
   | (with_reducible refine LeO.bind ?_ (fun _ => ?_))
   | exact ih0 _ _ _ _
   | exact busbarlaw0_Spans.mono _ _
   | exact busbarlaw13_awake.mono _
   | exact busbarref12_Cut.mono _ _ _ _ _
   | exact busbarref12_Where.mono _ _ _ _ _ _
   | exact plan_Check.mono _ _ _
   | exact plan_Where.mono _ _ _ _ _ _
   | exact LeO.none _
   | refine LeO.ite ?_ ?_
   | refine LeO.bind ?_ (fun _ => ?_)
theorem busbarlaw13_PlanWhere.mono : ∀ a0 a1 a2 a3 a4 a5 k, LeO (busbarlaw13_PlanWhere.f k a0 a1 a2 a3 a4 a5) (busbarlaw13_PlanWhere.f (k + 1) a0 a1 a2 a3 a4 a5) := by
 intro a0 a1 a2 a3 a4 a5 k
 have ih0 := busbarlaw13_PlanWhere.mono_l k
 unfold busbarlaw13_PlanWhere.f
 repeat' first
   | (with_reducible exact ih0 _ _ _ _)
   | (with_reducible exact busbarlaw0_Spans.mono _ _)
   | (with_reducible exact busbarlaw13_awake.mono _)
   | (with_reducible exact busbarref12_Cut.mono _ _ _ _ _)
   | (with_reducible exact busbarref12_Where.mono _ _ _ _ _ _)
   | (with_reducible exact plan_Check.mono _ _ _)
   | (with_reducible exact plan_Where.mono _ _ _ _ _ _)
   | (with_reducible exact LeO.refl _)
   | (with_reducible exact LeO.none _)
   | (with_reducible refine LeO.ite ?_ ?_)
   | (with_reducible refine LeO.bind ?_ (fun _ => ?_))
   | exact ih0 _ _ _ _
   | exact busbarlaw0_Spans.mono _ _
   | exact busbarlaw13_awake.mono _
   | exact busbarref12_Cut.mono _ _ _ _ _
   | exact busbarref12_Where.mono _ _ _ _ _ _
   | exact plan_Check.mono _ _ _
   | exact plan_Where.mono _ _ _ _ _ _
   | exact LeO.none _
   | refine LeO.ite ?_ ?_
   | refine LeO.bind ?_ (fun _ => ?_)
def busbarlaw13_PlanWhere.T5 : Bool × List (List Nat × List Nat) := (true, [([], []), ([], []), ([0, 1], [0, 1]), ([2], [2]), ([3, 2], [3]), ([4], [4]), ([4], [4]), ([4], [4]), ([5, 6, 7, 4, 4], [4, 5, 6, 7]), ([4], [4]), ([4], [4]), ([4], [4]), ([9, 10, 11, 8, 4], [4, 9, 10, 11]), ([8, 12, 4], [4, 8, 12]), ([4, 13], [4, 13])])
def busbarlaw13_PlanWhere.B5 : List Nat := [0, 0, 3, 7, 15, 31, 31, 31, 255, 31, 31, 31, 4095, 8191, 16383]
theorem busbarlaw13_PlanWhere.tab5 : rtab .any (opsOf Try.f4 5) = busbarlaw13_PlanWhere.T5 := by kernel_rfl
theorem busbarlaw13_PlanWhere.bits5 : waitsOk busbarlaw13_PlanWhere.T5.2 busbarlaw13_PlanWhere.B5 = true := by kernel_rfl
def busbarlaw13_PlanWhere.T9 : Bool × List (List Nat × List Nat) := (true, [([], []), ([0], [0]), ([1], [1]), ([], []), ([3], [3]), ([2, 4], [2, 4]), ([0, 1, 2, 3, 4, 5], []), ([6, 5, 4, 0, 1, 2, 3, 4, 5], [5, 6])])
def busbarlaw13_PlanWhere.B9 : List Nat := [0, 1, 3, 0, 8, 31, 63, 127]
theorem busbarlaw13_PlanWhere.tab9 : rtab .any (opsOf Try.f4 9) = busbarlaw13_PlanWhere.T9 := by kernel_rfl
theorem busbarlaw13_PlanWhere.bits9 : waitsOk busbarlaw13_PlanWhere.T9.2 busbarlaw13_PlanWhere.B9 = true := by kernel_rfl
def busbarlaw13_PlanWhere.T10 : Bool × List (List Nat × List Nat) := (true, [([], []), ([], []), ([], []), ([0, 1, 2], [0, 1, 2]), ([], []), ([], []), ([], []), ([4, 5, 6, 3], [4, 5, 6]), ([3, 7], [3, 7]), ([8, 7], [8]), ([9], [9]), ([9], [9]), ([9], [9]), ([10, 11, 12, 9, 9], [9, 10, 11, 12]), ([9], [9]), ([9], [9]), ([9], [9]), ([14, 15, 16, 13, 9], [9, 14, 15, 16]), ([13, 17, 9], [9, 13, 17]), ([9, 18], [9, 18]), ([19, 17, 0, 1, 2, 3, 4, 5, 6, 7, 8, 9, 10, 11, 12, 13, 14, 15, 16, 17, 18, 19], [19])])
def busbarlaw13_PlanWhere.B10 : List Nat := [0, 0, 0, 7, 0, 0, 0, 127, 255, 511, 1023, 1023, 1023, 8191, 1023, 1023, 1023, 131071, 262143, 524287, 1048575]
theorem busbarlaw13_PlanWhere.tab10 : rtab .any (opsOf Try.f4 10) = busbarlaw13_PlanWhere.T10 := by kernel_rfl
theorem busbarlaw13_PlanWhere.bits10 : waitsOk busbarlaw13_PlanWhere.T10.2 busbarlaw13_PlanWhere.B10 = true := by kernel_rfl
set_option maxHeartbeats 8000000 in
set_option maxRecDepth 100000 in
theorem busbarlaw13_PlanWhere.calls (k : Nat) (A0 : Option Addr) (c0 : Nat) (l0 : List Int) (a1 : Int) (a2_0 : Int) (a2_1 : Int) (a2_2 : Int) (a3 : Int) (r : Bool) (w : World) (hr0 : Kd.C (Kd.int .i64) w A0 l0.length l0) (hc0 : l0.length ≤ c0) (h : busbarlaw13_PlanWhere.f k l0 a1 a2_0 a2_1 a2_2 a3 = some r) :
  Calls Try.prog 4 #[.slice A0 l0.length c0, .int .i64 a1, .agg #[.int .i64 a2_0, .int .i64 a2_1, .int .i64 a2_2], .int .i64 a3] w fun e w' => e = .returned (.bool r) ∧ Below w.heap.size w w' := by
 have hu35 := Try.underlying35
 have HR0 := Aside0.mk hr0
 have HC0 := Aside0.mk hc0
 clear hr0 hc0
 have HB := Aside0.mk (Below.refl w.heap.size w)
 have H : ((busbarlaw13_awake.f k).bind fun t243 => (if t243 = true then ((busbarlaw0_Spans.f k l0).bind fun t244 => ((busbarlaw0_Within.f a1 65000).bind fun t247 => ((busbarref12_Cut.f k t244 2 (wrap64 (100 + t247)) (wrap64 ((wrap64 (100 + t247)) + 8))).bind fun t248 => ((plan_Check.f k t248 (wrap64 (100 + t247))).bind fun t251 => (if t251 = 0 then ((plan_Where.f k t248 (wrap64 (100 + t247)) a2_0 a2_1 a2_2).bind fun t252 => ((busbarref12_Where.f k t248 (wrap64 (100 + t247)) a2_0 a2_1 a2_2).bind fun t253 => (busbarlaw13_PlanWhere.j0 k a3 t248 (wrap64 (100 + t247)) (t252 != t253)))) else (busbarlaw13_PlanWhere.j0 k a3 t248 (wrap64 (100 + t247)) true)))))) else (some false))) = some r := h
 clear h
 replace H := Option.bind_eq_some_iff.mp H
 obtain ⟨t243, A50, H⟩ := H
 replace H : (if t243 = true then ((busbarlaw0_Spans.f k l0).bind fun t244 => ((busbarlaw0_Within.f a1 65000).bind fun t247 => ((busbarref12_Cut.f k t244 2 (wrap64 (100 + t247)) (wrap64 ((wrap64 (100 + t247)) + 8))).bind fun t248 => ((plan_Check.f k t248 (wrap64 (100 + t247))).bind fun t251 => (if t251 = 0 then ((plan_Where.f k t248 (wrap64 (100 + t247)) a2_0 a2_1 a2_2).bind fun t252 => ((busbarref12_Where.f k t248 (wrap64 (100 + t247)) a2_0 a2_1 a2_2).bind fun t253 => (busbarlaw13_PlanWhere.j0 k a3 t248 (wrap64 (100 + t247)) (t252 != t253)))) else (busbarlaw13_PlanWhere.j0 k a3 t248 (wrap64 (100 + t247)) true)))))) else (some false)) = some r := H
 have A5 := Aside0.mk A50
 clear A50
 by_cases c6 : t243 = true
 ·
  subst c6
  have H1 : ((busbarlaw0_Spans.f k l0).bind fun t244 => ((busbarlaw0_Within.f a1 65000).bind fun t247 => ((busbarref12_Cut.f k t244 2 (wrap64 (100 + t247)) (wrap64 ((wrap64 (100 + t247)) + 8))).bind fun t248 => ((plan_Check.f k t248 (wrap64 (100 + t247))).bind fun t251 => (if t251 = 0 then ((plan_Where.f k t248 (wrap64 (100 + t247)) a2_0 a2_1 a2_2).bind fun t252 => ((busbarref12_Where.f k t248 (wrap64 (100 + t247)) a2_0 a2_1 a2_2).bind fun t253 => (busbarlaw13_PlanWhere.j0 k a3 t248 (wrap64 (100 + t247)) (t252 != t253)))) else (busbarlaw13_PlanWhere.j0 k a3 t248 (wrap64 (100 + t247)) true)))))) = some r := by rw [if_pos rfl] at H; exact H
  clear H
  have H := H1
  clear H1
  replace H := Option.bind_eq_some_iff.mp H
  obtain ⟨t244, A70, H⟩ := H
  replace H : ((busbarlaw0_Within.f a1 65000).bind fun t247 => ((busbarref12_Cut.f k t244 2 (wrap64 (100 + t247)) (wrap64 ((wrap64 (100 + t247)) + 8))).bind fun t248 => ((plan_Check.f k t248 (wrap64 (100 + t247))).bind fun t251 => (if t251 = 0 then ((plan_Where.f k t248 (wrap64 (100 + t247)) a2_0 a2_1 a2_2).bind fun t252 => ((busbarref12_Where.f k t248 (wrap64 (100 + t247)) a2_0 a2_1 a2_2).bind fun t253 => (busbarlaw13_PlanWhere.j0 k a3 t248 (wrap64 (100 + t247)) (t252 != t253)))) else (busbarlaw13_PlanWhere.j0 k a3 t248 (wrap64 (100 + t247)) true))))) = some r := H
  have A7 := Aside0.mk A70
  clear A70
  replace H := Option.bind_eq_some_iff.mp H
  obtain ⟨t247, A80, H⟩ := H
  replace H : ((busbarref12_Cut.f k t244 2 (wrap64 (100 + t247)) (wrap64 ((wrap64 (100 + t247)) + 8))).bind fun t248 => ((plan_Check.f k t248 (wrap64 (100 + t247))).bind fun t251 => (if t251 = 0 then ((plan_Where.f k t248 (wrap64 (100 + t247)) a2_0 a2_1 a2_2).bind fun t252 => ((busbarref12_Where.f k t248 (wrap64 (100 + t247)) a2_0 a2_1 a2_2).bind fun t253 => (busbarlaw13_PlanWhere.j0 k a3 t248 (wrap64 (100 + t247)) (t252 != t253)))) else (busbarlaw13_PlanWhere.j0 k a3 t248 (wrap64 (100 + t247)) true)))) = some r := H
  have A8 := Aside0.mk A80
  clear A80
  replace H := Option.bind_eq_some_iff.mp H
  obtain ⟨t248, A90, H⟩ := H
  replace H : ((plan_Check.f k t248 (wrap64 (100 + t247))).bind fun t251 => (if t251 = 0 then ((plan_Where.f k t248 (wrap64 (100 + t247)) a2_0 a2_1 a2_2).bind fun t252 => ((busbarref12_Where.f k t248 (wrap64 (100 + t247)) a2_0 a2_1 a2_2).bind fun t253 => (busbarlaw13_PlanWhere.j0 k a3 t248 (wrap64 (100 + t247)) (t252 != t253)))) else (busbarlaw13_PlanWhere.j0 k a3 t248 (wrap64 (100 + t247)) true))) = some r := H
  have A9 := Aside0.mk A90
  clear A90
  have HC10 := Aside0.mk H
  clear H
  go_enter Try.func4, Try.ntmps4
  go_upto_region 5 with (first | ((with_reducible refine gate_dst (N := 6) rfl ?_); refine box_event ?hg (N := 6) ?hd (cs := #[.int .i64 a2_0, .int .i64 a2_1, .int .i64 a2_2]) (t := 35) ?hr ?_; (case hd => rfl); (case hg => rfl); (case hr => first | (go_simp; done) | (go_simp; rfl)); intro gb242 hg w11 hbox hb; have n0_ := Aside0.mk (below_step (by repeat (first | (with_reducible first | exact HB.out | apply below_alloc | apply pw_below_drewN | apply below_drew1) | exact HB.out)) hb); have n1_ := Aside0.mk (hbox); have n2_ := Aside0.mk ((by rw [hg]; exact (below_size (by repeat (first | (with_reducible first | exact HB.out | apply below_alloc | apply pw_below_drewN | apply below_drew1) | exact HB.out))) : w.heap.size ≤ gb242)); have n3_ := Aside0.mk ((by rw [hg]; exact (below_size (by repeat (first | (with_reducible first | exact HB.out | apply below_alloc | apply pw_below_drewN | apply below_drew1) | exact HB.out))) : w.heap.size ≤ gb242)); clear HB; have HB := n0_; have BK242 := n1_; have GW242 := n2_; have GE242 := n3_; clear n0_ n1_ n2_ n3_; clear hb hbox hg) | ((with_reducible refine gate_callee (f := 12) rfl ?_); refine goesL_ (some 13) rfl rfl Try.func12 (by kernel_rfl) rfl #[] rfl (by (try simp only [List.map_toArray, List.map_cons, List.map_nil]); first | done | rfl | (simp only [List.length_drop, List.length_take]; rfl)) ?_; (with_reducible refine (busbarlaw13_awake.calls k  true _ A5.out).mono ?_); rintro e w12 ⟨rfl, hb⟩; refine ⟨_, rfl, ?_⟩; have n0_ := Aside0.mk (blk_below (g := gb242) (o := .cells #[.int .i64 a2_0, .int .i64 a2_1, .int .i64 a2_2] 35 (0, 0)) (by (with_reducible repeat (first | refine blk_drewN ?_ _ | refine blk_drew ?_ | refine blk_alloc ?_ _)); exact BK242.out) hb); have n1_ := Aside0.mk (below_step (by repeat (first | (with_reducible first | exact HB.out | apply below_alloc | apply pw_below_drewN | apply below_drew1 | refine below_set ?_ GE242.out) | exact HB.out)) hb); clear BK242; clear HB; have BK242 := n0_; have HB := n1_; clear n0_ n1_; (try clear hb); (try clear hb2); (try clear hk); (try clear hi)) | ((with_reducible refine gate_callee (f := 16) rfl ?_); refine goesL_ (some 16) rfl rfl Try.func16 (by kernel_rfl) rfl #[.slice A0 l0.length c0] rfl (by (try simp only [List.map_toArray, List.map_cons, List.map_nil]); first | done | rfl | (simp only [List.length_drop, List.length_take]; rfl)) ?_; (with_reducible refine (busbarlaw0_Spans.calls k _ _ l0 t244 _ ?side1 ?side2 A7.out).mono ?_); (case side1 => repeat (first | exact (Kd.C_below HR0.out HB.out) | (with_reducible refine Kd.C_alloc ?_ _) | (with_reducible refine Kd.C_drewN ?_ _) | (with_reducible refine Kd.C_drew ?_))); (case side2 => exact HC0.out); rintro e w13 ⟨v245, rfl, ho0, hb⟩; refine ⟨_, rfl, ?_⟩; have n0_ := Aside0.mk (Kd.R_lower (Kd.R_newB ho0 (g := gb242) (o := .cells #[.int .i64 a2_0, .int .i64 a2_1, .int .i64 a2_2] 35 (0, 0)) (by (with_reducible repeat (first | refine blk_drewN ?_ _ | refine blk_drew ?_ | refine blk_alloc ?_ _)); exact BK242.out)) (below_size (by repeat (first | (with_reducible first | exact HB.out | apply below_alloc | apply pw_below_drewN | apply below_drew1 | refine below_set ?_ GE242.out) | exact HB.out)))); have n1_ := Aside0.mk (blk_below (g := gb242) (o := .cells #[.int .i64 a2_0, .int .i64 a2_1, .int .i64 a2_2] 35 (0, 0)) (by (with_reducible repeat (first | refine blk_drewN ?_ _ | refine blk_drew ?_ | refine blk_alloc ?_ _)); exact BK242.out) hb); have n2_ := Aside0.mk (below_step (by repeat (first | (with_reducible first | exact HB.out | apply below_alloc | apply pw_below_drewN | apply below_drew1 | refine below_set ?_ GE242.out) | exact HB.out)) hb); clear BK242; clear HB; have HO246 := n0_; have BK242 := n1_; have HB := n2_; clear n0_ n1_ n2_; (try clear hb); (try clear hb2); (try clear hk); (try clear hi); (try clear ho0)) | ((with_reducible refine gate_callee (f := 13) rfl ?_); refine goesL_ (some 18) rfl rfl Try.func13 (by kernel_rfl) rfl #[.int .i64 a1, .int .i64 65000] rfl (by (try simp only [List.map_toArray, List.map_cons, List.map_nil]); first | done | rfl | (simp only [List.length_drop, List.length_take]; rfl)) ?_; (with_reducible refine (busbarlaw0_Within.calls a1 65000 t247 _ A8.out).mono ?_); rintro e w' ⟨rfl, ⟨nd, rfl⟩⟩; refine ⟨_, rfl, ?_⟩; obtain ⟨Ao14, co14, eo14⟩ := Kd.R_slice HO246.out; subst eo14) | ((with_reducible refine gate_callee (f := 20) rfl ?_); refine goesL_ (some 25) rfl rfl Try.func20 (by kernel_rfl) rfl #[.slice Ao14 t244.length co14, .agg #[.int .i64 2, .int .i64 (wrap64 (100 + t247)), .int .i64 (wrap64 ((wrap64 (100 + t247)) + 8))]] rfl (by (try simp only [List.map_toArray, List.map_cons, List.map_nil]); first | done | rfl | (simp only [List.length_drop, List.length_take]; rfl)) ?_; (with_reducible refine (busbarref12_Cut.calls k _ _ t244 2 (wrap64 (100 + t247)) (wrap64 ((wrap64 (100 + t247)) + 8)) t248 _ ?side1 ?side2 A9.out).mono ?_); (case side1 => repeat (first | exact (Kd.R_reads' HO246.out).2.2 | (with_reducible refine Kd.C_alloc ?_ _) | (with_reducible refine Kd.C_drewN ?_ _) | (with_reducible refine Kd.C_drew ?_))); (case side2 => exact (Kd.R_reads' HO246.out).2.1); rintro e w15 ⟨v249, rfl, ho0, hb⟩; refine ⟨_, rfl, ?_⟩; have n0_ := Aside0.mk (Kd.R_elder' (by (with_reducible repeat (first | apply Kd.R_alloc | apply Kd.R_drewN | apply Kd.R_drew)); exact HO246.out) (Kd.R_base ho0) hb); have n1_ := Aside0.mk (Kd.R_lower (Kd.R_newB (Kd.R_new' ho0 (Kd.R_lt (by (with_reducible repeat (first | apply Kd.R_alloc | apply Kd.R_drewN | apply Kd.R_drew)); exact HO246.out))) (g := gb242) (o := .cells #[.int .i64 a2_0, .int .i64 a2_1, .int .i64 a2_2] 35 (0, 0)) (by (with_reducible repeat (first | refine blk_drewN ?_ _ | refine blk_drew ?_ | refine blk_alloc ?_ _)); exact BK242.out)) (below_size (by repeat (first | (with_reducible first | exact HB.out | apply below_alloc | apply pw_below_drewN | apply below_drew1 | refine below_set ?_ GE242.out) | exact HB.out)))); have n2_ := Aside0.mk (blk_below (g := gb242) (o := .cells #[.int .i64 a2_0, .int .i64 a2_1, .int .i64 a2_2] 35 (0, 0)) (by (with_reducible repeat (first | refine blk_drewN ?_ _ | refine blk_drew ?_ | refine blk_alloc ?_ _)); exact BK242.out) hb); have n3_ := Aside0.mk (below_step (by repeat (first | (with_reducible first | exact HB.out | apply below_alloc | apply pw_below_drewN | apply below_drew1 | refine below_set ?_ GE242.out) | exact HB.out)) hb); clear HO246; clear BK242; clear HB; have HO246 := n0_; have HO250 := n1_; have BK242 := n2_; have HB := n3_; clear n0_ n1_ n2_ n3_; (try clear hb); (try clear hb2); (try clear hk); (try clear hi); (try clear ho0)))
  (try simp only [Act.put, List.setIfInBounds_toArray, List.set_cons_zero, List.set_cons_succ])
  go_cut [40] (fun v40 wc => ∃ (kq : Nat) (x40_9 : Bool), v40 = .bool x40_9 ∧ Aside0 (busbarlaw13_PlanWhere.j0 kq a3 t248 (wrap64 (100 + t247)) x40_9 = some r) ∧ Aside0 (kq ≤ k) ∧ Aside0 (Kd.R k35 35 wc w.heap.size (fun k_ => k_ ≠ gb242) v249 t248) ∧ Aside0 (wc.heap[gb242]? = some (.cells #[.int .i64 a2_0, .int .i64 a2_1, .int .i64 a2_2] 35 (0, 0))) ∧ Aside0 (Below w.heap.size w wc))
  case first =>
   have H := HC10.out
   clear HC10
   replace H := Option.bind_eq_some_iff.mp H
   obtain ⟨t251, A160, H⟩ := H
   replace H : (if t251 = 0 then ((plan_Where.f k t248 (wrap64 (100 + t247)) a2_0 a2_1 a2_2).bind fun t252 => ((busbarref12_Where.f k t248 (wrap64 (100 + t247)) a2_0 a2_1 a2_2).bind fun t253 => (busbarlaw13_PlanWhere.j0 k a3 t248 (wrap64 (100 + t247)) (t252 != t253)))) else (busbarlaw13_PlanWhere.j0 k a3 t248 (wrap64 (100 + t247)) true)) = some r := H
   have A16 := Aside0.mk A160
   clear A160
   by_cases c17 : t251 = 0
   ·
    rw [if_pos c17] at H
    have c17b0 : (t251 == 0) = true := beq_iff_eq.mpr c17
    have c17b1 : (t251 != 0) = false := bne_eq_false_iff_eq.mpr c17
    clear c17
    (first | rw [c17b0] | (simp only [i64_w, i32_w]; rw [c17b0]) | skip)
    replace H := Option.bind_eq_some_iff.mp H
    obtain ⟨t252, A180, H⟩ := H
    replace H : ((busbarref12_Where.f k t248 (wrap64 (100 + t247)) a2_0 a2_1 a2_2).bind fun t253 => (busbarlaw13_PlanWhere.j0 k a3 t248 (wrap64 (100 + t247)) (t252 != t253))) = some r := H
    have A18 := Aside0.mk A180
    clear A180
    replace H := Option.bind_eq_some_iff.mp H
    obtain ⟨t253, A190, H⟩ := H
    replace H : (busbarlaw13_PlanWhere.j0 k a3 t248 (wrap64 (100 + t247)) (t252 != t253)) = some r := H
    have A19 := Aside0.mk A190
    clear A190
    have H' := Aside0.mk H
    clear H
    try go_wp2
    have n0_ := Aside0.mk (Kd.R_drew HO246.out)
    have n1_ := Aside0.mk (Kd.R_drew HO250.out)
    have n2_ := Aside0.mk (blk_drew BK242.out)
    have n3_ := Aside0.mk (below_drew1 HB.out)
    clear HO246
    clear HO250
    clear BK242
    clear HB
    have HO246 := n0_
    have HO250 := n1_
    have BK242 := n2_
    have HB := n3_
    clear n0_ n1_ n2_ n3_
    obtain ⟨Ao21, co21, eo21⟩ := Kd.R_slice HO250.out
    (first | subst eo21 | (injection eo21 with f1_ f2_ f3_; have f4_ := f1_.symm; have f5_ := f3_.symm; clear f1_ f2_ f3_; subst f4_; subst f5_))
    refine start_ (n := 15) (S := fun w' => w'.cell? ⟨gb242, 0, none⟩ = some (.int .i64 a2_0) ∧ w'.cell? ⟨gb242, 1, none⟩ = some (.int .i64 a2_1) ∧ w'.cell? ⟨gb242, 2, none⟩ = some (.int .i64 a2_2)) (ds := []) #[false, false, false, false, false, false, false, false, false, false, false, false, false, false, false] (by kernel_rfl) rfl rfl ⟨(blk_cell BK242.out 0).trans rfl, (blk_cell BK242.out 1).trans rfl, (blk_cell BK242.out 2).trans rfl⟩ (fun hHeld => ?_); refine with_tabW busbarlaw13_PlanWhere.tab5 busbarlaw13_PlanWhere.bits5 (fun HT_ HW_ => ?_)
    generalize w15.drew = w20 at HO246 HO250 BK242 HB hHeld ⊢
    refine pure_ (i := 0) (N := some 26) (v := ?_) (a' := ?_) #[true, false, false, false, false, false, false, false, false, false, false, false, false, false, false] rfl rfl (any_of HT_.out (by kernel_rfl)) (fun _ _ _ h => h) (Or.inl ⟨by rfl, ?_⟩) ?_ ?_
    rotate_left
    ·
     intro w'
     go_simp
     with_reducible rfl
    rotate_left
    ·
     simp only [Act.put, List.setIfInBounds_toArray, List.set_cons_zero, List.set_cons_succ, i64_w, i32_w]
     rfl
    refine pure_ (i := 1) (N := some 27) (v := ?_) (a' := ?_) #[true, true, false, false, false, false, false, false, false, false, false, false, false, false, false] rfl rfl (any_of HT_.out (by kernel_rfl)) (fun _ _ _ h => h) (Or.inl ⟨by rfl, ?_⟩) ?_ ?_
    rotate_left
    ·
     intro w'
     go_simp
     with_reducible rfl
    rotate_left
    ·
     simp only [Act.put, List.setIfInBounds_toArray, List.set_cons_zero, List.set_cons_succ, i64_w, i32_w]
     rfl
    refine one_ (i := 2) (N := some 28) #[true, true, true, false, false, false, false, false, false, false, false, false, false, false, false] rfl rfl (one_of HT_.out (by kernel_rfl)) (by decide) (fun K hK => ?_)
    refine goes_ Try.func17 (by kernel_rfl) rfl #[.slice Ao21 t248.length co21, .int .i64 (wrap64 (100 + t247))] (by rfl) rfl rfl (by (try simp only [List.map_toArray, List.map_cons, List.map_nil]); first | done | rfl | (simp only [List.length_drop, List.length_take]; rfl)) ?_
    with_reducible refine (plan_Check.calls k _ _ t248 (wrap64 (100 + t247)) t251 _ ?side1 ?side2 A16.out).mono ?_
    (case side1 => repeat (first | exact (Kd.R_reads' HO250.out).2.2 | (with_reducible refine Kd.C_alloc ?_ _) | (with_reducible refine Kd.C_drewN ?_ _) | (with_reducible refine Kd.C_drew ?_)))
    (case side2 => exact (Kd.R_reads' HO250.out).2.1)
    rintro e w22 ⟨rfl, hb⟩
    refine ⟨_, rfl, ?_⟩
    have n0_ := Aside0.mk (Kd.R_below (by (with_reducible repeat (first | apply Kd.R_alloc | apply Kd.R_drewN | apply Kd.R_drew)); exact HO246.out) hb)
    have n1_ := Aside0.mk (Kd.R_below (by (with_reducible repeat (first | apply Kd.R_alloc | apply Kd.R_drewN | apply Kd.R_drew)); exact HO250.out) hb)
    have n2_ := Aside0.mk (blk_below (g := gb242) (o := .cells #[.int .i64 a2_0, .int .i64 a2_1, .int .i64 a2_2] 35 (0, 0)) (by (with_reducible repeat (first | refine blk_drewN ?_ _ | refine blk_drew ?_ | refine blk_alloc ?_ _)); exact BK242.out) hb)
    have n3_ := Aside0.mk (below_step (by repeat (first | (with_reducible first | exact HB.out | apply below_alloc | apply pw_below_drewN | apply below_drew1 | refine below_set ?_ GE242.out) | exact HB.out)) hb)
    clear HO246
    clear HO250
    clear BK242
    clear HB
    have HO246 := n0_
    have HO250 := n1_
    have BK242 := n2_
    have HB := n3_
    clear n0_ n1_ n2_ n3_
    (try clear hb)
    (try clear hb2)
    (try clear hk)
    (try clear hi)
    refine hK.out _ _ ⟨(blk_cell BK242.out 0).trans rfl, (blk_cell BK242.out 1).trans rfl, (blk_cell BK242.out 2).trans rfl⟩ (fun hHeld => ?_)
    clear hK K
    refine norm_ (a' := ?_) ?_ ?_
    rotate_left
    ·
     show Act.put _ (some 28) _ = _
     simp only [Act.put, List.setIfInBounds_toArray, List.set_cons_zero, List.set_cons_succ, i64_w, i32_w]
     rfl
    refine pure_ (i := 3) (N := some 29) (v := ?_) (a' := ?_) #[true, true, true, true, false, false, false, false, false, false, false, false, false, false, false] rfl rfl (any_of HT_.out (by kernel_rfl)) (fun _ _ _ h => h) (Or.inl ⟨by rfl, ?_⟩) ?_ ?_
    rotate_left
    ·
     intro w'
     go_simp
     with_reducible rfl
    rotate_left
    ·
     simp only [Act.put, List.setIfInBounds_toArray, List.set_cons_zero, List.set_cons_succ, i64_w, i32_w]
     rfl
    refine pure_ (i := 4) (N := some 30) (v := ?_) (a' := ?_) #[true, true, true, true, true, false, false, false, false, false, false, false, false, false, false] rfl rfl (any_of HT_.out (by kernel_rfl)) (fun _ _ _ h => h) (Or.inl ⟨by rfl, ?_⟩) ?_ ?_
    rotate_left
    ·
     intro w'
     go_simp
     with_reducible rfl
    rotate_left
    ·
     simp only [Act.put, List.setIfInBounds_toArray, List.set_cons_zero, List.set_cons_succ, i64_w, i32_w]
     rfl
    refine pure_ (i := 5) (N := some 31) (v := ?_) (a' := ?_) #[true, true, true, true, true, true, false, false, false, false, false, false, false, false, false] rfl rfl (any_of HT_.out (by kernel_rfl)) (fun _ _ _ h => h) (Or.inl ⟨by rfl, ?_⟩) ?_ ?_
    rotate_left
    ·
     intro w'
     go_simp
     with_reducible rfl
    rotate_left
    ·
     simp only [Act.put, List.setIfInBounds_toArray, List.set_cons_zero, List.set_cons_succ, i64_w, i32_w]
     rfl
    refine pure_ (i := 6) (N := some 32) (v := ?_) (a' := ?_) #[true, true, true, true, true, true, true, false, false, false, false, false, false, false, false] rfl rfl (any_of HT_.out (by kernel_rfl)) (fun _ _ _ h => h) (Or.inl ⟨by rfl, ?_⟩) ?_ ?_
    rotate_left
    ·
     intro w'
     go_simp
     with_reducible rfl
    rotate_left
    ·
     simp only [Act.put, List.setIfInBounds_toArray, List.set_cons_zero, List.set_cons_succ, i64_w, i32_w]
     rfl
    refine pure_ (i := 9) (N := some 35) (v := ?_) (a' := ?_) #[true, true, true, true, true, true, true, false, false, true, false, false, false, false, false] rfl rfl (any_of HT_.out (by kernel_rfl)) (fun _ _ _ h => h) (Or.inl ⟨by rfl, ?_⟩) ?_ ?_
    rotate_left
    ·
     intro w'
     go_simp
     with_reducible rfl
    rotate_left
    ·
     simp only [Act.put, List.setIfInBounds_toArray, List.set_cons_zero, List.set_cons_succ, i64_w, i32_w]
     rfl
    refine pure_ (i := 10) (N := some 36) (v := ?_) (a' := ?_) #[true, true, true, true, true, true, true, false, false, true, true, false, false, false, false] rfl rfl (any_of HT_.out (by kernel_rfl)) (fun _ _ _ h => h) (Or.inl ⟨by rfl, ?_⟩) ?_ ?_
    rotate_left
    ·
     intro w'
     go_simp
     with_reducible rfl
    rotate_left
    ·
     simp only [Act.put, List.setIfInBounds_toArray, List.set_cons_zero, List.set_cons_succ, i64_w, i32_w]
     rfl
    refine take_ (i := 7) (N := some 33) (v := ?_) (a' := ?_) #[true, true, true, true, true, true, true, true, false, true, true, false, false, false, false] rfl rfl (take_ofW HT_.out HW_.out (by kernel_rfl)) (fun _ _ _ h => h) (Or.inl ⟨by rfl, ?_⟩) hHeld ?_ ?_
    rotate_left
    ·
     rintro w' ⟨s0, s1, s2⟩
     go_simp
     with_reducible rfl
    rotate_left
    ·
     simp only [Act.put, List.setIfInBounds_toArray, List.set_cons_zero, List.set_cons_succ, i64_w, i32_w]
     rfl
    refine take_ (i := 11) (N := some 37) (v := ?_) (a' := ?_) #[true, true, true, true, true, true, true, true, false, true, true, true, false, false, false] rfl rfl (take_ofW HT_.out HW_.out (by kernel_rfl)) (fun _ _ _ h => h) (Or.inl ⟨by rfl, ?_⟩) hHeld ?_ ?_
    rotate_left
    ·
     rintro w' ⟨s0, s1, s2⟩
     go_simp
     with_reducible rfl
    rotate_left
    ·
     simp only [Act.put, List.setIfInBounds_toArray, List.set_cons_zero, List.set_cons_succ, i64_w, i32_w]
     rfl
    refine one_ (i := 8) (N := some 34) #[true, true, true, true, true, true, true, true, true, true, true, true, false, false, false] rfl rfl (one_of HT_.out (by kernel_rfl)) (by decide) (fun K hK => ?_)
    refine goes_ Try.func21 (by kernel_rfl) rfl #[.slice Ao21 t248.length co21, .int .i64 (wrap64 (100 + t247)), .agg #[.int .i64 a2_0, .int .i64 a2_1, .int .i64 a2_2]] (by rfl) rfl rfl (by (try simp only [List.map_toArray, List.map_cons, List.map_nil]); first | done | rfl | (simp only [List.length_drop, List.length_take]; rfl)) ?_
    with_reducible refine (plan_Where.calls k _ _ t248 (wrap64 (100 + t247)) a2_0 a2_1 a2_2 t252 _ ?side1 ?side2 A18.out).mono ?_
    (case side1 => repeat (first | exact (Kd.R_reads' HO250.out).2.2 | (with_reducible refine Kd.C_alloc ?_ _) | (with_reducible refine Kd.C_drewN ?_ _) | (with_reducible refine Kd.C_drew ?_)))
    (case side2 => exact (Kd.R_reads' HO250.out).2.1)
    rintro e w23 ⟨rfl, hb⟩
    refine ⟨_, rfl, ?_⟩
    have n0_ := Aside0.mk (Kd.R_below (by (with_reducible repeat (first | apply Kd.R_alloc | apply Kd.R_drewN | apply Kd.R_drew)); exact HO246.out) hb)
    have n1_ := Aside0.mk (Kd.R_below (by (with_reducible repeat (first | apply Kd.R_alloc | apply Kd.R_drewN | apply Kd.R_drew)); exact HO250.out) hb)
    have n2_ := Aside0.mk (blk_below (g := gb242) (o := .cells #[.int .i64 a2_0, .int .i64 a2_1, .int .i64 a2_2] 35 (0, 0)) (by (with_reducible repeat (first | refine blk_drewN ?_ _ | refine blk_drew ?_ | refine blk_alloc ?_ _)); exact BK242.out) hb)
    have n3_ := Aside0.mk (below_step (by repeat (first | (with_reducible first | exact HB.out | apply below_alloc | apply pw_below_drewN | apply below_drew1 | refine below_set ?_ GE242.out) | exact HB.out)) hb)
    clear HO246
    clear HO250
    clear BK242
    clear HB
    have HO246 := n0_
    have HO250 := n1_
    have BK242 := n2_
    have HB := n3_
    clear n0_ n1_ n2_ n3_
    (try clear hb)
    (try clear hb2)
    (try clear hk)
    (try clear hi)
    refine hK.out _ _ ⟨(blk_cell BK242.out 0).trans rfl, (blk_cell BK242.out 1).trans rfl, (blk_cell BK242.out 2).trans rfl⟩ (fun hHeld => ?_)
    clear hK K
    refine norm_ (a' := ?_) ?_ ?_
    rotate_left
    ·
     show Act.put _ (some 34) _ = _
     simp only [Act.put, List.setIfInBounds_toArray, List.set_cons_zero, List.set_cons_succ, i64_w, i32_w]
     rfl
    refine one_ (i := 12) (N := some 38) #[true, true, true, true, true, true, true, true, true, true, true, true, true, false, false] rfl rfl (one_of HT_.out (by kernel_rfl)) (by decide) (fun K hK => ?_)
    refine goes_ Try.func22 (by kernel_rfl) rfl #[.slice Ao21 t248.length co21, .int .i64 (wrap64 (100 + t247)), .agg #[.int .i64 a2_0, .int .i64 a2_1, .int .i64 a2_2]] (by rfl) rfl rfl (by (try simp only [List.map_toArray, List.map_cons, List.map_nil]); first | done | rfl | (simp only [List.length_drop, List.length_take]; rfl)) ?_
    with_reducible refine (busbarref12_Where.calls k _ _ t248 (wrap64 (100 + t247)) a2_0 a2_1 a2_2 t253 _ ?side1 ?side2 A19.out).mono ?_
    (case side1 => repeat (first | exact (Kd.R_reads' HO250.out).2.2 | (with_reducible refine Kd.C_alloc ?_ _) | (with_reducible refine Kd.C_drewN ?_ _) | (with_reducible refine Kd.C_drew ?_)))
    (case side2 => exact (Kd.R_reads' HO250.out).2.1)
    rintro e w24 ⟨rfl, hb⟩
    refine ⟨_, rfl, ?_⟩
    have n0_ := Aside0.mk (Kd.R_below (by (with_reducible repeat (first | apply Kd.R_alloc | apply Kd.R_drewN | apply Kd.R_drew)); exact HO246.out) hb)
    have n1_ := Aside0.mk (Kd.R_below (by (with_reducible repeat (first | apply Kd.R_alloc | apply Kd.R_drewN | apply Kd.R_drew)); exact HO250.out) hb)
    have n2_ := Aside0.mk (blk_below (g := gb242) (o := .cells #[.int .i64 a2_0, .int .i64 a2_1, .int .i64 a2_2] 35 (0, 0)) (by (with_reducible repeat (first | refine blk_drewN ?_ _ | refine blk_drew ?_ | refine blk_alloc ?_ _)); exact BK242.out) hb)
    have n3_ := Aside0.mk (below_step (by repeat (first | (with_reducible first | exact HB.out | apply below_alloc | apply pw_below_drewN | apply below_drew1 | refine below_set ?_ GE242.out) | exact HB.out)) hb)
    clear HO246
    clear HO250
    clear BK242
    clear HB
    have HO246 := n0_
    have HO250 := n1_
    have BK242 := n2_
    have HB := n3_
    clear n0_ n1_ n2_ n3_
    (try clear hb)
    (try clear hb2)
    (try clear hk)
    (try clear hi)
    refine hK.out _ _ ⟨(blk_cell BK242.out 0).trans rfl, (blk_cell BK242.out 1).trans rfl, (blk_cell BK242.out 2).trans rfl⟩ (fun hHeld => ?_)
    clear hK K
    refine norm_ (a' := ?_) ?_ ?_
    rotate_left
    ·
     show Act.put _ (some 38) _ = _
     simp only [Act.put, List.setIfInBounds_toArray, List.set_cons_zero, List.set_cons_succ, i64_w, i32_w]
     rfl
    refine pure_ (i := 13) (N := some 39) (v := ?_) (a' := ?_) #[true, true, true, true, true, true, true, true, true, true, true, true, true, true, false] rfl rfl (any_of HT_.out (by kernel_rfl)) (fun _ _ _ h => h) (Or.inl ⟨by rfl, ?_⟩) ?_ ?_
    rotate_left
    ·
     intro w'
     go_simp
     with_reducible rfl
    rotate_left
    ·
     simp only [Act.put, List.setIfInBounds_toArray, List.set_cons_zero, List.set_cons_succ, i64_w, i32_w]
     rfl
    refine pure_ (i := 14) (N := some 40) (v := ?_) (a' := ?_) #[true, true, true, true, true, true, true, true, true, true, true, true, true, true, true] rfl rfl (any_of HT_.out (by kernel_rfl)) (fun _ _ _ h => h) (Or.inl ⟨by rfl, ?_⟩) ?_ ?_
    rotate_left
    ·
     intro w'
     go_simp
     with_reducible rfl
    rotate_left
    ·
     simp only [Act.put, List.setIfInBounds_toArray, List.set_cons_zero, List.set_cons_succ, i64_w, i32_w]
     rfl
    refine done_ (done_of HT_.out (by kernel_rfl)) ?_
    try go_wp2
    go_meet
    case rel => exact ⟨_, ((t252 != t253)), (by first | rfl | (simp; done) | (simp [*]; done)), H', ⟨by first | omega | exact Nat.le_refl _⟩, ⟨by (with_reducible repeat (first | apply Kd.R_alloc | apply Kd.R_drewN | apply Kd.R_drew)); exact Kd.R_mono HO250.out (fun _ hk => hk.2)⟩, ⟨by (with_reducible repeat (first | refine blk_drewN ?_ _ | refine blk_drew ?_ | refine blk_alloc ?_ _)); exact BK242.out⟩, ⟨by repeat (first | (with_reducible first | exact HB.out | apply below_alloc | apply pw_below_drewN | apply below_drew1 | refine below_set ?_ GE242.out) | exact HB.out)⟩⟩
   ·
    rw [if_neg c17] at H
    have c17b0 : (t251 == 0) = false := beq_eq_false_iff_ne.mpr c17
    have c17b1 : (t251 != 0) = true := bne_iff_ne.mpr c17
    (first | rw [c17b0] | (simp only [i64_w, i32_w]; rw [c17b0]) | skip)
    have H' := Aside0.mk H
    clear H
    try go_wp2
    have n0_ := Aside0.mk (Kd.R_drew HO246.out)
    have n1_ := Aside0.mk (Kd.R_drew HO250.out)
    have n2_ := Aside0.mk (blk_drew BK242.out)
    have n3_ := Aside0.mk (below_drew1 HB.out)
    clear HO246
    clear HO250
    clear BK242
    clear HB
    have HO246 := n0_
    have HO250 := n1_
    have BK242 := n2_
    have HB := n3_
    clear n0_ n1_ n2_ n3_
    obtain ⟨Ao26, co26, eo26⟩ := Kd.R_slice HO250.out
    (first | subst eo26 | (injection eo26 with f1_ f2_ f3_; have f4_ := f1_.symm; have f5_ := f3_.symm; clear f1_ f2_ f3_; subst f4_; subst f5_))
    refine start_ (n := 15) (S := fun w' => True) (ds := []) #[false, false, false, false, false, false, false, false, false, false, false, false, false, false, false] (by kernel_rfl) rfl rfl trivial (fun hHeld => ?_); refine with_tabW busbarlaw13_PlanWhere.tab5 busbarlaw13_PlanWhere.bits5 (fun HT_ HW_ => ?_)
    generalize w15.drew = w25 at HO246 HO250 BK242 HB hHeld ⊢
    refine pure_ (i := 0) (N := some 26) (v := ?_) (a' := ?_) #[true, false, false, false, false, false, false, false, false, false, false, false, false, false, false] rfl rfl (any_of HT_.out (by kernel_rfl)) (fun _ _ _ h => h) (Or.inl ⟨by rfl, ?_⟩) ?_ ?_
    rotate_left
    ·
     intro w'
     go_simp
     with_reducible rfl
    rotate_left
    ·
     simp only [Act.put, List.setIfInBounds_toArray, List.set_cons_zero, List.set_cons_succ, i64_w, i32_w]
     rfl
    refine pure_ (i := 1) (N := some 27) (v := ?_) (a' := ?_) #[true, true, false, false, false, false, false, false, false, false, false, false, false, false, false] rfl rfl (any_of HT_.out (by kernel_rfl)) (fun _ _ _ h => h) (Or.inl ⟨by rfl, ?_⟩) ?_ ?_
    rotate_left
    ·
     intro w'
     go_simp
     with_reducible rfl
    rotate_left
    ·
     simp only [Act.put, List.setIfInBounds_toArray, List.set_cons_zero, List.set_cons_succ, i64_w, i32_w]
     rfl
    refine one_ (i := 2) (N := some 28) #[true, true, true, false, false, false, false, false, false, false, false, false, false, false, false] rfl rfl (one_of HT_.out (by kernel_rfl)) (by decide) (fun K hK => ?_)
    refine goes_ Try.func17 (by kernel_rfl) rfl #[.slice Ao26 t248.length co26, .int .i64 (wrap64 (100 + t247))] (by rfl) rfl rfl (by (try simp only [List.map_toArray, List.map_cons, List.map_nil]); first | done | rfl | (simp only [List.length_drop, List.length_take]; rfl)) ?_
    with_reducible refine (plan_Check.calls k _ _ t248 (wrap64 (100 + t247)) t251 _ ?side1 ?side2 A16.out).mono ?_
    (case side1 => repeat (first | exact (Kd.R_reads' HO250.out).2.2 | (with_reducible refine Kd.C_alloc ?_ _) | (with_reducible refine Kd.C_drewN ?_ _) | (with_reducible refine Kd.C_drew ?_)))
    (case side2 => exact (Kd.R_reads' HO250.out).2.1)
    rintro e w27 ⟨rfl, hb⟩
    refine ⟨_, rfl, ?_⟩
    have n0_ := Aside0.mk (Kd.R_below (by (with_reducible repeat (first | apply Kd.R_alloc | apply Kd.R_drewN | apply Kd.R_drew)); exact HO246.out) hb)
    have n1_ := Aside0.mk (Kd.R_below (by (with_reducible repeat (first | apply Kd.R_alloc | apply Kd.R_drewN | apply Kd.R_drew)); exact HO250.out) hb)
    have n2_ := Aside0.mk (blk_below (g := gb242) (o := .cells #[.int .i64 a2_0, .int .i64 a2_1, .int .i64 a2_2] 35 (0, 0)) (by (with_reducible repeat (first | refine blk_drewN ?_ _ | refine blk_drew ?_ | refine blk_alloc ?_ _)); exact BK242.out) hb)
    have n3_ := Aside0.mk (below_step (by repeat (first | (with_reducible first | exact HB.out | apply below_alloc | apply pw_below_drewN | apply below_drew1 | refine below_set ?_ GE242.out) | exact HB.out)) hb)
    clear HO246
    clear HO250
    clear BK242
    clear HB
    have HO246 := n0_
    have HO250 := n1_
    have BK242 := n2_
    have HB := n3_
    clear n0_ n1_ n2_ n3_
    (try clear hb)
    (try clear hb2)
    (try clear hk)
    (try clear hi)
    refine hK.out _ _ trivial (fun hHeld => ?_)
    clear hK K
    refine norm_ (a' := ?_) ?_ ?_
    rotate_left
    ·
     show Act.put _ (some 28) _ = _
     simp only [Act.put, List.setIfInBounds_toArray, List.set_cons_zero, List.set_cons_succ, i64_w, i32_w]
     rfl
    refine pure_ (i := 3) (N := some 29) (v := ?_) (a' := ?_) #[true, true, true, true, false, false, false, false, false, false, false, false, false, false, false] rfl rfl (any_of HT_.out (by kernel_rfl)) (fun _ _ _ h => h) (Or.inl ⟨by rfl, ?_⟩) ?_ ?_
    rotate_left
    ·
     intro w'
     go_simp
     with_reducible rfl
    rotate_left
    ·
     simp only [Act.put, List.setIfInBounds_toArray, List.set_cons_zero, List.set_cons_succ, i64_w, i32_w]
     rfl
    refine pure_ (i := 4) (N := some 30) (v := ?_) (a' := ?_) #[true, true, true, true, true, false, false, false, false, false, false, false, false, false, false] rfl rfl (any_of HT_.out (by kernel_rfl)) (fun _ _ _ h => h) (Or.inl ⟨by rfl, ?_⟩) ?_ ?_
    rotate_left
    ·
     intro w'
     go_simp
     with_reducible rfl
    rotate_left
    ·
     simp only [Act.put, List.setIfInBounds_toArray, List.set_cons_zero, List.set_cons_succ, i64_w, i32_w]
     rfl
    refine pure_ (i := 5) (N := some 31) (v := undef) (a' := ?_) #[true, true, true, true, true, true, false, false, false, false, false, false, false, false, false] rfl rfl (any_of HT_.out (by kernel_rfl)) (fun _ _ _ h => h) (Or.inr ⟨by rfl, rfl⟩) ?_ ?_
    rotate_left
    ·
     simp only [Act.put, List.setIfInBounds_toArray, List.set_cons_zero, List.set_cons_succ, i64_w, i32_w]
     rfl
    refine pure_ (i := 6) (N := some 32) (v := undef) (a' := ?_) #[true, true, true, true, true, true, true, false, false, false, false, false, false, false, false] rfl rfl (any_of HT_.out (by kernel_rfl)) (fun _ _ _ h => h) (Or.inr ⟨by rfl, rfl⟩) ?_ ?_
    rotate_left
    ·
     simp only [Act.put, List.setIfInBounds_toArray, List.set_cons_zero, List.set_cons_succ, i64_w, i32_w]
     rfl
    refine pure_ (i := 7) (N := some 33) (v := undef) (a' := ?_) #[true, true, true, true, true, true, true, true, false, false, false, false, false, false, false] rfl rfl (any_of HT_.out (by kernel_rfl)) (fun _ _ _ h => h) (Or.inr ⟨by rfl, rfl⟩) ?_ ?_
    rotate_left
    ·
     simp only [Act.put, List.setIfInBounds_toArray, List.set_cons_zero, List.set_cons_succ, i64_w, i32_w]
     rfl
    refine pure_ (i := 8) (N := some 34) (v := undef) (a' := ?_) #[true, true, true, true, true, true, true, true, true, false, false, false, false, false, false] rfl rfl (any_of HT_.out (by kernel_rfl)) (fun _ _ _ h => h) (Or.inr ⟨by rfl, rfl⟩) ?_ ?_
    rotate_left
    ·
     simp only [Act.put, List.setIfInBounds_toArray, List.set_cons_zero, List.set_cons_succ, i64_w, i32_w]
     rfl
    refine pure_ (i := 9) (N := some 35) (v := undef) (a' := ?_) #[true, true, true, true, true, true, true, true, true, true, false, false, false, false, false] rfl rfl (any_of HT_.out (by kernel_rfl)) (fun _ _ _ h => h) (Or.inr ⟨by rfl, rfl⟩) ?_ ?_
    rotate_left
    ·
     simp only [Act.put, List.setIfInBounds_toArray, List.set_cons_zero, List.set_cons_succ, i64_w, i32_w]
     rfl
    refine pure_ (i := 10) (N := some 36) (v := undef) (a' := ?_) #[true, true, true, true, true, true, true, true, true, true, true, false, false, false, false] rfl rfl (any_of HT_.out (by kernel_rfl)) (fun _ _ _ h => h) (Or.inr ⟨by rfl, rfl⟩) ?_ ?_
    rotate_left
    ·
     simp only [Act.put, List.setIfInBounds_toArray, List.set_cons_zero, List.set_cons_succ, i64_w, i32_w]
     rfl
    refine pure_ (i := 11) (N := some 37) (v := undef) (a' := ?_) #[true, true, true, true, true, true, true, true, true, true, true, true, false, false, false] rfl rfl (any_of HT_.out (by kernel_rfl)) (fun _ _ _ h => h) (Or.inr ⟨by rfl, rfl⟩) ?_ ?_
    rotate_left
    ·
     simp only [Act.put, List.setIfInBounds_toArray, List.set_cons_zero, List.set_cons_succ, i64_w, i32_w]
     rfl
    refine pure_ (i := 12) (N := some 38) (v := undef) (a' := ?_) #[true, true, true, true, true, true, true, true, true, true, true, true, true, false, false] rfl rfl (any_of HT_.out (by kernel_rfl)) (fun _ _ _ h => h) (Or.inr ⟨by rfl, rfl⟩) ?_ ?_
    rotate_left
    ·
     simp only [Act.put, List.setIfInBounds_toArray, List.set_cons_zero, List.set_cons_succ, i64_w, i32_w]
     rfl
    refine pure_ (i := 13) (N := some 39) (v := undef) (a' := ?_) #[true, true, true, true, true, true, true, true, true, true, true, true, true, true, false] rfl rfl (any_of HT_.out (by kernel_rfl)) (fun _ _ _ h => h) (Or.inr ⟨by rfl, rfl⟩) ?_ ?_
    rotate_left
    ·
     simp only [Act.put, List.setIfInBounds_toArray, List.set_cons_zero, List.set_cons_succ, i64_w, i32_w]
     rfl
    refine pure_ (i := 14) (N := some 40) (v := ?_) (a' := ?_) #[true, true, true, true, true, true, true, true, true, true, true, true, true, true, true] rfl rfl (any_of HT_.out (by kernel_rfl)) (fun _ _ _ h => h) (Or.inl ⟨by rfl, ?_⟩) ?_ ?_
    rotate_left
    ·
     intro w'
     go_simp
     with_reducible rfl
    rotate_left
    ·
     simp only [Act.put, List.setIfInBounds_toArray, List.set_cons_zero, List.set_cons_succ, i64_w, i32_w]
     rfl
    refine done_ (done_of HT_.out (by kernel_rfl)) ?_
    try go_wp2
    go_meet
    case rel => exact ⟨_, (true), (by first | rfl | (simp; done) | (simp [*]; done)), H', ⟨by first | omega | exact Nat.le_refl _⟩, ⟨by (with_reducible repeat (first | apply Kd.R_alloc | apply Kd.R_drewN | apply Kd.R_drew)); exact Kd.R_mono HO250.out (fun _ hk => hk.2)⟩, ⟨by (with_reducible repeat (first | refine blk_drewN ?_ _ | refine blk_drew ?_ | refine blk_alloc ?_ _)); exact BK242.out⟩, ⟨by repeat (first | (with_reducible first | exact HB.out | apply below_alloc | apply pw_below_drewN | apply below_drew1 | refine below_set ?_ GE242.out) | exact HB.out)⟩⟩
  case rest =>
   clear HC10
   try clear c1
   try clear c2
   try clear p2
   try clear c4
   try clear c6
   try clear p6
   try clear c12
   try clear c13
   try clear c16
   try clear c17
   try clear c17b0
   try clear c17b1
   try clear c20
   try clear c21
   try clear c22
   obtain ⟨kq, x40_9, rfl, HA, HJ9, HO_9, BK242, HB⟩ := hcut
   cases kq with
   | zero => exact absurd HA.out (by simp [busbarlaw13_PlanWhere.j0])
   | succ kj9 =>
    have H := HA.out
    clear HA
    simp only [busbarlaw13_PlanWhere.j0] at H
    by_cases c28 : x40_9 = true
    ·
     subst c28
     have H1 : (some false) = some r := by rw [if_pos rfl] at H; exact H
     clear H
     have H := H1
     clear H1
     obtain rfl := Option.some.inj H
     go_wp2
     go_ret
     exact ⟨by first | rfl | (simp [errW_none, errW_some] <;> rfl) | (simp [*, errW_none, errW_some] <;> rfl), by repeat (first | (with_reducible first | exact HB.out | apply below_alloc | apply pw_below_drewN | apply below_drew1 | refine below_set ?_ GE242.out) | exact HB.out)⟩
    ·
     replace c28 := Bool.eq_false_iff.mpr c28
     subst c28
     have H1 : ((busbarlaw0_Span.f a3).bind fun bt254 => ((busbarlaw0_Within.f a3 11).bind fun t258 => ((busbarlaw0_Digit.f a3 11 9).bind fun t260 => ((plan_Where.f kj9 t248 (wrap64 (100 + t247)) bt254.1 bt254.2.1 bt254.2.2).bind fun t261 => ((busbarref12_Where.f kj9 t248 (wrap64 (100 + t247)) bt254.1 bt254.2.1 bt254.2.2).bind fun t262 => (if t261 = t262 then ((plan_Where.f kj9 t248 (wrap64 (100 + t247)) 2 (wrap64 ((wrap64 ((wrap64 (100 + t247)) - 2)) + t258)) (wrap64 ((wrap64 ((wrap64 ((wrap64 ((wrap64 (100 + t247)) - 2)) + t258)) + 1)) + t260))).bind fun t263 => ((busbarref12_Where.f kj9 t248 (wrap64 (100 + t247)) 2 (wrap64 ((wrap64 ((wrap64 (100 + t247)) - 2)) + t258)) (wrap64 ((wrap64 ((wrap64 ((wrap64 ((wrap64 (100 + t247)) - 2)) + t258)) + 1)) + t260))).bind fun t264 => (some (t263 == t264)))) else (some false))))))) = some r := by rw [if_neg (show ¬ (false = true) by decide)] at H; exact H
     clear H
     have H := H1
     clear H1
     replace H := Option.bind_eq_some_iff.mp H
     obtain ⟨⟨t254, t255, t256⟩, A290, H⟩ := H
     replace H : ((busbarlaw0_Within.f a3 11).bind fun t258 => ((busbarlaw0_Digit.f a3 11 9).bind fun t260 => ((plan_Where.f kj9 t248 (wrap64 (100 + t247)) t254 t255 t256).bind fun t261 => ((busbarref12_Where.f kj9 t248 (wrap64 (100 + t247)) t254 t255 t256).bind fun t262 => (if t261 = t262 then ((plan_Where.f kj9 t248 (wrap64 (100 + t247)) 2 (wrap64 ((wrap64 ((wrap64 (100 + t247)) - 2)) + t258)) (wrap64 ((wrap64 ((wrap64 ((wrap64 ((wrap64 (100 + t247)) - 2)) + t258)) + 1)) + t260))).bind fun t263 => ((busbarref12_Where.f kj9 t248 (wrap64 (100 + t247)) 2 (wrap64 ((wrap64 ((wrap64 (100 + t247)) - 2)) + t258)) (wrap64 ((wrap64 ((wrap64 ((wrap64 ((wrap64 (100 + t247)) - 2)) + t258)) + 1)) + t260))).bind fun t264 => (some (t263 == t264)))) else (some false)))))) = some r := H
     have A29 := Aside0.mk A290
     clear A290
     replace H := Option.bind_eq_some_iff.mp H
     obtain ⟨t258, A300, H⟩ := H
     replace H : ((busbarlaw0_Digit.f a3 11 9).bind fun t260 => ((plan_Where.f kj9 t248 (wrap64 (100 + t247)) t254 t255 t256).bind fun t261 => ((busbarref12_Where.f kj9 t248 (wrap64 (100 + t247)) t254 t255 t256).bind fun t262 => (if t261 = t262 then ((plan_Where.f kj9 t248 (wrap64 (100 + t247)) 2 (wrap64 ((wrap64 ((wrap64 (100 + t247)) - 2)) + t258)) (wrap64 ((wrap64 ((wrap64 ((wrap64 ((wrap64 (100 + t247)) - 2)) + t258)) + 1)) + t260))).bind fun t263 => ((busbarref12_Where.f kj9 t248 (wrap64 (100 + t247)) 2 (wrap64 ((wrap64 ((wrap64 (100 + t247)) - 2)) + t258)) (wrap64 ((wrap64 ((wrap64 ((wrap64 ((wrap64 (100 + t247)) - 2)) + t258)) + 1)) + t260))).bind fun t264 => (some (t263 == t264)))) else (some false))))) = some r := H
     have A30 := Aside0.mk A300
     clear A300
     replace H := Option.bind_eq_some_iff.mp H
     obtain ⟨t260, A310, H⟩ := H
     replace H : ((plan_Where.f kj9 t248 (wrap64 (100 + t247)) t254 t255 t256).bind fun t261 => ((busbarref12_Where.f kj9 t248 (wrap64 (100 + t247)) t254 t255 t256).bind fun t262 => (if t261 = t262 then ((plan_Where.f kj9 t248 (wrap64 (100 + t247)) 2 (wrap64 ((wrap64 ((wrap64 (100 + t247)) - 2)) + t258)) (wrap64 ((wrap64 ((wrap64 ((wrap64 ((wrap64 (100 + t247)) - 2)) + t258)) + 1)) + t260))).bind fun t263 => ((busbarref12_Where.f kj9 t248 (wrap64 (100 + t247)) 2 (wrap64 ((wrap64 ((wrap64 (100 + t247)) - 2)) + t258)) (wrap64 ((wrap64 ((wrap64 ((wrap64 ((wrap64 (100 + t247)) - 2)) + t258)) + 1)) + t260))).bind fun t264 => (some (t263 == t264)))) else (some false)))) = some r := H
     have A31 := Aside0.mk A310
     clear A310
     replace H := Option.bind_eq_some_iff.mp H
     obtain ⟨t261, A320, H⟩ := H
     replace H : ((busbarref12_Where.f kj9 t248 (wrap64 (100 + t247)) t254 t255 t256).bind fun t262 => (if t261 = t262 then ((plan_Where.f kj9 t248 (wrap64 (100 + t247)) 2 (wrap64 ((wrap64 ((wrap64 (100 + t247)) - 2)) + t258)) (wrap64 ((wrap64 ((wrap64 ((wrap64 ((wrap64 (100 + t247)) - 2)) + t258)) + 1)) + t260))).bind fun t263 => ((busbarref12_Where.f kj9 t248 (wrap64 (100 + t247)) 2 (wrap64 ((wrap64 ((wrap64 (100 + t247)) - 2)) + t258)) (wrap64 ((wrap64 ((wrap64 ((wrap64 ((wrap64 (100 + t247)) - 2)) + t258)) + 1)) + t260))).bind fun t264 => (some (t263 == t264)))) else (some false))) = some r := H
     have A32 := Aside0.mk A320
     clear A320
     replace H := Option.bind_eq_some_iff.mp H
     obtain ⟨t262, A330, H⟩ := H
     replace H : (if t261 = t262 then ((plan_Where.f kj9 t248 (wrap64 (100 + t247)) 2 (wrap64 ((wrap64 ((wrap64 (100 + t247)) - 2)) + t258)) (wrap64 ((wrap64 ((wrap64 ((wrap64 ((wrap64 (100 + t247)) - 2)) + t258)) + 1)) + t260))).bind fun t263 => ((busbarref12_Where.f kj9 t248 (wrap64 (100 + t247)) 2 (wrap64 ((wrap64 ((wrap64 (100 + t247)) - 2)) + t258)) (wrap64 ((wrap64 ((wrap64 ((wrap64 ((wrap64 (100 + t247)) - 2)) + t258)) + 1)) + t260))).bind fun t264 => (some (t263 == t264)))) else (some false)) = some r := H
     have A33 := Aside0.mk A330
     clear A330
     by_cases c34 : t261 = t262
     ·
      rw [if_pos c34] at H
      have c34b0 : (t261 == t262) = true := beq_iff_eq.mpr c34
      have c34b1 : (t261 != t262) = false := bne_eq_false_iff_eq.mpr c34
      clear c34
      replace H := Option.bind_eq_some_iff.mp H
      obtain ⟨t263, A350, H⟩ := H
      replace H : ((busbarref12_Where.f kj9 t248 (wrap64 (100 + t247)) 2 (wrap64 ((wrap64 ((wrap64 (100 + t247)) - 2)) + t258)) (wrap64 ((wrap64 ((wrap64 ((wrap64 ((wrap64 (100 + t247)) - 2)) + t258)) + 1)) + t260))).bind fun t264 => (some (t263 == t264))) = some r := H
      have A35 := Aside0.mk A350
      clear A350
      replace H := Option.bind_eq_some_iff.mp H
      obtain ⟨t264, A360, H⟩ := H
      replace H : (some (t263 == t264)) = some r := H
      have A36 := Aside0.mk A360
      clear A360
      obtain rfl := Option.some.inj H
      try go_wp2_with (first | ((with_reducible refine gate_callee (f := 23) rfl ?_); refine goesL_ (some 42) rfl rfl Try.func23 (by kernel_rfl) rfl #[.int .i64 a3] rfl (by (try simp only [List.map_toArray, List.map_cons, List.map_nil]); first | done | rfl | (simp only [List.length_drop, List.length_take]; rfl)) ?_; (with_reducible refine (busbarlaw0_Span.calls a3 t254 t255 t256 _ A29.out).mono ?_); rintro e w37 ⟨rfl, hb⟩; refine ⟨_, rfl, ?_⟩; have n0_ := Aside0.mk (Kd.R_below (by (with_reducible repeat (first | apply Kd.R_alloc | apply Kd.R_drewN | apply Kd.R_drew)); exact HO_9.out) hb); have n1_ := Aside0.mk (blk_below (g := gb242) (o := .cells #[.int .i64 a2_0, .int .i64 a2_1, .int .i64 a2_2] 35 (0, 0)) (by (with_reducible repeat (first | refine blk_drewN ?_ _ | refine blk_drew ?_ | refine blk_alloc ?_ _)); exact BK242.out) hb); have n2_ := Aside0.mk (below_step (by repeat (first | (with_reducible first | exact HB.out | apply below_alloc | apply pw_below_drewN | apply below_drew1 | refine below_set ?_ GE242.out) | exact HB.out)) hb); clear HO_9; clear BK242; clear HB; have HO_9 := n0_; have BK242 := n1_; have HB := n2_; clear n0_ n1_ n2_; (try clear hb); (try clear hb2); (try clear hk); (try clear hi)) | ((with_reducible refine gate_dst (N := 11) rfl ?_); refine box_event ?hg (N := 11) ?hd (cs := #[.int .i64 0, .int .i64 0, .int .i64 0]) (t := 35) ?hr ?_; (case hd => rfl); (case hg => rfl); (case hr => first | (go_simp; done) | (go_simp; rfl)); intro gb257 hg w38 hbox hb; have n0_ := Aside0.mk (Kd.R_below (Kd.R_elderB (by (with_reducible repeat (first | apply Kd.R_alloc | apply Kd.R_drewN | apply Kd.R_drew)); exact HO_9.out) gb257 (Nat.le_of_eq hg.symm)) hb); have n1_ := Aside0.mk (blk_below (g := gb242) (o := .cells #[.int .i64 a2_0, .int .i64 a2_1, .int .i64 a2_2] 35 (0, 0)) (by (with_reducible repeat (first | refine blk_drewN ?_ _ | refine blk_drew ?_ | refine blk_alloc ?_ _)); exact BK242.out) hb); have n2_ := Aside0.mk (below_step (by repeat (first | (with_reducible first | exact HB.out | apply below_alloc | apply pw_below_drewN | apply below_drew1 | refine below_set ?_ GE242.out) | exact HB.out)) hb); have n3_ := Aside0.mk (hbox); have n4_ := Aside0.mk ((by rw [hg]; exact (below_size (by repeat (first | (with_reducible first | exact HB.out | apply below_alloc | apply pw_below_drewN | apply below_drew1 | refine below_set ?_ GE242.out) | exact HB.out))) : w.heap.size ≤ gb257)); have n5_ := Aside0.mk ((by rw [hg]; exact (below_size (by repeat (first | (with_reducible first | exact HB.out | apply below_alloc | apply pw_below_drewN | apply below_drew1 | refine below_set ?_ GE242.out) | exact HB.out))) : w.heap.size ≤ gb257)); have n6_ := Aside0.mk ((by rw [hg]; exact Nat.ne_of_lt (blk_lt (g := gb242) (o := .cells #[.int .i64 a2_0, .int .i64 a2_1, .int .i64 a2_2] 35 (0, 0)) (by (with_reducible repeat (first | refine blk_drewN ?_ _ | refine blk_drew ?_ | refine blk_alloc ?_ _)); exact BK242.out)) : gb242 ≠ gb257)); have n7_ := Aside0.mk ((by rw [hg]; exact Nat.ne_of_gt (blk_lt (g := gb242) (o := .cells #[.int .i64 a2_0, .int .i64 a2_1, .int .i64 a2_2] 35 (0, 0)) (by (with_reducible repeat (first | refine blk_drewN ?_ _ | refine blk_drew ?_ | refine blk_alloc ?_ _)); exact BK242.out)) : gb257 ≠ gb242)); clear HO_9; clear BK242; clear HB; have HO_9 := n0_; have BK242 := n1_; have HB := n2_; have BK257 := n3_; have GW257 := n4_; have GE257 := n5_; have NB242_257 := n6_; have NB257_242 := n7_; clear n0_ n1_ n2_ n3_ n4_ n5_ n6_ n7_; clear hb hbox hg; have hnb39 := NB257_242.out; have hnc39 := NB242_257.out; have hcz40_0 : w38.cell? ⟨gb257, 0, none⟩ = some (.int .i64 0) := (blk_cell BK257.out 0).trans rfl; have hcz40_1 : w38.cell? ⟨gb257, 1, none⟩ = some (.int .i64 0) := (blk_cell BK257.out 1).trans rfl; have hcz40_2 : w38.cell? ⟨gb257, 2, none⟩ = some (.int .i64 0) := (blk_cell BK257.out 2).trans rfl; have hfz40_0 := blk_frozen BK257.out 0; have hfz40_1 := blk_frozen BK257.out 1; have hfz40_2 := blk_frozen BK257.out 2) | ((with_reducible refine gate_callee (f := 13) rfl ?_); refine goesL_ (some 46) rfl rfl Try.func13 (by kernel_rfl) rfl #[.int .i64 a3, .int .i64 11] rfl (by (try simp only [List.map_toArray, List.map_cons, List.map_nil]); first | done | rfl | (simp only [List.length_drop, List.length_take]; rfl)) ?_; (with_reducible refine (busbarlaw0_Within.calls a3 11 t258 _ A30.out).mono ?_); rintro e w' ⟨rfl, ⟨nd, rfl⟩⟩; refine ⟨_, rfl, ?_⟩) | ((with_reducible refine gate_dst (N := 12) rfl ?_); refine box_event ?hg (N := 12) ?hd (cs := #[.int .i64 0, .int .i64 0, .int .i64 0]) (t := 35) ?hr ?_; (case hd => rfl); (case hg => rfl); (case hr => first | (go_simp; done) | (go_simp; rfl)); intro gb259 hg w41 hbox hb; have n0_ := Aside0.mk (Kd.R_below (Kd.R_elderB (by (with_reducible repeat (first | apply Kd.R_alloc | apply Kd.R_drewN | apply Kd.R_drew)); exact (Kd.R_mono (Kd.R_far (p := ⟨gb257, 2, none⟩) (Kd.R_far (p := ⟨gb257, 1, none⟩) (Kd.R_far (p := ⟨gb257, 0, none⟩) (Kd.R_mono HO_9.out (fun k_ hk => (⟨hk, hk.2⟩ : _ ∧ k_ ≠ gb257))) (fun _ hk => hk.2) (.int .i64 t254)) (fun _ hk => hk.2) (.int .i64 t255)) (fun _ hk => hk.2) (.int .i64 t256)) (fun _ h_ => h_.1))) gb259 (Nat.le_of_eq hg.symm)) hb); have n1_ := Aside0.mk (blk_below (g := gb242) (o := .cells #[.int .i64 a2_0, .int .i64 a2_1, .int .i64 a2_2] 35 (0, 0)) (by (with_reducible repeat (first | refine blk_drewN ?_ _ | refine blk_drew ?_ | refine blk_alloc ?_ _)); refine blk_far ?_ NB242_257.out _; (with_reducible repeat (first | refine blk_drewN ?_ _ | refine blk_drew ?_ | refine blk_alloc ?_ _)); refine blk_far ?_ NB242_257.out _; (with_reducible repeat (first | refine blk_drewN ?_ _ | refine blk_drew ?_ | refine blk_alloc ?_ _)); refine blk_far ?_ NB242_257.out _; (with_reducible repeat (first | refine blk_drewN ?_ _ | refine blk_drew ?_ | refine blk_alloc ?_ _)); exact BK242.out) hb); have n2_ := Aside0.mk (blk_below (g := gb257) (o := .cells #[.int .i64 t254, .int .i64 t255, .int .i64 t256] 35 (0, 0)) (by (with_reducible repeat (first | refine blk_drewN ?_ _ | refine blk_drew ?_ | refine blk_alloc ?_ _)); refine blk_put (cs := #[.int .i64 t254, .int .i64 t255, .int .i64 0]) ?_ 2 _ rfl; (with_reducible repeat (first | refine blk_drewN ?_ _ | refine blk_drew ?_ | refine blk_alloc ?_ _)); refine blk_put (cs := #[.int .i64 t254, .int .i64 0, .int .i64 0]) ?_ 1 _ rfl; (with_reducible repeat (first | refine blk_drewN ?_ _ | refine blk_drew ?_ | refine blk_alloc ?_ _)); refine blk_put (cs := #[.int .i64 0, .int .i64 0, .int .i64 0]) ?_ 0 _ rfl; (with_reducible repeat (first | refine blk_drewN ?_ _ | refine blk_drew ?_ | refine blk_alloc ?_ _)); exact BK257.out) hb); have n3_ := Aside0.mk (below_step (by repeat (first | (with_reducible first | exact HB.out | apply below_alloc | apply pw_below_drewN | apply below_drew1 | refine below_set ?_ GE242.out | refine below_set ?_ GE257.out) | exact HB.out)) hb); have n4_ := Aside0.mk (hbox); have n5_ := Aside0.mk ((by rw [hg]; exact (below_size (by repeat (first | (with_reducible first | exact HB.out | apply below_alloc | apply pw_below_drewN | apply below_drew1 | refine below_set ?_ GE242.out | refine below_set ?_ GE257.out) | exact HB.out))) : w.heap.size ≤ gb259)); have n6_ := Aside0.mk ((by rw [hg]; exact (below_size (by repeat (first | (with_reducible first | exact HB.out | apply below_alloc | apply pw_below_drewN | apply below_drew1 | refine below_set ?_ GE242.out | refine below_set ?_ GE257.out) | exact HB.out))) : w.heap.size ≤ gb259)); have n7_ := Aside0.mk ((by rw [hg]; exact Nat.ne_of_lt (blk_lt (g := gb242) (o := .cells #[.int .i64 a2_0, .int .i64 a2_1, .int .i64 a2_2] 35 (0, 0)) (by (with_reducible repeat (first | refine blk_drewN ?_ _ | refine blk_drew ?_ | refine blk_alloc ?_ _)); refine blk_far ?_ NB242_257.out _; (with_reducible repeat (first | refine blk_drewN ?_ _ | refine blk_drew ?_ | refine blk_alloc ?_ _)); refine blk_far ?_ NB242_257.out _; (with_reducible repeat (first | refine blk_drewN ?_ _ | refine blk_drew ?_ | refine blk_alloc ?_ _)); refine blk_far ?_ NB242_257.out _; (with_reducible repeat (first | refine blk_drewN ?_ _ | refine blk_drew ?_ | refine blk_alloc ?_ _)); exact BK242.out)) : gb242 ≠ gb259)); have n8_ := Aside0.mk ((by rw [hg]; exact Nat.ne_of_gt (blk_lt (g := gb242) (o := .cells #[.int .i64 a2_0, .int .i64 a2_1, .int .i64 a2_2] 35 (0, 0)) (by (with_reducible repeat (first | refine blk_drewN ?_ _ | refine blk_drew ?_ | refine blk_alloc ?_ _)); refine blk_far ?_ NB242_257.out _; (with_reducible repeat (first | refine blk_drewN ?_ _ | refine blk_drew ?_ | refine blk_alloc ?_ _)); refine blk_far ?_ NB242_257.out _; (with_reducible repeat (first | refine blk_drewN ?_ _ | refine blk_drew ?_ | refine blk_alloc ?_ _)); refine blk_far ?_ NB242_257.out _; (with_reducible repeat (first | refine blk_drewN ?_ _ | refine blk_drew ?_ | refine blk_alloc ?_ _)); exact BK242.out)) : gb259 ≠ gb242)); have n9_ := Aside0.mk ((by rw [hg]; exact Nat.ne_of_lt (blk_lt (g := gb257) (o := .cells #[.int .i64 t254, .int .i64 t255, .int .i64 t256] 35 (0, 0)) (by (with_reducible repeat (first | refine blk_drewN ?_ _ | refine blk_drew ?_ | refine blk_alloc ?_ _)); refine blk_put (cs := #[.int .i64 t254, .int .i64 t255, .int .i64 0]) ?_ 2 _ rfl; (with_reducible repeat (first | refine blk_drewN ?_ _ | refine blk_drew ?_ | refine blk_alloc ?_ _)); refine blk_put (cs := #[.int .i64 t254, .int .i64 0, .int .i64 0]) ?_ 1 _ rfl; (with_reducible repeat (first | refine blk_drewN ?_ _ | refine blk_drew ?_ | refine blk_alloc ?_ _)); refine blk_put (cs := #[.int .i64 0, .int .i64 0, .int .i64 0]) ?_ 0 _ rfl; (with_reducible repeat (first | refine blk_drewN ?_ _ | refine blk_drew ?_ | refine blk_alloc ?_ _)); exact BK257.out)) : gb257 ≠ gb259)); have n10_ := Aside0.mk ((by rw [hg]; exact Nat.ne_of_gt (blk_lt (g := gb257) (o := .cells #[.int .i64 t254, .int .i64 t255, .int .i64 t256] 35 (0, 0)) (by (with_reducible repeat (first | refine blk_drewN ?_ _ | refine blk_drew ?_ | refine blk_alloc ?_ _)); refine blk_put (cs := #[.int .i64 t254, .int .i64 t255, .int .i64 0]) ?_ 2 _ rfl; (with_reducible repeat (first | refine blk_drewN ?_ _ | refine blk_drew ?_ | refine blk_alloc ?_ _)); refine blk_put (cs := #[.int .i64 t254, .int .i64 0, .int .i64 0]) ?_ 1 _ rfl; (with_reducible repeat (first | refine blk_drewN ?_ _ | refine blk_drew ?_ | refine blk_alloc ?_ _)); refine blk_put (cs := #[.int .i64 0, .int .i64 0, .int .i64 0]) ?_ 0 _ rfl; (with_reducible repeat (first | refine blk_drewN ?_ _ | refine blk_drew ?_ | refine blk_alloc ?_ _)); exact BK257.out)) : gb259 ≠ gb257)); clear HO_9; clear BK242; clear BK257; clear HB; have HO_9 := n0_; have BK242 := n1_; have BK257 := n2_; have HB := n3_; have BK259 := n4_; have GW259 := n5_; have GE259 := n6_; have NB242_259 := n7_; have NB259_242 := n8_; have NB257_259 := n9_; have NB259_257 := n10_; clear n0_ n1_ n2_ n3_ n4_ n5_ n6_ n7_ n8_ n9_ n10_; clear hb hbox hg; have hnb42 := NB259_242.out; have hnc42 := NB242_259.out; have hnb43 := NB259_257.out; have hnc43 := NB257_259.out; have hcz44_0 : w41.cell? ⟨gb259, 0, none⟩ = some (.int .i64 0) := (blk_cell BK259.out 0).trans rfl; have hcz44_1 : w41.cell? ⟨gb259, 1, none⟩ = some (.int .i64 0) := (blk_cell BK259.out 1).trans rfl; have hcz44_2 : w41.cell? ⟨gb259, 2, none⟩ = some (.int .i64 0) := (blk_cell BK259.out 2).trans rfl; have hfz44_0 := blk_frozen BK259.out 0; have hfz44_1 := blk_frozen BK259.out 1; have hfz44_2 := blk_frozen BK259.out 2))
      have n0_ : Aside0 (Kd.R k35 35 (((w41.setCell ⟨gb259, 0, none⟩ (.int .i64 2)).setCell ⟨gb259, 1, none⟩ (.int .i64 (wrap64 ((wrap64 ((wrap64 (100 + t247)) - 2)) + t258)))).setCell ⟨gb259, 2, none⟩ (.int .i64 0)) w.heap.size (fun k_ => k_ ≠ gb242 ∧ k_ ≠ gb257 ∧ k_ ≠ gb259) v249 t248) := ⟨by (with_reducible repeat (first | apply Kd.R_alloc | apply Kd.R_drewN | apply Kd.R_drew)); exact Kd.R_mono (Kd.R_far (p := ⟨gb259, 2, none⟩) (Kd.R_far (p := ⟨gb259, 1, none⟩) (Kd.R_far (p := ⟨gb259, 0, none⟩) (Kd.R_mono HO_9.out (fun k_ hk => (⟨hk, hk.2⟩ : _ ∧ k_ ≠ gb259))) (fun _ hk => hk.2) (.int .i64 2)) (fun _ hk => hk.2) (.int .i64 (wrap64 ((wrap64 ((wrap64 (100 + t247)) - 2)) + t258)))) (fun _ hk => hk.2) (.int .i64 0)) (fun _ hk => ⟨hk.1.1.1, ⟨hk.1.1.2, hk.1.2⟩⟩)⟩
      have n1_ : Aside0 ((((w41.setCell ⟨gb259, 0, none⟩ (.int .i64 2)).setCell ⟨gb259, 1, none⟩ (.int .i64 (wrap64 ((wrap64 ((wrap64 (100 + t247)) - 2)) + t258)))).setCell ⟨gb259, 2, none⟩ (.int .i64 0)).heap[gb242]? = some (.cells #[.int .i64 a2_0, .int .i64 a2_1, .int .i64 a2_2] 35 (0, 0))) := ⟨by (with_reducible repeat (first | refine blk_drewN ?_ _ | refine blk_drew ?_ | refine blk_alloc ?_ _)); refine blk_far ?_ NB242_259.out _; (with_reducible repeat (first | refine blk_drewN ?_ _ | refine blk_drew ?_ | refine blk_alloc ?_ _)); refine blk_far ?_ NB242_259.out _; (with_reducible repeat (first | refine blk_drewN ?_ _ | refine blk_drew ?_ | refine blk_alloc ?_ _)); refine blk_far ?_ NB242_259.out _; (with_reducible repeat (first | refine blk_drewN ?_ _ | refine blk_drew ?_ | refine blk_alloc ?_ _)); exact BK242.out⟩
      have n2_ : Aside0 ((((w41.setCell ⟨gb259, 0, none⟩ (.int .i64 2)).setCell ⟨gb259, 1, none⟩ (.int .i64 (wrap64 ((wrap64 ((wrap64 (100 + t247)) - 2)) + t258)))).setCell ⟨gb259, 2, none⟩ (.int .i64 0)).heap[gb257]? = some (.cells #[.int .i64 t254, .int .i64 t255, .int .i64 t256] 35 (0, 0))) := ⟨by (with_reducible repeat (first | refine blk_drewN ?_ _ | refine blk_drew ?_ | refine blk_alloc ?_ _)); refine blk_far ?_ NB257_259.out _; (with_reducible repeat (first | refine blk_drewN ?_ _ | refine blk_drew ?_ | refine blk_alloc ?_ _)); refine blk_far ?_ NB257_259.out _; (with_reducible repeat (first | refine blk_drewN ?_ _ | refine blk_drew ?_ | refine blk_alloc ?_ _)); refine blk_far ?_ NB257_259.out _; (with_reducible repeat (first | refine blk_drewN ?_ _ | refine blk_drew ?_ | refine blk_alloc ?_ _)); exact BK257.out⟩
      have n3_ : Aside0 ((((w41.setCell ⟨gb259, 0, none⟩ (.int .i64 2)).setCell ⟨gb259, 1, none⟩ (.int .i64 (wrap64 ((wrap64 ((wrap64 (100 + t247)) - 2)) + t258)))).setCell ⟨gb259, 2, none⟩ (.int .i64 0)).heap[gb259]? = some (.cells #[.int .i64 2, .int .i64 (wrap64 ((wrap64 ((wrap64 (100 + t247)) - 2)) + t258)), .int .i64 0] 35 (0, 0))) := ⟨by (with_reducible repeat (first | refine blk_drewN ?_ _ | refine blk_drew ?_ | refine blk_alloc ?_ _)); refine blk_put (cs := #[.int .i64 2, .int .i64 (wrap64 ((wrap64 ((wrap64 (100 + t247)) - 2)) + t258)), .int .i64 0]) ?_ 2 _ rfl; (with_reducible repeat (first | refine blk_drewN ?_ _ | refine blk_drew ?_ | refine blk_alloc ?_ _)); refine blk_put (cs := #[.int .i64 2, .int .i64 0, .int .i64 0]) ?_ 1 _ rfl; (with_reducible repeat (first | refine blk_drewN ?_ _ | refine blk_drew ?_ | refine blk_alloc ?_ _)); refine blk_put (cs := #[.int .i64 0, .int .i64 0, .int .i64 0]) ?_ 0 _ rfl; (with_reducible repeat (first | refine blk_drewN ?_ _ | refine blk_drew ?_ | refine blk_alloc ?_ _)); exact BK259.out⟩
      have n4_ : Aside0 (Below w.heap.size w (((w41.setCell ⟨gb259, 0, none⟩ (.int .i64 2)).setCell ⟨gb259, 1, none⟩ (.int .i64 (wrap64 ((wrap64 ((wrap64 (100 + t247)) - 2)) + t258)))).setCell ⟨gb259, 2, none⟩ (.int .i64 0))) := ⟨by repeat (first | (with_reducible first | exact HB.out | apply below_alloc | apply pw_below_drewN | apply below_drew1 | refine below_set ?_ GE242.out | refine below_set ?_ GE257.out | refine below_set ?_ GE259.out) | exact HB.out)⟩
      (try clear HO_9)
      (try clear BK242)
      (try clear BK257)
      (try clear BK259)
      (try clear HB)
      first | (rw [drewN_self (((w41.setCell ⟨gb259, 0, none⟩ (.int .i64 2)).setCell ⟨gb259, 1, none⟩ (.int .i64 (wrap64 ((wrap64 ((wrap64 (100 + t247)) - 2)) + t258)))).setCell ⟨gb259, 2, none⟩ (.int .i64 0))]; generalize hq_ : World.drewN (((w41.setCell ⟨gb259, 0, none⟩ (.int .i64 2)).setCell ⟨gb259, 1, none⟩ (.int .i64 (wrap64 ((wrap64 ((wrap64 (100 + t247)) - 2)) + t258)))).setCell ⟨gb259, 2, none⟩ (.int .i64 0)) _ = w45; have m0_ : Aside0 (Kd.R k35 35 w45 w.heap.size (fun k_ => k_ ≠ gb242 ∧ k_ ≠ gb257 ∧ k_ ≠ gb259) v249 t248) := ⟨by rw [← hq_]; first | exact Kd.R_drewN n0_.out _ | exact Kd.Q_drewN n0_.out _ | exact blk_drewN n0_.out _ | exact pw_below_drewN n0_.out _ | exact Kd.S_drewN n0_.out _ | exact n0_.out⟩; have m1_ : Aside0 (w45.heap[gb242]? = some (.cells #[.int .i64 a2_0, .int .i64 a2_1, .int .i64 a2_2] 35 (0, 0))) := ⟨by rw [← hq_]; first | exact Kd.R_drewN n1_.out _ | exact Kd.Q_drewN n1_.out _ | exact blk_drewN n1_.out _ | exact pw_below_drewN n1_.out _ | exact Kd.S_drewN n1_.out _ | exact n1_.out⟩; have m2_ : Aside0 (w45.heap[gb257]? = some (.cells #[.int .i64 t254, .int .i64 t255, .int .i64 t256] 35 (0, 0))) := ⟨by rw [← hq_]; first | exact Kd.R_drewN n2_.out _ | exact Kd.Q_drewN n2_.out _ | exact blk_drewN n2_.out _ | exact pw_below_drewN n2_.out _ | exact Kd.S_drewN n2_.out _ | exact n2_.out⟩; have m3_ : Aside0 (w45.heap[gb259]? = some (.cells #[.int .i64 2, .int .i64 (wrap64 ((wrap64 ((wrap64 (100 + t247)) - 2)) + t258)), .int .i64 0] 35 (0, 0))) := ⟨by rw [← hq_]; first | exact Kd.R_drewN n3_.out _ | exact Kd.Q_drewN n3_.out _ | exact blk_drewN n3_.out _ | exact pw_below_drewN n3_.out _ | exact Kd.S_drewN n3_.out _ | exact n3_.out⟩; have m4_ : Aside0 (Below w.heap.size w w45) := ⟨by rw [← hq_]; first | exact Kd.R_drewN n4_.out _ | exact Kd.Q_drewN n4_.out _ | exact blk_drewN n4_.out _ | exact pw_below_drewN n4_.out _ | exact Kd.S_drewN n4_.out _ | exact n4_.out⟩; clear hq_ n0_ n1_ n2_ n3_ n4_; have n0_ := m0_; have n1_ := m1_; have n2_ := m2_; have n3_ := m3_; have n4_ := m4_; clear m0_ m1_ m2_ m3_ m4_) | (generalize (((w41.setCell ⟨gb259, 0, none⟩ (.int .i64 2)).setCell ⟨gb259, 1, none⟩ (.int .i64 (wrap64 ((wrap64 ((wrap64 (100 + t247)) - 2)) + t258)))).setCell ⟨gb259, 2, none⟩ (.int .i64 0)) = w45 at n0_ n1_ n2_ n3_ n4_ ⊢)
      have HO_9 := n0_
      have BK242 := n1_
      have BK257 := n2_
      have BK259 := n3_
      have HB := n4_
      clear n0_ n1_ n2_ n3_ n4_
      have n0_ := Aside0.mk (Kd.R_drew HO_9.out)
      have n1_ := Aside0.mk (blk_drew BK242.out)
      have n2_ := Aside0.mk (blk_drew BK257.out)
      have n3_ := Aside0.mk (blk_drew BK259.out)
      have n4_ := Aside0.mk (below_drew1 HB.out)
      clear HO_9
      clear BK242
      clear BK257
      clear BK259
      clear HB
      have HO_9 := n0_
      have BK242 := n1_
      have BK257 := n2_
      have BK259 := n3_
      have HB := n4_
      clear n0_ n1_ n2_ n3_ n4_
      refine start_ (n := 8) (S := fun w' => w'.cell? ⟨gb259, 0, none⟩ = some (.int .i64 2) ∧ w'.cell? ⟨gb259, 1, none⟩ = some (.int .i64 (wrap64 ((wrap64 ((wrap64 (100 + t247)) - 2)) + t258))) ∧ w'.cell? ⟨gb259, 2, none⟩ = some (.int .i64 0)) (ds := [7]) #[false, false, false, false, false, false, false, false] (by kernel_rfl) rfl rfl ⟨(blk_cell BK259.out 0).trans rfl, (blk_cell BK259.out 1).trans rfl, (blk_cell BK259.out 2).trans rfl⟩ (fun hHeld => ?_); refine with_tabW busbarlaw13_PlanWhere.tab9 busbarlaw13_PlanWhere.bits9 (fun HT_ HW_ => ?_)
      generalize w45.drew = w46 at HO_9 BK242 BK257 BK259 HB hHeld ⊢
      refine pure_ (i := 0) (N := some 49) (v := ?_) (a' := ?_) #[true, false, false, false, false, false, false, false] rfl rfl (any_of HT_.out (by kernel_rfl)) (fun _ _ _ h => h) (Or.inl ⟨by rfl, ?_⟩) ?_ ?_
      rotate_left
      ·
       intro w'
       go_simp
       with_reducible rfl
      rotate_left
      ·
       simp only [Act.put, List.setIfInBounds_toArray, List.set_cons_zero, List.set_cons_succ, i64_w, i32_w]
       rfl
      refine pure_ (i := 3) (N := some 52) (v := ?_) (a' := ?_) #[true, false, false, true, false, false, false, false] rfl rfl (any_of HT_.out (by kernel_rfl)) (fun _ _ _ h => h) (Or.inl ⟨by rfl, ?_⟩) ?_ ?_
      rotate_left
      ·
       intro w'
       go_simp
       with_reducible rfl
      rotate_left
      ·
       simp only [Act.put, List.setIfInBounds_toArray, List.set_cons_zero, List.set_cons_succ, i64_w, i32_w]
       rfl
      refine take_ (i := 1) (N := some 50) (v := ?_) (a' := ?_) #[true, true, false, true, false, false, false, false] rfl rfl (take_ofW HT_.out HW_.out (by kernel_rfl)) (fun _ _ _ h => h) (Or.inl ⟨by rfl, ?_⟩) hHeld ?_ ?_
      rotate_left
      ·
       rintro w' ⟨s0, s1, s2⟩
       go_simp
       with_reducible rfl
      rotate_left
      ·
       simp only [Act.put, List.setIfInBounds_toArray, List.set_cons_zero, List.set_cons_succ, i64_w, i32_w]
       rfl
      refine pure_ (i := 2) (N := some 51) (v := ?_) (a' := ?_) #[true, true, true, true, false, false, false, false] rfl rfl (any_of HT_.out (by kernel_rfl)) (fun _ _ _ h => h) (Or.inl ⟨by rfl, ?_⟩) ?_ ?_
      rotate_left
      ·
       intro w'
       go_simp
       with_reducible rfl
      rotate_left
      ·
       simp only [Act.put, List.setIfInBounds_toArray, List.set_cons_zero, List.set_cons_succ, i64_w, i32_w]
       rfl
      refine one_ (i := 4) (N := some 53) #[true, true, true, true, true, false, false, false] rfl rfl (one_of HT_.out (by kernel_rfl)) (by decide) (fun K hK => ?_)
      refine goes_ Try.func14 (by kernel_rfl) rfl #[.int .i64 a3, .int .i64 11, .int .i64 9] (by rfl) rfl rfl (by (try simp only [List.map_toArray, List.map_cons, List.map_nil]); first | done | rfl | (simp only [List.length_drop, List.length_take]; rfl)) ?_
      with_reducible refine (busbarlaw0_Digit.calls a3 11 9 t260 _ A31.out).mono ?_
      rintro e w' ⟨rfl, ⟨nd, rfl⟩⟩
      refine ⟨_, rfl, ?_⟩
      refine hK.out _ _ ⟨(blk_cell BK259.out 0).trans rfl, (blk_cell BK259.out 1).trans rfl, (blk_cell BK259.out 2).trans rfl⟩ (fun hHeld => ?_)
      clear hK K
      refine norm_ (a' := ?_) ?_ ?_
      rotate_left
      ·
       show Act.put _ (some 53) _ = _
       simp only [Act.put, List.setIfInBounds_toArray, List.set_cons_zero, List.set_cons_succ, i64_w, i32_w]
       rfl
      refine pure_ (i := 5) (N := some 54) (v := ?_) (a' := ?_) #[true, true, true, true, true, true, false, false] rfl rfl (any_of HT_.out (by kernel_rfl)) (fun _ _ _ h => h) (Or.inl ⟨by rfl, ?_⟩) ?_ ?_
      rotate_left
      ·
       intro w'
       go_simp
       with_reducible rfl
      rotate_left
      ·
       simp only [Act.put, List.setIfInBounds_toArray, List.set_cons_zero, List.set_cons_succ, i64_w, i32_w]
       rfl
      refine pure_ (i := 6) (N := some 55) (v := ?_) (a' := ?_) #[true, true, true, true, true, true, true, false] rfl rfl (any_of HT_.out (by kernel_rfl)) (fun _ _ _ h => h) (Or.inl ⟨by rfl, ?_⟩) ?_ ?_
      rotate_left
      ·
       intro w'
       go_simp
       with_reducible rfl
      rotate_left
      ·
       simp only [Act.put, List.setIfInBounds_toArray, List.set_cons_zero, List.set_cons_succ, i64_w, i32_w]
       rfl
      refine last_ (i := 7) (N := none) #[true, true, true, true, true, true, true, true] rfl rfl (one_of HT_.out (by kernel_rfl)) (by decide) (fun K hK => ?_)
      have hs47 : w46.cell? ⟨gb259, 2, none⟩ = some (.int .i64 0) := (blk_cell BK259.out 2).trans rfl
      have hfs47 := blk_frozen BK259.out 2
      have hns47_0 := NB242_259.out
      have hns47_1 := NB257_259.out
      have hms47_0 := NB259_242.out
      have hms47_1 := NB259_257.out
      refine skip_ (w1 := ?_) (by rfl) rfl ?_ ?_
      rotate_left
      ·
       go_simp
       rfl
      refine hK.out _ _ ?_
      clear hK K
      refine done_ (done_of HT_.out (by kernel_rfl)) ?_
      try go_wp2
      have n0_ : Aside0 (Kd.R k35 35 (w46.setCell ⟨gb259, 2, none⟩ (.int .i64 (wrap64 ((wrap64 ((wrap64 ((wrap64 ((wrap64 (100 + t247)) - 2)) + t258)) + 1)) + t260)))) w.heap.size (fun k_ => k_ ≠ gb242 ∧ k_ ≠ gb257 ∧ k_ ≠ gb259) v249 t248) := ⟨by (with_reducible repeat (first | apply Kd.R_alloc | apply Kd.R_drewN | apply Kd.R_drew)); exact Kd.R_mono (Kd.R_far (p := ⟨gb259, 2, none⟩) (Kd.R_mono HO_9.out (fun k_ hk => (⟨hk, hk.2.2⟩ : _ ∧ k_ ≠ gb259))) (fun _ hk => hk.2) (.int .i64 (wrap64 ((wrap64 ((wrap64 ((wrap64 ((wrap64 (100 + t247)) - 2)) + t258)) + 1)) + t260)))) (fun _ hk => ⟨hk.1.1, ⟨hk.1.2.1, hk.1.2.2⟩⟩)⟩
      have n1_ : Aside0 ((w46.setCell ⟨gb259, 2, none⟩ (.int .i64 (wrap64 ((wrap64 ((wrap64 ((wrap64 ((wrap64 (100 + t247)) - 2)) + t258)) + 1)) + t260)))).heap[gb242]? = some (.cells #[.int .i64 a2_0, .int .i64 a2_1, .int .i64 a2_2] 35 (0, 0))) := ⟨by (with_reducible repeat (first | refine blk_drewN ?_ _ | refine blk_drew ?_ | refine blk_alloc ?_ _)); refine blk_far ?_ NB242_259.out _; (with_reducible repeat (first | refine blk_drewN ?_ _ | refine blk_drew ?_ | refine blk_alloc ?_ _)); exact BK242.out⟩
      have n2_ : Aside0 ((w46.setCell ⟨gb259, 2, none⟩ (.int .i64 (wrap64 ((wrap64 ((wrap64 ((wrap64 ((wrap64 (100 + t247)) - 2)) + t258)) + 1)) + t260)))).heap[gb257]? = some (.cells #[.int .i64 t254, .int .i64 t255, .int .i64 t256] 35 (0, 0))) := ⟨by (with_reducible repeat (first | refine blk_drewN ?_ _ | refine blk_drew ?_ | refine blk_alloc ?_ _)); refine blk_far ?_ NB257_259.out _; (with_reducible repeat (first | refine blk_drewN ?_ _ | refine blk_drew ?_ | refine blk_alloc ?_ _)); exact BK257.out⟩
      have n3_ : Aside0 ((w46.setCell ⟨gb259, 2, none⟩ (.int .i64 (wrap64 ((wrap64 ((wrap64 ((wrap64 ((wrap64 (100 + t247)) - 2)) + t258)) + 1)) + t260)))).heap[gb259]? = some (.cells #[.int .i64 2, .int .i64 (wrap64 ((wrap64 ((wrap64 (100 + t247)) - 2)) + t258)), .int .i64 (wrap64 ((wrap64 ((wrap64 ((wrap64 ((wrap64 (100 + t247)) - 2)) + t258)) + 1)) + t260))] 35 (0, 0))) := ⟨by (with_reducible repeat (first | refine blk_drewN ?_ _ | refine blk_drew ?_ | refine blk_alloc ?_ _)); refine blk_put (cs := #[.int .i64 2, .int .i64 (wrap64 ((wrap64 ((wrap64 (100 + t247)) - 2)) + t258)), .int .i64 0]) ?_ 2 _ rfl; (with_reducible repeat (first | refine blk_drewN ?_ _ | refine blk_drew ?_ | refine blk_alloc ?_ _)); exact BK259.out⟩
      have n4_ : Aside0 (Below w.heap.size w (w46.setCell ⟨gb259, 2, none⟩ (.int .i64 (wrap64 ((wrap64 ((wrap64 ((wrap64 ((wrap64 (100 + t247)) - 2)) + t258)) + 1)) + t260))))) := ⟨by repeat (first | (with_reducible first | exact HB.out | apply below_alloc | apply pw_below_drewN | apply below_drew1 | refine below_set ?_ GE242.out | refine below_set ?_ GE257.out | refine below_set ?_ GE259.out) | exact HB.out)⟩
      (try clear HO_9)
      (try clear BK242)
      (try clear BK257)
      (try clear BK259)
      (try clear HB)
      first | (rw [drewN_self (w46.setCell ⟨gb259, 2, none⟩ (.int .i64 (wrap64 ((wrap64 ((wrap64 ((wrap64 ((wrap64 (100 + t247)) - 2)) + t258)) + 1)) + t260))))]; generalize hq_ : World.drewN (w46.setCell ⟨gb259, 2, none⟩ (.int .i64 (wrap64 ((wrap64 ((wrap64 ((wrap64 ((wrap64 (100 + t247)) - 2)) + t258)) + 1)) + t260)))) _ = w48; have m0_ : Aside0 (Kd.R k35 35 w48 w.heap.size (fun k_ => k_ ≠ gb242 ∧ k_ ≠ gb257 ∧ k_ ≠ gb259) v249 t248) := ⟨by rw [← hq_]; first | exact Kd.R_drewN n0_.out _ | exact Kd.Q_drewN n0_.out _ | exact blk_drewN n0_.out _ | exact pw_below_drewN n0_.out _ | exact Kd.S_drewN n0_.out _ | exact n0_.out⟩; have m1_ : Aside0 (w48.heap[gb242]? = some (.cells #[.int .i64 a2_0, .int .i64 a2_1, .int .i64 a2_2] 35 (0, 0))) := ⟨by rw [← hq_]; first | exact Kd.R_drewN n1_.out _ | exact Kd.Q_drewN n1_.out _ | exact blk_drewN n1_.out _ | exact pw_below_drewN n1_.out _ | exact Kd.S_drewN n1_.out _ | exact n1_.out⟩; have m2_ : Aside0 (w48.heap[gb257]? = some (.cells #[.int .i64 t254, .int .i64 t255, .int .i64 t256] 35 (0, 0))) := ⟨by rw [← hq_]; first | exact Kd.R_drewN n2_.out _ | exact Kd.Q_drewN n2_.out _ | exact blk_drewN n2_.out _ | exact pw_below_drewN n2_.out _ | exact Kd.S_drewN n2_.out _ | exact n2_.out⟩; have m3_ : Aside0 (w48.heap[gb259]? = some (.cells #[.int .i64 2, .int .i64 (wrap64 ((wrap64 ((wrap64 (100 + t247)) - 2)) + t258)), .int .i64 (wrap64 ((wrap64 ((wrap64 ((wrap64 ((wrap64 (100 + t247)) - 2)) + t258)) + 1)) + t260))] 35 (0, 0))) := ⟨by rw [← hq_]; first | exact Kd.R_drewN n3_.out _ | exact Kd.Q_drewN n3_.out _ | exact blk_drewN n3_.out _ | exact pw_below_drewN n3_.out _ | exact Kd.S_drewN n3_.out _ | exact n3_.out⟩; have m4_ : Aside0 (Below w.heap.size w w48) := ⟨by rw [← hq_]; first | exact Kd.R_drewN n4_.out _ | exact Kd.Q_drewN n4_.out _ | exact blk_drewN n4_.out _ | exact pw_below_drewN n4_.out _ | exact Kd.S_drewN n4_.out _ | exact n4_.out⟩; clear hq_ n0_ n1_ n2_ n3_ n4_; have n0_ := m0_; have n1_ := m1_; have n2_ := m2_; have n3_ := m3_; have n4_ := m4_; clear m0_ m1_ m2_ m3_ m4_) | (generalize (w46.setCell ⟨gb259, 2, none⟩ (.int .i64 (wrap64 ((wrap64 ((wrap64 ((wrap64 ((wrap64 (100 + t247)) - 2)) + t258)) + 1)) + t260)))) = w48 at n0_ n1_ n2_ n3_ n4_ ⊢)
      have HO_9 := n0_
      have BK242 := n1_
      have BK257 := n2_
      have BK259 := n3_
      have HB := n4_
      clear n0_ n1_ n2_ n3_ n4_
      (try (rw [drewN_self w48]; generalize hq_ : World.drewN w48 _ = w48; have n0_ : Aside0 (Kd.R k35 35 w48 w.heap.size (fun k_ => k_ ≠ gb242 ∧ k_ ≠ gb257 ∧ k_ ≠ gb259) v249 t248) := ⟨by rw [← hq_]; exact (by (with_reducible repeat (first | apply Kd.R_alloc | apply Kd.R_drewN | apply Kd.R_drew)); exact HO_9.out)⟩; have n1_ : Aside0 (w48.heap[gb242]? = some (.cells #[.int .i64 a2_0, .int .i64 a2_1, .int .i64 a2_2] 35 (0, 0))) := ⟨by rw [← hq_]; exact (by (with_reducible repeat (first | refine blk_drewN ?_ _ | refine blk_drew ?_ | refine blk_alloc ?_ _)); exact BK242.out)⟩; have n2_ : Aside0 (w48.heap[gb257]? = some (.cells #[.int .i64 t254, .int .i64 t255, .int .i64 t256] 35 (0, 0))) := ⟨by rw [← hq_]; exact (by (with_reducible repeat (first | refine blk_drewN ?_ _ | refine blk_drew ?_ | refine blk_alloc ?_ _)); exact BK257.out)⟩; have n3_ : Aside0 (w48.heap[gb259]? = some (.cells #[.int .i64 2, .int .i64 (wrap64 ((wrap64 ((wrap64 (100 + t247)) - 2)) + t258)), .int .i64 (wrap64 ((wrap64 ((wrap64 ((wrap64 ((wrap64 (100 + t247)) - 2)) + t258)) + 1)) + t260))] 35 (0, 0))) := ⟨by rw [← hq_]; exact (by (with_reducible repeat (first | refine blk_drewN ?_ _ | refine blk_drew ?_ | refine blk_alloc ?_ _)); exact BK259.out)⟩; have n4_ : Aside0 (Below w.heap.size w w48) := ⟨by rw [← hq_]; exact (by repeat (first | (with_reducible first | exact HB.out | apply below_alloc | apply pw_below_drewN | apply below_drew1 | refine below_set ?_ GE242.out | refine below_set ?_ GE257.out | refine below_set ?_ GE259.out) | exact HB.out))⟩; clear HO_9 BK242 BK257 BK259 HB hq_; have HO_9 := n0_; have BK242 := n1_; have BK257 := n2_; have BK259 := n3_; have HB := n4_; clear n0_ n1_ n2_ n3_ n4_))
      have n0_ := Aside0.mk (Kd.R_drew HO_9.out)
      have n1_ := Aside0.mk (blk_drew BK242.out)
      have n2_ := Aside0.mk (blk_drew BK257.out)
      have n3_ := Aside0.mk (blk_drew BK259.out)
      have n4_ := Aside0.mk (below_drew1 HB.out)
      clear HO_9
      clear BK242
      clear BK257
      clear BK259
      clear HB
      have HO_9 := n0_
      have BK242 := n1_
      have BK257 := n2_
      have BK259 := n3_
      have HB := n4_
      clear n0_ n1_ n2_ n3_ n4_
      obtain ⟨Ao50, co50, eo50⟩ := Kd.R_slice HO_9.out
      (first | subst eo50 | (injection eo50 with f1_ f2_ f3_; have f4_ := f1_.symm; have f5_ := f3_.symm; clear f1_ f2_ f3_; subst f4_; subst f5_))
      refine start_ (n := 21) (S := fun w' => w'.cell? ⟨gb257, 0, none⟩ = some (.int .i64 t254) ∧ w'.cell? ⟨gb257, 1, none⟩ = some (.int .i64 t255) ∧ w'.cell? ⟨gb257, 2, none⟩ = some (.int .i64 t256) ∧ w'.cell? ⟨gb259, 0, none⟩ = some (.int .i64 2) ∧ w'.cell? ⟨gb259, 1, none⟩ = some (.int .i64 (wrap64 ((wrap64 ((wrap64 (100 + t247)) - 2)) + t258))) ∧ w'.cell? ⟨gb259, 2, none⟩ = some (.int .i64 (wrap64 ((wrap64 ((wrap64 ((wrap64 ((wrap64 (100 + t247)) - 2)) + t258)) + 1)) + t260)))) (ds := []) #[false, false, false, false, false, false, false, false, false, false, false, false, false, false, false, false, false, false, false, false, false] (by kernel_rfl) rfl rfl ⟨(blk_cell BK257.out 0).trans rfl, (blk_cell BK257.out 1).trans rfl, (blk_cell BK257.out 2).trans rfl, (blk_cell BK259.out 0).trans rfl, (blk_cell BK259.out 1).trans rfl, (blk_cell BK259.out 2).trans rfl⟩ (fun hHeld => ?_); refine with_tabW busbarlaw13_PlanWhere.tab10 busbarlaw13_PlanWhere.bits10 (fun HT_ HW_ => ?_)
      generalize w48.drew = w49 at HO_9 BK242 BK257 BK259 HB hHeld ⊢
      refine pure_ (i := 0) (N := some 56) (v := ?_) (a' := ?_) #[true, false, false, false, false, false, false, false, false, false, false, false, false, false, false, false, false, false, false, false, false] rfl rfl (any_of HT_.out (by kernel_rfl)) (fun _ _ _ h => h) (Or.inl ⟨by rfl, ?_⟩) ?_ ?_
      rotate_left
      ·
       intro w'
       go_simp
       with_reducible rfl
      rotate_left
      ·
       simp only [Act.put, List.setIfInBounds_toArray, List.set_cons_zero, List.set_cons_succ, i64_w, i32_w]
       rfl
      refine pure_ (i := 1) (N := some 57) (v := ?_) (a' := ?_) #[true, true, false, false, false, false, false, false, false, false, false, false, false, false, false, false, false, false, false, false, false] rfl rfl (any_of HT_.out (by kernel_rfl)) (fun _ _ _ h => h) (Or.inl ⟨by rfl, ?_⟩) ?_ ?_
      rotate_left
      ·
       intro w'
       go_simp
       with_reducible rfl
      rotate_left
      ·
       simp only [Act.put, List.setIfInBounds_toArray, List.set_cons_zero, List.set_cons_succ, i64_w, i32_w]
       rfl
      refine pure_ (i := 4) (N := some 60) (v := ?_) (a' := ?_) #[true, true, false, false, true, false, false, false, false, false, false, false, false, false, false, false, false, false, false, false, false] rfl rfl (any_of HT_.out (by kernel_rfl)) (fun _ _ _ h => h) (Or.inl ⟨by rfl, ?_⟩) ?_ ?_
      rotate_left
      ·
       intro w'
       go_simp
       with_reducible rfl
      rotate_left
      ·
       simp only [Act.put, List.setIfInBounds_toArray, List.set_cons_zero, List.set_cons_succ, i64_w, i32_w]
       rfl
      refine pure_ (i := 5) (N := some 61) (v := ?_) (a' := ?_) #[true, true, false, false, true, true, false, false, false, false, false, false, false, false, false, false, false, false, false, false, false] rfl rfl (any_of HT_.out (by kernel_rfl)) (fun _ _ _ h => h) (Or.inl ⟨by rfl, ?_⟩) ?_ ?_
      rotate_left
      ·
       intro w'
       go_simp
       with_reducible rfl
      rotate_left
      ·
       simp only [Act.put, List.setIfInBounds_toArray, List.set_cons_zero, List.set_cons_succ, i64_w, i32_w]
       rfl
      refine take_ (i := 2) (N := some 58) (v := ?_) (a' := ?_) #[true, true, true, false, true, true, false, false, false, false, false, false, false, false, false, false, false, false, false, false, false] rfl rfl (take_ofW HT_.out HW_.out (by kernel_rfl)) (fun _ _ _ h => h) (Or.inl ⟨by rfl, ?_⟩) hHeld ?_ ?_
      rotate_left
      ·
       rintro w' ⟨s0, s1, s2, s3, s4, s5⟩
       go_simp
       with_reducible rfl
      rotate_left
      ·
       simp only [Act.put, List.setIfInBounds_toArray, List.set_cons_zero, List.set_cons_succ, i64_w, i32_w]
       rfl
      refine take_ (i := 6) (N := some 62) (v := ?_) (a' := ?_) #[true, true, true, false, true, true, true, false, false, false, false, false, false, false, false, false, false, false, false, false, false] rfl rfl (take_ofW HT_.out HW_.out (by kernel_rfl)) (fun _ _ _ h => h) (Or.inl ⟨by rfl, ?_⟩) hHeld ?_ ?_
      rotate_left
      ·
       rintro w' ⟨s0, s1, s2, s3, s4, s5⟩
       go_simp
       with_reducible rfl
      rotate_left
      ·
       simp only [Act.put, List.setIfInBounds_toArray, List.set_cons_zero, List.set_cons_succ, i64_w, i32_w]
       rfl
      refine one_ (i := 3) (N := some 59) #[true, true, true, true, true, true, true, false, false, false, false, false, false, false, false, false, false, false, false, false, false] rfl rfl (one_of HT_.out (by kernel_rfl)) (by decide) (fun K hK => ?_)
      refine goes_ Try.func21 (by kernel_rfl) rfl #[.slice Ao50 t248.length co50, .int .i64 (wrap64 (100 + t247)), .agg #[.int .i64 t254, .int .i64 t255, .int .i64 t256]] (by rfl) rfl rfl (by (try simp only [List.map_toArray, List.map_cons, List.map_nil]); first | done | rfl | (simp only [List.length_drop, List.length_take]; rfl)) ?_
      with_reducible refine (plan_Where.calls kj9 _ _ t248 (wrap64 (100 + t247)) t254 t255 t256 t261 _ ?side1 ?side2 A32.out).mono ?_
      (case side1 => repeat (first | exact (Kd.R_reads' HO_9.out).2.2 | (with_reducible refine Kd.C_alloc ?_ _) | (with_reducible refine Kd.C_drewN ?_ _) | (with_reducible refine Kd.C_drew ?_)))
      (case side2 => exact (Kd.R_reads' HO_9.out).2.1)
      rintro e w51 ⟨rfl, hb⟩
      refine ⟨_, rfl, ?_⟩
      have n0_ := Aside0.mk (Kd.R_below (by (with_reducible repeat (first | apply Kd.R_alloc | apply Kd.R_drewN | apply Kd.R_drew)); exact HO_9.out) hb)
      have n1_ := Aside0.mk (blk_below (g := gb242) (o := .cells #[.int .i64 a2_0, .int .i64 a2_1, .int .i64 a2_2] 35 (0, 0)) (by (with_reducible repeat (first | refine blk_drewN ?_ _ | refine blk_drew ?_ | refine blk_alloc ?_ _)); exact BK242.out) hb)
      have n2_ := Aside0.mk (blk_below (g := gb257) (o := .cells #[.int .i64 t254, .int .i64 t255, .int .i64 t256] 35 (0, 0)) (by (with_reducible repeat (first | refine blk_drewN ?_ _ | refine blk_drew ?_ | refine blk_alloc ?_ _)); exact BK257.out) hb)
      have n3_ := Aside0.mk (blk_below (g := gb259) (o := .cells #[.int .i64 2, .int .i64 (wrap64 ((wrap64 ((wrap64 (100 + t247)) - 2)) + t258)), .int .i64 (wrap64 ((wrap64 ((wrap64 ((wrap64 ((wrap64 (100 + t247)) - 2)) + t258)) + 1)) + t260))] 35 (0, 0)) (by (with_reducible repeat (first | refine blk_drewN ?_ _ | refine blk_drew ?_ | refine blk_alloc ?_ _)); exact BK259.out) hb)
      have n4_ := Aside0.mk (below_step (by repeat (first | (with_reducible first | exact HB.out | apply below_alloc | apply pw_below_drewN | apply below_drew1 | refine below_set ?_ GE242.out | refine below_set ?_ GE257.out | refine below_set ?_ GE259.out) | exact HB.out)) hb)
      clear HO_9
      clear BK242
      clear BK257
      clear BK259
      clear HB
      have HO_9 := n0_
      have BK242 := n1_
      have BK257 := n2_
      have BK259 := n3_
      have HB := n4_
      clear n0_ n1_ n2_ n3_ n4_
      (try clear hb)
      (try clear hb2)
      (try clear hk)
      (try clear hi)
      refine hK.out _ _ ⟨(blk_cell BK257.out 0).trans rfl, (blk_cell BK257.out 1).trans rfl, (blk_cell BK257.out 2).trans rfl, (blk_cell BK259.out 0).trans rfl, (blk_cell BK259.out 1).trans rfl, (blk_cell BK259.out 2).trans rfl⟩ (fun hHeld => ?_)
      clear hK K
      refine norm_ (a' := ?_) ?_ ?_
      rotate_left
      ·
       show Act.put _ (some 59) _ = _
       simp only [Act.put, List.setIfInBounds_toArray, List.set_cons_zero, List.set_cons_succ, i64_w, i32_w]
       rfl
      refine one_ (i := 7) (N := some 63) #[true, true, true, true, true, true, true, true, false, false, false, false, false, false, false, false, false, false, false, false, false] rfl rfl (one_of HT_.out (by kernel_rfl)) (by decide) (fun K hK => ?_)
      refine goes_ Try.func22 (by kernel_rfl) rfl #[.slice Ao50 t248.length co50, .int .i64 (wrap64 (100 + t247)), .agg #[.int .i64 t254, .int .i64 t255, .int .i64 t256]] (by rfl) rfl rfl (by (try simp only [List.map_toArray, List.map_cons, List.map_nil]); first | done | rfl | (simp only [List.length_drop, List.length_take]; rfl)) ?_
      with_reducible refine (busbarref12_Where.calls kj9 _ _ t248 (wrap64 (100 + t247)) t254 t255 t256 t262 _ ?side1 ?side2 A33.out).mono ?_
      (case side1 => repeat (first | exact (Kd.R_reads' HO_9.out).2.2 | (with_reducible refine Kd.C_alloc ?_ _) | (with_reducible refine Kd.C_drewN ?_ _) | (with_reducible refine Kd.C_drew ?_)))
      (case side2 => exact (Kd.R_reads' HO_9.out).2.1)
      rintro e w52 ⟨rfl, hb⟩
      refine ⟨_, rfl, ?_⟩
      have n0_ := Aside0.mk (Kd.R_below (by (with_reducible repeat (first | apply Kd.R_alloc | apply Kd.R_drewN | apply Kd.R_drew)); exact HO_9.out) hb)
      have n1_ := Aside0.mk (blk_below (g := gb242) (o := .cells #[.int .i64 a2_0, .int .i64 a2_1, .int .i64 a2_2] 35 (0, 0)) (by (with_reducible repeat (first | refine blk_drewN ?_ _ | refine blk_drew ?_ | refine blk_alloc ?_ _)); exact BK242.out) hb)
      have n2_ := Aside0.mk (blk_below (g := gb257) (o := .cells #[.int .i64 t254, .int .i64 t255, .int .i64 t256] 35 (0, 0)) (by (with_reducible repeat (first | refine blk_drewN ?_ _ | refine blk_drew ?_ | refine blk_alloc ?_ _)); exact BK257.out) hb)
      have n3_ := Aside0.mk (blk_below (g := gb259) (o := .cells #[.int .i64 2, .int .i64 (wrap64 ((wrap64 ((wrap64 (100 + t247)) - 2)) + t258)), .int .i64 (wrap64 ((wrap64 ((wrap64 ((wrap64 ((wrap64 (100 + t247)) - 2)) + t258)) + 1)) + t260))] 35 (0, 0)) (by (with_reducible repeat (first | refine blk_drewN ?_ _ | refine blk_drew ?_ | refine blk_alloc ?_ _)); exact BK259.out) hb)
      have n4_ := Aside0.mk (below_step (by repeat (first | (with_reducible first | exact HB.out | apply below_alloc | apply pw_below_drewN | apply below_drew1 | refine below_set ?_ GE242.out | refine below_set ?_ GE257.out | refine below_set ?_ GE259.out) | exact HB.out)) hb)
      clear HO_9
      clear BK242
      clear BK257
      clear BK259
      clear HB
      have HO_9 := n0_
      have BK242 := n1_
      have BK257 := n2_
      have BK259 := n3_
      have HB := n4_
      clear n0_ n1_ n2_ n3_ n4_
      (try clear hb)
      (try clear hb2)
      (try clear hk)
      (try clear hi)
      refine hK.out _ _ ⟨(blk_cell BK257.out 0).trans rfl, (blk_cell BK257.out 1).trans rfl, (blk_cell BK257.out 2).trans rfl, (blk_cell BK259.out 0).trans rfl, (blk_cell BK259.out 1).trans rfl, (blk_cell BK259.out 2).trans rfl⟩ (fun hHeld => ?_)
      clear hK K
      refine norm_ (a' := ?_) ?_ ?_
      rotate_left
      ·
       show Act.put _ (some 63) _ = _
       simp only [Act.put, List.setIfInBounds_toArray, List.set_cons_zero, List.set_cons_succ, i64_w, i32_w]
       rfl
      refine pure_ (i := 8) (N := some 64) (v := ?_) (a' := ?_) #[true, true, true, true, true, true, true, true, true, false, false, false, false, false, false, false, false, false, false, false, false] rfl rfl (any_of HT_.out (by kernel_rfl)) (fun _ _ _ h => h) (Or.inl ⟨by rfl, ?_⟩) ?_ ?_
      rotate_left
      ·
       intro w'
       go_simp
       with_reducible rfl
      rotate_left
      ·
       simp only [Act.put, List.setIfInBounds_toArray, List.set_cons_zero, List.set_cons_succ, i64_w, i32_w]
       rfl
      refine pure_ (i := 9) (N := some 65) (v := ?_) (a' := ?_) #[true, true, true, true, true, true, true, true, true, true, false, false, false, false, false, false, false, false, false, false, false] rfl rfl (any_of HT_.out (by kernel_rfl)) (fun _ _ _ h => h) (Or.inl ⟨by rfl, ?_⟩) ?_ ?_
      rotate_left
      ·
       intro w'
       go_simp
       with_reducible rfl
      rotate_left
      ·
       simp only [Act.put, List.setIfInBounds_toArray, List.set_cons_zero, List.set_cons_succ, i64_w, i32_w]
       rfl
      refine pure_ (i := 10) (N := some 66) (v := ?_) (a' := ?_) #[true, true, true, true, true, true, true, true, true, true, true, false, false, false, false, false, false, false, false, false, false] rfl rfl (any_of HT_.out (by kernel_rfl)) (fun _ _ _ h => h) (Or.inl ⟨by rfl, ?_⟩) ?_ ?_
      rotate_left
      ·
       intro w'
       go_simp
       with_reducible rfl
      rotate_left
      ·
       simp only [Act.put, List.setIfInBounds_toArray, List.set_cons_zero, List.set_cons_succ, i64_w, i32_w]
       rfl
      refine pure_ (i := 11) (N := some 67) (v := ?_) (a' := ?_) #[true, true, true, true, true, true, true, true, true, true, true, true, false, false, false, false, false, false, false, false, false] rfl rfl (any_of HT_.out (by kernel_rfl)) (fun _ _ _ h => h) (Or.inl ⟨by rfl, ?_⟩) ?_ ?_
      rotate_left
      ·
       intro w'
       go_simp
       with_reducible rfl
      rotate_left
      ·
       simp only [Act.put, List.setIfInBounds_toArray, List.set_cons_zero, List.set_cons_succ, i64_w, i32_w]
       rfl
      refine pure_ (i := 14) (N := some 70) (v := ?_) (a' := ?_) #[true, true, true, true, true, true, true, true, true, true, true, true, false, false, true, false, false, false, false, false, false] rfl rfl (any_of HT_.out (by kernel_rfl)) (fun _ _ _ h => h) (Or.inl ⟨by rfl, ?_⟩) ?_ ?_
      rotate_left
      ·
       intro w'
       go_simp
       with_reducible rfl
      rotate_left
      ·
       simp only [Act.put, List.setIfInBounds_toArray, List.set_cons_zero, List.set_cons_succ, i64_w, i32_w]
       rfl
      refine pure_ (i := 15) (N := some 71) (v := ?_) (a' := ?_) #[true, true, true, true, true, true, true, true, true, true, true, true, false, false, true, true, false, false, false, false, false] rfl rfl (any_of HT_.out (by kernel_rfl)) (fun _ _ _ h => h) (Or.inl ⟨by rfl, ?_⟩) ?_ ?_
      rotate_left
      ·
       intro w'
       go_simp
       with_reducible rfl
      rotate_left
      ·
       simp only [Act.put, List.setIfInBounds_toArray, List.set_cons_zero, List.set_cons_succ, i64_w, i32_w]
       rfl
      refine take_ (i := 12) (N := some 68) (v := ?_) (a' := ?_) #[true, true, true, true, true, true, true, true, true, true, true, true, true, false, true, true, false, false, false, false, false] rfl rfl (take_ofW HT_.out HW_.out (by kernel_rfl)) (fun _ _ _ h => h) (Or.inl ⟨by rfl, ?_⟩) hHeld ?_ ?_
      rotate_left
      ·
       rintro w' ⟨s0, s1, s2, s3, s4, s5⟩
       go_simp
       with_reducible rfl
      rotate_left
      ·
       simp only [Act.put, List.setIfInBounds_toArray, List.set_cons_zero, List.set_cons_succ, i64_w, i32_w]
       rfl
      refine take_ (i := 16) (N := some 72) (v := ?_) (a' := ?_) #[true, true, true, true, true, true, true, true, true, true, true, true, true, false, true, true, true, false, false, false, false] rfl rfl (take_ofW HT_.out HW_.out (by kernel_rfl)) (fun _ _ _ h => h) (Or.inl ⟨by rfl, ?_⟩) hHeld ?_ ?_
      rotate_left
      ·
       rintro w' ⟨s0, s1, s2, s3, s4, s5⟩
       go_simp
       with_reducible rfl
      rotate_left
      ·
       simp only [Act.put, List.setIfInBounds_toArray, List.set_cons_zero, List.set_cons_succ, i64_w, i32_w]
       rfl
      refine one_ (i := 13) (N := some 69) #[true, true, true, true, true, true, true, true, true, true, true, true, true, true, true, true, true, false, false, false, false] rfl rfl (one_of HT_.out (by kernel_rfl)) (by decide) (fun K hK => ?_)
      refine goes_ Try.func21 (by kernel_rfl) rfl #[.slice Ao50 t248.length co50, .int .i64 (wrap64 (100 + t247)), .agg #[.int .i64 2, .int .i64 (wrap64 ((wrap64 ((wrap64 (100 + t247)) - 2)) + t258)), .int .i64 (wrap64 ((wrap64 ((wrap64 ((wrap64 ((wrap64 (100 + t247)) - 2)) + t258)) + 1)) + t260))]] (by rfl) rfl rfl (by (try simp only [List.map_toArray, List.map_cons, List.map_nil]); first | done | rfl | (simp only [List.length_drop, List.length_take]; rfl)) ?_
      with_reducible refine (plan_Where.calls kj9 _ _ t248 (wrap64 (100 + t247)) 2 (wrap64 ((wrap64 ((wrap64 (100 + t247)) - 2)) + t258)) (wrap64 ((wrap64 ((wrap64 ((wrap64 ((wrap64 (100 + t247)) - 2)) + t258)) + 1)) + t260)) t263 _ ?side1 ?side2 A35.out).mono ?_
      (case side1 => repeat (first | exact (Kd.R_reads' HO_9.out).2.2 | (with_reducible refine Kd.C_alloc ?_ _) | (with_reducible refine Kd.C_drewN ?_ _) | (with_reducible refine Kd.C_drew ?_)))
      (case side2 => exact (Kd.R_reads' HO_9.out).2.1)
      rintro e w53 ⟨rfl, hb⟩
      refine ⟨_, rfl, ?_⟩
      have n0_ := Aside0.mk (Kd.R_below (by (with_reducible repeat (first | apply Kd.R_alloc | apply Kd.R_drewN | apply Kd.R_drew)); exact HO_9.out) hb)
      have n1_ := Aside0.mk (blk_below (g := gb242) (o := .cells #[.int .i64 a2_0, .int .i64 a2_1, .int .i64 a2_2] 35 (0, 0)) (by (with_reducible repeat (first | refine blk_drewN ?_ _ | refine blk_drew ?_ | refine blk_alloc ?_ _)); exact BK242.out) hb)
      have n2_ := Aside0.mk (blk_below (g := gb257) (o := .cells #[.int .i64 t254, .int .i64 t255, .int .i64 t256] 35 (0, 0)) (by (with_reducible repeat (first | refine blk_drewN ?_ _ | refine blk_drew ?_ | refine blk_alloc ?_ _)); exact BK257.out) hb)
      have n3_ := Aside0.mk (blk_below (g := gb259) (o := .cells #[.int .i64 2, .int .i64 (wrap64 ((wrap64 ((wrap64 (100 + t247)) - 2)) + t258)), .int .i64 (wrap64 ((wrap64 ((wrap64 ((wrap64 ((wrap64 (100 + t247)) - 2)) + t258)) + 1)) + t260))] 35 (0, 0)) (by (with_reducible repeat (first | refine blk_drewN ?_ _ | refine blk_drew ?_ | refine blk_alloc ?_ _)); exact BK259.out) hb)
      have n4_ := Aside0.mk (below_step (by repeat (first | (with_reducible first | exact HB.out | apply below_alloc | apply pw_below_drewN | apply below_drew1 | refine below_set ?_ GE242.out | refine below_set ?_ GE257.out | refine below_set ?_ GE259.out) | exact HB.out)) hb)
      clear HO_9
      clear BK242
      clear BK257
      clear BK259
      clear HB
      have HO_9 := n0_
      have BK242 := n1_
      have BK257 := n2_
      have BK259 := n3_
      have HB := n4_
      clear n0_ n1_ n2_ n3_ n4_
      (try clear hb)
      (try clear hb2)
      (try clear hk)
      (try clear hi)
      refine hK.out _ _ ⟨(blk_cell BK257.out 0).trans rfl, (blk_cell BK257.out 1).trans rfl, (blk_cell BK257.out 2).trans rfl, (blk_cell BK259.out 0).trans rfl, (blk_cell BK259.out 1).trans rfl, (blk_cell BK259.out 2).trans rfl⟩ (fun hHeld => ?_)
      clear hK K
      refine norm_ (a' := ?_) ?_ ?_
      rotate_left
      ·
       show Act.put _ (some 69) _ = _
       simp only [Act.put, List.setIfInBounds_toArray, List.set_cons_zero, List.set_cons_succ, i64_w, i32_w]
       rfl
      refine one_ (i := 17) (N := some 73) #[true, true, true, true, true, true, true, true, true, true, true, true, true, true, true, true, true, true, false, false, false] rfl rfl (one_of HT_.out (by kernel_rfl)) (by decide) (fun K hK => ?_)
      refine goes_ Try.func22 (by kernel_rfl) rfl #[.slice Ao50 t248.length co50, .int .i64 (wrap64 (100 + t247)), .agg #[.int .i64 2, .int .i64 (wrap64 ((wrap64 ((wrap64 (100 + t247)) - 2)) + t258)), .int .i64 (wrap64 ((wrap64 ((wrap64 ((wrap64 ((wrap64 (100 + t247)) - 2)) + t258)) + 1)) + t260))]] (by rfl) rfl rfl (by (try simp only [List.map_toArray, List.map_cons, List.map_nil]); first | done | rfl | (simp only [List.length_drop, List.length_take]; rfl)) ?_
      with_reducible refine (busbarref12_Where.calls kj9 _ _ t248 (wrap64 (100 + t247)) 2 (wrap64 ((wrap64 ((wrap64 (100 + t247)) - 2)) + t258)) (wrap64 ((wrap64 ((wrap64 ((wrap64 ((wrap64 (100 + t247)) - 2)) + t258)) + 1)) + t260)) t264 _ ?side1 ?side2 A36.out).mono ?_
      (case side1 => repeat (first | exact (Kd.R_reads' HO_9.out).2.2 | (with_reducible refine Kd.C_alloc ?_ _) | (with_reducible refine Kd.C_drewN ?_ _) | (with_reducible refine Kd.C_drew ?_)))
      (case side2 => exact (Kd.R_reads' HO_9.out).2.1)
      rintro e w54 ⟨rfl, hb⟩
      refine ⟨_, rfl, ?_⟩
      have n0_ := Aside0.mk (Kd.R_below (by (with_reducible repeat (first | apply Kd.R_alloc | apply Kd.R_drewN | apply Kd.R_drew)); exact HO_9.out) hb)
      have n1_ := Aside0.mk (blk_below (g := gb242) (o := .cells #[.int .i64 a2_0, .int .i64 a2_1, .int .i64 a2_2] 35 (0, 0)) (by (with_reducible repeat (first | refine blk_drewN ?_ _ | refine blk_drew ?_ | refine blk_alloc ?_ _)); exact BK242.out) hb)
      have n2_ := Aside0.mk (blk_below (g := gb257) (o := .cells #[.int .i64 t254, .int .i64 t255, .int .i64 t256] 35 (0, 0)) (by (with_reducible repeat (first | refine blk_drewN ?_ _ | refine blk_drew ?_ | refine blk_alloc ?_ _)); exact BK257.out) hb)
      have n3_ := Aside0.mk (blk_below (g := gb259) (o := .cells #[.int .i64 2, .int .i64 (wrap64 ((wrap64 ((wrap64 (100 + t247)) - 2)) + t258)), .int .i64 (wrap64 ((wrap64 ((wrap64 ((wrap64 ((wrap64 (100 + t247)) - 2)) + t258)) + 1)) + t260))] 35 (0, 0)) (by (with_reducible repeat (first | refine blk_drewN ?_ _ | refine blk_drew ?_ | refine blk_alloc ?_ _)); exact BK259.out) hb)
      have n4_ := Aside0.mk (below_step (by repeat (first | (with_reducible first | exact HB.out | apply below_alloc | apply pw_below_drewN | apply below_drew1 | refine below_set ?_ GE242.out | refine below_set ?_ GE257.out | refine below_set ?_ GE259.out) | exact HB.out)) hb)
      clear HO_9
      clear BK242
      clear BK257
      clear BK259
      clear HB
      have HO_9 := n0_
      have BK242 := n1_
      have BK257 := n2_
      have BK259 := n3_
      have HB := n4_
      clear n0_ n1_ n2_ n3_ n4_
      (try clear hb)
      (try clear hb2)
      (try clear hk)
      (try clear hi)
      refine hK.out _ _ ⟨(blk_cell BK257.out 0).trans rfl, (blk_cell BK257.out 1).trans rfl, (blk_cell BK257.out 2).trans rfl, (blk_cell BK259.out 0).trans rfl, (blk_cell BK259.out 1).trans rfl, (blk_cell BK259.out 2).trans rfl⟩ (fun hHeld => ?_)
      clear hK K
      refine norm_ (a' := ?_) ?_ ?_
      rotate_left
      ·
       show Act.put _ (some 73) _ = _
       simp only [Act.put, List.setIfInBounds_toArray, List.set_cons_zero, List.set_cons_succ, i64_w, i32_w]
       rfl
      refine pure_ (i := 18) (N := some 74) (v := ?_) (a' := ?_) #[true, true, true, true, true, true, true, true, true, true, true, true, true, true, true, true, true, true, true, false, false] rfl rfl (any_of HT_.out (by kernel_rfl)) (fun _ _ _ h => h) (Or.inl ⟨by rfl, ?_⟩) ?_ ?_
      rotate_left
      ·
       intro w'
       go_simp
       with_reducible rfl
      rotate_left
      ·
       simp only [Act.put, List.setIfInBounds_toArray, List.set_cons_zero, List.set_cons_succ, i64_w, i32_w]
       rfl
      refine pure_ (i := 19) (N := some 75) (v := ?_) (a' := ?_) #[true, true, true, true, true, true, true, true, true, true, true, true, true, true, true, true, true, true, true, true, false] rfl rfl (any_of HT_.out (by kernel_rfl)) (fun _ _ _ h => h) (Or.inl ⟨by rfl, ?_⟩) ?_ ?_
      rotate_left
      ·
       intro w'
       go_simp
       with_reducible rfl
      rotate_left
      ·
       simp only [Act.put, List.setIfInBounds_toArray, List.set_cons_zero, List.set_cons_succ, i64_w, i32_w]
       rfl
      refine pure_ (i := 20) (N := some 8) (v := ?_) (a' := ?_) #[true, true, true, true, true, true, true, true, true, true, true, true, true, true, true, true, true, true, true, true, true] rfl rfl (any_of HT_.out (by kernel_rfl)) (fun _ _ _ h => h) (Or.inl ⟨by rfl, ?_⟩) ?_ ?_
      rotate_left
      ·
       intro w'
       go_simp
       with_reducible rfl
      rotate_left
      ·
       simp only [Act.put, List.setIfInBounds_toArray, List.set_cons_zero, List.set_cons_succ, i64_w, i32_w]
       rfl
      refine done_ (done_of HT_.out (by kernel_rfl)) ?_
      try go_wp2
      go_ret
      exact ⟨by first | rfl | (simp [errW_none, errW_some] <;> rfl) | (simp [*, errW_none, errW_some] <;> rfl), by repeat (first | (with_reducible first | exact HB.out | apply below_alloc | apply pw_below_drewN | apply below_drew1 | refine below_set ?_ GE242.out | refine below_set ?_ GE257.out | refine below_set ?_ GE259.out) | exact HB.out)⟩
     ·
      rw [if_neg c34] at H
      have c34b0 : (t261 == t262) = false := beq_eq_false_iff_ne.mpr c34
      have c34b1 : (t261 != t262) = true := bne_iff_ne.mpr c34
      obtain rfl := Option.some.inj H
      try go_wp2_with (first | ((with_reducible refine gate_callee (f := 23) rfl ?_); refine goesL_ (some 42) rfl rfl Try.func23 (by kernel_rfl) rfl #[.int .i64 a3] rfl (by (try simp only [List.map_toArray, List.map_cons, List.map_nil]); first | done | rfl | (simp only [List.length_drop, List.length_take]; rfl)) ?_; (with_reducible refine (busbarlaw0_Span.calls a3 t254 t255 t256 _ A29.out).mono ?_); rintro e w55 ⟨rfl, hb⟩; refine ⟨_, rfl, ?_⟩; have n0_ := Aside0.mk (Kd.R_below (by (with_reducible repeat (first | apply Kd.R_alloc | apply Kd.R_drewN | apply Kd.R_drew)); exact HO_9.out) hb); have n1_ := Aside0.mk (blk_below (g := gb242) (o := .cells #[.int .i64 a2_0, .int .i64 a2_1, .int .i64 a2_2] 35 (0, 0)) (by (with_reducible repeat (first | refine blk_drewN ?_ _ | refine blk_drew ?_ | refine blk_alloc ?_ _)); exact BK242.out) hb); have n2_ := Aside0.mk (below_step (by repeat (first | (with_reducible first | exact HB.out | apply below_alloc | apply pw_below_drewN | apply below_drew1 | refine below_set ?_ GE242.out) | exact HB.out)) hb); clear HO_9; clear BK242; clear HB; have HO_9 := n0_; have BK242 := n1_; have HB := n2_; clear n0_ n1_ n2_; (try clear hb); (try clear hb2); (try clear hk); (try clear hi)) | ((with_reducible refine gate_dst (N := 11) rfl ?_); refine box_event ?hg (N := 11) ?hd (cs := #[.int .i64 0, .int .i64 0, .int .i64 0]) (t := 35) ?hr ?_; (case hd => rfl); (case hg => rfl); (case hr => first | (go_simp; done) | (go_simp; rfl)); intro gb257 hg w56 hbox hb; have n0_ := Aside0.mk (Kd.R_below (Kd.R_elderB (by (with_reducible repeat (first | apply Kd.R_alloc | apply Kd.R_drewN | apply Kd.R_drew)); exact HO_9.out) gb257 (Nat.le_of_eq hg.symm)) hb); have n1_ := Aside0.mk (blk_below (g := gb242) (o := .cells #[.int .i64 a2_0, .int .i64 a2_1, .int .i64 a2_2] 35 (0, 0)) (by (with_reducible repeat (first | refine blk_drewN ?_ _ | refine blk_drew ?_ | refine blk_alloc ?_ _)); exact BK242.out) hb); have n2_ := Aside0.mk (below_step (by repeat (first | (with_reducible first | exact HB.out | apply below_alloc | apply pw_below_drewN | apply below_drew1 | refine below_set ?_ GE242.out) | exact HB.out)) hb); have n3_ := Aside0.mk (hbox); have n4_ := Aside0.mk ((by rw [hg]; exact (below_size (by repeat (first | (with_reducible first | exact HB.out | apply below_alloc | apply pw_below_drewN | apply below_drew1 | refine below_set ?_ GE242.out) | exact HB.out))) : w.heap.size ≤ gb257)); have n5_ := Aside0.mk ((by rw [hg]; exact (below_size (by repeat (first | (with_reducible first | exact HB.out | apply below_alloc | apply pw_below_drewN | apply below_drew1 | refine below_set ?_ GE242.out) | exact HB.out))) : w.heap.size ≤ gb257)); have n6_ := Aside0.mk ((by rw [hg]; exact Nat.ne_of_lt (blk_lt (g := gb242) (o := .cells #[.int .i64 a2_0, .int .i64 a2_1, .int .i64 a2_2] 35 (0, 0)) (by (with_reducible repeat (first | refine blk_drewN ?_ _ | refine blk_drew ?_ | refine blk_alloc ?_ _)); exact BK242.out)) : gb242 ≠ gb257)); have n7_ := Aside0.mk ((by rw [hg]; exact Nat.ne_of_gt (blk_lt (g := gb242) (o := .cells #[.int .i64 a2_0, .int .i64 a2_1, .int .i64 a2_2] 35 (0, 0)) (by (with_reducible repeat (first | refine blk_drewN ?_ _ | refine blk_drew ?_ | refine blk_alloc ?_ _)); exact BK242.out)) : gb257 ≠ gb242)); clear HO_9; clear BK242; clear HB; have HO_9 := n0_; have BK242 := n1_; have HB := n2_; have BK257 := n3_; have GW257 := n4_; have GE257 := n5_; have NB242_257 := n6_; have NB257_242 := n7_; clear n0_ n1_ n2_ n3_ n4_ n5_ n6_ n7_; clear hb hbox hg; have hnb57 := NB257_242.out; have hnc57 := NB242_257.out; have hcz58_0 : w56.cell? ⟨gb257, 0, none⟩ = some (.int .i64 0) := (blk_cell BK257.out 0).trans rfl; have hcz58_1 : w56.cell? ⟨gb257, 1, none⟩ = some (.int .i64 0) := (blk_cell BK257.out 1).trans rfl; have hcz58_2 : w56.cell? ⟨gb257, 2, none⟩ = some (.int .i64 0) := (blk_cell BK257.out 2).trans rfl; have hfz58_0 := blk_frozen BK257.out 0; have hfz58_1 := blk_frozen BK257.out 1; have hfz58_2 := blk_frozen BK257.out 2) | ((with_reducible refine gate_callee (f := 13) rfl ?_); refine goesL_ (some 46) rfl rfl Try.func13 (by kernel_rfl) rfl #[.int .i64 a3, .int .i64 11] rfl (by (try simp only [List.map_toArray, List.map_cons, List.map_nil]); first | done | rfl | (simp only [List.length_drop, List.length_take]; rfl)) ?_; (with_reducible refine (busbarlaw0_Within.calls a3 11 t258 _ A30.out).mono ?_); rintro e w' ⟨rfl, ⟨nd, rfl⟩⟩; refine ⟨_, rfl, ?_⟩) | ((with_reducible refine gate_dst (N := 12) rfl ?_); refine box_event ?hg (N := 12) ?hd (cs := #[.int .i64 0, .int .i64 0, .int .i64 0]) (t := 35) ?hr ?_; (case hd => rfl); (case hg => rfl); (case hr => first | (go_simp; done) | (go_simp; rfl)); intro gb259 hg w59 hbox hb; have n0_ := Aside0.mk (Kd.R_below (Kd.R_elderB (by (with_reducible repeat (first | apply Kd.R_alloc | apply Kd.R_drewN | apply Kd.R_drew)); exact (Kd.R_mono (Kd.R_far (p := ⟨gb257, 2, none⟩) (Kd.R_far (p := ⟨gb257, 1, none⟩) (Kd.R_far (p := ⟨gb257, 0, none⟩) (Kd.R_mono HO_9.out (fun k_ hk => (⟨hk, hk.2⟩ : _ ∧ k_ ≠ gb257))) (fun _ hk => hk.2) (.int .i64 t254)) (fun _ hk => hk.2) (.int .i64 t255)) (fun _ hk => hk.2) (.int .i64 t256)) (fun _ h_ => h_.1))) gb259 (Nat.le_of_eq hg.symm)) hb); have n1_ := Aside0.mk (blk_below (g := gb242) (o := .cells #[.int .i64 a2_0, .int .i64 a2_1, .int .i64 a2_2] 35 (0, 0)) (by (with_reducible repeat (first | refine blk_drewN ?_ _ | refine blk_drew ?_ | refine blk_alloc ?_ _)); refine blk_far ?_ NB242_257.out _; (with_reducible repeat (first | refine blk_drewN ?_ _ | refine blk_drew ?_ | refine blk_alloc ?_ _)); refine blk_far ?_ NB242_257.out _; (with_reducible repeat (first | refine blk_drewN ?_ _ | refine blk_drew ?_ | refine blk_alloc ?_ _)); refine blk_far ?_ NB242_257.out _; (with_reducible repeat (first | refine blk_drewN ?_ _ | refine blk_drew ?_ | refine blk_alloc ?_ _)); exact BK242.out) hb); have n2_ := Aside0.mk (blk_below (g := gb257) (o := .cells #[.int .i64 t254, .int .i64 t255, .int .i64 t256] 35 (0, 0)) (by (with_reducible repeat (first | refine blk_drewN ?_ _ | refine blk_drew ?_ | refine blk_alloc ?_ _)); refine blk_put (cs := #[.int .i64 t254, .int .i64 t255, .int .i64 0]) ?_ 2 _ rfl; (with_reducible repeat (first | refine blk_drewN ?_ _ | refine blk_drew ?_ | refine blk_alloc ?_ _)); refine blk_put (cs := #[.int .i64 t254, .int .i64 0, .int .i64 0]) ?_ 1 _ rfl; (with_reducible repeat (first | refine blk_drewN ?_ _ | refine blk_drew ?_ | refine blk_alloc ?_ _)); refine blk_put (cs := #[.int .i64 0, .int .i64 0, .int .i64 0]) ?_ 0 _ rfl; (with_reducible repeat (first | refine blk_drewN ?_ _ | refine blk_drew ?_ | refine blk_alloc ?_ _)); exact BK257.out) hb); have n3_ := Aside0.mk (below_step (by repeat (first | (with_reducible first | exact HB.out | apply below_alloc | apply pw_below_drewN | apply below_drew1 | refine below_set ?_ GE242.out | refine below_set ?_ GE257.out) | exact HB.out)) hb); have n4_ := Aside0.mk (hbox); have n5_ := Aside0.mk ((by rw [hg]; exact (below_size (by repeat (first | (with_reducible first | exact HB.out | apply below_alloc | apply pw_below_drewN | apply below_drew1 | refine below_set ?_ GE242.out | refine below_set ?_ GE257.out) | exact HB.out))) : w.heap.size ≤ gb259)); have n6_ := Aside0.mk ((by rw [hg]; exact (below_size (by repeat (first | (with_reducible first | exact HB.out | apply below_alloc | apply pw_below_drewN | apply below_drew1 | refine below_set ?_ GE242.out | refine below_set ?_ GE257.out) | exact HB.out))) : w.heap.size ≤ gb259)); have n7_ := Aside0.mk ((by rw [hg]; exact Nat.ne_of_lt (blk_lt (g := gb242) (o := .cells #[.int .i64 a2_0, .int .i64 a2_1, .int .i64 a2_2] 35 (0, 0)) (by (with_reducible repeat (first | refine blk_drewN ?_ _ | refine blk_drew ?_ | refine blk_alloc ?_ _)); refine blk_far ?_ NB242_257.out _; (with_reducible repeat (first | refine blk_drewN ?_ _ | refine blk_drew ?_ | refine blk_alloc ?_ _)); refine blk_far ?_ NB242_257.out _; (with_reducible repeat (first | refine blk_drewN ?_ _ | refine blk_drew ?_ | refine blk_alloc ?_ _)); refine blk_far ?_ NB242_257.out _; (with_reducible repeat (first | refine blk_drewN ?_ _ | refine blk_drew ?_ | refine blk_alloc ?_ _)); exact BK242.out)) : gb242 ≠ gb259)); have n8_ := Aside0.mk ((by rw [hg]; exact Nat.ne_of_gt (blk_lt (g := gb242) (o := .cells #[.int .i64 a2_0, .int .i64 a2_1, .int .i64 a2_2] 35 (0, 0)) (by (with_reducible repeat (first | refine blk_drewN ?_ _ | refine blk_drew ?_ | refine blk_alloc ?_ _)); refine blk_far ?_ NB242_257.out _; (with_reducible repeat (first | refine blk_drewN ?_ _ | refine blk_drew ?_ | refine blk_alloc ?_ _)); refine blk_far ?_ NB242_257.out _; (with_reducible repeat (first | refine blk_drewN ?_ _ | refine blk_drew ?_ | refine blk_alloc ?_ _)); refine blk_far ?_ NB242_257.out _; (with_reducible repeat (first | refine blk_drewN ?_ _ | refine blk_drew ?_ | refine blk_alloc ?_ _)); exact BK242.out)) : gb259 ≠ gb242)); have n9_ := Aside0.mk ((by rw [hg]; exact Nat.ne_of_lt (blk_lt (g := gb257) (o := .cells #[.int .i64 t254, .int .i64 t255, .int .i64 t256] 35 (0, 0)) (by (with_reducible repeat (first | refine blk_drewN ?_ _ | refine blk_drew ?_ | refine blk_alloc ?_ _)); refine blk_put (cs := #[.int .i64 t254, .int .i64 t255, .int .i64 0]) ?_ 2 _ rfl; (with_reducible repeat (first | refine blk_drewN ?_ _ | refine blk_drew ?_ | refine blk_alloc ?_ _)); refine blk_put (cs := #[.int .i64 t254, .int .i64 0, .int .i64 0]) ?_ 1 _ rfl; (with_reducible repeat (first | refine blk_drewN ?_ _ | refine blk_drew ?_ | refine blk_alloc ?_ _)); refine blk_put (cs := #[.int .i64 0, .int .i64 0, .int .i64 0]) ?_ 0 _ rfl; (with_reducible repeat (first | refine blk_drewN ?_ _ | refine blk_drew ?_ | refine blk_alloc ?_ _)); exact BK257.out)) : gb257 ≠ gb259)); have n10_ := Aside0.mk ((by rw [hg]; exact Nat.ne_of_gt (blk_lt (g := gb257) (o := .cells #[.int .i64 t254, .int .i64 t255, .int .i64 t256] 35 (0, 0)) (by (with_reducible repeat (first | refine blk_drewN ?_ _ | refine blk_drew ?_ | refine blk_alloc ?_ _)); refine blk_put (cs := #[.int .i64 t254, .int .i64 t255, .int .i64 0]) ?_ 2 _ rfl; (with_reducible repeat (first | refine blk_drewN ?_ _ | refine blk_drew ?_ | refine blk_alloc ?_ _)); refine blk_put (cs := #[.int .i64 t254, .int .i64 0, .int .i64 0]) ?_ 1 _ rfl; (with_reducible repeat (first | refine blk_drewN ?_ _ | refine blk_drew ?_ | refine blk_alloc ?_ _)); refine blk_put (cs := #[.int .i64 0, .int .i64 0, .int .i64 0]) ?_ 0 _ rfl; (with_reducible repeat (first | refine blk_drewN ?_ _ | refine blk_drew ?_ | refine blk_alloc ?_ _)); exact BK257.out)) : gb259 ≠ gb257)); clear HO_9; clear BK242; clear BK257; clear HB; have HO_9 := n0_; have BK242 := n1_; have BK257 := n2_; have HB := n3_; have BK259 := n4_; have GW259 := n5_; have GE259 := n6_; have NB242_259 := n7_; have NB259_242 := n8_; have NB257_259 := n9_; have NB259_257 := n10_; clear n0_ n1_ n2_ n3_ n4_ n5_ n6_ n7_ n8_ n9_ n10_; clear hb hbox hg; have hnb60 := NB259_242.out; have hnc60 := NB242_259.out; have hnb61 := NB259_257.out; have hnc61 := NB257_259.out; have hcz62_0 : w59.cell? ⟨gb259, 0, none⟩ = some (.int .i64 0) := (blk_cell BK259.out 0).trans rfl; have hcz62_1 : w59.cell? ⟨gb259, 1, none⟩ = some (.int .i64 0) := (blk_cell BK259.out 1).trans rfl; have hcz62_2 : w59.cell? ⟨gb259, 2, none⟩ = some (.int .i64 0) := (blk_cell BK259.out 2).trans rfl; have hfz62_0 := blk_frozen BK259.out 0; have hfz62_1 := blk_frozen BK259.out 1; have hfz62_2 := blk_frozen BK259.out 2))
      have n0_ : Aside0 (Kd.R k35 35 (((w59.setCell ⟨gb259, 0, none⟩ (.int .i64 2)).setCell ⟨gb259, 1, none⟩ (.int .i64 (wrap64 ((wrap64 ((wrap64 (100 + t247)) - 2)) + t258)))).setCell ⟨gb259, 2, none⟩ (.int .i64 0)) w.heap.size (fun k_ => k_ ≠ gb242 ∧ k_ ≠ gb257 ∧ k_ ≠ gb259) v249 t248) := ⟨by (with_reducible repeat (first | apply Kd.R_alloc | apply Kd.R_drewN | apply Kd.R_drew)); exact Kd.R_mono (Kd.R_far (p := ⟨gb259, 2, none⟩) (Kd.R_far (p := ⟨gb259, 1, none⟩) (Kd.R_far (p := ⟨gb259, 0, none⟩) (Kd.R_mono HO_9.out (fun k_ hk => (⟨hk, hk.2⟩ : _ ∧ k_ ≠ gb259))) (fun _ hk => hk.2) (.int .i64 2)) (fun _ hk => hk.2) (.int .i64 (wrap64 ((wrap64 ((wrap64 (100 + t247)) - 2)) + t258)))) (fun _ hk => hk.2) (.int .i64 0)) (fun _ hk => ⟨hk.1.1.1, ⟨hk.1.1.2, hk.1.2⟩⟩)⟩
      have n1_ : Aside0 ((((w59.setCell ⟨gb259, 0, none⟩ (.int .i64 2)).setCell ⟨gb259, 1, none⟩ (.int .i64 (wrap64 ((wrap64 ((wrap64 (100 + t247)) - 2)) + t258)))).setCell ⟨gb259, 2, none⟩ (.int .i64 0)).heap[gb242]? = some (.cells #[.int .i64 a2_0, .int .i64 a2_1, .int .i64 a2_2] 35 (0, 0))) := ⟨by (with_reducible repeat (first | refine blk_drewN ?_ _ | refine blk_drew ?_ | refine blk_alloc ?_ _)); refine blk_far ?_ NB242_259.out _; (with_reducible repeat (first | refine blk_drewN ?_ _ | refine blk_drew ?_ | refine blk_alloc ?_ _)); refine blk_far ?_ NB242_259.out _; (with_reducible repeat (first | refine blk_drewN ?_ _ | refine blk_drew ?_ | refine blk_alloc ?_ _)); refine blk_far ?_ NB242_259.out _; (with_reducible repeat (first | refine blk_drewN ?_ _ | refine blk_drew ?_ | refine blk_alloc ?_ _)); exact BK242.out⟩
      have n2_ : Aside0 ((((w59.setCell ⟨gb259, 0, none⟩ (.int .i64 2)).setCell ⟨gb259, 1, none⟩ (.int .i64 (wrap64 ((wrap64 ((wrap64 (100 + t247)) - 2)) + t258)))).setCell ⟨gb259, 2, none⟩ (.int .i64 0)).heap[gb257]? = some (.cells #[.int .i64 t254, .int .i64 t255, .int .i64 t256] 35 (0, 0))) := ⟨by (with_reducible repeat (first | refine blk_drewN ?_ _ | refine blk_drew ?_ | refine blk_alloc ?_ _)); refine blk_far ?_ NB257_259.out _; (with_reducible repeat (first | refine blk_drewN ?_ _ | refine blk_drew ?_ | refine blk_alloc ?_ _)); refine blk_far ?_ NB257_259.out _; (with_reducible repeat (first | refine blk_drewN ?_ _ | refine blk_drew ?_ | refine blk_alloc ?_ _)); refine blk_far ?_ NB257_259.out _; (with_reducible repeat (first | refine blk_drewN ?_ _ | refine blk_drew ?_ | refine blk_alloc ?_ _)); exact BK257.out⟩
      have n3_ : Aside0 ((((w59.setCell ⟨gb259, 0, none⟩ (.int .i64 2)).setCell ⟨gb259, 1, none⟩ (.int .i64 (wrap64 ((wrap64 ((wrap64 (100 + t247)) - 2)) + t258)))).setCell ⟨gb259, 2, none⟩ (.int .i64 0)).heap[gb259]? = some (.cells #[.int .i64 2, .int .i64 (wrap64 ((wrap64 ((wrap64 (100 + t247)) - 2)) + t258)), .int .i64 0] 35 (0, 0))) := ⟨by (with_reducible repeat (first | refine blk_drewN ?_ _ | refine blk_drew ?_ | refine blk_alloc ?_ _)); refine blk_put (cs := #[.int .i64 2, .int .i64 (wrap64 ((wrap64 ((wrap64 (100 + t247)) - 2)) + t258)), .int .i64 0]) ?_ 2 _ rfl; (with_reducible repeat (first | refine blk_drewN ?_ _ | refine blk_drew ?_ | refine blk_alloc ?_ _)); refine blk_put (cs := #[.int .i64 2, .int .i64 0, .int .i64 0]) ?_ 1 _ rfl; (with_reducible repeat (first | refine blk_drewN ?_ _ | refine blk_drew ?_ | refine blk_alloc ?_ _)); refine blk_put (cs := #[.int .i64 0, .int .i64 0, .int .i64 0]) ?_ 0 _ rfl; (with_reducible repeat (first | refine blk_drewN ?_ _ | refine blk_drew ?_ | refine blk_alloc ?_ _)); exact BK259.out⟩
      have n4_ : Aside0 (Below w.heap.size w (((w59.setCell ⟨gb259, 0, none⟩ (.int .i64 2)).setCell ⟨gb259, 1, none⟩ (.int .i64 (wrap64 ((wrap64 ((wrap64 (100 + t247)) - 2)) + t258)))).setCell ⟨gb259, 2, none⟩ (.int .i64 0))) := ⟨by repeat (first | (with_reducible first | exact HB.out | apply below_alloc | apply pw_below_drewN | apply below_drew1 | refine below_set ?_ GE242.out | refine below_set ?_ GE257.out | refine below_set ?_ GE259.out) | exact HB.out)⟩
      (try clear HO_9)
      (try clear BK242)
      (try clear BK257)
      (try clear BK259)
      (try clear HB)
      first | (rw [drewN_self (((w59.setCell ⟨gb259, 0, none⟩ (.int .i64 2)).setCell ⟨gb259, 1, none⟩ (.int .i64 (wrap64 ((wrap64 ((wrap64 (100 + t247)) - 2)) + t258)))).setCell ⟨gb259, 2, none⟩ (.int .i64 0))]; generalize hq_ : World.drewN (((w59.setCell ⟨gb259, 0, none⟩ (.int .i64 2)).setCell ⟨gb259, 1, none⟩ (.int .i64 (wrap64 ((wrap64 ((wrap64 (100 + t247)) - 2)) + t258)))).setCell ⟨gb259, 2, none⟩ (.int .i64 0)) _ = w63; have m0_ : Aside0 (Kd.R k35 35 w63 w.heap.size (fun k_ => k_ ≠ gb242 ∧ k_ ≠ gb257 ∧ k_ ≠ gb259) v249 t248) := ⟨by rw [← hq_]; first | exact Kd.R_drewN n0_.out _ | exact Kd.Q_drewN n0_.out _ | exact blk_drewN n0_.out _ | exact pw_below_drewN n0_.out _ | exact Kd.S_drewN n0_.out _ | exact n0_.out⟩; have m1_ : Aside0 (w63.heap[gb242]? = some (.cells #[.int .i64 a2_0, .int .i64 a2_1, .int .i64 a2_2] 35 (0, 0))) := ⟨by rw [← hq_]; first | exact Kd.R_drewN n1_.out _ | exact Kd.Q_drewN n1_.out _ | exact blk_drewN n1_.out _ | exact pw_below_drewN n1_.out _ | exact Kd.S_drewN n1_.out _ | exact n1_.out⟩; have m2_ : Aside0 (w63.heap[gb257]? = some (.cells #[.int .i64 t254, .int .i64 t255, .int .i64 t256] 35 (0, 0))) := ⟨by rw [← hq_]; first | exact Kd.R_drewN n2_.out _ | exact Kd.Q_drewN n2_.out _ | exact blk_drewN n2_.out _ | exact pw_below_drewN n2_.out _ | exact Kd.S_drewN n2_.out _ | exact n2_.out⟩; have m3_ : Aside0 (w63.heap[gb259]? = some (.cells #[.int .i64 2, .int .i64 (wrap64 ((wrap64 ((wrap64 (100 + t247)) - 2)) + t258)), .int .i64 0] 35 (0, 0))) := ⟨by rw [← hq_]; first | exact Kd.R_drewN n3_.out _ | exact Kd.Q_drewN n3_.out _ | exact blk_drewN n3_.out _ | exact pw_below_drewN n3_.out _ | exact Kd.S_drewN n3_.out _ | exact n3_.out⟩; have m4_ : Aside0 (Below w.heap.size w w63) := ⟨by rw [← hq_]; first | exact Kd.R_drewN n4_.out _ | exact Kd.Q_drewN n4_.out _ | exact blk_drewN n4_.out _ | exact pw_below_drewN n4_.out _ | exact Kd.S_drewN n4_.out _ | exact n4_.out⟩; clear hq_ n0_ n1_ n2_ n3_ n4_; have n0_ := m0_; have n1_ := m1_; have n2_ := m2_; have n3_ := m3_; have n4_ := m4_; clear m0_ m1_ m2_ m3_ m4_) | (generalize (((w59.setCell ⟨gb259, 0, none⟩ (.int .i64 2)).setCell ⟨gb259, 1, none⟩ (.int .i64 (wrap64 ((wrap64 ((wrap64 (100 + t247)) - 2)) + t258)))).setCell ⟨gb259, 2, none⟩ (.int .i64 0)) = w63 at n0_ n1_ n2_ n3_ n4_ ⊢)
      have HO_9 := n0_
      have BK242 := n1_
      have BK257 := n2_
      have BK259 := n3_
      have HB := n4_
      clear n0_ n1_ n2_ n3_ n4_
      have n0_ := Aside0.mk (Kd.R_drew HO_9.out)
      have n1_ := Aside0.mk (blk_drew BK242.out)
      have n2_ := Aside0.mk (blk_drew BK257.out)
      have n3_ := Aside0.mk (blk_drew BK259.out)
      have n4_ := Aside0.mk (below_drew1 HB.out)
      clear HO_9
      clear BK242
      clear BK257
      clear BK259
      clear HB
      have HO_9 := n0_
      have BK242 := n1_
      have BK257 := n2_
      have BK259 := n3_
      have HB := n4_
      clear n0_ n1_ n2_ n3_ n4_
      refine start_ (n := 8) (S := fun w' => w'.cell? ⟨gb259, 0, none⟩ = some (.int .i64 2) ∧ w'.cell? ⟨gb259, 1, none⟩ = some (.int .i64 (wrap64 ((wrap64 ((wrap64 (100 + t247)) - 2)) + t258))) ∧ w'.cell? ⟨gb259, 2, none⟩ = some (.int .i64 0)) (ds := [7]) #[false, false, false, false, false, false, false, false] (by kernel_rfl) rfl rfl ⟨(blk_cell BK259.out 0).trans rfl, (blk_cell BK259.out 1).trans rfl, (blk_cell BK259.out 2).trans rfl⟩ (fun hHeld => ?_); refine with_tabW busbarlaw13_PlanWhere.tab9 busbarlaw13_PlanWhere.bits9 (fun HT_ HW_ => ?_)
      generalize w63.drew = w64 at HO_9 BK242 BK257 BK259 HB hHeld ⊢
      refine pure_ (i := 0) (N := some 49) (v := ?_) (a' := ?_) #[true, false, false, false, false, false, false, false] rfl rfl (any_of HT_.out (by kernel_rfl)) (fun _ _ _ h => h) (Or.inl ⟨by rfl, ?_⟩) ?_ ?_
      rotate_left
      ·
       intro w'
       go_simp
       with_reducible rfl
      rotate_left
      ·
       simp only [Act.put, List.setIfInBounds_toArray, List.set_cons_zero, List.set_cons_succ, i64_w, i32_w]
       rfl
      refine pure_ (i := 3) (N := some 52) (v := ?_) (a' := ?_) #[true, false, false, true, false, false, false, false] rfl rfl (any_of HT_.out (by kernel_rfl)) (fun _ _ _ h => h) (Or.inl ⟨by rfl, ?_⟩) ?_ ?_
      rotate_left
      ·
       intro w'
       go_simp
       with_reducible rfl
      rotate_left
      ·
       simp only [Act.put, List.setIfInBounds_toArray, List.set_cons_zero, List.set_cons_succ, i64_w, i32_w]
       rfl
      refine take_ (i := 1) (N := some 50) (v := ?_) (a' := ?_) #[true, true, false, true, false, false, false, false] rfl rfl (take_ofW HT_.out HW_.out (by kernel_rfl)) (fun _ _ _ h => h) (Or.inl ⟨by rfl, ?_⟩) hHeld ?_ ?_
      rotate_left
      ·
       rintro w' ⟨s0, s1, s2⟩
       go_simp
       with_reducible rfl
      rotate_left
      ·
       simp only [Act.put, List.setIfInBounds_toArray, List.set_cons_zero, List.set_cons_succ, i64_w, i32_w]
       rfl
      refine pure_ (i := 2) (N := some 51) (v := ?_) (a' := ?_) #[true, true, true, true, false, false, false, false] rfl rfl (any_of HT_.out (by kernel_rfl)) (fun _ _ _ h => h) (Or.inl ⟨by rfl, ?_⟩) ?_ ?_
      rotate_left
      ·
       intro w'
       go_simp
       with_reducible rfl
      rotate_left
      ·
       simp only [Act.put, List.setIfInBounds_toArray, List.set_cons_zero, List.set_cons_succ, i64_w, i32_w]
       rfl
      refine one_ (i := 4) (N := some 53) #[true, true, true, true, true, false, false, false] rfl rfl (one_of HT_.out (by kernel_rfl)) (by decide) (fun K hK => ?_)
      refine goes_ Try.func14 (by kernel_rfl) rfl #[.int .i64 a3, .int .i64 11, .int .i64 9] (by rfl) rfl rfl (by (try simp only [List.map_toArray, List.map_cons, List.map_nil]); first | done | rfl | (simp only [List.length_drop, List.length_take]; rfl)) ?_
      with_reducible refine (busbarlaw0_Digit.calls a3 11 9 t260 _ A31.out).mono ?_
      rintro e w' ⟨rfl, ⟨nd, rfl⟩⟩
      refine ⟨_, rfl, ?_⟩
      refine hK.out _ _ ⟨(blk_cell BK259.out 0).trans rfl, (blk_cell BK259.out 1).trans rfl, (blk_cell BK259.out 2).trans rfl⟩ (fun hHeld => ?_)
      clear hK K
      refine norm_ (a' := ?_) ?_ ?_
      rotate_left
      ·
       show Act.put _ (some 53) _ = _
       simp only [Act.put, List.setIfInBounds_toArray, List.set_cons_zero, List.set_cons_succ, i64_w, i32_w]
       rfl
      refine pure_ (i := 5) (N := some 54) (v := ?_) (a' := ?_) #[true, true, true, true, true, true, false, false] rfl rfl (any_of HT_.out (by kernel_rfl)) (fun _ _ _ h => h) (Or.inl ⟨by rfl, ?_⟩) ?_ ?_
      rotate_left
      ·
       intro w'
       go_simp
       with_reducible rfl
      rotate_left
      ·
       simp only [Act.put, List.setIfInBounds_toArray, List.set_cons_zero, List.set_cons_succ, i64_w, i32_w]
       rfl
      refine pure_ (i := 6) (N := some 55) (v := ?_) (a' := ?_) #[true, true, true, true, true, true, true, false] rfl rfl (any_of HT_.out (by kernel_rfl)) (fun _ _ _ h => h) (Or.inl ⟨by rfl, ?_⟩) ?_ ?_
      rotate_left
      ·
       intro w'
       go_simp
       with_reducible rfl
      rotate_left
      ·
       simp only [Act.put, List.setIfInBounds_toArray, List.set_cons_zero, List.set_cons_succ, i64_w, i32_w]
       rfl
      refine last_ (i := 7) (N := none) #[true, true, true, true, true, true, true, true] rfl rfl (one_of HT_.out (by kernel_rfl)) (by decide) (fun K hK => ?_)
      have hs65 : w64.cell? ⟨gb259, 2, none⟩ = some (.int .i64 0) := (blk_cell BK259.out 2).trans rfl
      have hfs65 := blk_frozen BK259.out 2
      have hns65_0 := NB242_259.out
      have hns65_1 := NB257_259.out
      have hms65_0 := NB259_242.out
      have hms65_1 := NB259_257.out
      refine skip_ (w1 := ?_) (by rfl) rfl ?_ ?_
      rotate_left
      ·
       go_simp
       rfl
      refine hK.out _ _ ?_
      clear hK K
      refine done_ (done_of HT_.out (by kernel_rfl)) ?_
      try go_wp2
      have n0_ : Aside0 (Kd.R k35 35 (w64.setCell ⟨gb259, 2, none⟩ (.int .i64 (wrap64 ((wrap64 ((wrap64 ((wrap64 ((wrap64 (100 + t247)) - 2)) + t258)) + 1)) + t260)))) w.heap.size (fun k_ => k_ ≠ gb242 ∧ k_ ≠ gb257 ∧ k_ ≠ gb259) v249 t248) := ⟨by (with_reducible repeat (first | apply Kd.R_alloc | apply Kd.R_drewN | apply Kd.R_drew)); exact Kd.R_mono (Kd.R_far (p := ⟨gb259, 2, none⟩) (Kd.R_mono HO_9.out (fun k_ hk => (⟨hk, hk.2.2⟩ : _ ∧ k_ ≠ gb259))) (fun _ hk => hk.2) (.int .i64 (wrap64 ((wrap64 ((wrap64 ((wrap64 ((wrap64 (100 + t247)) - 2)) + t258)) + 1)) + t260)))) (fun _ hk => ⟨hk.1.1, ⟨hk.1.2.1, hk.1.2.2⟩⟩)⟩
      have n1_ : Aside0 ((w64.setCell ⟨gb259, 2, none⟩ (.int .i64 (wrap64 ((wrap64 ((wrap64 ((wrap64 ((wrap64 (100 + t247)) - 2)) + t258)) + 1)) + t260)))).heap[gb242]? = some (.cells #[.int .i64 a2_0, .int .i64 a2_1, .int .i64 a2_2] 35 (0, 0))) := ⟨by (with_reducible repeat (first | refine blk_drewN ?_ _ | refine blk_drew ?_ | refine blk_alloc ?_ _)); refine blk_far ?_ NB242_259.out _; (with_reducible repeat (first | refine blk_drewN ?_ _ | refine blk_drew ?_ | refine blk_alloc ?_ _)); exact BK242.out⟩
      have n2_ : Aside0 ((w64.setCell ⟨gb259, 2, none⟩ (.int .i64 (wrap64 ((wrap64 ((wrap64 ((wrap64 ((wrap64 (100 + t247)) - 2)) + t258)) + 1)) + t260)))).heap[gb257]? = some (.cells #[.int .i64 t254, .int .i64 t255, .int .i64 t256] 35 (0, 0))) := ⟨by (with_reducible repeat (first | refine blk_drewN ?_ _ | refine blk_drew ?_ | refine blk_alloc ?_ _)); refine blk_far ?_ NB257_259.out _; (with_reducible repeat (first | refine blk_drewN ?_ _ | refine blk_drew ?_ | refine blk_alloc ?_ _)); exact BK257.out⟩
      have n3_ : Aside0 ((w64.setCell ⟨gb259, 2, none⟩ (.int .i64 (wrap64 ((wrap64 ((wrap64 ((wrap64 ((wrap64 (100 + t247)) - 2)) + t258)) + 1)) + t260)))).heap[gb259]? = some (.cells #[.int .i64 2, .int .i64 (wrap64 ((wrap64 ((wrap64 (100 + t247)) - 2)) + t258)), .int .i64 (wrap64 ((wrap64 ((wrap64 ((wrap64 ((wrap64 (100 + t247)) - 2)) + t258)) + 1)) + t260))] 35 (0, 0))) := ⟨by (with_reducible repeat (first | refine blk_drewN ?_ _ | refine blk_drew ?_ | refine blk_alloc ?_ _)); refine blk_put (cs := #[.int .i64 2, .int .i64 (wrap64 ((wrap64 ((wrap64 (100 + t247)) - 2)) + t258)), .int .i64 0]) ?_ 2 _ rfl; (with_reducible repeat (first | refine blk_drewN ?_ _ | refine blk_drew ?_ | refine blk_alloc ?_ _)); exact BK259.out⟩
      have n4_ : Aside0 (Below w.heap.size w (w64.setCell ⟨gb259, 2, none⟩ (.int .i64 (wrap64 ((wrap64 ((wrap64 ((wrap64 ((wrap64 (100 + t247)) - 2)) + t258)) + 1)) + t260))))) := ⟨by repeat (first | (with_reducible first | exact HB.out | apply below_alloc | apply pw_below_drewN | apply below_drew1 | refine below_set ?_ GE242.out | refine below_set ?_ GE257.out | refine below_set ?_ GE259.out) | exact HB.out)⟩
      (try clear HO_9)
      (try clear BK242)
      (try clear BK257)
      (try clear BK259)
      (try clear HB)
      first | (rw [drewN_self (w64.setCell ⟨gb259, 2, none⟩ (.int .i64 (wrap64 ((wrap64 ((wrap64 ((wrap64 ((wrap64 (100 + t247)) - 2)) + t258)) + 1)) + t260))))]; generalize hq_ : World.drewN (w64.setCell ⟨gb259, 2, none⟩ (.int .i64 (wrap64 ((wrap64 ((wrap64 ((wrap64 ((wrap64 (100 + t247)) - 2)) + t258)) + 1)) + t260)))) _ = w66; have m0_ : Aside0 (Kd.R k35 35 w66 w.heap.size (fun k_ => k_ ≠ gb242 ∧ k_ ≠ gb257 ∧ k_ ≠ gb259) v249 t248) := ⟨by rw [← hq_]; first | exact Kd.R_drewN n0_.out _ | exact Kd.Q_drewN n0_.out _ | exact blk_drewN n0_.out _ | exact pw_below_drewN n0_.out _ | exact Kd.S_drewN n0_.out _ | exact n0_.out⟩; have m1_ : Aside0 (w66.heap[gb242]? = some (.cells #[.int .i64 a2_0, .int .i64 a2_1, .int .i64 a2_2] 35 (0, 0))) := ⟨by rw [← hq_]; first | exact Kd.R_drewN n1_.out _ | exact Kd.Q_drewN n1_.out _ | exact blk_drewN n1_.out _ | exact pw_below_drewN n1_.out _ | exact Kd.S_drewN n1_.out _ | exact n1_.out⟩; have m2_ : Aside0 (w66.heap[gb257]? = some (.cells #[.int .i64 t254, .int .i64 t255, .int .i64 t256] 35 (0, 0))) := ⟨by rw [← hq_]; first | exact Kd.R_drewN n2_.out _ | exact Kd.Q_drewN n2_.out _ | exact blk_drewN n2_.out _ | exact pw_below_drewN n2_.out _ | exact Kd.S_drewN n2_.out _ | exact n2_.out⟩; have m3_ : Aside0 (w66.heap[gb259]? = some (.cells #[.int .i64 2, .int .i64 (wrap64 ((wrap64 ((wrap64 (100 + t247)) - 2)) + t258)), .int .i64 (wrap64 ((wrap64 ((wrap64 ((wrap64 ((wrap64 (100 + t247)) - 2)) + t258)) + 1)) + t260))] 35 (0, 0))) := ⟨by rw [← hq_]; first | exact Kd.R_drewN n3_.out _ | exact Kd.Q_drewN n3_.out _ | exact blk_drewN n3_.out _ | exact pw_below_drewN n3_.out _ | exact Kd.S_drewN n3_.out _ | exact n3_.out⟩; have m4_ : Aside0 (Below w.heap.size w w66) := ⟨by rw [← hq_]; first | exact Kd.R_drewN n4_.out _ | exact Kd.Q_drewN n4_.out _ | exact blk_drewN n4_.out _ | exact pw_below_drewN n4_.out _ | exact Kd.S_drewN n4_.out _ | exact n4_.out⟩; clear hq_ n0_ n1_ n2_ n3_ n4_; have n0_ := m0_; have n1_ := m1_; have n2_ := m2_; have n3_ := m3_; have n4_ := m4_; clear m0_ m1_ m2_ m3_ m4_) | (generalize (w64.setCell ⟨gb259, 2, none⟩ (.int .i64 (wrap64 ((wrap64 ((wrap64 ((wrap64 ((wrap64 (100 + t247)) - 2)) + t258)) + 1)) + t260)))) = w66 at n0_ n1_ n2_ n3_ n4_ ⊢)
      have HO_9 := n0_
      have BK242 := n1_
      have BK257 := n2_
      have BK259 := n3_
      have HB := n4_
      clear n0_ n1_ n2_ n3_ n4_
      (try (rw [drewN_self w66]; generalize hq_ : World.drewN w66 _ = w66; have n0_ : Aside0 (Kd.R k35 35 w66 w.heap.size (fun k_ => k_ ≠ gb242 ∧ k_ ≠ gb257 ∧ k_ ≠ gb259) v249 t248) := ⟨by rw [← hq_]; exact (by (with_reducible repeat (first | apply Kd.R_alloc | apply Kd.R_drewN | apply Kd.R_drew)); exact HO_9.out)⟩; have n1_ : Aside0 (w66.heap[gb242]? = some (.cells #[.int .i64 a2_0, .int .i64 a2_1, .int .i64 a2_2] 35 (0, 0))) := ⟨by rw [← hq_]; exact (by (with_reducible repeat (first | refine blk_drewN ?_ _ | refine blk_drew ?_ | refine blk_alloc ?_ _)); exact BK242.out)⟩; have n2_ : Aside0 (w66.heap[gb257]? = some (.cells #[.int .i64 t254, .int .i64 t255, .int .i64 t256] 35 (0, 0))) := ⟨by rw [← hq_]; exact (by (with_reducible repeat (first | refine blk_drewN ?_ _ | refine blk_drew ?_ | refine blk_alloc ?_ _)); exact BK257.out)⟩; have n3_ : Aside0 (w66.heap[gb259]? = some (.cells #[.int .i64 2, .int .i64 (wrap64 ((wrap64 ((wrap64 (100 + t247)) - 2)) + t258)), .int .i64 (wrap64 ((wrap64 ((wrap64 ((wrap64 ((wrap64 (100 + t247)) - 2)) + t258)) + 1)) + t260))] 35 (0, 0))) := ⟨by rw [← hq_]; exact (by (with_reducible repeat (first | refine blk_drewN ?_ _ | refine blk_drew ?_ | refine blk_alloc ?_ _)); exact BK259.out)⟩; have n4_ : Aside0 (Below w.heap.size w w66) := ⟨by rw [← hq_]; exact (by repeat (first | (with_reducible first | exact HB.out | apply below_alloc | apply pw_below_drewN | apply below_drew1 | refine below_set ?_ GE242.out | refine below_set ?_ GE257.out | refine below_set ?_ GE259.out) | exact HB.out))⟩; clear HO_9 BK242 BK257 BK259 HB hq_; have HO_9 := n0_; have BK242 := n1_; have BK257 := n2_; have BK259 := n3_; have HB := n4_; clear n0_ n1_ n2_ n3_ n4_))
      have n0_ := Aside0.mk (Kd.R_drew HO_9.out)
      have n1_ := Aside0.mk (blk_drew BK242.out)
      have n2_ := Aside0.mk (blk_drew BK257.out)
      have n3_ := Aside0.mk (blk_drew BK259.out)
      have n4_ := Aside0.mk (below_drew1 HB.out)
      clear HO_9
      clear BK242
      clear BK257
      clear BK259
      clear HB
      have HO_9 := n0_
      have BK242 := n1_
      have BK257 := n2_
      have BK259 := n3_
      have HB := n4_
      clear n0_ n1_ n2_ n3_ n4_
      obtain ⟨Ao68, co68, eo68⟩ := Kd.R_slice HO_9.out
      (first | subst eo68 | (injection eo68 with f1_ f2_ f3_; have f4_ := f1_.symm; have f5_ := f3_.symm; clear f1_ f2_ f3_; subst f4_; subst f5_))
      refine start_ (n := 21) (S := fun w' => w'.cell? ⟨gb257, 0, none⟩ = some (.int .i64 t254) ∧ w'.cell? ⟨gb257, 1, none⟩ = some (.int .i64 t255) ∧ w'.cell? ⟨gb257, 2, none⟩ = some (.int .i64 t256)) (ds := []) #[false, false, false, false, false, false, false, false, false, false, false, false, false, false, false, false, false, false, false, false, false] (by kernel_rfl) rfl rfl ⟨(blk_cell BK257.out 0).trans rfl, (blk_cell BK257.out 1).trans rfl, (blk_cell BK257.out 2).trans rfl⟩ (fun hHeld => ?_); refine with_tabW busbarlaw13_PlanWhere.tab10 busbarlaw13_PlanWhere.bits10 (fun HT_ HW_ => ?_)
      generalize w66.drew = w67 at HO_9 BK242 BK257 BK259 HB hHeld ⊢
      refine pure_ (i := 0) (N := some 56) (v := ?_) (a' := ?_) #[true, false, false, false, false, false, false, false, false, false, false, false, false, false, false, false, false, false, false, false, false] rfl rfl (any_of HT_.out (by kernel_rfl)) (fun _ _ _ h => h) (Or.inl ⟨by rfl, ?_⟩) ?_ ?_
      rotate_left
      ·
       intro w'
       go_simp
       with_reducible rfl
      rotate_left
      ·
       simp only [Act.put, List.setIfInBounds_toArray, List.set_cons_zero, List.set_cons_succ, i64_w, i32_w]
       rfl
      refine pure_ (i := 1) (N := some 57) (v := ?_) (a' := ?_) #[true, true, false, false, false, false, false, false, false, false, false, false, false, false, false, false, false, false, false, false, false] rfl rfl (any_of HT_.out (by kernel_rfl)) (fun _ _ _ h => h) (Or.inl ⟨by rfl, ?_⟩) ?_ ?_
      rotate_left
      ·
       intro w'
       go_simp
       with_reducible rfl
      rotate_left
      ·
       simp only [Act.put, List.setIfInBounds_toArray, List.set_cons_zero, List.set_cons_succ, i64_w, i32_w]
       rfl
      refine pure_ (i := 4) (N := some 60) (v := ?_) (a' := ?_) #[true, true, false, false, true, false, false, false, false, false, false, false, false, false, false, false, false, false, false, false, false] rfl rfl (any_of HT_.out (by kernel_rfl)) (fun _ _ _ h => h) (Or.inl ⟨by rfl, ?_⟩) ?_ ?_
      rotate_left
      ·
       intro w'
       go_simp
       with_reducible rfl
      rotate_left
      ·
       simp only [Act.put, List.setIfInBounds_toArray, List.set_cons_zero, List.set_cons_succ, i64_w, i32_w]
       rfl
      refine pure_ (i := 5) (N := some 61) (v := ?_) (a' := ?_) #[true, true, false, false, true, true, false, false, false, false, false, false, false, false, false, false, false, false, false, false, false] rfl rfl (any_of HT_.out (by kernel_rfl)) (fun _ _ _ h => h) (Or.inl ⟨by rfl, ?_⟩) ?_ ?_
      rotate_left
      ·
       intro w'
       go_simp
       with_reducible rfl
      rotate_left
      ·
       simp only [Act.put, List.setIfInBounds_toArray, List.set_cons_zero, List.set_cons_succ, i64_w, i32_w]
       rfl
      refine take_ (i := 2) (N := some 58) (v := ?_) (a' := ?_) #[true, true, true, false, true, true, false, false, false, false, false, false, false, false, false, false, false, false, false, false, false] rfl rfl (take_ofW HT_.out HW_.out (by kernel_rfl)) (fun _ _ _ h => h) (Or.inl ⟨by rfl, ?_⟩) hHeld ?_ ?_
      rotate_left
      ·
       rintro w' ⟨s0, s1, s2⟩
       go_simp
       with_reducible rfl
      rotate_left
      ·
       simp only [Act.put, List.setIfInBounds_toArray, List.set_cons_zero, List.set_cons_succ, i64_w, i32_w]
       rfl
      refine take_ (i := 6) (N := some 62) (v := ?_) (a' := ?_) #[true, true, true, false, true, true, true, false, false, false, false, false, false, false, false, false, false, false, false, false, false] rfl rfl (take_ofW HT_.out HW_.out (by kernel_rfl)) (fun _ _ _ h => h) (Or.inl ⟨by rfl, ?_⟩) hHeld ?_ ?_
      rotate_left
      ·
       rintro w' ⟨s0, s1, s2⟩
       go_simp
       with_reducible rfl
      rotate_left
      ·
       simp only [Act.put, List.setIfInBounds_toArray, List.set_cons_zero, List.set_cons_succ, i64_w, i32_w]
       rfl
      refine one_ (i := 3) (N := some 59) #[true, true, true, true, true, true, true, false, false, false, false, false, false, false, false, false, false, false, false, false, false] rfl rfl (one_of HT_.out (by kernel_rfl)) (by decide) (fun K hK => ?_)
      refine goes_ Try.func21 (by kernel_rfl) rfl #[.slice Ao68 t248.length co68, .int .i64 (wrap64 (100 + t247)), .agg #[.int .i64 t254, .int .i64 t255, .int .i64 t256]] (by rfl) rfl rfl (by (try simp only [List.map_toArray, List.map_cons, List.map_nil]); first | done | rfl | (simp only [List.length_drop, List.length_take]; rfl)) ?_
      with_reducible refine (plan_Where.calls kj9 _ _ t248 (wrap64 (100 + t247)) t254 t255 t256 t261 _ ?side1 ?side2 A32.out).mono ?_
      (case side1 => repeat (first | exact (Kd.R_reads' HO_9.out).2.2 | (with_reducible refine Kd.C_alloc ?_ _) | (with_reducible refine Kd.C_drewN ?_ _) | (with_reducible refine Kd.C_drew ?_)))
      (case side2 => exact (Kd.R_reads' HO_9.out).2.1)
      rintro e w69 ⟨rfl, hb⟩
      refine ⟨_, rfl, ?_⟩
      have n0_ := Aside0.mk (Kd.R_below (by (with_reducible repeat (first | apply Kd.R_alloc | apply Kd.R_drewN | apply Kd.R_drew)); exact HO_9.out) hb)
      have n1_ := Aside0.mk (blk_below (g := gb242) (o := .cells #[.int .i64 a2_0, .int .i64 a2_1, .int .i64 a2_2] 35 (0, 0)) (by (with_reducible repeat (first | refine blk_drewN ?_ _ | refine blk_drew ?_ | refine blk_alloc ?_ _)); exact BK242.out) hb)
      have n2_ := Aside0.mk (blk_below (g := gb257) (o := .cells #[.int .i64 t254, .int .i64 t255, .int .i64 t256] 35 (0, 0)) (by (with_reducible repeat (first | refine blk_drewN ?_ _ | refine blk_drew ?_ | refine blk_alloc ?_ _)); exact BK257.out) hb)
      have n3_ := Aside0.mk (blk_below (g := gb259) (o := .cells #[.int .i64 2, .int .i64 (wrap64 ((wrap64 ((wrap64 (100 + t247)) - 2)) + t258)), .int .i64 (wrap64 ((wrap64 ((wrap64 ((wrap64 ((wrap64 (100 + t247)) - 2)) + t258)) + 1)) + t260))] 35 (0, 0)) (by (with_reducible repeat (first | refine blk_drewN ?_ _ | refine blk_drew ?_ | refine blk_alloc ?_ _)); exact BK259.out) hb)
      have n4_ := Aside0.mk (below_step (by repeat (first | (with_reducible first | exact HB.out | apply below_alloc | apply pw_below_drewN | apply below_drew1 | refine below_set ?_ GE242.out | refine below_set ?_ GE257.out | refine below_set ?_ GE259.out) | exact HB.out)) hb)
      clear HO_9
      clear BK242
      clear BK257
      clear BK259
      clear HB
      have HO_9 := n0_
      have BK242 := n1_
      have BK257 := n2_
      have BK259 := n3_
      have HB := n4_
      clear n0_ n1_ n2_ n3_ n4_
      (try clear hb)
      (try clear hb2)
      (try clear hk)
      (try clear hi)
      refine hK.out _ _ ⟨(blk_cell BK257.out 0).trans rfl, (blk_cell BK257.out 1).trans rfl, (blk_cell BK257.out 2).trans rfl⟩ (fun hHeld => ?_)
      clear hK K
      refine norm_ (a' := ?_) ?_ ?_
      rotate_left
      ·
       show Act.put _ (some 59) _ = _
       simp only [Act.put, List.setIfInBounds_toArray, List.set_cons_zero, List.set_cons_succ, i64_w, i32_w]
       rfl
      refine one_ (i := 7) (N := some 63) #[true, true, true, true, true, true, true, true, false, false, false, false, false, false, false, false, false, false, false, false, false] rfl rfl (one_of HT_.out (by kernel_rfl)) (by decide) (fun K hK => ?_)
      refine goes_ Try.func22 (by kernel_rfl) rfl #[.slice Ao68 t248.length co68, .int .i64 (wrap64 (100 + t247)), .agg #[.int .i64 t254, .int .i64 t255, .int .i64 t256]] (by rfl) rfl rfl (by (try simp only [List.map_toArray, List.map_cons, List.map_nil]); first | done | rfl | (simp only [List.length_drop, List.length_take]; rfl)) ?_
      with_reducible refine (busbarref12_Where.calls kj9 _ _ t248 (wrap64 (100 + t247)) t254 t255 t256 t262 _ ?side1 ?side2 A33.out).mono ?_
      (case side1 => repeat (first | exact (Kd.R_reads' HO_9.out).2.2 | (with_reducible refine Kd.C_alloc ?_ _) | (with_reducible refine Kd.C_drewN ?_ _) | (with_reducible refine Kd.C_drew ?_)))
      (case side2 => exact (Kd.R_reads' HO_9.out).2.1)
      rintro e w70 ⟨rfl, hb⟩
      refine ⟨_, rfl, ?_⟩
      have n0_ := Aside0.mk (Kd.R_below (by (with_reducible repeat (first | apply Kd.R_alloc | apply Kd.R_drewN | apply Kd.R_drew)); exact HO_9.out) hb)
      have n1_ := Aside0.mk (blk_below (g := gb242) (o := .cells #[.int .i64 a2_0, .int .i64 a2_1, .int .i64 a2_2] 35 (0, 0)) (by (with_reducible repeat (first | refine blk_drewN ?_ _ | refine blk_drew ?_ | refine blk_alloc ?_ _)); exact BK242.out) hb)
      have n2_ := Aside0.mk (blk_below (g := gb257) (o := .cells #[.int .i64 t254, .int .i64 t255, .int .i64 t256] 35 (0, 0)) (by (with_reducible repeat (first | refine blk_drewN ?_ _ | refine blk_drew ?_ | refine blk_alloc ?_ _)); exact BK257.out) hb)
      have n3_ := Aside0.mk (blk_below (g := gb259) (o := .cells #[.int .i64 2, .int .i64 (wrap64 ((wrap64 ((wrap64 (100 + t247)) - 2)) + t258)), .int .i64 (wrap64 ((wrap64 ((wrap64 ((wrap64 ((wrap64 (100 + t247)) - 2)) + t258)) + 1)) + t260))] 35 (0, 0)) (by (with_reducible repeat (first | refine blk_drewN ?_ _ | refine blk_drew ?_ | refine blk_alloc ?_ _)); exact BK259.out) hb)
      have n4_ := Aside0.mk (below_step (by repeat (first | (with_reducible first | exact HB.out | apply below_alloc | apply pw_below_drewN | apply below_drew1 | refine below_set ?_ GE242.out | refine below_set ?_ GE257.out | refine below_set ?_ GE259.out) | exact HB.out)) hb)
      clear HO_9
      clear BK242
      clear BK257
      clear BK259
      clear HB
      have HO_9 := n0_
      have BK242 := n1_
      have BK257 := n2_
      have BK259 := n3_
      have HB := n4_
      clear n0_ n1_ n2_ n3_ n4_
      (try clear hb)
      (try clear hb2)
      (try clear hk)
      (try clear hi)
      refine hK.out _ _ ⟨(blk_cell BK257.out 0).trans rfl, (blk_cell BK257.out 1).trans rfl, (blk_cell BK257.out 2).trans rfl⟩ (fun hHeld => ?_)
      clear hK K
      refine norm_ (a' := ?_) ?_ ?_
      rotate_left
      ·
       show Act.put _ (some 63) _ = _
       simp only [Act.put, List.setIfInBounds_toArray, List.set_cons_zero, List.set_cons_succ, i64_w, i32_w]
       rfl
      refine pure_ (i := 8) (N := some 64) (v := ?_) (a' := ?_) #[true, true, true, true, true, true, true, true, true, false, false, false, false, false, false, false, false, false, false, false, false] rfl rfl (any_of HT_.out (by kernel_rfl)) (fun _ _ _ h => h) (Or.inl ⟨by rfl, ?_⟩) ?_ ?_
      rotate_left
      ·
       intro w'
       go_simp
       with_reducible rfl
      rotate_left
      ·
       simp only [Act.put, List.setIfInBounds_toArray, List.set_cons_zero, List.set_cons_succ, i64_w, i32_w]
       rfl
      refine pure_ (i := 9) (N := some 65) (v := ?_) (a' := ?_) #[true, true, true, true, true, true, true, true, true, true, false, false, false, false, false, false, false, false, false, false, false] rfl rfl (any_of HT_.out (by kernel_rfl)) (fun _ _ _ h => h) (Or.inl ⟨by rfl, ?_⟩) ?_ ?_
      rotate_left
      ·
       intro w'
       go_simp
       with_reducible rfl
      rotate_left
      ·
       simp only [Act.put, List.setIfInBounds_toArray, List.set_cons_zero, List.set_cons_succ, i64_w, i32_w]
       rfl
      refine pure_ (i := 10) (N := some 66) (v := undef) (a' := ?_) #[true, true, true, true, true, true, true, true, true, true, true, false, false, false, false, false, false, false, false, false, false] rfl rfl (any_of HT_.out (by kernel_rfl)) (fun _ _ _ h => h) (Or.inr ⟨by rfl, rfl⟩) ?_ ?_
      rotate_left
      ·
       simp only [Act.put, List.setIfInBounds_toArray, List.set_cons_zero, List.set_cons_succ, i64_w, i32_w]
       rfl
      refine pure_ (i := 11) (N := some 67) (v := undef) (a' := ?_) #[true, true, true, true, true, true, true, true, true, true, true, true, false, false, false, false, false, false, false, false, false] rfl rfl (any_of HT_.out (by kernel_rfl)) (fun _ _ _ h => h) (Or.inr ⟨by rfl, rfl⟩) ?_ ?_
      rotate_left
      ·
       simp only [Act.put, List.setIfInBounds_toArray, List.set_cons_zero, List.set_cons_succ, i64_w, i32_w]
       rfl
      refine pure_ (i := 12) (N := some 68) (v := undef) (a' := ?_) #[true, true, true, true, true, true, true, true, true, true, true, true, true, false, false, false, false, false, false, false, false] rfl rfl (any_of HT_.out (by kernel_rfl)) (fun _ _ _ h => h) (Or.inr ⟨by rfl, rfl⟩) ?_ ?_
      rotate_left
      ·
       simp only [Act.put, List.setIfInBounds_toArray, List.set_cons_zero, List.set_cons_succ, i64_w, i32_w]
       rfl
      refine pure_ (i := 13) (N := some 69) (v := undef) (a' := ?_) #[true, true, true, true, true, true, true, true, true, true, true, true, true, true, false, false, false, false, false, false, false] rfl rfl (any_of HT_.out (by kernel_rfl)) (fun _ _ _ h => h) (Or.inr ⟨by rfl, rfl⟩) ?_ ?_
      rotate_left
      ·
       simp only [Act.put, List.setIfInBounds_toArray, List.set_cons_zero, List.set_cons_succ, i64_w, i32_w]
       rfl
      refine pure_ (i := 14) (N := some 70) (v := undef) (a' := ?_) #[true, true, true, true, true, true, true, true, true, true, true, true, true, true, true, false, false, false, false, false, false] rfl rfl (any_of HT_.out (by kernel_rfl)) (fun _ _ _ h => h) (Or.inr ⟨by rfl, rfl⟩) ?_ ?_
      rotate_left
      ·
       simp only [Act.put, List.setIfInBounds_toArray, List.set_cons_zero, List.set_cons_succ, i64_w, i32_w]
       rfl
      refine pure_ (i := 15) (N := some 71) (v := undef) (a' := ?_) #[true, true, true, true, true, true, true, true, true, true, true, true, true, true, true, true, false, false, false, false, false] rfl rfl (any_of HT_.out (by kernel_rfl)) (fun _ _ _ h => h) (Or.inr ⟨by rfl, rfl⟩) ?_ ?_
      rotate_left
      ·
       simp only [Act.put, List.setIfInBounds_toArray, List.set_cons_zero, List.set_cons_succ, i64_w, i32_w]
       rfl
      refine pure_ (i := 16) (N := some 72) (v := undef) (a' := ?_) #[true, true, true, true, true, true, true, true, true, true, true, true, true, true, true, true, true, false, false, false, false] rfl rfl (any_of HT_.out (by kernel_rfl)) (fun _ _ _ h => h) (Or.inr ⟨by rfl, rfl⟩) ?_ ?_
      rotate_left
      ·
       simp only [Act.put, List.setIfInBounds_toArray, List.set_cons_zero, List.set_cons_succ, i64_w, i32_w]
       rfl
      refine pure_ (i := 17) (N := some 73) (v := undef) (a' := ?_) #[true, true, true, true, true, true, true, true, true, true, true, true, true, true, true, true, true, true, false, false, false] rfl rfl (any_of HT_.out (by kernel_rfl)) (fun _ _ _ h => h) (Or.inr ⟨by rfl, rfl⟩) ?_ ?_
      rotate_left
      ·
       simp only [Act.put, List.setIfInBounds_toArray, List.set_cons_zero, List.set_cons_succ, i64_w, i32_w]
       rfl
      refine pure_ (i := 18) (N := some 74) (v := undef) (a' := ?_) #[true, true, true, true, true, true, true, true, true, true, true, true, true, true, true, true, true, true, true, false, false] rfl rfl (any_of HT_.out (by kernel_rfl)) (fun _ _ _ h => h) (Or.inr ⟨by rfl, rfl⟩) ?_ ?_
      rotate_left
      ·
       simp only [Act.put, List.setIfInBounds_toArray, List.set_cons_zero, List.set_cons_succ, i64_w, i32_w]
       rfl
      refine pure_ (i := 19) (N := some 75) (v := ?_) (a' := ?_) #[true, true, true, true, true, true, true, true, true, true, true, true, true, true, true, true, true, true, true, true, false] rfl rfl (any_of HT_.out (by kernel_rfl)) (fun _ _ _ h => h) (Or.inl ⟨by rfl, ?_⟩) ?_ ?_
      rotate_left
      ·
       intro w'
       go_simp
       with_reducible rfl
      rotate_left
      ·
       simp only [Act.put, List.setIfInBounds_toArray, List.set_cons_zero, List.set_cons_succ, i64_w, i32_w]
       rfl
      refine pure_ (i := 20) (N := some 8) (v := ?_) (a' := ?_) #[true, true, true, true, true, true, true, true, true, true, true, true, true, true, true, true, true, true, true, true, true] rfl rfl (any_of HT_.out (by kernel_rfl)) (fun _ _ _ h => h) (Or.inl ⟨by rfl, ?_⟩) ?_ ?_
      rotate_left
      ·
       intro w'
       go_simp
       with_reducible rfl
      rotate_left
      ·
       simp only [Act.put, List.setIfInBounds_toArray, List.set_cons_zero, List.set_cons_succ, i64_w, i32_w]
       rfl
      refine done_ (done_of HT_.out (by kernel_rfl)) ?_
      try go_wp2
      go_ret
      exact ⟨by first | rfl | (simp [errW_none, errW_some] <;> rfl) | (simp [*, errW_none, errW_some] <;> rfl), by repeat (first | (with_reducible first | exact HB.out | apply below_alloc | apply pw_below_drewN | apply below_drew1 | refine below_set ?_ GE242.out | refine below_set ?_ GE257.out | refine below_set ?_ GE259.out) | exact HB.out)⟩
 ·
  replace c6 := Bool.eq_false_iff.mpr c6
  subst c6
  have H1 : (some false) = some r := by rw [if_neg (show ¬ (false = true) by decide)] at H; exact H
  clear H
  have H := H1
  clear H1
  obtain rfl := Option.some.inj H
  go_enter Try.func4, Try.ntmps4
  go_wp2_with (first | ((with_reducible refine gate_dst (N := 6) rfl ?_); refine box_event ?hg (N := 6) ?hd (cs := #[.int .i64 a2_0, .int .i64 a2_1, .int .i64 a2_2]) (t := 35) ?hr ?_; (case hd => rfl); (case hg => rfl); (case hr => first | (go_simp; done) | (go_simp; rfl)); intro gb242 hg w71 hbox hb; have n0_ := Aside0.mk (below_step (by repeat (first | (with_reducible first | exact HB.out | apply below_alloc | apply pw_below_drewN | apply below_drew1) | exact HB.out)) hb); have n1_ := Aside0.mk (hbox); have n2_ := Aside0.mk ((by rw [hg]; exact (below_size (by repeat (first | (with_reducible first | exact HB.out | apply below_alloc | apply pw_below_drewN | apply below_drew1) | exact HB.out))) : w.heap.size ≤ gb242)); have n3_ := Aside0.mk ((by rw [hg]; exact (below_size (by repeat (first | (with_reducible first | exact HB.out | apply below_alloc | apply pw_below_drewN | apply below_drew1) | exact HB.out))) : w.heap.size ≤ gb242)); clear HB; have HB := n0_; have BK242 := n1_; have GW242 := n2_; have GE242 := n3_; clear n0_ n1_ n2_ n3_; clear hb hbox hg) | ((with_reducible refine gate_callee (f := 12) rfl ?_); refine goesL_ (some 13) rfl rfl Try.func12 (by kernel_rfl) rfl #[] rfl (by (try simp only [List.map_toArray, List.map_cons, List.map_nil]); first | done | rfl | (simp only [List.length_drop, List.length_take]; rfl)) ?_; (with_reducible refine (busbarlaw13_awake.calls k  false _ A5.out).mono ?_); rintro e w72 ⟨rfl, hb⟩; refine ⟨_, rfl, ?_⟩; have n0_ := Aside0.mk (blk_below (g := gb242) (o := .cells #[.int .i64 a2_0, .int .i64 a2_1, .int .i64 a2_2] 35 (0, 0)) (by (with_reducible repeat (first | refine blk_drewN ?_ _ | refine blk_drew ?_ | refine blk_alloc ?_ _)); exact BK242.out) hb); have n1_ := Aside0.mk (below_step (by repeat (first | (with_reducible first | exact HB.out | apply below_alloc | apply pw_below_drewN | apply below_drew1 | refine below_set ?_ GE242.out) | exact HB.out)) hb); clear BK242; clear HB; have BK242 := n0_; have HB := n1_; clear n0_ n1_; (try clear hb); (try clear hb2); (try clear hk); (try clear hi)))
  go_ret
  exact ⟨by first | rfl | (simp [errW_none, errW_some] <;> rfl) | (simp [*, errW_none, errW_some] <;> rfl), by repeat (first | (with_reducible first | exact HB.out | apply below_alloc | apply pw_below_drewN | apply below_drew1 | refine below_set ?_ GE242.out) | exact HB.out)⟩

/-- THE ONE PURE STATEMENT of busbarlaw13_PlanWhere: yours. -/
def busbarlaw13_PlanWhere.Pure : Prop := ∀ (l0 : List Int) (a1 : Int) (a2_0 : Int) (a2_1 : Int) (a2_2 : Int) (a3 : Int), l0.length ≤ maxLen → l0.length * 8 ≤ 140737488351232 → (∀ x ∈ l0, (Lit.int .i64 x).wf = true) → (Lit.int .i64 a1).wf = true → (Lit.int .i64 a2_0).wf = true → (Lit.int .i64 a2_1).wf = true → (Lit.int .i64 a2_2).wf = true → (Lit.int .i64 a3).wf = true → ∃ k, busbarlaw13_PlanWhere.f k l0 a1 a2_0 a2_1 a2_2 a3 = some true
theorem busbarlaw13_PlanWhere.walk (P : busbarlaw13_PlanWhere.Pure) (a0 : Option Addr) (len0 cap0 : Nat) (z0 : List Int) (a1 : Int) (a2_0 : Int) (a2_1 : Int) (a2_2 : Int) (a3 : Int) (w : World) (w0 : (a0 = none ∧ len0 = 0 ∧ cap0 = 0 ∧ z0 = []) ∨ ∃ x, a0 = some x ∧ len0 ≤ cap0 ∧ cap0 ≤ maxLen ∧ z0.length = cap0 ∧ (∀ i, i < z0.length → w.cell? (x.add i) = some (.int .i64 (z0.getD i 0))) ∧ ∀ n ∈ z0, (Lit.int .i64 n).wf = true) (y0 : len0 * 8 ≤ 140737488351232) (w1 : (Lit.int .i64 a1).wf = true) (w2_0 : (Lit.int .i64 a2_0).wf = true) (w2_1 : (Lit.int .i64 a2_1).wf = true) (w2_2 : (Lit.int .i64 a2_2).wf = true) (w3 : (Lit.int .i64 a3).wf = true) :
  Calls Try.prog 4 #[.slice a0 len0 cap0, .int .i64 a1, .agg #[.int .i64 a2_0, .int .i64 a2_1, .int .i64 a2_2], .int .i64 a3] w fun e w' => e = .returned (.bool true) ∧ Below w.heap.size w w' := by
 obtain ⟨l0, rfl, hr0, hm0, hw0, hc0⟩ := ReadsInt.ofRowC w0
 obtain ⟨k, h⟩ := P l0 a1 a2_0 a2_1 a2_2 a3 hm0 y0 hw0 w1 w2_0 w2_1 w2_2 w3
 refine (busbarlaw13_PlanWhere.calls k _ _ l0 a1 a2_0 a2_1 a2_2 a3 true w (Kd.C_of_reads (d := (0 : Int)) (h1 := fun _ => rfl) hr0) hc0 h).mono ?_
 rintro e w' ⟨rfl, hd⟩
 exact ⟨rfl, hd⟩

end Go.Proofs.Ytgmoecbecllpiaa.PPlan
