-- written by a program of this session (wip/pp) over the kit's print.py; Lean checks it
import Derived.Test.YtkioalfallhegaaPSpanLx0
import Derived.Test.YtkioalfallhegaaPSpanLx2
import Derived.Test.YtkioalfallhegaaPSpanLx4
import Derived.Test.YtkioalfallhegaaPSpanLx6
import Derived.Test.YtkioalfallhegaaPSpanLx7
import Derived.Test.YtkioalfallhegaaPSpanLx8
import Derived.Test.YtkioalfallhegaaPSpanLx9
import Derived.Test.YtkioalfallhegaaPSpanLx10
import Derived.Test.YtkioalfallhegaaPSpanLx13
namespace Go.Proofs.Ytkioalfallhegaa.PSpanL
open Go.RowKit Go.Proofs.YtkioalfallhegaaW.PrintWords Go.Proofs.YtkioalfallhegaaW.PrintLast Go.Proofs.YtkioalfallhegaaW.PrintMore
attribute [local go_sem] max2_int min2_int max_two min_two max_three min_three max_four min_four plus_setCell_drewN plus_cell_same   -- for this text's walks alone
set_option linter.unusedVariables false
set_option linter.unusedSimpArgs false

/-! ### busbarlaw12_SpanTells: function 6 -/
mutual
def busbarlaw12_SpanTells.j0 : Nat → List (S47) → List Int → Int → Int → Bool → Int → Int → Int → Option (Bool)
 | 0, _, _, _, _, _, _, _, _ => none
 | k + 1, x1, x2, x3, x4, x20, x233000, x233001, x233002 => if x20 = true then ((busbarlaw12_awake.f k).bind fun t234 => (some t234)) else ((busbarlaw0_LentSpans.f k x1).bind fun t235 => ((span_Right.f x233000 x233001 x233002).bind fun t238 => ((busbarref12_Right.f x233000 x233001 x233002).bind fun t239 => (if (t238 != t239) = true then (busbarlaw12_SpanTells.j1 k x2 x3 x4 true) else ((span_Canon.f k t235).bind fun t240 => ((busbarref12_Canon.f k x1).bind fun t241 => (if (t240 != t241) = true then (busbarlaw12_SpanTells.j1 k x2 x3 x4 true) else ((busbarlaw0_StaysSpans.f k t235 x1).bind fun t242 => (busbarlaw12_SpanTells.j1 k x2 x3 x4 (!t242))))))))))
def busbarlaw12_SpanTells.j1 : Nat → List Int → Int → Int → Bool → Option (Bool)
 | 0, _, _, _, _ => none
 | k + 1, x2, x3, x4, x41 => if x41 = true then (some false) else ((busbarlaw0_Spans.f k x2).bind fun t243 => ((span_Canon.f k t243).bind fun t246 => (if t246 = true then (if (t243.length : Int) = 0 then (some true) else ((busbarlaw0_Digit.f x3 4 (t243.length : Int)).bind fun t247 => ((busbarlaw0_Within.f x3 4).bind fun t248 => (if t248 = 0 then (if 0 ≤ t247 then (if t247 < (t243.length : Int) then ((some (t243.set (t247 : Int).toNat (⟨x4, (rd_T47 t243 t247).f1, (rd_T47 t243 t247).f2⟩ : S47) : List (S47))).bind fun y249 => ((span_Canon.f k y249).bind fun t250 => ((busbarref12_Canon.f k y249).bind fun t251 => (some (t250 == t251))))) else (none)) else (none)) else (if t248 = 1 then (if 0 ≤ t247 then (if t247 < (t243.length : Int) then ((some (t243.set (t247 : Int).toNat (⟨(rd_T47 t243 t247).f0, x4, (rd_T47 t243 t247).f2⟩ : S47) : List (S47))).bind fun y252 => ((span_Canon.f k y252).bind fun t253 => ((busbarref12_Canon.f k y252).bind fun t254 => (some (t253 == t254))))) else (none)) else (none)) else (if t248 = 2 then (if 0 ≤ t247 then (if t247 < (t243.length : Int) then ((some (t243.set (t247 : Int).toNat (⟨(rd_T47 t243 t247).f0, (rd_T47 t243 t247).f1, x4⟩ : S47) : List (S47))).bind fun y255 => ((span_Canon.f k y255).bind fun t256 => ((busbarref12_Canon.f k y255).bind fun t257 => (some (t256 == t257))))) else (none)) else (none)) else (if t248 = 3 then (if 0 ≤ t247 then (if t247 < (t243.length : Int) then (if t243.length < 5864062014805 then ((some (t243 ++ [(⟨(rd_T47 t243 t247).f0, (rd_T47 t243 t247).f1, (rd_T47 t243 t247).f2⟩ : S47)] : List (S47))).bind fun y259 => ((span_Canon.f k y259).bind fun t262 => ((busbarref12_Canon.f k y259).bind fun t263 => (some (t262 == t263))))) else (none)) else (none)) else (none)) else ((span_Canon.f k t243).bind fun t264 => ((busbarref12_Canon.f k t243).bind fun t265 => (some (t264 == t265))))))))))) else (some false))))
end
def busbarlaw12_SpanTells.f (k : Nat) (a0_0 : Int) (a0_1 : Int) (a0_2 : Int) (l1 : List (S47)) (l2 : List Int) (a3 : Int) (a4 : Int) : Option (Bool) := if (l1.length : Int) > 40 then (busbarlaw12_SpanTells.j0 k l1 l2 a3 a4 true a0_0 a0_1 a0_2) else ((busbarlaw12_awake.f k).bind fun t233 => (busbarlaw12_SpanTells.j0 k l1 l2 a3 a4 (!t233) a0_0 a0_1 a0_2))
theorem busbarlaw12_SpanTells.mono_l : ∀ k, (∀ y0 y1 y2 y3 y4 y5 y6 y7, LeO (busbarlaw12_SpanTells.j0 k y0 y1 y2 y3 y4 y5 y6 y7) (busbarlaw12_SpanTells.j0 (k + 1) y0 y1 y2 y3 y4 y5 y6 y7)) ∧ (∀ y0 y1 y2 y3, LeO (busbarlaw12_SpanTells.j1 k y0 y1 y2 y3) (busbarlaw12_SpanTells.j1 (k + 1) y0 y1 y2 y3))
 | 0 => ⟨fun _ _ _ _ _ _ _ _ r h => by simp [busbarlaw12_SpanTells.j0] at h, fun _ _ _ _ r h => by simp [busbarlaw12_SpanTells.j1] at h⟩
 | k + 1 => by
  obtain ⟨ih0, ih1⟩ := busbarlaw12_SpanTells.mono_l k
  refine ⟨?_, ?_⟩
  ·
   intro y0 y1 y2 y3 y4 y5 y6 y7
   unfold busbarlaw12_SpanTells.j0
   repeat' first
   | (with_reducible exact ih0 _ _ _ _ _ _ _ _)
   | (with_reducible exact ih1 _ _ _ _)
   | (with_reducible exact busbarlaw0_LentSpans.mono _ _)
   | (with_reducible exact busbarlaw0_Spans.mono _ _)
   | (with_reducible exact busbarlaw0_StaysSpans.mono _ _ _)
   | (with_reducible exact busbarlaw12_awake.mono _)
   | (with_reducible exact busbarref12_Canon.mono _ _)
   | (with_reducible exact span_Canon.mono _ _)
   | (with_reducible exact LeO.refl _)
   | (with_reducible exact LeO.none _)
   | (with_reducible refine LeO.ite ?_ ?_)
   | (with_reducible refine LeO.bind ?_ (fun _ => ?_))
   | exact ih0 _ _ _ _ _ _ _ _
   | exact ih1 _ _ _ _
   | exact busbarlaw0_LentSpans.mono _ _
   | exact busbarlaw0_Spans.mono _ _
   | exact busbarlaw0_StaysSpans.mono _ _ _
   | exact busbarlaw12_awake.mono _
   | exact busbarref12_Canon.mono _ _
   | exact span_Canon.mono _ _
   | exact LeO.none _
   | refine LeO.ite ?_ ?_
   | refine LeO.bind ?_ (fun _ => ?_)
  ·
   intro y0 y1 y2 y3
   unfold busbarlaw12_SpanTells.j1
   repeat' first
   | (with_reducible exact ih0 _ _ _ _ _ _ _ _)
   | (with_reducible exact ih1 _ _ _ _)
   | (with_reducible exact busbarlaw0_LentSpans.mono _ _)
   | (with_reducible exact busbarlaw0_Spans.mono _ _)
   | (with_reducible exact busbarlaw0_StaysSpans.mono _ _ _)
   | (with_reducible exact busbarlaw12_awake.mono _)
   | (with_reducible exact busbarref12_Canon.mono _ _)
   | (with_reducible exact span_Canon.mono _ _)
   | (with_reducible exact LeO.refl _)
   | (with_reducible exact LeO.none _)
   | (with_reducible refine LeO.ite ?_ ?_)
   | (with_reducible refine LeO.bind ?_ (fun _ => ?_))
   | exact ih0 _ _ _ _ _ _ _ _
   | exact ih1 _ _ _ _
   | exact busbarlaw0_LentSpans.mono _ _
   | exact busbarlaw0_Spans.mono _ _
   | exact busbarlaw0_StaysSpans.mono _ _ _
   | exact busbarlaw12_awake.mono _
   | exact busbarref12_Canon.mono _ _
   | exact span_Canon.mono _ _
   | exact LeO.none _
   | refine LeO.ite ?_ ?_
   | refine LeO.bind ?_ (fun _ => ?_)
theorem busbarlaw12_SpanTells.mono : ∀ a0 a1 a2 a3 a4 a5 a6 k, LeO (busbarlaw12_SpanTells.f k a0 a1 a2 a3 a4 a5 a6) (busbarlaw12_SpanTells.f (k + 1) a0 a1 a2 a3 a4 a5 a6) := by
 intro a0 a1 a2 a3 a4 a5 a6 k
 obtain ⟨ih0, ih1⟩ := busbarlaw12_SpanTells.mono_l k
 unfold busbarlaw12_SpanTells.f
 repeat' first
   | (with_reducible exact ih0 _ _ _ _ _ _ _ _)
   | (with_reducible exact ih1 _ _ _ _)
   | (with_reducible exact busbarlaw0_LentSpans.mono _ _)
   | (with_reducible exact busbarlaw0_Spans.mono _ _)
   | (with_reducible exact busbarlaw0_StaysSpans.mono _ _ _)
   | (with_reducible exact busbarlaw12_awake.mono _)
   | (with_reducible exact busbarref12_Canon.mono _ _)
   | (with_reducible exact span_Canon.mono _ _)
   | (with_reducible exact LeO.refl _)
   | (with_reducible exact LeO.none _)
   | (with_reducible refine LeO.ite ?_ ?_)
   | (with_reducible refine LeO.bind ?_ (fun _ => ?_))
   | exact ih0 _ _ _ _ _ _ _ _
   | exact ih1 _ _ _ _
   | exact busbarlaw0_LentSpans.mono _ _
   | exact busbarlaw0_Spans.mono _ _
   | exact busbarlaw0_StaysSpans.mono _ _ _
   | exact busbarlaw12_awake.mono _
   | exact busbarref12_Canon.mono _ _
   | exact span_Canon.mono _ _
   | exact LeO.none _
   | refine LeO.ite ?_ ?_
   | refine LeO.bind ?_ (fun _ => ?_)
def busbarlaw12_SpanTells.T4 : Bool × List (List Nat × List Nat) := (true, [([], []), ([0], [0]), ([], []), ([2, 1], [2]), ([1, 3], [1, 3]), ([4, 3], [4]), ([5], [5]), ([6, 5, 5], [5, 6]), ([5], [5]), ([8, 7, 5], [5, 8]), ([7, 9, 5], [5, 7, 9]), ([5, 10], [5, 10]), ([11, 9], [11]), ([12], [12]), ([12], [12]), ([13, 14, 12, 12], [12, 13, 14]), ([15, 12], [12, 15]), ([12, 16], [12, 16])])
def busbarlaw12_SpanTells.B4 : List Nat := [0, 1, 0, 7, 15, 31, 63, 127, 63, 511, 1023, 2047, 4095, 8191, 8191, 32767, 65535, 131071]
theorem busbarlaw12_SpanTells.tab4 : rtab .any (opsOf Try.f6 4) = busbarlaw12_SpanTells.T4 := by kernel_rfl
theorem busbarlaw12_SpanTells.bits4 : waitsOk busbarlaw12_SpanTells.T4.2 busbarlaw12_SpanTells.B4 = true := by kernel_rfl
set_option maxHeartbeats 8000000 in
set_option maxRecDepth 100000 in
theorem busbarlaw12_SpanTells.calls (k : Nat) (a0_0 : Int) (a0_1 : Int) (a0_2 : Int) (A1 : Option Addr) (c1 : Nat) (l1 : List (S47)) (A2 : Option Addr) (c2 : Nat) (l2 : List Int) (a3 : Int) (a4 : Int) (r : Bool) (w : World) (hr1 : Kd.C k47 w A1 l1.length l1) (hc1 : l1.length ≤ c1) (hr2 : Kd.C (Kd.int .i64) w A2 l2.length l2) (hc2 : l2.length ≤ c2) (h : busbarlaw12_SpanTells.f k a0_0 a0_1 a0_2 l1 l2 a3 a4 = some r) :
  Calls Try.prog 6 #[.agg #[.int .i64 a0_0, .int .i64 a0_1, .int .i64 a0_2], .slice A1 l1.length c1, .slice A2 l2.length c2, .int .i64 a3, .int .i64 a4] w fun e w' => e = .returned (.bool r) ∧ Below w.heap.size w w' := by
 have hu47 := Try.underlying47
 have HR1 := Aside0.mk hr1
 have HC1 := Aside0.mk hc1
 clear hr1 hc1
 have HR2 := Aside0.mk hr2
 have HC2 := Aside0.mk hc2
 clear hr2 hc2
 have HB := Aside0.mk (Below.refl w.heap.size w)
 have H : (if (l1.length : Int) > 40 then (busbarlaw12_SpanTells.j0 k l1 l2 a3 a4 true a0_0 a0_1 a0_2) else ((busbarlaw12_awake.f k).bind fun t233 => (busbarlaw12_SpanTells.j0 k l1 l2 a3 a4 (!t233) a0_0 a0_1 a0_2))) = some r := h
 clear h
 have HC6 := Aside0.mk H
 clear H
 go_enter Try.func6, Try.ntmps6
 go_upto_region 1 with (first | ((with_reducible refine gate_dst (N := 5) rfl ?_); refine box_event ?hg (N := 5) ?hd (cs := #[.int .i64 a0_0, .int .i64 a0_1, .int .i64 a0_2]) (t := 47) ?hr ?_; (case hd => rfl); (case hg => rfl); (case hr => first | (go_simp; done) | (go_simp; rfl)); intro gb232 hg w7 hbox hb; have n0_ := Aside0.mk (below_step (by repeat (first | (with_reducible first | exact HB.out | apply below_alloc | apply pw_below_drewN | apply below_drew1) | exact HB.out)) hb); have n1_ := Aside0.mk (hbox); have n2_ := Aside0.mk ((by rw [hg]; exact (below_size (by repeat (first | (with_reducible first | exact HB.out | apply below_alloc | apply pw_below_drewN | apply below_drew1) | exact HB.out))) : w.heap.size ≤ gb232)); have n3_ := Aside0.mk ((by rw [hg]; exact (below_size (by repeat (first | (with_reducible first | exact HB.out | apply below_alloc | apply pw_below_drewN | apply below_drew1) | exact HB.out))) : w.heap.size ≤ gb232)); clear HB; have HB := n0_; have BK232 := n1_; have GW232 := n2_; have GE232 := n3_; clear n0_ n1_ n2_ n3_; clear hb hbox hg))
 (try simp only [Act.put, List.setIfInBounds_toArray, List.set_cons_zero, List.set_cons_succ])
 go_cut [20] (fun v20 wc => ∃ (kq : Nat) (x20_5 : Bool), v20 = .bool x20_5 ∧ Aside0 (busbarlaw12_SpanTells.j0 kq l1 l2 a3 a4 x20_5 a0_0 a0_1 a0_2 = some r) ∧ Aside0 (kq ≤ k) ∧ Aside0 (wc.heap[gb232]? = some (.cells #[.int .i64 a0_0, .int .i64 a0_1, .int .i64 a0_2] 47 (0, 0))) ∧ Aside0 (Below w.heap.size w wc))
 case first =>
  have H := HC6.out
  clear HC6
  by_cases c8 : (l1.length : Int) > 40
  ·
   rw [if_pos c8] at H
   have c8b0 : decide (40 < (l1.length : Int)) = true := decide_eq_true c8
   have c8b1 : decide (40 < l1.length) = true := decide_eq_true (by omega)
   clear c8
   (first | rw [c8b0] | (simp only [i64_w, i32_w]; rw [c8b0]) | skip)
   have H' := Aside0.mk H
   clear H
   go_wp2
   go_meet
   case rel => exact ⟨_, (true), (by first | rfl | (simp; done) | (simp [*]; done)), H', ⟨by first | omega | exact Nat.le_refl _⟩, ⟨by (with_reducible repeat (first | refine blk_drewN ?_ _ | refine blk_drew ?_ | refine blk_alloc ?_ _)); exact BK232.out⟩, ⟨by repeat (first | (with_reducible first | exact HB.out | apply below_alloc | apply pw_below_drewN | apply below_drew1 | refine below_set ?_ GE232.out) | exact HB.out)⟩⟩
  ·
   rw [if_neg c8] at H
   have c8b0 : decide (40 < (l1.length : Int)) = false := decide_eq_false c8
   have c8b1 : decide (40 < l1.length) = false := decide_eq_false (by omega)
   clear c8
   (first | rw [c8b0] | (simp only [i64_w, i32_w]; rw [c8b0]) | skip)
   replace H := Option.bind_eq_some_iff.mp H
   obtain ⟨t233, A90, H⟩ := H
   replace H : (busbarlaw12_SpanTells.j0 k l1 l2 a3 a4 (!t233) a0_0 a0_1 a0_2) = some r := H
   have A9 := Aside0.mk A90
   clear A90
   have H' := Aside0.mk H
   clear H
   go_wp2_with (first | (go_at_call 23; (with_reducible refine (busbarlaw12_awake.calls k  t233 _ A9.out).mono ?_); rintro e w10 ⟨rfl, hb⟩; have n0_ := Aside0.mk (blk_below (g := gb232) (o := .cells #[.int .i64 a0_0, .int .i64 a0_1, .int .i64 a0_2] 47 (0, 0)) (by (with_reducible repeat (first | refine blk_drewN ?_ _ | refine blk_drew ?_ | refine blk_alloc ?_ _)); exact BK232.out) hb); have n1_ := Aside0.mk (below_step (by repeat (first | (with_reducible first | exact HB.out | apply below_alloc | apply pw_below_drewN | apply below_drew1 | refine below_set ?_ GE232.out) | exact HB.out)) hb); clear BK232; clear HB; have BK232 := n0_; have HB := n1_; clear n0_ n1_; (try clear hb); (try clear hb2); (try clear hk); (try clear hi)))
   go_meet
   case rel => exact ⟨_, (!t233), (by first | rfl | (simp; done) | (simp [*]; done)), H', ⟨by first | omega | exact Nat.le_refl _⟩, ⟨by (with_reducible repeat (first | refine blk_drewN ?_ _ | refine blk_drew ?_ | refine blk_alloc ?_ _)); exact BK232.out⟩, ⟨by repeat (first | (with_reducible first | exact HB.out | apply below_alloc | apply pw_below_drewN | apply below_drew1 | refine below_set ?_ GE232.out) | exact HB.out)⟩⟩
 case rest =>
  clear HC6
  try clear c1
  try clear c2
  try clear p2
  try clear c6
  try clear c8
  try clear c8b0
  try clear c8b1
  obtain ⟨kq, x20_5, rfl, HA, HJ5, BK232, HB⟩ := hcut
  cases kq with
  | zero => exact absurd HA.out (by simp [busbarlaw12_SpanTells.j0])
  | succ kj5 =>
   have H := HA.out
   clear HA
   simp only [busbarlaw12_SpanTells.j0] at H
   by_cases c11 : x20_5 = true
   ·
    subst c11
    have H1 : ((busbarlaw12_awake.f kj5).bind fun t234 => (some t234)) = some r := by rw [if_pos rfl] at H; exact H
    clear H
    have H := H1
    clear H1
    replace H := Option.bind_eq_some_iff.mp H
    obtain ⟨t234, A120, H⟩ := H
    replace H : (some t234) = some r := H
    have A12 := Aside0.mk A120
    clear A120
    obtain rfl := Option.some.inj H
    go_wp2_with (first | ((with_reducible refine gate_callee (f := 23) rfl ?_); refine goesL_ (some 21) rfl rfl Try.func23 (by kernel_rfl) rfl #[] rfl (by (try simp only [List.map_toArray, List.map_cons, List.map_nil]); first | done | rfl | (simp only [List.length_drop, List.length_take]; rfl)) ?_; (with_reducible refine (busbarlaw12_awake.calls kj5  t234 _ A12.out).mono ?_); rintro e w13 ⟨rfl, hb⟩; refine ⟨_, rfl, ?_⟩; have n0_ := Aside0.mk (blk_below (g := gb232) (o := .cells #[.int .i64 a0_0, .int .i64 a0_1, .int .i64 a0_2] 47 (0, 0)) (by (with_reducible repeat (first | refine blk_drewN ?_ _ | refine blk_drew ?_ | refine blk_alloc ?_ _)); exact BK232.out) hb); have n1_ := Aside0.mk (below_step (by repeat (first | (with_reducible first | exact HB.out | apply below_alloc | apply pw_below_drewN | apply below_drew1 | refine below_set ?_ GE232.out) | exact HB.out)) hb); clear BK232; clear HB; have BK232 := n0_; have HB := n1_; clear n0_ n1_; (try clear hb); (try clear hb2); (try clear hk); (try clear hi)))
    go_ret
    exact ⟨by first | rfl | (simp [errW_none, errW_some] <;> rfl) | (simp [*, errW_none, errW_some] <;> rfl), by repeat (first | (with_reducible first | exact HB.out | apply below_alloc | apply pw_below_drewN | apply below_drew1 | refine below_set ?_ GE232.out) | exact HB.out)⟩
   ·
    replace c11 := Bool.eq_false_iff.mpr c11
    subst c11
    have H1 : ((busbarlaw0_LentSpans.f kj5 l1).bind fun t235 => ((span_Right.f a0_0 a0_1 a0_2).bind fun t238 => ((busbarref12_Right.f a0_0 a0_1 a0_2).bind fun t239 => (if (t238 != t239) = true then (busbarlaw12_SpanTells.j1 kj5 l2 a3 a4 true) else ((span_Canon.f kj5 t235).bind fun t240 => ((busbarref12_Canon.f kj5 l1).bind fun t241 => (if (t240 != t241) = true then (busbarlaw12_SpanTells.j1 kj5 l2 a3 a4 true) else ((busbarlaw0_StaysSpans.f kj5 t235 l1).bind fun t242 => (busbarlaw12_SpanTells.j1 kj5 l2 a3 a4 (!t242)))))))))) = some r := by rw [if_neg (show ¬ (false = true) by decide)] at H; exact H
    clear H
    have H := H1
    clear H1
    replace H := Option.bind_eq_some_iff.mp H
    obtain ⟨t235, A140, H⟩ := H
    replace H : ((span_Right.f a0_0 a0_1 a0_2).bind fun t238 => ((busbarref12_Right.f a0_0 a0_1 a0_2).bind fun t239 => (if (t238 != t239) = true then (busbarlaw12_SpanTells.j1 kj5 l2 a3 a4 true) else ((span_Canon.f kj5 t235).bind fun t240 => ((busbarref12_Canon.f kj5 l1).bind fun t241 => (if (t240 != t241) = true then (busbarlaw12_SpanTells.j1 kj5 l2 a3 a4 true) else ((busbarlaw0_StaysSpans.f kj5 t235 l1).bind fun t242 => (busbarlaw12_SpanTells.j1 kj5 l2 a3 a4 (!t242))))))))) = some r := H
    have A14 := Aside0.mk A140
    clear A140
    have HC15 := Aside0.mk H
    clear H
    go_upto_region 4 with (first | ((with_reducible refine gate_callee (f := 24) rfl ?_); refine goesL_ (some 23) rfl rfl Try.func24 (by kernel_rfl) rfl #[.slice A1 l1.length c1] rfl (by (try simp only [List.map_toArray, List.map_cons, List.map_nil]); first | done | rfl | (simp only [List.length_drop, List.length_take]; rfl)) ?_; (with_reducible refine (busbarlaw0_LentSpans.calls kj5 _ _ l1 t235 _ ?side1 ?side2 A14.out).mono ?_); (case side1 => repeat (first | exact (Kd.C_below HR1.out HB.out) | (with_reducible refine Kd.C_alloc ?_ _) | (with_reducible refine Kd.C_drewN ?_ _) | (with_reducible refine Kd.C_drew ?_))); (case side2 => exact HC1.out); rintro e w16 ⟨v236, rfl, ho0, hb⟩; refine ⟨_, rfl, ?_⟩; have n0_ := Aside0.mk (Kd.L_lower (Kd.L_newB ho0 (g := gb232) (o := .cells #[.int .i64 a0_0, .int .i64 a0_1, .int .i64 a0_2] 47 (0, 0)) (by (with_reducible repeat (first | refine blk_drewN ?_ _ | refine blk_drew ?_ | refine blk_alloc ?_ _)); exact BK232.out)) (below_size (by repeat (first | (with_reducible first | exact HB.out | apply below_alloc | apply pw_below_drewN | apply below_drew1 | refine below_set ?_ GE232.out) | exact HB.out)))); have n1_ := Aside0.mk (blk_below (g := gb232) (o := .cells #[.int .i64 a0_0, .int .i64 a0_1, .int .i64 a0_2] 47 (0, 0)) (by (with_reducible repeat (first | refine blk_drewN ?_ _ | refine blk_drew ?_ | refine blk_alloc ?_ _)); exact BK232.out) hb); have n2_ := Aside0.mk (below_step (by repeat (first | (with_reducible first | exact HB.out | apply below_alloc | apply pw_below_drewN | apply below_drew1 | refine below_set ?_ GE232.out) | exact HB.out)) hb); clear BK232; clear HB; have HO237 := n0_; have BK232 := n1_; have HB := n2_; clear n0_ n1_ n2_; (try clear hb); (try clear hb2); (try clear hk); (try clear hi); (try clear ho0)))
    (try simp only [Act.put, List.setIfInBounds_toArray, List.set_cons_zero, List.set_cons_succ])
    go_cut [41] (fun v41 wc => ∃ (kq : Nat) (x41_14 : Bool), v41 = .bool x41_14 ∧ Aside0 (busbarlaw12_SpanTells.j1 kq l2 a3 a4 x41_14 = some r) ∧ Aside0 (kq ≤ kj5) ∧ Aside0 (wc.heap[gb232]? = some (.cells #[.int .i64 a0_0, .int .i64 a0_1, .int .i64 a0_2] 47 (0, 0))) ∧ Aside0 (Below w.heap.size w wc))
    case first =>
     have H := HC15.out
     clear HC15
     replace H := Option.bind_eq_some_iff.mp H
     obtain ⟨t238, A170, H⟩ := H
     replace H : ((busbarref12_Right.f a0_0 a0_1 a0_2).bind fun t239 => (if (t238 != t239) = true then (busbarlaw12_SpanTells.j1 kj5 l2 a3 a4 true) else ((span_Canon.f kj5 t235).bind fun t240 => ((busbarref12_Canon.f kj5 l1).bind fun t241 => (if (t240 != t241) = true then (busbarlaw12_SpanTells.j1 kj5 l2 a3 a4 true) else ((busbarlaw0_StaysSpans.f kj5 t235 l1).bind fun t242 => (busbarlaw12_SpanTells.j1 kj5 l2 a3 a4 (!t242)))))))) = some r := H
     have A17 := Aside0.mk A170
     clear A170
     replace H := Option.bind_eq_some_iff.mp H
     obtain ⟨t239, A180, H⟩ := H
     replace H : (if (t238 != t239) = true then (busbarlaw12_SpanTells.j1 kj5 l2 a3 a4 true) else ((span_Canon.f kj5 t235).bind fun t240 => ((busbarref12_Canon.f kj5 l1).bind fun t241 => (if (t240 != t241) = true then (busbarlaw12_SpanTells.j1 kj5 l2 a3 a4 true) else ((busbarlaw0_StaysSpans.f kj5 t235 l1).bind fun t242 => (busbarlaw12_SpanTells.j1 kj5 l2 a3 a4 (!t242))))))) = some r := H
     have A18 := Aside0.mk A180
     clear A180
     by_cases c19 : (t238 != t239) = true
     ·
      rw [if_pos c19] at H
      have c19b0 : (t238 != t239) = true := c19
      (try (have c19b1 : decide (t238 = t239) = false := by simpa using c19))
      (try (have c19b2 : (t238 == t239) = false := by simpa using c19))
      (try (have c19b3 : ¬ (t238 = t239) := by simpa using c19))
      clear c19
      (first | rw [c19b0] | (simp only [i64_w, i32_w]; rw [c19b0]) | skip)
      have H' := Aside0.mk H
      clear H
      try go_wp2
      have n0_ := Aside0.mk (Kd.L_drew HO237.out)
      have n1_ := Aside0.mk (blk_drew BK232.out)
      have n2_ := Aside0.mk (below_drew1 HB.out)
      clear HO237
      clear BK232
      clear HB
      have HO237 := n0_
      have BK232 := n1_
      have HB := n2_
      clear n0_ n1_ n2_
      refine start_ (n := 18) (S := fun w' => w'.cell? ⟨gb232, 0, none⟩ = some (.int .i64 a0_0) ∧ w'.cell? ⟨gb232, 1, none⟩ = some (.int .i64 a0_1) ∧ w'.cell? ⟨gb232, 2, none⟩ = some (.int .i64 a0_2)) (ds := []) #[false, false, false, false, false, false, false, false, false, false, false, false, false, false, false, false, false, false] (by kernel_rfl) rfl rfl ⟨(blk_cell BK232.out 0).trans rfl, (blk_cell BK232.out 1).trans rfl, (blk_cell BK232.out 2).trans rfl⟩ (fun hHeld => ?_); refine with_tabW busbarlaw12_SpanTells.tab4 busbarlaw12_SpanTells.bits4 (fun HT_ HW_ => ?_)
      generalize w16.drew = w20 at HO237 BK232 HB hHeld ⊢
      refine take_ (i := 0) (N := some 24) (v := ?_) (a' := ?_) #[true, false, false, false, false, false, false, false, false, false, false, false, false, false, false, false, false, false] rfl rfl (take_ofW HT_.out HW_.out (by kernel_rfl)) (fun _ _ _ h => h) (Or.inl ⟨by rfl, ?_⟩) hHeld ?_ ?_
      rotate_left
      ·
       rintro w' ⟨s0, s1, s2⟩
       go_simp
       with_reducible rfl
      rotate_left
      ·
       simp only [Act.put, List.setIfInBounds_toArray, List.set_cons_zero, List.set_cons_succ, i64_w, i32_w]
       rfl
      refine take_ (i := 2) (N := some 26) (v := ?_) (a' := ?_) #[true, false, true, false, false, false, false, false, false, false, false, false, false, false, false, false, false, false] rfl rfl (take_ofW HT_.out HW_.out (by kernel_rfl)) (fun _ _ _ h => h) (Or.inl ⟨by rfl, ?_⟩) hHeld ?_ ?_
      rotate_left
      ·
       rintro w' ⟨s0, s1, s2⟩
       go_simp
       with_reducible rfl
      rotate_left
      ·
       simp only [Act.put, List.setIfInBounds_toArray, List.set_cons_zero, List.set_cons_succ, i64_w, i32_w]
       rfl
      refine one_ (i := 1) (N := some 25) #[true, true, true, false, false, false, false, false, false, false, false, false, false, false, false, false, false, false] rfl rfl (one_of HT_.out (by kernel_rfl)) (by decide) (fun K hK => ?_)
      refine goes_ Try.func25 (by kernel_rfl) rfl #[.agg #[.int .i64 a0_0, .int .i64 a0_1, .int .i64 a0_2]] (by rfl) rfl rfl (by (try simp only [List.map_toArray, List.map_cons, List.map_nil]); first | done | rfl | (simp only [List.length_drop, List.length_take]; rfl)) ?_
      with_reducible refine (span_Right.calls a0_0 a0_1 a0_2 t238 _ A17.out).mono ?_
      rintro e w21 ⟨rfl, hb⟩
      refine ⟨_, rfl, ?_⟩
      have n0_ := Aside0.mk (Kd.L_below (by (with_reducible repeat (first | apply Kd.L_alloc | apply Kd.L_drewN | apply Kd.L_drew)); exact HO237.out) hb)
      have n1_ := Aside0.mk (blk_below (g := gb232) (o := .cells #[.int .i64 a0_0, .int .i64 a0_1, .int .i64 a0_2] 47 (0, 0)) (by (with_reducible repeat (first | refine blk_drewN ?_ _ | refine blk_drew ?_ | refine blk_alloc ?_ _)); exact BK232.out) hb)
      have n2_ := Aside0.mk (below_step (by repeat (first | (with_reducible first | exact HB.out | apply below_alloc | apply pw_below_drewN | apply below_drew1 | refine below_set ?_ GE232.out) | exact HB.out)) hb)
      clear HO237
      clear BK232
      clear HB
      have HO237 := n0_
      have BK232 := n1_
      have HB := n2_
      clear n0_ n1_ n2_
      (try clear hb)
      (try clear hb2)
      (try clear hk)
      (try clear hi)
      refine hK.out _ _ ⟨(blk_cell BK232.out 0).trans rfl, (blk_cell BK232.out 1).trans rfl, (blk_cell BK232.out 2).trans rfl⟩ (fun hHeld => ?_)
      clear hK K
      refine norm_ (a' := ?_) ?_ ?_
      rotate_left
      ·
       show Act.put _ (some 25) _ = _
       simp only [Act.put, List.setIfInBounds_toArray, List.set_cons_zero, List.set_cons_succ, i64_w, i32_w]
       rfl
      refine one_ (i := 3) (N := some 27) #[true, true, true, true, false, false, false, false, false, false, false, false, false, false, false, false, false, false] rfl rfl (one_of HT_.out (by kernel_rfl)) (by decide) (fun K hK => ?_)
      refine goes_ Try.func26 (by kernel_rfl) rfl #[.agg #[.int .i64 a0_0, .int .i64 a0_1, .int .i64 a0_2]] (by rfl) rfl rfl (by (try simp only [List.map_toArray, List.map_cons, List.map_nil]); first | done | rfl | (simp only [List.length_drop, List.length_take]; rfl)) ?_
      with_reducible refine (busbarref12_Right.calls a0_0 a0_1 a0_2 t239 _ A18.out).mono ?_
      rintro e w22 ⟨rfl, hb⟩
      refine ⟨_, rfl, ?_⟩
      have n0_ := Aside0.mk (Kd.L_below (by (with_reducible repeat (first | apply Kd.L_alloc | apply Kd.L_drewN | apply Kd.L_drew)); exact HO237.out) hb)
      have n1_ := Aside0.mk (blk_below (g := gb232) (o := .cells #[.int .i64 a0_0, .int .i64 a0_1, .int .i64 a0_2] 47 (0, 0)) (by (with_reducible repeat (first | refine blk_drewN ?_ _ | refine blk_drew ?_ | refine blk_alloc ?_ _)); exact BK232.out) hb)
      have n2_ := Aside0.mk (below_step (by repeat (first | (with_reducible first | exact HB.out | apply below_alloc | apply pw_below_drewN | apply below_drew1 | refine below_set ?_ GE232.out) | exact HB.out)) hb)
      clear HO237
      clear BK232
      clear HB
      have HO237 := n0_
      have BK232 := n1_
      have HB := n2_
      clear n0_ n1_ n2_
      (try clear hb)
      (try clear hb2)
      (try clear hk)
      (try clear hi)
      refine hK.out _ _ ⟨(blk_cell BK232.out 0).trans rfl, (blk_cell BK232.out 1).trans rfl, (blk_cell BK232.out 2).trans rfl⟩ (fun hHeld => ?_)
      clear hK K
      refine norm_ (a' := ?_) ?_ ?_
      rotate_left
      ·
       show Act.put _ (some 27) _ = _
       simp only [Act.put, List.setIfInBounds_toArray, List.set_cons_zero, List.set_cons_succ, i64_w, i32_w]
       rfl
      refine pure_ (i := 4) (N := some 28) (v := ?_) (a' := ?_) #[true, true, true, true, true, false, false, false, false, false, false, false, false, false, false, false, false, false] rfl rfl (any_of HT_.out (by kernel_rfl)) (fun _ _ _ h => h) (Or.inl ⟨by rfl, ?_⟩) ?_ ?_
      rotate_left
      ·
       intro w'
       go_simp
       with_reducible rfl
      rotate_left
      ·
       simp only [Act.put, List.setIfInBounds_toArray, List.set_cons_zero, List.set_cons_succ, i64_w, i32_w]
       rfl
      refine pure_ (i := 5) (N := some 29) (v := ?_) (a' := ?_) #[true, true, true, true, true, true, false, false, false, false, false, false, false, false, false, false, false, false] rfl rfl (any_of HT_.out (by kernel_rfl)) (fun _ _ _ h => h) (Or.inl ⟨by rfl, ?_⟩) ?_ ?_
      rotate_left
      ·
       intro w'
       go_simp
       with_reducible rfl
      rotate_left
      ·
       simp only [Act.put, List.setIfInBounds_toArray, List.set_cons_zero, List.set_cons_succ, i64_w, i32_w]
       rfl
      refine pure_ (i := 6) (N := some 30) (v := undef) (a' := ?_) #[true, true, true, true, true, true, true, false, false, false, false, false, false, false, false, false, false, false] rfl rfl (any_of HT_.out (by kernel_rfl)) (fun _ _ _ h => h) (Or.inr ⟨by rfl, rfl⟩) ?_ ?_
      rotate_left
      ·
       simp only [Act.put, List.setIfInBounds_toArray, List.set_cons_zero, List.set_cons_succ, i64_w, i32_w]
       rfl
      refine pure_ (i := 7) (N := some 31) (v := undef) (a' := ?_) #[true, true, true, true, true, true, true, true, false, false, false, false, false, false, false, false, false, false] rfl rfl (any_of HT_.out (by kernel_rfl)) (fun _ _ _ h => h) (Or.inr ⟨by rfl, rfl⟩) ?_ ?_
      rotate_left
      ·
       simp only [Act.put, List.setIfInBounds_toArray, List.set_cons_zero, List.set_cons_succ, i64_w, i32_w]
       rfl
      refine pure_ (i := 8) (N := some 32) (v := undef) (a' := ?_) #[true, true, true, true, true, true, true, true, true, false, false, false, false, false, false, false, false, false] rfl rfl (any_of HT_.out (by kernel_rfl)) (fun _ _ _ h => h) (Or.inr ⟨by rfl, rfl⟩) ?_ ?_
      rotate_left
      ·
       simp only [Act.put, List.setIfInBounds_toArray, List.set_cons_zero, List.set_cons_succ, i64_w, i32_w]
       rfl
      refine pure_ (i := 9) (N := some 33) (v := undef) (a' := ?_) #[true, true, true, true, true, true, true, true, true, true, false, false, false, false, false, false, false, false] rfl rfl (any_of HT_.out (by kernel_rfl)) (fun _ _ _ h => h) (Or.inr ⟨by rfl, rfl⟩) ?_ ?_
      rotate_left
      ·
       simp only [Act.put, List.setIfInBounds_toArray, List.set_cons_zero, List.set_cons_succ, i64_w, i32_w]
       rfl
      refine pure_ (i := 10) (N := some 34) (v := undef) (a' := ?_) #[true, true, true, true, true, true, true, true, true, true, true, false, false, false, false, false, false, false] rfl rfl (any_of HT_.out (by kernel_rfl)) (fun _ _ _ h => h) (Or.inr ⟨by rfl, rfl⟩) ?_ ?_
      rotate_left
      ·
       simp only [Act.put, List.setIfInBounds_toArray, List.set_cons_zero, List.set_cons_succ, i64_w, i32_w]
       rfl
      refine pure_ (i := 11) (N := some 35) (v := ?_) (a' := ?_) #[true, true, true, true, true, true, true, true, true, true, true, true, false, false, false, false, false, false] rfl rfl (any_of HT_.out (by kernel_rfl)) (fun _ _ _ h => h) (Or.inl ⟨by rfl, ?_⟩) ?_ ?_
      rotate_left
      ·
       intro w'
       go_simp
       with_reducible rfl
      rotate_left
      ·
       simp only [Act.put, List.setIfInBounds_toArray, List.set_cons_zero, List.set_cons_succ, i64_w, i32_w]
       rfl
      refine pure_ (i := 12) (N := some 36) (v := ?_) (a' := ?_) #[true, true, true, true, true, true, true, true, true, true, true, true, true, false, false, false, false, false] rfl rfl (any_of HT_.out (by kernel_rfl)) (fun _ _ _ h => h) (Or.inl ⟨by rfl, ?_⟩) ?_ ?_
      rotate_left
      ·
       intro w'
       go_simp
       with_reducible rfl
      rotate_left
      ·
       simp only [Act.put, List.setIfInBounds_toArray, List.set_cons_zero, List.set_cons_succ, i64_w, i32_w]
       rfl
      refine pure_ (i := 13) (N := some 37) (v := undef) (a' := ?_) #[true, true, true, true, true, true, true, true, true, true, true, true, true, true, false, false, false, false] rfl rfl (any_of HT_.out (by kernel_rfl)) (fun _ _ _ h => h) (Or.inr ⟨by rfl, rfl⟩) ?_ ?_
      rotate_left
      ·
       simp only [Act.put, List.setIfInBounds_toArray, List.set_cons_zero, List.set_cons_succ, i64_w, i32_w]
       rfl
      refine pure_ (i := 14) (N := some 38) (v := undef) (a' := ?_) #[true, true, true, true, true, true, true, true, true, true, true, true, true, true, true, false, false, false] rfl rfl (any_of HT_.out (by kernel_rfl)) (fun _ _ _ h => h) (Or.inr ⟨by rfl, rfl⟩) ?_ ?_
      rotate_left
      ·
       simp only [Act.put, List.setIfInBounds_toArray, List.set_cons_zero, List.set_cons_succ, i64_w, i32_w]
       rfl
      refine pure_ (i := 15) (N := some 39) (v := undef) (a' := ?_) #[true, true, true, true, true, true, true, true, true, true, true, true, true, true, true, true, false, false] rfl rfl (any_of HT_.out (by kernel_rfl)) (fun _ _ _ h => h) (Or.inr ⟨by rfl, rfl⟩) ?_ ?_
      rotate_left
      ·
       simp only [Act.put, List.setIfInBounds_toArray, List.set_cons_zero, List.set_cons_succ, i64_w, i32_w]
       rfl
      refine pure_ (i := 16) (N := some 40) (v := undef) (a' := ?_) #[true, true, true, true, true, true, true, true, true, true, true, true, true, true, true, true, true, false] rfl rfl (any_of HT_.out (by kernel_rfl)) (fun _ _ _ h => h) (Or.inr ⟨by rfl, rfl⟩) ?_ ?_
      rotate_left
      ·
       simp only [Act.put, List.setIfInBounds_toArray, List.set_cons_zero, List.set_cons_succ, i64_w, i32_w]
       rfl
      refine pure_ (i := 17) (N := some 41) (v := ?_) (a' := ?_) #[true, true, true, true, true, true, true, true, true, true, true, true, true, true, true, true, true, true] rfl rfl (any_of HT_.out (by kernel_rfl)) (fun _ _ _ h => h) (Or.inl ⟨by rfl, ?_⟩) ?_ ?_
      rotate_left
      ·
       intro w'
       go_simp
       with_reducible rfl
      rotate_left
      ·
       simp only [Act.put, List.setIfInBounds_toArray, List.set_cons_zero, List.set_cons_succ, i64_w, i32_w]
       rfl
      refine done_ (done_of HT_.out (by kernel_rfl)) ?_
      try go_wp2
      go_meet
      case rel => exact ⟨_, (true), (by first | rfl | (simp; done) | (simp [*]; done)), H', ⟨by have := HJ5.out; first | omega | exact Nat.le_refl _⟩, ⟨by (with_reducible repeat (first | refine blk_drewN ?_ _ | refine blk_drew ?_ | refine blk_alloc ?_ _)); exact BK232.out⟩, ⟨by repeat (first | (with_reducible first | exact HB.out | apply below_alloc | apply pw_below_drewN | apply below_drew1 | refine below_set ?_ GE232.out) | exact HB.out)⟩⟩
     ·
      rw [if_neg c19] at H
      have c19b0 : (t238 != t239) = false := by simpa using c19
      (try (have c19b1 : decide (t238 = t239) = true := by simpa using c19))
      (try (have c19b2 : (t238 == t239) = true := by simpa using c19))
      clear c19
      (first | rw [c19b0] | (simp only [i64_w, i32_w]; rw [c19b0]) | skip)
      replace H := Option.bind_eq_some_iff.mp H
      obtain ⟨t240, A230, H⟩ := H
      replace H : ((busbarref12_Canon.f kj5 l1).bind fun t241 => (if (t240 != t241) = true then (busbarlaw12_SpanTells.j1 kj5 l2 a3 a4 true) else ((busbarlaw0_StaysSpans.f kj5 t235 l1).bind fun t242 => (busbarlaw12_SpanTells.j1 kj5 l2 a3 a4 (!t242))))) = some r := H
      have A23 := Aside0.mk A230
      clear A230
      replace H := Option.bind_eq_some_iff.mp H
      obtain ⟨t241, A240, H⟩ := H
      replace H : (if (t240 != t241) = true then (busbarlaw12_SpanTells.j1 kj5 l2 a3 a4 true) else ((busbarlaw0_StaysSpans.f kj5 t235 l1).bind fun t242 => (busbarlaw12_SpanTells.j1 kj5 l2 a3 a4 (!t242)))) = some r := H
      have A24 := Aside0.mk A240
      clear A240
      by_cases c25 : (t240 != t241) = true
      ·
       rw [if_pos c25] at H
       have c25b0 : (t240 != t241) = true := c25
       (try (have c25b1 : decide (t240 = t241) = false := by simpa using c25))
       (try (have c25b2 : (t240 == t241) = false := by simpa using c25))
       (try (have c25b3 : ¬ (t240 = t241) := by simpa using c25))
       clear c25
       have H' := Aside0.mk H
       clear H
       try go_wp2
       have n0_ := Aside0.mk (Kd.L_drew HO237.out)
       have n1_ := Aside0.mk (blk_drew BK232.out)
       have n2_ := Aside0.mk (below_drew1 HB.out)
       clear HO237
       clear BK232
       clear HB
       have HO237 := n0_
       have BK232 := n1_
       have HB := n2_
       clear n0_ n1_ n2_
       refine start_ (n := 18) (S := fun w' => w'.cell? ⟨gb232, 0, none⟩ = some (.int .i64 a0_0) ∧ w'.cell? ⟨gb232, 1, none⟩ = some (.int .i64 a0_1) ∧ w'.cell? ⟨gb232, 2, none⟩ = some (.int .i64 a0_2)) (ds := []) #[false, false, false, false, false, false, false, false, false, false, false, false, false, false, false, false, false, false] (by kernel_rfl) rfl rfl ⟨(blk_cell BK232.out 0).trans rfl, (blk_cell BK232.out 1).trans rfl, (blk_cell BK232.out 2).trans rfl⟩ (fun hHeld => ?_); refine with_tabW busbarlaw12_SpanTells.tab4 busbarlaw12_SpanTells.bits4 (fun HT_ HW_ => ?_)
       generalize w16.drew = w26 at HO237 BK232 HB hHeld ⊢
       refine take_ (i := 0) (N := some 24) (v := ?_) (a' := ?_) #[true, false, false, false, false, false, false, false, false, false, false, false, false, false, false, false, false, false] rfl rfl (take_ofW HT_.out HW_.out (by kernel_rfl)) (fun _ _ _ h => h) (Or.inl ⟨by rfl, ?_⟩) hHeld ?_ ?_
       rotate_left
       ·
        rintro w' ⟨s0, s1, s2⟩
        go_simp
        with_reducible rfl
       rotate_left
       ·
        simp only [Act.put, List.setIfInBounds_toArray, List.set_cons_zero, List.set_cons_succ, i64_w, i32_w]
        rfl
       refine take_ (i := 2) (N := some 26) (v := ?_) (a' := ?_) #[true, false, true, false, false, false, false, false, false, false, false, false, false, false, false, false, false, false] rfl rfl (take_ofW HT_.out HW_.out (by kernel_rfl)) (fun _ _ _ h => h) (Or.inl ⟨by rfl, ?_⟩) hHeld ?_ ?_
       rotate_left
       ·
        rintro w' ⟨s0, s1, s2⟩
        go_simp
        with_reducible rfl
       rotate_left
       ·
        simp only [Act.put, List.setIfInBounds_toArray, List.set_cons_zero, List.set_cons_succ, i64_w, i32_w]
        rfl
       refine one_ (i := 1) (N := some 25) #[true, true, true, false, false, false, false, false, false, false, false, false, false, false, false, false, false, false] rfl rfl (one_of HT_.out (by kernel_rfl)) (by decide) (fun K hK => ?_)
       refine goes_ Try.func25 (by kernel_rfl) rfl #[.agg #[.int .i64 a0_0, .int .i64 a0_1, .int .i64 a0_2]] (by rfl) rfl rfl (by (try simp only [List.map_toArray, List.map_cons, List.map_nil]); first | done | rfl | (simp only [List.length_drop, List.length_take]; rfl)) ?_
       with_reducible refine (span_Right.calls a0_0 a0_1 a0_2 t238 _ A17.out).mono ?_
       rintro e w27 ⟨rfl, hb⟩
       refine ⟨_, rfl, ?_⟩
       have n0_ := Aside0.mk (Kd.L_below (by (with_reducible repeat (first | apply Kd.L_alloc | apply Kd.L_drewN | apply Kd.L_drew)); exact HO237.out) hb)
       have n1_ := Aside0.mk (blk_below (g := gb232) (o := .cells #[.int .i64 a0_0, .int .i64 a0_1, .int .i64 a0_2] 47 (0, 0)) (by (with_reducible repeat (first | refine blk_drewN ?_ _ | refine blk_drew ?_ | refine blk_alloc ?_ _)); exact BK232.out) hb)
       have n2_ := Aside0.mk (below_step (by repeat (first | (with_reducible first | exact HB.out | apply below_alloc | apply pw_below_drewN | apply below_drew1 | refine below_set ?_ GE232.out) | exact HB.out)) hb)
       clear HO237
       clear BK232
       clear HB
       have HO237 := n0_
       have BK232 := n1_
       have HB := n2_
       clear n0_ n1_ n2_
       (try clear hb)
       (try clear hb2)
       (try clear hk)
       (try clear hi)
       refine hK.out _ _ ⟨(blk_cell BK232.out 0).trans rfl, (blk_cell BK232.out 1).trans rfl, (blk_cell BK232.out 2).trans rfl⟩ (fun hHeld => ?_)
       clear hK K
       refine norm_ (a' := ?_) ?_ ?_
       rotate_left
       ·
        show Act.put _ (some 25) _ = _
        simp only [Act.put, List.setIfInBounds_toArray, List.set_cons_zero, List.set_cons_succ, i64_w, i32_w]
        rfl
       refine one_ (i := 3) (N := some 27) #[true, true, true, true, false, false, false, false, false, false, false, false, false, false, false, false, false, false] rfl rfl (one_of HT_.out (by kernel_rfl)) (by decide) (fun K hK => ?_)
       refine goes_ Try.func26 (by kernel_rfl) rfl #[.agg #[.int .i64 a0_0, .int .i64 a0_1, .int .i64 a0_2]] (by rfl) rfl rfl (by (try simp only [List.map_toArray, List.map_cons, List.map_nil]); first | done | rfl | (simp only [List.length_drop, List.length_take]; rfl)) ?_
       with_reducible refine (busbarref12_Right.calls a0_0 a0_1 a0_2 t239 _ A18.out).mono ?_
       rintro e w28 ⟨rfl, hb⟩
       refine ⟨_, rfl, ?_⟩
       have n0_ := Aside0.mk (Kd.L_below (by (with_reducible repeat (first | apply Kd.L_alloc | apply Kd.L_drewN | apply Kd.L_drew)); exact HO237.out) hb)
       have n1_ := Aside0.mk (blk_below (g := gb232) (o := .cells #[.int .i64 a0_0, .int .i64 a0_1, .int .i64 a0_2] 47 (0, 0)) (by (with_reducible repeat (first | refine blk_drewN ?_ _ | refine blk_drew ?_ | refine blk_alloc ?_ _)); exact BK232.out) hb)
       have n2_ := Aside0.mk (below_step (by repeat (first | (with_reducible first | exact HB.out | apply below_alloc | apply pw_below_drewN | apply below_drew1 | refine below_set ?_ GE232.out) | exact HB.out)) hb)
       clear HO237
       clear BK232
       clear HB
       have HO237 := n0_
       have BK232 := n1_
       have HB := n2_
       clear n0_ n1_ n2_
       (try clear hb)
       (try clear hb2)
       (try clear hk)
       (try clear hi)
       obtain ⟨Ao29, co29, eo29, _⟩ := Kd.L_slice HO237.out
       (first | subst eo29 | (injection eo29 with f1_ f2_ f3_; have f4_ := f1_.symm; have f5_ := f3_.symm; clear f1_ f2_ f3_; subst f4_; subst f5_))
       refine hK.out _ _ ⟨(blk_cell BK232.out 0).trans rfl, (blk_cell BK232.out 1).trans rfl, (blk_cell BK232.out 2).trans rfl⟩ (fun hHeld => ?_)
       clear hK K
       refine norm_ (a' := ?_) ?_ ?_
       rotate_left
       ·
        show Act.put _ (some 27) _ = _
        simp only [Act.put, List.setIfInBounds_toArray, List.set_cons_zero, List.set_cons_succ, i64_w, i32_w]
        rfl
       refine pure_ (i := 4) (N := some 28) (v := ?_) (a' := ?_) #[true, true, true, true, true, false, false, false, false, false, false, false, false, false, false, false, false, false] rfl rfl (any_of HT_.out (by kernel_rfl)) (fun _ _ _ h => h) (Or.inl ⟨by rfl, ?_⟩) ?_ ?_
       rotate_left
       ·
        intro w'
        go_simp
        with_reducible rfl
       rotate_left
       ·
        simp only [Act.put, List.setIfInBounds_toArray, List.set_cons_zero, List.set_cons_succ, i64_w, i32_w]
        rfl
       refine pure_ (i := 5) (N := some 29) (v := ?_) (a' := ?_) #[true, true, true, true, true, true, false, false, false, false, false, false, false, false, false, false, false, false] rfl rfl (any_of HT_.out (by kernel_rfl)) (fun _ _ _ h => h) (Or.inl ⟨by rfl, ?_⟩) ?_ ?_
       rotate_left
       ·
        intro w'
        go_simp
        with_reducible rfl
       rotate_left
       ·
        simp only [Act.put, List.setIfInBounds_toArray, List.set_cons_zero, List.set_cons_succ, i64_w, i32_w]
        rfl
       refine pure_ (i := 6) (N := some 30) (v := ?_) (a' := ?_) #[true, true, true, true, true, true, true, false, false, false, false, false, false, false, false, false, false, false] rfl rfl (any_of HT_.out (by kernel_rfl)) (fun _ _ _ h => h) (Or.inl ⟨by rfl, ?_⟩) ?_ ?_
       rotate_left
       ·
        intro w'
        go_simp
        with_reducible rfl
       rotate_left
       ·
        simp only [Act.put, List.setIfInBounds_toArray, List.set_cons_zero, List.set_cons_succ, i64_w, i32_w]
        rfl
       refine pure_ (i := 8) (N := some 32) (v := ?_) (a' := ?_) #[true, true, true, true, true, true, true, false, true, false, false, false, false, false, false, false, false, false] rfl rfl (any_of HT_.out (by kernel_rfl)) (fun _ _ _ h => h) (Or.inl ⟨by rfl, ?_⟩) ?_ ?_
       rotate_left
       ·
        intro w'
        go_simp
        with_reducible rfl
       rotate_left
       ·
        simp only [Act.put, List.setIfInBounds_toArray, List.set_cons_zero, List.set_cons_succ, i64_w, i32_w]
        rfl
       refine one_ (i := 7) (N := some 31) #[true, true, true, true, true, true, true, true, true, false, false, false, false, false, false, false, false, false] rfl rfl (one_of HT_.out (by kernel_rfl)) (by decide) (fun K hK => ?_)
       refine goes_ Try.func27 (by kernel_rfl) rfl #[.slice Ao29 t235.length co29] (by rfl) rfl rfl (by (try simp only [List.map_toArray, List.map_cons, List.map_nil]); first | done | rfl | (simp only [List.length_drop, List.length_take]; rfl)) ?_
       with_reducible refine (span_Canon.calls kj5 _ _ t235 t240 _ ?side1 ?side2 A23.out).mono ?_
       (case side1 => repeat (first | exact (Kd.L_reads' HO237.out).2.2 | (with_reducible refine Kd.C_alloc ?_ _) | (with_reducible refine Kd.C_drewN ?_ _) | (with_reducible refine Kd.C_drew ?_)))
       (case side2 => exact (Kd.L_reads' HO237.out).2.1)
       rintro e w30 ⟨rfl, hb⟩
       refine ⟨_, rfl, ?_⟩
       have n0_ := Aside0.mk (Kd.L_below (by (with_reducible repeat (first | apply Kd.L_alloc | apply Kd.L_drewN | apply Kd.L_drew)); exact HO237.out) hb)
       have n1_ := Aside0.mk (blk_below (g := gb232) (o := .cells #[.int .i64 a0_0, .int .i64 a0_1, .int .i64 a0_2] 47 (0, 0)) (by (with_reducible repeat (first | refine blk_drewN ?_ _ | refine blk_drew ?_ | refine blk_alloc ?_ _)); exact BK232.out) hb)
       have n2_ := Aside0.mk (below_step (by repeat (first | (with_reducible first | exact HB.out | apply below_alloc | apply pw_below_drewN | apply below_drew1 | refine below_set ?_ GE232.out) | exact HB.out)) hb)
       clear HO237
       clear BK232
       clear HB
       have HO237 := n0_
       have BK232 := n1_
       have HB := n2_
       clear n0_ n1_ n2_
       (try clear hb)
       (try clear hb2)
       (try clear hk)
       (try clear hi)
       refine hK.out _ _ ⟨(blk_cell BK232.out 0).trans rfl, (blk_cell BK232.out 1).trans rfl, (blk_cell BK232.out 2).trans rfl⟩ (fun hHeld => ?_)
       clear hK K
       refine norm_ (a' := ?_) ?_ ?_
       rotate_left
       ·
        show Act.put _ (some 31) _ = _
        simp only [Act.put, List.setIfInBounds_toArray, List.set_cons_zero, List.set_cons_succ, i64_w, i32_w]
        rfl
       refine one_ (i := 9) (N := some 33) #[true, true, true, true, true, true, true, true, true, true, false, false, false, false, false, false, false, false] rfl rfl (one_of HT_.out (by kernel_rfl)) (by decide) (fun K hK => ?_)
       refine goes_ Try.func28 (by kernel_rfl) rfl #[.slice A1 l1.length c1] (by rfl) rfl rfl (by (try simp only [List.map_toArray, List.map_cons, List.map_nil]); first | done | rfl | (simp only [List.length_drop, List.length_take]; rfl)) ?_
       with_reducible refine (busbarref12_Canon.calls kj5 _ _ l1 t241 _ ?side1 ?side2 A24.out).mono ?_
       (case side1 => repeat (first | exact (Kd.C_below HR1.out HB.out) | (with_reducible refine Kd.C_alloc ?_ _) | (with_reducible refine Kd.C_drewN ?_ _) | (with_reducible refine Kd.C_drew ?_)))
       (case side2 => exact HC1.out)
       rintro e w31 ⟨rfl, hb⟩
       refine ⟨_, rfl, ?_⟩
       have n0_ := Aside0.mk (Kd.L_below (by (with_reducible repeat (first | apply Kd.L_alloc | apply Kd.L_drewN | apply Kd.L_drew)); exact HO237.out) hb)
       have n1_ := Aside0.mk (blk_below (g := gb232) (o := .cells #[.int .i64 a0_0, .int .i64 a0_1, .int .i64 a0_2] 47 (0, 0)) (by (with_reducible repeat (first | refine blk_drewN ?_ _ | refine blk_drew ?_ | refine blk_alloc ?_ _)); exact BK232.out) hb)
       have n2_ := Aside0.mk (below_step (by repeat (first | (with_reducible first | exact HB.out | apply below_alloc | apply pw_below_drewN | apply below_drew1 | refine below_set ?_ GE232.out) | exact HB.out)) hb)
       clear HO237
       clear BK232
       clear HB
       have HO237 := n0_
       have BK232 := n1_
       have HB := n2_
       clear n0_ n1_ n2_
       (try clear hb)
       (try clear hb2)
       (try clear hk)
       (try clear hi)
       refine hK.out _ _ ⟨(blk_cell BK232.out 0).trans rfl, (blk_cell BK232.out 1).trans rfl, (blk_cell BK232.out 2).trans rfl⟩ (fun hHeld => ?_)
       clear hK K
       refine norm_ (a' := ?_) ?_ ?_
       rotate_left
       ·
        show Act.put _ (some 33) _ = _
        simp only [Act.put, List.setIfInBounds_toArray, List.set_cons_zero, List.set_cons_succ, i64_w, i32_w]
        rfl
       refine pure_ (i := 10) (N := some 34) (v := ?_) (a' := ?_) #[true, true, true, true, true, true, true, true, true, true, true, false, false, false, false, false, false, false] rfl rfl (any_of HT_.out (by kernel_rfl)) (fun _ _ _ h => h) (Or.inl ⟨by rfl, ?_⟩) ?_ ?_
       rotate_left
       ·
        intro w'
        go_simp
        with_reducible rfl
       rotate_left
       ·
        simp only [Act.put, List.setIfInBounds_toArray, List.set_cons_zero, List.set_cons_succ, i64_w, i32_w]
        rfl
       refine pure_ (i := 11) (N := some 35) (v := ?_) (a' := ?_) #[true, true, true, true, true, true, true, true, true, true, true, true, false, false, false, false, false, false] rfl rfl (any_of HT_.out (by kernel_rfl)) (fun _ _ _ h => h) (Or.inl ⟨by rfl, ?_⟩) ?_ ?_
       rotate_left
       ·
        intro w'
        go_simp
        with_reducible rfl
       rotate_left
       ·
        simp only [Act.put, List.setIfInBounds_toArray, List.set_cons_zero, List.set_cons_succ, i64_w, i32_w]
        rfl
       refine pure_ (i := 12) (N := some 36) (v := ?_) (a' := ?_) #[true, true, true, true, true, true, true, true, true, true, true, true, true, false, false, false, false, false] rfl rfl (any_of HT_.out (by kernel_rfl)) (fun _ _ _ h => h) (Or.inl ⟨by rfl, ?_⟩) ?_ ?_
       rotate_left
       ·
        intro w'
        go_simp
        with_reducible rfl
       rotate_left
       ·
        simp only [Act.put, List.setIfInBounds_toArray, List.set_cons_zero, List.set_cons_succ, i64_w, i32_w]
        rfl
       refine pure_ (i := 13) (N := some 37) (v := undef) (a' := ?_) #[true, true, true, true, true, true, true, true, true, true, true, true, true, true, false, false, false, false] rfl rfl (any_of HT_.out (by kernel_rfl)) (fun _ _ _ h => h) (Or.inr ⟨by rfl, rfl⟩) ?_ ?_
       rotate_left
       ·
        simp only [Act.put, List.setIfInBounds_toArray, List.set_cons_zero, List.set_cons_succ, i64_w, i32_w]
        rfl
       refine pure_ (i := 14) (N := some 38) (v := undef) (a' := ?_) #[true, true, true, true, true, true, true, true, true, true, true, true, true, true, true, false, false, false] rfl rfl (any_of HT_.out (by kernel_rfl)) (fun _ _ _ h => h) (Or.inr ⟨by rfl, rfl⟩) ?_ ?_
       rotate_left
       ·
        simp only [Act.put, List.setIfInBounds_toArray, List.set_cons_zero, List.set_cons_succ, i64_w, i32_w]
        rfl
       refine pure_ (i := 15) (N := some 39) (v := undef) (a' := ?_) #[true, true, true, true, true, true, true, true, true, true, true, true, true, true, true, true, false, false] rfl rfl (any_of HT_.out (by kernel_rfl)) (fun _ _ _ h => h) (Or.inr ⟨by rfl, rfl⟩) ?_ ?_
       rotate_left
       ·
        simp only [Act.put, List.setIfInBounds_toArray, List.set_cons_zero, List.set_cons_succ, i64_w, i32_w]
        rfl
       refine pure_ (i := 16) (N := some 40) (v := undef) (a' := ?_) #[true, true, true, true, true, true, true, true, true, true, true, true, true, true, true, true, true, false] rfl rfl (any_of HT_.out (by kernel_rfl)) (fun _ _ _ h => h) (Or.inr ⟨by rfl, rfl⟩) ?_ ?_
       rotate_left
       ·
        simp only [Act.put, List.setIfInBounds_toArray, List.set_cons_zero, List.set_cons_succ, i64_w, i32_w]
        rfl
       refine pure_ (i := 17) (N := some 41) (v := ?_) (a' := ?_) #[true, true, true, true, true, true, true, true, true, true, true, true, true, true, true, true, true, true] rfl rfl (any_of HT_.out (by kernel_rfl)) (fun _ _ _ h => h) (Or.inl ⟨by rfl, ?_⟩) ?_ ?_
       rotate_left
       ·
        intro w'
        go_simp
        with_reducible rfl
       rotate_left
       ·
        simp only [Act.put, List.setIfInBounds_toArray, List.set_cons_zero, List.set_cons_succ, i64_w, i32_w]
        rfl
       refine done_ (done_of HT_.out (by kernel_rfl)) ?_
       try go_wp2
       go_meet
       case rel => exact ⟨_, (true), (by first | rfl | (simp; done) | (simp [*]; done)), H', ⟨by have := HJ5.out; first | omega | exact Nat.le_refl _⟩, ⟨by (with_reducible repeat (first | refine blk_drewN ?_ _ | refine blk_drew ?_ | refine blk_alloc ?_ _)); exact BK232.out⟩, ⟨by repeat (first | (with_reducible first | exact HB.out | apply below_alloc | apply pw_below_drewN | apply below_drew1 | refine below_set ?_ GE232.out) | exact HB.out)⟩⟩
      ·
       rw [if_neg c25] at H
       have c25b0 : (t240 != t241) = false := by simpa using c25
       (try (have c25b1 : decide (t240 = t241) = true := by simpa using c25))
       (try (have c25b2 : (t240 == t241) = true := by simpa using c25))
       clear c25
       replace H := Option.bind_eq_some_iff.mp H
       obtain ⟨t242, A320, H⟩ := H
       replace H : (busbarlaw12_SpanTells.j1 kj5 l2 a3 a4 (!t242)) = some r := H
       have A32 := Aside0.mk A320
       clear A320
       have H' := Aside0.mk H
       clear H
       try go_wp2
       have n0_ := Aside0.mk (Kd.L_drew HO237.out)
       have n1_ := Aside0.mk (blk_drew BK232.out)
       have n2_ := Aside0.mk (below_drew1 HB.out)
       clear HO237
       clear BK232
       clear HB
       have HO237 := n0_
       have BK232 := n1_
       have HB := n2_
       clear n0_ n1_ n2_
       refine start_ (n := 18) (S := fun w' => w'.cell? ⟨gb232, 0, none⟩ = some (.int .i64 a0_0) ∧ w'.cell? ⟨gb232, 1, none⟩ = some (.int .i64 a0_1) ∧ w'.cell? ⟨gb232, 2, none⟩ = some (.int .i64 a0_2)) (ds := []) #[false, false, false, false, false, false, false, false, false, false, false, false, false, false, false, false, false, false] (by kernel_rfl) rfl rfl ⟨(blk_cell BK232.out 0).trans rfl, (blk_cell BK232.out 1).trans rfl, (blk_cell BK232.out 2).trans rfl⟩ (fun hHeld => ?_); refine with_tabW busbarlaw12_SpanTells.tab4 busbarlaw12_SpanTells.bits4 (fun HT_ HW_ => ?_)
       generalize w16.drew = w33 at HO237 BK232 HB hHeld ⊢
       refine take_ (i := 0) (N := some 24) (v := ?_) (a' := ?_) #[true, false, false, false, false, false, false, false, false, false, false, false, false, false, false, false, false, false] rfl rfl (take_ofW HT_.out HW_.out (by kernel_rfl)) (fun _ _ _ h => h) (Or.inl ⟨by rfl, ?_⟩) hHeld ?_ ?_
       rotate_left
       ·
        rintro w' ⟨s0, s1, s2⟩
        go_simp
        with_reducible rfl
       rotate_left
       ·
        simp only [Act.put, List.setIfInBounds_toArray, List.set_cons_zero, List.set_cons_succ, i64_w, i32_w]
        rfl
       refine take_ (i := 2) (N := some 26) (v := ?_) (a' := ?_) #[true, false, true, false, false, false, false, false, false, false, false, false, false, false, false, false, false, false] rfl rfl (take_ofW HT_.out HW_.out (by kernel_rfl)) (fun _ _ _ h => h) (Or.inl ⟨by rfl, ?_⟩) hHeld ?_ ?_
       rotate_left
       ·
        rintro w' ⟨s0, s1, s2⟩
        go_simp
        with_reducible rfl
       rotate_left
       ·
        simp only [Act.put, List.setIfInBounds_toArray, List.set_cons_zero, List.set_cons_succ, i64_w, i32_w]
        rfl
       refine one_ (i := 1) (N := some 25) #[true, true, true, false, false, false, false, false, false, false, false, false, false, false, false, false, false, false] rfl rfl (one_of HT_.out (by kernel_rfl)) (by decide) (fun K hK => ?_)
       refine goes_ Try.func25 (by kernel_rfl) rfl #[.agg #[.int .i64 a0_0, .int .i64 a0_1, .int .i64 a0_2]] (by rfl) rfl rfl (by (try simp only [List.map_toArray, List.map_cons, List.map_nil]); first | done | rfl | (simp only [List.length_drop, List.length_take]; rfl)) ?_
       with_reducible refine (span_Right.calls a0_0 a0_1 a0_2 t238 _ A17.out).mono ?_
       rintro e w34 ⟨rfl, hb⟩
       refine ⟨_, rfl, ?_⟩
       have n0_ := Aside0.mk (Kd.L_below (by (with_reducible repeat (first | apply Kd.L_alloc | apply Kd.L_drewN | apply Kd.L_drew)); exact HO237.out) hb)
       have n1_ := Aside0.mk (blk_below (g := gb232) (o := .cells #[.int .i64 a0_0, .int .i64 a0_1, .int .i64 a0_2] 47 (0, 0)) (by (with_reducible repeat (first | refine blk_drewN ?_ _ | refine blk_drew ?_ | refine blk_alloc ?_ _)); exact BK232.out) hb)
       have n2_ := Aside0.mk (below_step (by repeat (first | (with_reducible first | exact HB.out | apply below_alloc | apply pw_below_drewN | apply below_drew1 | refine below_set ?_ GE232.out) | exact HB.out)) hb)
       clear HO237
       clear BK232
       clear HB
       have HO237 := n0_
       have BK232 := n1_
       have HB := n2_
       clear n0_ n1_ n2_
       (try clear hb)
       (try clear hb2)
       (try clear hk)
       (try clear hi)
       refine hK.out _ _ ⟨(blk_cell BK232.out 0).trans rfl, (blk_cell BK232.out 1).trans rfl, (blk_cell BK232.out 2).trans rfl⟩ (fun hHeld => ?_)
       clear hK K
       refine norm_ (a' := ?_) ?_ ?_
       rotate_left
       ·
        show Act.put _ (some 25) _ = _
        simp only [Act.put, List.setIfInBounds_toArray, List.set_cons_zero, List.set_cons_succ, i64_w, i32_w]
        rfl
       refine one_ (i := 3) (N := some 27) #[true, true, true, true, false, false, false, false, false, false, false, false, false, false, false, false, false, false] rfl rfl (one_of HT_.out (by kernel_rfl)) (by decide) (fun K hK => ?_)
       refine goes_ Try.func26 (by kernel_rfl) rfl #[.agg #[.int .i64 a0_0, .int .i64 a0_1, .int .i64 a0_2]] (by rfl) rfl rfl (by (try simp only [List.map_toArray, List.map_cons, List.map_nil]); first | done | rfl | (simp only [List.length_drop, List.length_take]; rfl)) ?_
       with_reducible refine (busbarref12_Right.calls a0_0 a0_1 a0_2 t239 _ A18.out).mono ?_
       rintro e w35 ⟨rfl, hb⟩
       refine ⟨_, rfl, ?_⟩
       have n0_ := Aside0.mk (Kd.L_below (by (with_reducible repeat (first | apply Kd.L_alloc | apply Kd.L_drewN | apply Kd.L_drew)); exact HO237.out) hb)
       have n1_ := Aside0.mk (blk_below (g := gb232) (o := .cells #[.int .i64 a0_0, .int .i64 a0_1, .int .i64 a0_2] 47 (0, 0)) (by (with_reducible repeat (first | refine blk_drewN ?_ _ | refine blk_drew ?_ | refine blk_alloc ?_ _)); exact BK232.out) hb)
       have n2_ := Aside0.mk (below_step (by repeat (first | (with_reducible first | exact HB.out | apply below_alloc | apply pw_below_drewN | apply below_drew1 | refine below_set ?_ GE232.out) | exact HB.out)) hb)
       clear HO237
       clear BK232
       clear HB
       have HO237 := n0_
       have BK232 := n1_
       have HB := n2_
       clear n0_ n1_ n2_
       (try clear hb)
       (try clear hb2)
       (try clear hk)
       (try clear hi)
       obtain ⟨Ao36, co36, eo36, _⟩ := Kd.L_slice HO237.out
       (first | subst eo36 | (injection eo36 with f1_ f2_ f3_; have f4_ := f1_.symm; have f5_ := f3_.symm; clear f1_ f2_ f3_; subst f4_; subst f5_))
       refine hK.out _ _ ⟨(blk_cell BK232.out 0).trans rfl, (blk_cell BK232.out 1).trans rfl, (blk_cell BK232.out 2).trans rfl⟩ (fun hHeld => ?_)
       clear hK K
       refine norm_ (a' := ?_) ?_ ?_
       rotate_left
       ·
        show Act.put _ (some 27) _ = _
        simp only [Act.put, List.setIfInBounds_toArray, List.set_cons_zero, List.set_cons_succ, i64_w, i32_w]
        rfl
       refine pure_ (i := 4) (N := some 28) (v := ?_) (a' := ?_) #[true, true, true, true, true, false, false, false, false, false, false, false, false, false, false, false, false, false] rfl rfl (any_of HT_.out (by kernel_rfl)) (fun _ _ _ h => h) (Or.inl ⟨by rfl, ?_⟩) ?_ ?_
       rotate_left
       ·
        intro w'
        go_simp
        with_reducible rfl
       rotate_left
       ·
        simp only [Act.put, List.setIfInBounds_toArray, List.set_cons_zero, List.set_cons_succ, i64_w, i32_w]
        rfl
       refine pure_ (i := 5) (N := some 29) (v := ?_) (a' := ?_) #[true, true, true, true, true, true, false, false, false, false, false, false, false, false, false, false, false, false] rfl rfl (any_of HT_.out (by kernel_rfl)) (fun _ _ _ h => h) (Or.inl ⟨by rfl, ?_⟩) ?_ ?_
       rotate_left
       ·
        intro w'
        go_simp
        with_reducible rfl
       rotate_left
       ·
        simp only [Act.put, List.setIfInBounds_toArray, List.set_cons_zero, List.set_cons_succ, i64_w, i32_w]
        rfl
       refine pure_ (i := 6) (N := some 30) (v := ?_) (a' := ?_) #[true, true, true, true, true, true, true, false, false, false, false, false, false, false, false, false, false, false] rfl rfl (any_of HT_.out (by kernel_rfl)) (fun _ _ _ h => h) (Or.inl ⟨by rfl, ?_⟩) ?_ ?_
       rotate_left
       ·
        intro w'
        go_simp
        with_reducible rfl
       rotate_left
       ·
        simp only [Act.put, List.setIfInBounds_toArray, List.set_cons_zero, List.set_cons_succ, i64_w, i32_w]
        rfl
       refine pure_ (i := 8) (N := some 32) (v := ?_) (a' := ?_) #[true, true, true, true, true, true, true, false, true, false, false, false, false, false, false, false, false, false] rfl rfl (any_of HT_.out (by kernel_rfl)) (fun _ _ _ h => h) (Or.inl ⟨by rfl, ?_⟩) ?_ ?_
       rotate_left
       ·
        intro w'
        go_simp
        with_reducible rfl
       rotate_left
       ·
        simp only [Act.put, List.setIfInBounds_toArray, List.set_cons_zero, List.set_cons_succ, i64_w, i32_w]
        rfl
       refine one_ (i := 7) (N := some 31) #[true, true, true, true, true, true, true, true, true, false, false, false, false, false, false, false, false, false] rfl rfl (one_of HT_.out (by kernel_rfl)) (by decide) (fun K hK => ?_)
       refine goes_ Try.func27 (by kernel_rfl) rfl #[.slice Ao36 t235.length co36] (by rfl) rfl rfl (by (try simp only [List.map_toArray, List.map_cons, List.map_nil]); first | done | rfl | (simp only [List.length_drop, List.length_take]; rfl)) ?_
       with_reducible refine (span_Canon.calls kj5 _ _ t235 t240 _ ?side1 ?side2 A23.out).mono ?_
       (case side1 => repeat (first | exact (Kd.L_reads' HO237.out).2.2 | (with_reducible refine Kd.C_alloc ?_ _) | (with_reducible refine Kd.C_drewN ?_ _) | (with_reducible refine Kd.C_drew ?_)))
       (case side2 => exact (Kd.L_reads' HO237.out).2.1)
       rintro e w37 ⟨rfl, hb⟩
       refine ⟨_, rfl, ?_⟩
       have n0_ := Aside0.mk (Kd.L_below (by (with_reducible repeat (first | apply Kd.L_alloc | apply Kd.L_drewN | apply Kd.L_drew)); exact HO237.out) hb)
       have n1_ := Aside0.mk (blk_below (g := gb232) (o := .cells #[.int .i64 a0_0, .int .i64 a0_1, .int .i64 a0_2] 47 (0, 0)) (by (with_reducible repeat (first | refine blk_drewN ?_ _ | refine blk_drew ?_ | refine blk_alloc ?_ _)); exact BK232.out) hb)
       have n2_ := Aside0.mk (below_step (by repeat (first | (with_reducible first | exact HB.out | apply below_alloc | apply pw_below_drewN | apply below_drew1 | refine below_set ?_ GE232.out) | exact HB.out)) hb)
       clear HO237
       clear BK232
       clear HB
       have HO237 := n0_
       have BK232 := n1_
       have HB := n2_
       clear n0_ n1_ n2_
       (try clear hb)
       (try clear hb2)
       (try clear hk)
       (try clear hi)
       refine hK.out _ _ ⟨(blk_cell BK232.out 0).trans rfl, (blk_cell BK232.out 1).trans rfl, (blk_cell BK232.out 2).trans rfl⟩ (fun hHeld => ?_)
       clear hK K
       refine norm_ (a' := ?_) ?_ ?_
       rotate_left
       ·
        show Act.put _ (some 31) _ = _
        simp only [Act.put, List.setIfInBounds_toArray, List.set_cons_zero, List.set_cons_succ, i64_w, i32_w]
        rfl
       refine one_ (i := 9) (N := some 33) #[true, true, true, true, true, true, true, true, true, true, false, false, false, false, false, false, false, false] rfl rfl (one_of HT_.out (by kernel_rfl)) (by decide) (fun K hK => ?_)
       refine goes_ Try.func28 (by kernel_rfl) rfl #[.slice A1 l1.length c1] (by rfl) rfl rfl (by (try simp only [List.map_toArray, List.map_cons, List.map_nil]); first | done | rfl | (simp only [List.length_drop, List.length_take]; rfl)) ?_
       with_reducible refine (busbarref12_Canon.calls kj5 _ _ l1 t241 _ ?side1 ?side2 A24.out).mono ?_
       (case side1 => repeat (first | exact (Kd.C_below HR1.out HB.out) | (with_reducible refine Kd.C_alloc ?_ _) | (with_reducible refine Kd.C_drewN ?_ _) | (with_reducible refine Kd.C_drew ?_)))
       (case side2 => exact HC1.out)
       rintro e w38 ⟨rfl, hb⟩
       refine ⟨_, rfl, ?_⟩
       have n0_ := Aside0.mk (Kd.L_below (by (with_reducible repeat (first | apply Kd.L_alloc | apply Kd.L_drewN | apply Kd.L_drew)); exact HO237.out) hb)
       have n1_ := Aside0.mk (blk_below (g := gb232) (o := .cells #[.int .i64 a0_0, .int .i64 a0_1, .int .i64 a0_2] 47 (0, 0)) (by (with_reducible repeat (first | refine blk_drewN ?_ _ | refine blk_drew ?_ | refine blk_alloc ?_ _)); exact BK232.out) hb)
       have n2_ := Aside0.mk (below_step (by repeat (first | (with_reducible first | exact HB.out | apply below_alloc | apply pw_below_drewN | apply below_drew1 | refine below_set ?_ GE232.out) | exact HB.out)) hb)
       clear HO237
       clear BK232
       clear HB
       have HO237 := n0_
       have BK232 := n1_
       have HB := n2_
       clear n0_ n1_ n2_
       (try clear hb)
       (try clear hb2)
       (try clear hk)
       (try clear hi)
       refine hK.out _ _ ⟨(blk_cell BK232.out 0).trans rfl, (blk_cell BK232.out 1).trans rfl, (blk_cell BK232.out 2).trans rfl⟩ (fun hHeld => ?_)
       clear hK K
       refine norm_ (a' := ?_) ?_ ?_
       rotate_left
       ·
        show Act.put _ (some 33) _ = _
        simp only [Act.put, List.setIfInBounds_toArray, List.set_cons_zero, List.set_cons_succ, i64_w, i32_w]
        rfl
       refine pure_ (i := 10) (N := some 34) (v := ?_) (a' := ?_) #[true, true, true, true, true, true, true, true, true, true, true, false, false, false, false, false, false, false] rfl rfl (any_of HT_.out (by kernel_rfl)) (fun _ _ _ h => h) (Or.inl ⟨by rfl, ?_⟩) ?_ ?_
       rotate_left
       ·
        intro w'
        go_simp
        with_reducible rfl
       rotate_left
       ·
        simp only [Act.put, List.setIfInBounds_toArray, List.set_cons_zero, List.set_cons_succ, i64_w, i32_w]
        rfl
       refine pure_ (i := 11) (N := some 35) (v := ?_) (a' := ?_) #[true, true, true, true, true, true, true, true, true, true, true, true, false, false, false, false, false, false] rfl rfl (any_of HT_.out (by kernel_rfl)) (fun _ _ _ h => h) (Or.inl ⟨by rfl, ?_⟩) ?_ ?_
       rotate_left
       ·
        intro w'
        go_simp
        with_reducible rfl
       rotate_left
       ·
        simp only [Act.put, List.setIfInBounds_toArray, List.set_cons_zero, List.set_cons_succ, i64_w, i32_w]
        rfl
       refine pure_ (i := 12) (N := some 36) (v := ?_) (a' := ?_) #[true, true, true, true, true, true, true, true, true, true, true, true, true, false, false, false, false, false] rfl rfl (any_of HT_.out (by kernel_rfl)) (fun _ _ _ h => h) (Or.inl ⟨by rfl, ?_⟩) ?_ ?_
       rotate_left
       ·
        intro w'
        go_simp
        with_reducible rfl
       rotate_left
       ·
        simp only [Act.put, List.setIfInBounds_toArray, List.set_cons_zero, List.set_cons_succ, i64_w, i32_w]
        rfl
       refine pure_ (i := 13) (N := some 37) (v := ?_) (a' := ?_) #[true, true, true, true, true, true, true, true, true, true, true, true, true, true, false, false, false, false] rfl rfl (any_of HT_.out (by kernel_rfl)) (fun _ _ _ h => h) (Or.inl ⟨by rfl, ?_⟩) ?_ ?_
       rotate_left
       ·
        intro w'
        go_simp
        with_reducible rfl
       rotate_left
       ·
        simp only [Act.put, List.setIfInBounds_toArray, List.set_cons_zero, List.set_cons_succ, i64_w, i32_w]
        rfl
       refine pure_ (i := 14) (N := some 38) (v := ?_) (a' := ?_) #[true, true, true, true, true, true, true, true, true, true, true, true, true, true, true, false, false, false] rfl rfl (any_of HT_.out (by kernel_rfl)) (fun _ _ _ h => h) (Or.inl ⟨by rfl, ?_⟩) ?_ ?_
       rotate_left
       ·
        intro w'
        go_simp
        with_reducible rfl
       rotate_left
       ·
        simp only [Act.put, List.setIfInBounds_toArray, List.set_cons_zero, List.set_cons_succ, i64_w, i32_w]
        rfl
       refine one_ (i := 15) (N := some 39) #[true, true, true, true, true, true, true, true, true, true, true, true, true, true, true, true, false, false] rfl rfl (one_of HT_.out (by kernel_rfl)) (by decide) (fun K hK => ?_)
       refine goes_ Try.func29 (by kernel_rfl) rfl #[.slice Ao36 t235.length co36, .slice A1 l1.length c1] (by rfl) rfl rfl (by (try simp only [List.map_toArray, List.map_cons, List.map_nil]); first | done | rfl | (simp only [List.length_drop, List.length_take]; rfl)) ?_
       with_reducible refine (busbarlaw0_StaysSpans.calls kj5 _ _ t235 _ _ l1 t242 _ ?side1 ?side2 ?side3 ?side4 A32.out).mono ?_
       (case side1 => repeat (first | exact (Kd.L_reads3 HO237.out).2.2 | (with_reducible refine Kd.C_alloc ?_ _) | (with_reducible refine Kd.C_drewN ?_ _) | (with_reducible refine Kd.C_drew ?_)))
       (case side2 => exact (Kd.L_room3 HO237.out))
       (case side3 => repeat (first | exact (Kd.C_below HR1.out HB.out) | (with_reducible refine Kd.C_alloc ?_ _) | (with_reducible refine Kd.C_drewN ?_ _) | (with_reducible refine Kd.C_drew ?_)))
       (case side4 => exact HC1.out)
       rintro e w' ⟨rfl, ⟨nd, rfl⟩⟩
       refine ⟨_, rfl, ?_⟩
       refine hK.out _ _ ⟨(blk_cell BK232.out 0).trans rfl, (blk_cell BK232.out 1).trans rfl, (blk_cell BK232.out 2).trans rfl⟩ (fun hHeld => ?_)
       clear hK K
       refine norm_ (a' := ?_) ?_ ?_
       rotate_left
       ·
        show Act.put _ (some 39) _ = _
        simp only [Act.put, List.setIfInBounds_toArray, List.set_cons_zero, List.set_cons_succ, i64_w, i32_w]
        rfl
       refine pure_ (i := 16) (N := some 40) (v := ?_) (a' := ?_) #[true, true, true, true, true, true, true, true, true, true, true, true, true, true, true, true, true, false] rfl rfl (any_of HT_.out (by kernel_rfl)) (fun _ _ _ h => h) (Or.inl ⟨by rfl, ?_⟩) ?_ ?_
       rotate_left
       ·
        intro w'
        go_simp
        with_reducible rfl
       rotate_left
       ·
        simp only [Act.put, List.setIfInBounds_toArray, List.set_cons_zero, List.set_cons_succ, i64_w, i32_w]
        rfl
       refine pure_ (i := 17) (N := some 41) (v := ?_) (a' := ?_) #[true, true, true, true, true, true, true, true, true, true, true, true, true, true, true, true, true, true] rfl rfl (any_of HT_.out (by kernel_rfl)) (fun _ _ _ h => h) (Or.inl ⟨by rfl, ?_⟩) ?_ ?_
       rotate_left
       ·
        intro w'
        go_simp
        with_reducible rfl
       rotate_left
       ·
        simp only [Act.put, List.setIfInBounds_toArray, List.set_cons_zero, List.set_cons_succ, i64_w, i32_w]
        rfl
       refine done_ (done_of HT_.out (by kernel_rfl)) ?_
       try go_wp2
       go_meet
       case rel => exact ⟨_, (!t242), (by first | rfl | (simp; done) | (simp [*]; done)), H', ⟨by have := HJ5.out; first | omega | exact Nat.le_refl _⟩, ⟨by (with_reducible repeat (first | refine blk_drewN ?_ _ | refine blk_drew ?_ | refine blk_alloc ?_ _)); exact BK232.out⟩, ⟨by repeat (first | (with_reducible first | exact HB.out | apply below_alloc | apply pw_below_drewN | apply below_drew1 | refine below_set ?_ GE232.out) | exact HB.out)⟩⟩
    case rest =>
     clear HC15
     try clear c1
     try clear c2
     try clear p2
     try clear c19
     try clear c19b0
     try clear c19b1
     try clear c19b2
     try clear c25
     try clear c25b0
     try clear c25b1
     try clear c25b2
     try clear c26
     try clear c27
     try clear c28
     try clear c29
     obtain ⟨kq, x41_14, rfl, HA, HJ14, BK232, HB⟩ := hcut
     cases kq with
     | zero => exact absurd HA.out (by simp [busbarlaw12_SpanTells.j1])
     | succ kj14 =>
      have H := HA.out
      clear HA
      simp only [busbarlaw12_SpanTells.j1] at H
      by_cases c39 : x41_14 = true
      ·
       subst c39
       have H1 : (some false) = some r := by rw [if_pos rfl] at H; exact H
       clear H
       have H := H1
       clear H1
       obtain rfl := Option.some.inj H
       go_wp2
       go_ret
       exact ⟨by first | rfl | (simp [errW_none, errW_some] <;> rfl) | (simp [*, errW_none, errW_some] <;> rfl), by repeat (first | (with_reducible first | exact HB.out | apply below_alloc | apply pw_below_drewN | apply below_drew1 | refine below_set ?_ GE232.out) | exact HB.out)⟩
      ·
       replace c39 := Bool.eq_false_iff.mpr c39
       subst c39
       have H1 : ((busbarlaw0_Spans.f kj14 l2).bind fun t243 => ((span_Canon.f kj14 t243).bind fun t246 => (if t246 = true then (if (t243.length : Int) = 0 then (some true) else ((busbarlaw0_Digit.f a3 4 (t243.length : Int)).bind fun t247 => ((busbarlaw0_Within.f a3 4).bind fun t248 => (if t248 = 0 then (if 0 ≤ t247 then (if t247 < (t243.length : Int) then ((some (t243.set (t247 : Int).toNat (⟨a4, (rd_T47 t243 t247).f1, (rd_T47 t243 t247).f2⟩ : S47) : List (S47))).bind fun y249 => ((span_Canon.f kj14 y249).bind fun t250 => ((busbarref12_Canon.f kj14 y249).bind fun t251 => (some (t250 == t251))))) else (none)) else (none)) else (if t248 = 1 then (if 0 ≤ t247 then (if t247 < (t243.length : Int) then ((some (t243.set (t247 : Int).toNat (⟨(rd_T47 t243 t247).f0, a4, (rd_T47 t243 t247).f2⟩ : S47) : List (S47))).bind fun y252 => ((span_Canon.f kj14 y252).bind fun t253 => ((busbarref12_Canon.f kj14 y252).bind fun t254 => (some (t253 == t254))))) else (none)) else (none)) else (if t248 = 2 then (if 0 ≤ t247 then (if t247 < (t243.length : Int) then ((some (t243.set (t247 : Int).toNat (⟨(rd_T47 t243 t247).f0, (rd_T47 t243 t247).f1, a4⟩ : S47) : List (S47))).bind fun y255 => ((span_Canon.f kj14 y255).bind fun t256 => ((busbarref12_Canon.f kj14 y255).bind fun t257 => (some (t256 == t257))))) else (none)) else (none)) else (if t248 = 3 then (if 0 ≤ t247 then (if t247 < (t243.length : Int) then (if t243.length < 5864062014805 then ((some (t243 ++ [(⟨(rd_T47 t243 t247).f0, (rd_T47 t243 t247).f1, (rd_T47 t243 t247).f2⟩ : S47)] : List (S47))).bind fun y259 => ((span_Canon.f kj14 y259).bind fun t262 => ((busbarref12_Canon.f kj14 y259).bind fun t263 => (some (t262 == t263))))) else (none)) else (none)) else (none)) else ((span_Canon.f kj14 t243).bind fun t264 => ((busbarref12_Canon.f kj14 t243).bind fun t265 => (some (t264 == t265))))))))))) else (some false)))) = some r := by rw [if_neg (show ¬ (false = true) by decide)] at H; exact H
       clear H
       have H := H1
       clear H1
       replace H := Option.bind_eq_some_iff.mp H
       obtain ⟨t243, A400, H⟩ := H
       replace H : ((span_Canon.f kj14 t243).bind fun t246 => (if t246 = true then (if (t243.length : Int) = 0 then (some true) else ((busbarlaw0_Digit.f a3 4 (t243.length : Int)).bind fun t247 => ((busbarlaw0_Within.f a3 4).bind fun t248 => (if t248 = 0 then (if 0 ≤ t247 then (if t247 < (t243.length : Int) then ((some (t243.set (t247 : Int).toNat (⟨a4, (rd_T47 t243 t247).f1, (rd_T47 t243 t247).f2⟩ : S47) : List (S47))).bind fun y249 => ((span_Canon.f kj14 y249).bind fun t250 => ((busbarref12_Canon.f kj14 y249).bind fun t251 => (some (t250 == t251))))) else (none)) else (none)) else (if t248 = 1 then (if 0 ≤ t247 then (if t247 < (t243.length : Int) then ((some (t243.set (t247 : Int).toNat (⟨(rd_T47 t243 t247).f0, a4, (rd_T47 t243 t247).f2⟩ : S47) : List (S47))).bind fun y252 => ((span_Canon.f kj14 y252).bind fun t253 => ((busbarref12_Canon.f kj14 y252).bind fun t254 => (some (t253 == t254))))) else (none)) else (none)) else (if t248 = 2 then (if 0 ≤ t247 then (if t247 < (t243.length : Int) then ((some (t243.set (t247 : Int).toNat (⟨(rd_T47 t243 t247).f0, (rd_T47 t243 t247).f1, a4⟩ : S47) : List (S47))).bind fun y255 => ((span_Canon.f kj14 y255).bind fun t256 => ((busbarref12_Canon.f kj14 y255).bind fun t257 => (some (t256 == t257))))) else (none)) else (none)) else (if t248 = 3 then (if 0 ≤ t247 then (if t247 < (t243.length : Int) then (if t243.length < 5864062014805 then ((some (t243 ++ [(⟨(rd_T47 t243 t247).f0, (rd_T47 t243 t247).f1, (rd_T47 t243 t247).f2⟩ : S47)] : List (S47))).bind fun y259 => ((span_Canon.f kj14 y259).bind fun t262 => ((busbarref12_Canon.f kj14 y259).bind fun t263 => (some (t262 == t263))))) else (none)) else (none)) else (none)) else ((span_Canon.f kj14 t243).bind fun t264 => ((busbarref12_Canon.f kj14 t243).bind fun t265 => (some (t264 == t265))))))))))) else (some false))) = some r := H
       have A40 := Aside0.mk A400
       clear A400
       replace H := Option.bind_eq_some_iff.mp H
       obtain ⟨t246, A410, H⟩ := H
       replace H : (if t246 = true then (if (t243.length : Int) = 0 then (some true) else ((busbarlaw0_Digit.f a3 4 (t243.length : Int)).bind fun t247 => ((busbarlaw0_Within.f a3 4).bind fun t248 => (if t248 = 0 then (if 0 ≤ t247 then (if t247 < (t243.length : Int) then ((some (t243.set (t247 : Int).toNat (⟨a4, (rd_T47 t243 t247).f1, (rd_T47 t243 t247).f2⟩ : S47) : List (S47))).bind fun y249 => ((span_Canon.f kj14 y249).bind fun t250 => ((busbarref12_Canon.f kj14 y249).bind fun t251 => (some (t250 == t251))))) else (none)) else (none)) else (if t248 = 1 then (if 0 ≤ t247 then (if t247 < (t243.length : Int) then ((some (t243.set (t247 : Int).toNat (⟨(rd_T47 t243 t247).f0, a4, (rd_T47 t243 t247).f2⟩ : S47) : List (S47))).bind fun y252 => ((span_Canon.f kj14 y252).bind fun t253 => ((busbarref12_Canon.f kj14 y252).bind fun t254 => (some (t253 == t254))))) else (none)) else (none)) else (if t248 = 2 then (if 0 ≤ t247 then (if t247 < (t243.length : Int) then ((some (t243.set (t247 : Int).toNat (⟨(rd_T47 t243 t247).f0, (rd_T47 t243 t247).f1, a4⟩ : S47) : List (S47))).bind fun y255 => ((span_Canon.f kj14 y255).bind fun t256 => ((busbarref12_Canon.f kj14 y255).bind fun t257 => (some (t256 == t257))))) else (none)) else (none)) else (if t248 = 3 then (if 0 ≤ t247 then (if t247 < (t243.length : Int) then (if t243.length < 5864062014805 then ((some (t243 ++ [(⟨(rd_T47 t243 t247).f0, (rd_T47 t243 t247).f1, (rd_T47 t243 t247).f2⟩ : S47)] : List (S47))).bind fun y259 => ((span_Canon.f kj14 y259).bind fun t262 => ((busbarref12_Canon.f kj14 y259).bind fun t263 => (some (t262 == t263))))) else (none)) else (none)) else (none)) else ((span_Canon.f kj14 t243).bind fun t264 => ((busbarref12_Canon.f kj14 t243).bind fun t265 => (some (t264 == t265))))))))))) else (some false)) = some r := H
       have A41 := Aside0.mk A410
       clear A410
       by_cases c42 : t246 = true
       ·
        subst c42
        have H1 : (if (t243.length : Int) = 0 then (some true) else ((busbarlaw0_Digit.f a3 4 (t243.length : Int)).bind fun t247 => ((busbarlaw0_Within.f a3 4).bind fun t248 => (if t248 = 0 then (if 0 ≤ t247 then (if t247 < (t243.length : Int) then ((some (t243.set (t247 : Int).toNat (⟨a4, (rd_T47 t243 t247).f1, (rd_T47 t243 t247).f2⟩ : S47) : List (S47))).bind fun y249 => ((span_Canon.f kj14 y249).bind fun t250 => ((busbarref12_Canon.f kj14 y249).bind fun t251 => (some (t250 == t251))))) else (none)) else (none)) else (if t248 = 1 then (if 0 ≤ t247 then (if t247 < (t243.length : Int) then ((some (t243.set (t247 : Int).toNat (⟨(rd_T47 t243 t247).f0, a4, (rd_T47 t243 t247).f2⟩ : S47) : List (S47))).bind fun y252 => ((span_Canon.f kj14 y252).bind fun t253 => ((busbarref12_Canon.f kj14 y252).bind fun t254 => (some (t253 == t254))))) else (none)) else (none)) else (if t248 = 2 then (if 0 ≤ t247 then (if t247 < (t243.length : Int) then ((some (t243.set (t247 : Int).toNat (⟨(rd_T47 t243 t247).f0, (rd_T47 t243 t247).f1, a4⟩ : S47) : List (S47))).bind fun y255 => ((span_Canon.f kj14 y255).bind fun t256 => ((busbarref12_Canon.f kj14 y255).bind fun t257 => (some (t256 == t257))))) else (none)) else (none)) else (if t248 = 3 then (if 0 ≤ t247 then (if t247 < (t243.length : Int) then (if t243.length < 5864062014805 then ((some (t243 ++ [(⟨(rd_T47 t243 t247).f0, (rd_T47 t243 t247).f1, (rd_T47 t243 t247).f2⟩ : S47)] : List (S47))).bind fun y259 => ((span_Canon.f kj14 y259).bind fun t262 => ((busbarref12_Canon.f kj14 y259).bind fun t263 => (some (t262 == t263))))) else (none)) else (none)) else (none)) else ((span_Canon.f kj14 t243).bind fun t264 => ((busbarref12_Canon.f kj14 t243).bind fun t265 => (some (t264 == t265))))))))))) = some r := by rw [if_pos rfl] at H; exact H
        clear H
        have H := H1
        clear H1
        by_cases c43 : (t243.length : Int) = 0
        ·
         rw [if_pos c43] at H
         have c43b0 : ((t243.length : Int) == 0) = true := beq_iff_eq.mpr c43
         have c43b1 : ((t243.length : Int) != 0) = false := bne_eq_false_iff_eq.mpr c43
         clear c43
         obtain rfl := Option.some.inj H
         go_wp2_with (first | ((with_reducible refine gate_callee (f := 30) rfl ?_); refine goesL_ (some 43) rfl rfl Try.func30 (by kernel_rfl) rfl #[.slice A2 l2.length c2] rfl (by (try simp only [List.map_toArray, List.map_cons, List.map_nil]); first | done | rfl | (simp only [List.length_drop, List.length_take]; rfl)) ?_; (with_reducible refine (busbarlaw0_Spans.calls kj14 _ _ l2 t243 _ ?side1 ?side2 A40.out).mono ?_); (case side1 => repeat (first | exact (Kd.C_below HR2.out HB.out) | (with_reducible refine Kd.C_alloc ?_ _) | (with_reducible refine Kd.C_drewN ?_ _) | (with_reducible refine Kd.C_drew ?_))); (case side2 => exact HC2.out); rintro e w44 ⟨v244, rfl, ho0, hb⟩; refine ⟨_, rfl, ?_⟩; have n0_ := Aside0.mk (Kd.R_lower (Kd.R_newB ho0 (g := gb232) (o := .cells #[.int .i64 a0_0, .int .i64 a0_1, .int .i64 a0_2] 47 (0, 0)) (by (with_reducible repeat (first | refine blk_drewN ?_ _ | refine blk_drew ?_ | refine blk_alloc ?_ _)); exact BK232.out)) (below_size (by repeat (first | (with_reducible first | exact HB.out | apply below_alloc | apply pw_below_drewN | apply below_drew1 | refine below_set ?_ GE232.out) | exact HB.out)))); have n1_ := Aside0.mk (blk_below (g := gb232) (o := .cells #[.int .i64 a0_0, .int .i64 a0_1, .int .i64 a0_2] 47 (0, 0)) (by (with_reducible repeat (first | refine blk_drewN ?_ _ | refine blk_drew ?_ | refine blk_alloc ?_ _)); exact BK232.out) hb); have n2_ := Aside0.mk (below_step (by repeat (first | (with_reducible first | exact HB.out | apply below_alloc | apply pw_below_drewN | apply below_drew1 | refine below_set ?_ GE232.out) | exact HB.out)) hb); clear BK232; clear HB; have HO245 := n0_; have BK232 := n1_; have HB := n2_; clear n0_ n1_ n2_; (try clear hb); (try clear hb2); (try clear hk); (try clear hi); (try clear ho0); obtain ⟨Ao45, co45, eo45⟩ := Kd.R_slice HO245.out; subst eo45) | ((with_reducible refine gate_callee (f := 27) rfl ?_); refine goesL_ (some 45) rfl rfl Try.func27 (by kernel_rfl) rfl #[.slice Ao45 t243.length co45] rfl (by (try simp only [List.map_toArray, List.map_cons, List.map_nil]); first | done | rfl | (simp only [List.length_drop, List.length_take]; rfl)) ?_; (with_reducible refine (span_Canon.calls kj14 _ _ t243 true _ ?side1 ?side2 A41.out).mono ?_); (case side1 => repeat (first | exact (Kd.R_reads' HO245.out).2.2 | (with_reducible refine Kd.C_alloc ?_ _) | (with_reducible refine Kd.C_drewN ?_ _) | (with_reducible refine Kd.C_drew ?_))); (case side2 => exact (Kd.R_reads' HO245.out).2.1); rintro e w46 ⟨rfl, hb⟩; refine ⟨_, rfl, ?_⟩; have n0_ := Aside0.mk (Kd.R_below (by (with_reducible repeat (first | apply Kd.R_alloc | apply Kd.R_drewN | apply Kd.R_drew)); exact HO245.out) hb); have n1_ := Aside0.mk (blk_below (g := gb232) (o := .cells #[.int .i64 a0_0, .int .i64 a0_1, .int .i64 a0_2] 47 (0, 0)) (by (with_reducible repeat (first | refine blk_drewN ?_ _ | refine blk_drew ?_ | refine blk_alloc ?_ _)); exact BK232.out) hb); have n2_ := Aside0.mk (below_step (by repeat (first | (with_reducible first | exact HB.out | apply below_alloc | apply pw_below_drewN | apply below_drew1 | refine below_set ?_ GE232.out) | exact HB.out)) hb); clear HO245; clear BK232; clear HB; have HO245 := n0_; have BK232 := n1_; have HB := n2_; clear n0_ n1_ n2_; (try clear hb); (try clear hb2); (try clear hk); (try clear hi)))
         go_ret
         exact ⟨by first | rfl | (simp [errW_none, errW_some] <;> rfl) | (simp [*, errW_none, errW_some] <;> rfl), by repeat (first | (with_reducible first | exact HB.out | apply below_alloc | apply pw_below_drewN | apply below_drew1 | refine below_set ?_ GE232.out) | exact HB.out)⟩
        ·
         rw [if_neg c43] at H
         have c43b0 : ((t243.length : Int) == 0) = false := beq_eq_false_iff_ne.mpr c43
         have c43b1 : ((t243.length : Int) != 0) = true := bne_iff_ne.mpr c43
         have c43b2 : ¬ (t243 = []) := fun h_ => c43 (by rw [h_]; rfl)
         replace H := Option.bind_eq_some_iff.mp H
         obtain ⟨t247, A470, H⟩ := H
         replace H : ((busbarlaw0_Within.f a3 4).bind fun t248 => (if t248 = 0 then (if 0 ≤ t247 then (if t247 < (t243.length : Int) then ((some (t243.set (t247 : Int).toNat (⟨a4, (rd_T47 t243 t247).f1, (rd_T47 t243 t247).f2⟩ : S47) : List (S47))).bind fun y249 => ((span_Canon.f kj14 y249).bind fun t250 => ((busbarref12_Canon.f kj14 y249).bind fun t251 => (some (t250 == t251))))) else (none)) else (none)) else (if t248 = 1 then (if 0 ≤ t247 then (if t247 < (t243.length : Int) then ((some (t243.set (t247 : Int).toNat (⟨(rd_T47 t243 t247).f0, a4, (rd_T47 t243 t247).f2⟩ : S47) : List (S47))).bind fun y252 => ((span_Canon.f kj14 y252).bind fun t253 => ((busbarref12_Canon.f kj14 y252).bind fun t254 => (some (t253 == t254))))) else (none)) else (none)) else (if t248 = 2 then (if 0 ≤ t247 then (if t247 < (t243.length : Int) then ((some (t243.set (t247 : Int).toNat (⟨(rd_T47 t243 t247).f0, (rd_T47 t243 t247).f1, a4⟩ : S47) : List (S47))).bind fun y255 => ((span_Canon.f kj14 y255).bind fun t256 => ((busbarref12_Canon.f kj14 y255).bind fun t257 => (some (t256 == t257))))) else (none)) else (none)) else (if t248 = 3 then (if 0 ≤ t247 then (if t247 < (t243.length : Int) then (if t243.length < 5864062014805 then ((some (t243 ++ [(⟨(rd_T47 t243 t247).f0, (rd_T47 t243 t247).f1, (rd_T47 t243 t247).f2⟩ : S47)] : List (S47))).bind fun y259 => ((span_Canon.f kj14 y259).bind fun t262 => ((busbarref12_Canon.f kj14 y259).bind fun t263 => (some (t262 == t263))))) else (none)) else (none)) else (none)) else ((span_Canon.f kj14 t243).bind fun t264 => ((busbarref12_Canon.f kj14 t243).bind fun t265 => (some (t264 == t265))))))))) = some r := H
         have A47 := Aside0.mk A470
         clear A470
         replace H := Option.bind_eq_some_iff.mp H
         obtain ⟨t248, A480, H⟩ := H
         replace H : (if t248 = 0 then (if 0 ≤ t247 then (if t247 < (t243.length : Int) then ((some (t243.set (t247 : Int).toNat (⟨a4, (rd_T47 t243 t247).f1, (rd_T47 t243 t247).f2⟩ : S47) : List (S47))).bind fun y249 => ((span_Canon.f kj14 y249).bind fun t250 => ((busbarref12_Canon.f kj14 y249).bind fun t251 => (some (t250 == t251))))) else (none)) else (none)) else (if t248 = 1 then (if 0 ≤ t247 then (if t247 < (t243.length : Int) then ((some (t243.set (t247 : Int).toNat (⟨(rd_T47 t243 t247).f0, a4, (rd_T47 t243 t247).f2⟩ : S47) : List (S47))).bind fun y252 => ((span_Canon.f kj14 y252).bind fun t253 => ((busbarref12_Canon.f kj14 y252).bind fun t254 => (some (t253 == t254))))) else (none)) else (none)) else (if t248 = 2 then (if 0 ≤ t247 then (if t247 < (t243.length : Int) then ((some (t243.set (t247 : Int).toNat (⟨(rd_T47 t243 t247).f0, (rd_T47 t243 t247).f1, a4⟩ : S47) : List (S47))).bind fun y255 => ((span_Canon.f kj14 y255).bind fun t256 => ((busbarref12_Canon.f kj14 y255).bind fun t257 => (some (t256 == t257))))) else (none)) else (none)) else (if t248 = 3 then (if 0 ≤ t247 then (if t247 < (t243.length : Int) then (if t243.length < 5864062014805 then ((some (t243 ++ [(⟨(rd_T47 t243 t247).f0, (rd_T47 t243 t247).f1, (rd_T47 t243 t247).f2⟩ : S47)] : List (S47))).bind fun y259 => ((span_Canon.f kj14 y259).bind fun t262 => ((busbarref12_Canon.f kj14 y259).bind fun t263 => (some (t262 == t263))))) else (none)) else (none)) else (none)) else ((span_Canon.f kj14 t243).bind fun t264 => ((busbarref12_Canon.f kj14 t243).bind fun t265 => (some (t264 == t265)))))))) = some r := H
         have A48 := Aside0.mk A480
         clear A480
         by_cases c49 : t248 = 0
         ·
          rw [if_pos c49] at H
          have c49b0 : (t248 == 0) = true := beq_iff_eq.mpr c49
          have c49b1 : (t248 != 0) = false := bne_eq_false_iff_eq.mpr c49
          clear c49
          by_cases c50 : 0 ≤ t247
          ·
           rw [if_pos c50] at H
           have c50b0 : decide (0 ≤ t247) = true := decide_eq_true c50
           clear c50
           by_cases c51 : t247 < (t243.length : Int)
           ·
            rw [if_pos c51] at H
            have c51b0 : decide (t247 < (t243.length : Int)) = true := decide_eq_true c51
            clear c51
            obtain ⟨y249, hy249⟩ : ∃ y_ : List (S47), y_ = (t243.set (t247 : Int).toNat (⟨a4, (rd_T47 t243 t247).f1, (rd_T47 t243 t247).f2⟩ : S47)) := ⟨_, rfl⟩
            replace H : ((span_Canon.f kj14 y249).bind fun t250 => ((busbarref12_Canon.f kj14 y249).bind fun t251 => (some (t250 == t251)))) = some r := by first | (rw [hy249]; with_reducible exact H) | (have H2_ := (Option.bind_some _ _).symm.trans H; rw [hy249]; with_reducible exact H2_) | (have H2_ := (Option.bind_some _ _).symm.trans H; with_reducible exact H2_) | with_reducible exact H | (rw [hy249]; exact H) | exact H
            have Ny249 := Aside0.mk hy249
            clear hy249
            replace H := Option.bind_eq_some_iff.mp H
            obtain ⟨t250, A530, H⟩ := H
            replace H : ((busbarref12_Canon.f kj14 y249).bind fun t251 => (some (t250 == t251))) = some r := H
            have A53 := Aside0.mk A530
            clear A530
            replace H := Option.bind_eq_some_iff.mp H
            obtain ⟨t251, A540, H⟩ := H
            replace H : (some (t250 == t251)) = some r := H
            have A54 := Aside0.mk A540
            clear A540
            obtain rfl := Option.some.inj H
            go_wp2_with (first | ((with_reducible refine gate_callee (f := 30) rfl ?_); refine goesL_ (some 43) rfl rfl Try.func30 (by kernel_rfl) rfl #[.slice A2 l2.length c2] rfl (by (try simp only [List.map_toArray, List.map_cons, List.map_nil]); first | done | rfl | (simp only [List.length_drop, List.length_take]; rfl)) ?_; (with_reducible refine (busbarlaw0_Spans.calls kj14 _ _ l2 t243 _ ?side1 ?side2 A40.out).mono ?_); (case side1 => repeat (first | exact (Kd.C_below HR2.out HB.out) | (with_reducible refine Kd.C_alloc ?_ _) | (with_reducible refine Kd.C_drewN ?_ _) | (with_reducible refine Kd.C_drew ?_))); (case side2 => exact HC2.out); rintro e w55 ⟨v244, rfl, ho0, hb⟩; refine ⟨_, rfl, ?_⟩; have n0_ := Aside0.mk (Kd.R_lower (Kd.R_newB ho0 (g := gb232) (o := .cells #[.int .i64 a0_0, .int .i64 a0_1, .int .i64 a0_2] 47 (0, 0)) (by (with_reducible repeat (first | refine blk_drewN ?_ _ | refine blk_drew ?_ | refine blk_alloc ?_ _)); exact BK232.out)) (below_size (by repeat (first | (with_reducible first | exact HB.out | apply below_alloc | apply pw_below_drewN | apply below_drew1 | refine below_set ?_ GE232.out) | exact HB.out)))); have n1_ := Aside0.mk (blk_below (g := gb232) (o := .cells #[.int .i64 a0_0, .int .i64 a0_1, .int .i64 a0_2] 47 (0, 0)) (by (with_reducible repeat (first | refine blk_drewN ?_ _ | refine blk_drew ?_ | refine blk_alloc ?_ _)); exact BK232.out) hb); have n2_ := Aside0.mk (below_step (by repeat (first | (with_reducible first | exact HB.out | apply below_alloc | apply pw_below_drewN | apply below_drew1 | refine below_set ?_ GE232.out) | exact HB.out)) hb); clear BK232; clear HB; have HO245 := n0_; have BK232 := n1_; have HB := n2_; clear n0_ n1_ n2_; (try clear hb); (try clear hb2); (try clear hk); (try clear hi); (try clear ho0); obtain ⟨Ao56, co56, eo56⟩ := Kd.R_slice HO245.out; subst eo56) | ((with_reducible refine gate_callee (f := 27) rfl ?_); refine goesL_ (some 45) rfl rfl Try.func27 (by kernel_rfl) rfl #[.slice Ao56 t243.length co56] rfl (by (try simp only [List.map_toArray, List.map_cons, List.map_nil]); first | done | rfl | (simp only [List.length_drop, List.length_take]; rfl)) ?_; (with_reducible refine (span_Canon.calls kj14 _ _ t243 true _ ?side1 ?side2 A41.out).mono ?_); (case side1 => repeat (first | exact (Kd.R_reads' HO245.out).2.2 | (with_reducible refine Kd.C_alloc ?_ _) | (with_reducible refine Kd.C_drewN ?_ _) | (with_reducible refine Kd.C_drew ?_))); (case side2 => exact (Kd.R_reads' HO245.out).2.1); rintro e w57 ⟨rfl, hb⟩; refine ⟨_, rfl, ?_⟩; have n0_ := Aside0.mk (Kd.R_below (by (with_reducible repeat (first | apply Kd.R_alloc | apply Kd.R_drewN | apply Kd.R_drew)); exact HO245.out) hb); have n1_ := Aside0.mk (blk_below (g := gb232) (o := .cells #[.int .i64 a0_0, .int .i64 a0_1, .int .i64 a0_2] 47 (0, 0)) (by (with_reducible repeat (first | refine blk_drewN ?_ _ | refine blk_drew ?_ | refine blk_alloc ?_ _)); exact BK232.out) hb); have n2_ := Aside0.mk (below_step (by repeat (first | (with_reducible first | exact HB.out | apply below_alloc | apply pw_below_drewN | apply below_drew1 | refine below_set ?_ GE232.out) | exact HB.out)) hb); clear HO245; clear BK232; clear HB; have HO245 := n0_; have BK232 := n1_; have HB := n2_; clear n0_ n1_ n2_; (try clear hb); (try clear hb2); (try clear hk); (try clear hi)) | ((with_reducible refine gate_callee (f := 31) rfl ?_); refine goesL_ (some 53) rfl rfl Try.func31 (by kernel_rfl) rfl #[.int .i64 a3, .int .i64 4, .int .i64 (t243.length : Int)] rfl (by (try simp only [List.map_toArray, List.map_cons, List.map_nil]); first | done | rfl | (simp only [List.length_drop, List.length_take]; rfl)) ?_; (with_reducible refine (busbarlaw0_Digit.calls a3 4 (t243.length : Int) t247 _ A47.out).mono ?_); rintro e w' ⟨rfl, ⟨nd, rfl⟩⟩; refine ⟨_, rfl, ?_⟩; (try (rw [drewN_self w57]; generalize hq_ : World.drewN w57 _ = w57; have n0_ : Aside0 (Kd.R k47 47 w57 w.heap.size (fun k_ => k_ ≠ gb232) (.slice Ao56 t243.length co56) t243) := ⟨by rw [← hq_]; exact (by (with_reducible repeat (first | apply Kd.R_alloc | apply Kd.R_drewN | apply Kd.R_drew)); exact Kd.R_mono HO245.out (fun _ hk => by first | exact hk.2 | exact hk))⟩; have n1_ : Aside0 (w57.heap[gb232]? = some (.cells #[.int .i64 a0_0, .int .i64 a0_1, .int .i64 a0_2] 47 (0, 0))) := ⟨by rw [← hq_]; exact (by (with_reducible repeat (first | refine blk_drewN ?_ _ | refine blk_drew ?_ | refine blk_alloc ?_ _)); exact BK232.out)⟩; have n2_ : Aside0 (Below w.heap.size w w57) := ⟨by rw [← hq_]; exact (by repeat (first | (with_reducible first | exact HB.out | apply below_alloc | apply pw_below_drewN | apply below_drew1 | refine below_set ?_ GE232.out) | exact HB.out))⟩; clear HO245 BK232 HB hq_; have HO245 := n0_; have BK232 := n1_; have HB := n2_; clear n0_ n1_ n2_))) | ((with_reducible refine gate_callee (f := 16) rfl ?_); refine goesL_ (some 55) rfl rfl Try.func16 (by kernel_rfl) rfl #[.int .i64 a3, .int .i64 4] rfl (by (try simp only [List.map_toArray, List.map_cons, List.map_nil]); first | done | rfl | (simp only [List.length_drop, List.length_take]; rfl)) ?_; (with_reducible refine (busbarlaw0_Within.calls a3 4 t248 _ A48.out).mono ?_); rintro e w' ⟨rfl, ⟨nd, rfl⟩⟩; refine ⟨_, rfl, ?_⟩; (try (rw [drewN_self w57]; generalize hq_ : World.drewN w57 _ = w57; have n0_ : Aside0 (Kd.R k47 47 w57 w.heap.size (fun k_ => k_ ≠ gb232) (.slice Ao56 t243.length co56) t243) := ⟨by rw [← hq_]; exact (by (with_reducible repeat (first | apply Kd.R_alloc | apply Kd.R_drewN | apply Kd.R_drew)); exact Kd.R_mono HO245.out (fun _ hk => by first | exact hk.2 | exact hk))⟩; have n1_ : Aside0 (w57.heap[gb232]? = some (.cells #[.int .i64 a0_0, .int .i64 a0_1, .int .i64 a0_2] 47 (0, 0))) := ⟨by rw [← hq_]; exact (by (with_reducible repeat (first | refine blk_drewN ?_ _ | refine blk_drew ?_ | refine blk_alloc ?_ _)); exact BK232.out)⟩; have n2_ : Aside0 (Below w.heap.size w w57) := ⟨by rw [← hq_]; exact (by repeat (first | (with_reducible first | exact HB.out | apply below_alloc | apply pw_below_drewN | apply below_drew1 | refine below_set ?_ GE232.out) | exact HB.out))⟩; clear HO245 BK232 HB hq_; have HO245 := n0_; have BK232 := n1_; have HB := n2_; clear n0_ n1_ n2_)); have p52 : 0 ≤ (t247 : Int) := of_decide_eq_true (by first | (with_reducible assumption) | assumption); have q52 : (t247 : Int) < ((t243.length : Int) : Int) := of_decide_eq_true (by first | (with_reducible assumption) | assumption); obtain ⟨go52, co52, eo52, gb52, gl52, cl52, HG52⟩ := Kd.R_form HO245.out (by omega); (first | cases eo52 | (injection eo52 with ea_ en_ ec_; (first | subst ea_ | (injection ea_ with ea_; subst ea_)); subst ec_; clear en_)); have GB52 := Aside0.mk gb52; have GG52 := Aside0.mk HG52; clear gb52 gl52 HG52; obtain ⟨ce52, hcl52, hM52, hcc52, hfr52⟩ := Kd.R_elem HO245.out z47 (t247 : Int) p52 q52; obtain rfl := k47_openM hM52; have hx52_0 : w57.cell? ⟨go52, (t247 : Int).toNat * 3, none⟩ = some (.int .i64 ((rd_T47 t243 t247).f0)) := hcc52 0 _ rfl; have hx52_1 : w57.cell? ⟨go52, (t247 : Int).toNat * 3 + 1, none⟩ = some (.int .i64 ((rd_T47 t243 t247).f1)) := hcc52 1 _ rfl; have hx52_2 : w57.cell? ⟨go52, (t247 : Int).toNat * 3 + 2, none⟩ = some (.int .i64 ((rd_T47 t243 t247).f2)) := hcc52 2 _ rfl; have hf52_0 : w57.frozen? ⟨go52, (t247 : Int).toNat * 3, none⟩ = false := hfr52 0; have hf52_1 : w57.frozen? ⟨go52, (t247 : Int).toNat * 3 + 1, none⟩ = false := hfr52 1; have hf52_2 : w57.frozen? ⟨go52, (t247 : Int).toNat * 3 + 2, none⟩ = false := hfr52 2; clear hcl52 hcc52 hfr52 hM52; replace p52 := eq_true p52; replace q52 := eq_true q52; have n_ := Aside0.mk (Kd.R_mono (ok' := (fun k_ => k_ ≠ gb232)) HO245.out (fun k_ hk => by first | exact hk | exact hk.2)); clear HO245; have HO245 := n_; clear n_; have HX58 := Aside0.mk (show Kd.R k47 47 w57 w.heap.size (fun k_ => k_ ≠ gb232) (.slice (some ⟨go52, 0, none⟩) t243.length co56) t243 from (by (with_reducible repeat (first | apply Kd.R_alloc | apply Kd.R_drewN | apply Kd.R_drew)); exact HO245.out)); obtain ⟨ce58, hcl58, hM58, hcc58, hfr58⟩ := Kd.R_elem HX58.out z47 (t247 : Int) (of_decide_eq_true (by first | (with_reducible assumption) | assumption)) (by have h_ : (t247 : Int) < ((t243.length : Int) : Int) := of_decide_eq_true (by first | (with_reducible assumption) | assumption); first | exact h_ | (have e_ := (Kd.R_reads' HO245.out).1; omega) | simpa using h_); obtain rfl := k47_openM hM58; have HP58 := Kd.R_seg HX58.out (t247 : Int) (of_decide_eq_true (by first | (with_reducible assumption) | assumption)) (by have h_ : (t247 : Int) < ((t243.length : Int) : Int) := of_decide_eq_true (by first | (with_reducible assumption) | assumption); first | exact h_ | (have e_ := (Kd.R_reads' HO245.out).1; omega) | simpa using h_) (seg := [.int .i64 a4]) (j := 0) hcl58 hcc58 (show 1 ≤ 3 from by decide) (x' := (⟨a4, (rd_T47 t243 t247).f1, (rd_T47 t243 t247).f2⟩ : S47)) (k47_mkM _ _ _ (⟨a4, (rd_T47 t243 t247).f1, (rd_T47 t243 t247).f2⟩ : S47) ) (fun _ hk => hk); have hx58_0 := hcc58 0 _ rfl; (try simp only [show (k47).sz = 3 from rfl, Nat.mul_one, Nat.add_zero] at hx58_0); have hf58_0 := hfr58 0; (try simp only [show (k47).sz = 3 from rfl, Nat.mul_one, Nat.add_zero] at hf58_0); clear hcl58 hcc58 hfr58 hM58) | ((with_reducible refine gate_store (t := 3) (p := 62) rfl ?_); refine store_event (t := 3) (p := 62) (v := ?vo_w59) (w1 := (w57.setCell ⟨go52, (t247 : Int).toNat * 3, none⟩ (.int .i64 a4))) ?hg ?ho ?hn ?hr ?_; (case ho => rfl); (case hg => rfl); (case hn => rfl); (case hr => first | (go_simp; done) | (go_simp; rfl)); intro w59 hw; have hg : w57.grownBy w59 (some go52) := (by rw [hw]; exact HP58.2); have hp_ : Kd.R k47 47 w59 w.heap.size (fun k_ => k_ ≠ gb232) (.slice (some ⟨go52, 0, none⟩) t243.length co56) y249 := (by rw [hw, Ny249.out]; exact HP58.1); clear HP58; have n0_ := Aside0.mk (blk_grown (g := gb232) (o := .cells #[.int .i64 a0_0, .int .i64 a0_1, .int .i64 a0_2] 47 (0, 0)) (by (with_reducible repeat (first | refine blk_drewN ?_ _ | refine blk_drew ?_ | refine blk_alloc ?_ _)); exact BK232.out) hg (Kd.R_away HO245.out (fun _ hk => hk))); have n1_ := Aside0.mk (hp_); have n2_ := Aside0.mk ((by rw [hw]; exact below_set (HB.out) GB52.out : Below w.heap.size w w59)); clear BK232; clear HO245; clear HB; have BK232 := n0_; have HO245 := n1_; have HB := n2_; clear n0_ n1_ n2_; clear hg hw hp_) | ((with_reducible refine gate_callee (f := 27) rfl ?_); refine goesL_ (some 87) rfl rfl Try.func27 (by kernel_rfl) rfl #[.slice (some ⟨go52, 0, none⟩) y249.length co56] rfl (by (try simp only [List.map_toArray, List.map_cons, List.map_nil]); first | done | (rw [show y249.length = t243.length from (Kd.R_reads' HO245.out).1.symm] <;> rfl) | rfl | (simp only [List.length_drop, List.length_take]; rfl)) ?_; (with_reducible refine (span_Canon.calls kj14 _ _ y249 t250 _ ?side1 ?side2 A53.out).mono ?_); (case side1 => repeat (first | exact (Kd.R_reads' HO245.out).2.2 | (with_reducible refine Kd.C_alloc ?_ _) | (with_reducible refine Kd.C_drewN ?_ _) | (with_reducible refine Kd.C_drew ?_))); (case side2 => rw [show y249.length = t243.length from (Kd.R_reads' HO245.out).1.symm]; exact (Kd.R_reads' HO245.out).2.1); rintro e w60 ⟨rfl, hb⟩; refine ⟨_, rfl, ?_⟩; have n0_ := Aside0.mk (Kd.R_below (by (with_reducible repeat (first | apply Kd.R_alloc | apply Kd.R_drewN | apply Kd.R_drew)); exact HO245.out) hb); have n1_ := Aside0.mk (blk_below (g := gb232) (o := .cells #[.int .i64 a0_0, .int .i64 a0_1, .int .i64 a0_2] 47 (0, 0)) (by (with_reducible repeat (first | refine blk_drewN ?_ _ | refine blk_drew ?_ | refine blk_alloc ?_ _)); exact BK232.out) hb); have n2_ := Aside0.mk (below_step (by repeat (first | (with_reducible first | exact HB.out | apply below_alloc | apply pw_below_drewN | apply below_drew1 | refine below_set ?_ GE232.out) | exact HB.out)) hb); clear HO245; clear BK232; clear HB; have HO245 := n0_; have BK232 := n1_; have HB := n2_; clear n0_ n1_ n2_; (try clear hb); (try clear hb2); (try clear hk); (try clear hi)) | ((with_reducible refine gate_callee (f := 28) rfl ?_); refine goesL_ (some 89) rfl rfl Try.func28 (by kernel_rfl) rfl #[.slice (some ⟨go52, 0, none⟩) y249.length co56] rfl (by (try simp only [List.map_toArray, List.map_cons, List.map_nil]); first | done | (rw [show y249.length = t243.length from (Kd.R_reads' HO245.out).1.symm] <;> rfl) | rfl | (simp only [List.length_drop, List.length_take]; rfl)) ?_; (with_reducible refine (busbarref12_Canon.calls kj14 _ _ y249 t251 _ ?side1 ?side2 A54.out).mono ?_); (case side1 => repeat (first | exact (Kd.R_reads' HO245.out).2.2 | (with_reducible refine Kd.C_alloc ?_ _) | (with_reducible refine Kd.C_drewN ?_ _) | (with_reducible refine Kd.C_drew ?_))); (case side2 => rw [show y249.length = t243.length from (Kd.R_reads' HO245.out).1.symm]; exact (Kd.R_reads' HO245.out).2.1); rintro e w61 ⟨rfl, hb⟩; refine ⟨_, rfl, ?_⟩; have n0_ := Aside0.mk (Kd.R_below (by (with_reducible repeat (first | apply Kd.R_alloc | apply Kd.R_drewN | apply Kd.R_drew)); exact HO245.out) hb); have n1_ := Aside0.mk (blk_below (g := gb232) (o := .cells #[.int .i64 a0_0, .int .i64 a0_1, .int .i64 a0_2] 47 (0, 0)) (by (with_reducible repeat (first | refine blk_drewN ?_ _ | refine blk_drew ?_ | refine blk_alloc ?_ _)); exact BK232.out) hb); have n2_ := Aside0.mk (below_step (by repeat (first | (with_reducible first | exact HB.out | apply below_alloc | apply pw_below_drewN | apply below_drew1 | refine below_set ?_ GE232.out) | exact HB.out)) hb); clear HO245; clear BK232; clear HB; have HO245 := n0_; have BK232 := n1_; have HB := n2_; clear n0_ n1_ n2_; (try clear hb); (try clear hb2); (try clear hk); (try clear hi)))
            go_ret
            exact ⟨by first | rfl | (simp [errW_none, errW_some] <;> rfl) | (simp [*, errW_none, errW_some] <;> rfl), by repeat (first | (with_reducible first | exact HB.out | apply below_alloc | apply pw_below_drewN | apply below_drew1 | refine below_set ?_ GE232.out) | exact HB.out)⟩
           ·
            rw [if_neg c51] at H
            exact absurd H (by simp)
          ·
           rw [if_neg c50] at H
           exact absurd H (by simp)
         ·
          rw [if_neg c49] at H
          have c49b0 : (t248 == 0) = false := beq_eq_false_iff_ne.mpr c49
          have c49b1 : (t248 != 0) = true := bne_iff_ne.mpr c49
          by_cases c62 : t248 = 1
          ·
           rw [if_pos c62] at H
           have c62b0 : (t248 == 1) = true := beq_iff_eq.mpr c62
           have c62b1 : (t248 != 1) = false := bne_eq_false_iff_eq.mpr c62
           clear c62
           by_cases c63 : 0 ≤ t247
           ·
            rw [if_pos c63] at H
            have c63b0 : decide (0 ≤ t247) = true := decide_eq_true c63
            clear c63
            by_cases c64 : t247 < (t243.length : Int)
            ·
             rw [if_pos c64] at H
             have c64b0 : decide (t247 < (t243.length : Int)) = true := decide_eq_true c64
             clear c64
             obtain ⟨y252, hy252⟩ : ∃ y_ : List (S47), y_ = (t243.set (t247 : Int).toNat (⟨(rd_T47 t243 t247).f0, a4, (rd_T47 t243 t247).f2⟩ : S47)) := ⟨_, rfl⟩
             replace H : ((span_Canon.f kj14 y252).bind fun t253 => ((busbarref12_Canon.f kj14 y252).bind fun t254 => (some (t253 == t254)))) = some r := by first | (rw [hy252]; with_reducible exact H) | (have H2_ := (Option.bind_some _ _).symm.trans H; rw [hy252]; with_reducible exact H2_) | (have H2_ := (Option.bind_some _ _).symm.trans H; with_reducible exact H2_) | with_reducible exact H | (rw [hy252]; exact H) | exact H
             have Ny252 := Aside0.mk hy252
             clear hy252
             replace H := Option.bind_eq_some_iff.mp H
             obtain ⟨t253, A660, H⟩ := H
             replace H : ((busbarref12_Canon.f kj14 y252).bind fun t254 => (some (t253 == t254))) = some r := H
             have A66 := Aside0.mk A660
             clear A660
             replace H := Option.bind_eq_some_iff.mp H
             obtain ⟨t254, A670, H⟩ := H
             replace H : (some (t253 == t254)) = some r := H
             have A67 := Aside0.mk A670
             clear A670
             obtain rfl := Option.some.inj H
             go_wp2_with (first | ((with_reducible refine gate_callee (f := 30) rfl ?_); refine goesL_ (some 43) rfl rfl Try.func30 (by kernel_rfl) rfl #[.slice A2 l2.length c2] rfl (by (try simp only [List.map_toArray, List.map_cons, List.map_nil]); first | done | rfl | (simp only [List.length_drop, List.length_take]; rfl)) ?_; (with_reducible refine (busbarlaw0_Spans.calls kj14 _ _ l2 t243 _ ?side1 ?side2 A40.out).mono ?_); (case side1 => repeat (first | exact (Kd.C_below HR2.out HB.out) | (with_reducible refine Kd.C_alloc ?_ _) | (with_reducible refine Kd.C_drewN ?_ _) | (with_reducible refine Kd.C_drew ?_))); (case side2 => exact HC2.out); rintro e w68 ⟨v244, rfl, ho0, hb⟩; refine ⟨_, rfl, ?_⟩; have n0_ := Aside0.mk (Kd.R_lower (Kd.R_newB ho0 (g := gb232) (o := .cells #[.int .i64 a0_0, .int .i64 a0_1, .int .i64 a0_2] 47 (0, 0)) (by (with_reducible repeat (first | refine blk_drewN ?_ _ | refine blk_drew ?_ | refine blk_alloc ?_ _)); exact BK232.out)) (below_size (by repeat (first | (with_reducible first | exact HB.out | apply below_alloc | apply pw_below_drewN | apply below_drew1 | refine below_set ?_ GE232.out) | exact HB.out)))); have n1_ := Aside0.mk (blk_below (g := gb232) (o := .cells #[.int .i64 a0_0, .int .i64 a0_1, .int .i64 a0_2] 47 (0, 0)) (by (with_reducible repeat (first | refine blk_drewN ?_ _ | refine blk_drew ?_ | refine blk_alloc ?_ _)); exact BK232.out) hb); have n2_ := Aside0.mk (below_step (by repeat (first | (with_reducible first | exact HB.out | apply below_alloc | apply pw_below_drewN | apply below_drew1 | refine below_set ?_ GE232.out) | exact HB.out)) hb); clear BK232; clear HB; have HO245 := n0_; have BK232 := n1_; have HB := n2_; clear n0_ n1_ n2_; (try clear hb); (try clear hb2); (try clear hk); (try clear hi); (try clear ho0); obtain ⟨Ao69, co69, eo69⟩ := Kd.R_slice HO245.out; subst eo69) | ((with_reducible refine gate_callee (f := 27) rfl ?_); refine goesL_ (some 45) rfl rfl Try.func27 (by kernel_rfl) rfl #[.slice Ao69 t243.length co69] rfl (by (try simp only [List.map_toArray, List.map_cons, List.map_nil]); first | done | rfl | (simp only [List.length_drop, List.length_take]; rfl)) ?_; (with_reducible refine (span_Canon.calls kj14 _ _ t243 true _ ?side1 ?side2 A41.out).mono ?_); (case side1 => repeat (first | exact (Kd.R_reads' HO245.out).2.2 | (with_reducible refine Kd.C_alloc ?_ _) | (with_reducible refine Kd.C_drewN ?_ _) | (with_reducible refine Kd.C_drew ?_))); (case side2 => exact (Kd.R_reads' HO245.out).2.1); rintro e w70 ⟨rfl, hb⟩; refine ⟨_, rfl, ?_⟩; have n0_ := Aside0.mk (Kd.R_below (by (with_reducible repeat (first | apply Kd.R_alloc | apply Kd.R_drewN | apply Kd.R_drew)); exact HO245.out) hb); have n1_ := Aside0.mk (blk_below (g := gb232) (o := .cells #[.int .i64 a0_0, .int .i64 a0_1, .int .i64 a0_2] 47 (0, 0)) (by (with_reducible repeat (first | refine blk_drewN ?_ _ | refine blk_drew ?_ | refine blk_alloc ?_ _)); exact BK232.out) hb); have n2_ := Aside0.mk (below_step (by repeat (first | (with_reducible first | exact HB.out | apply below_alloc | apply pw_below_drewN | apply below_drew1 | refine below_set ?_ GE232.out) | exact HB.out)) hb); clear HO245; clear BK232; clear HB; have HO245 := n0_; have BK232 := n1_; have HB := n2_; clear n0_ n1_ n2_; (try clear hb); (try clear hb2); (try clear hk); (try clear hi)) | ((with_reducible refine gate_callee (f := 31) rfl ?_); refine goesL_ (some 53) rfl rfl Try.func31 (by kernel_rfl) rfl #[.int .i64 a3, .int .i64 4, .int .i64 (t243.length : Int)] rfl (by (try simp only [List.map_toArray, List.map_cons, List.map_nil]); first | done | rfl | (simp only [List.length_drop, List.length_take]; rfl)) ?_; (with_reducible refine (busbarlaw0_Digit.calls a3 4 (t243.length : Int) t247 _ A47.out).mono ?_); rintro e w' ⟨rfl, ⟨nd, rfl⟩⟩; refine ⟨_, rfl, ?_⟩; (try (rw [drewN_self w70]; generalize hq_ : World.drewN w70 _ = w70; have n0_ : Aside0 (Kd.R k47 47 w70 w.heap.size (fun k_ => k_ ≠ gb232) (.slice Ao69 t243.length co69) t243) := ⟨by rw [← hq_]; exact (by (with_reducible repeat (first | apply Kd.R_alloc | apply Kd.R_drewN | apply Kd.R_drew)); exact Kd.R_mono HO245.out (fun _ hk => by first | exact hk.2 | exact hk))⟩; have n1_ : Aside0 (w70.heap[gb232]? = some (.cells #[.int .i64 a0_0, .int .i64 a0_1, .int .i64 a0_2] 47 (0, 0))) := ⟨by rw [← hq_]; exact (by (with_reducible repeat (first | refine blk_drewN ?_ _ | refine blk_drew ?_ | refine blk_alloc ?_ _)); exact BK232.out)⟩; have n2_ : Aside0 (Below w.heap.size w w70) := ⟨by rw [← hq_]; exact (by repeat (first | (with_reducible first | exact HB.out | apply below_alloc | apply pw_below_drewN | apply below_drew1 | refine below_set ?_ GE232.out) | exact HB.out))⟩; clear HO245 BK232 HB hq_; have HO245 := n0_; have BK232 := n1_; have HB := n2_; clear n0_ n1_ n2_))) | ((with_reducible refine gate_callee (f := 16) rfl ?_); refine goesL_ (some 55) rfl rfl Try.func16 (by kernel_rfl) rfl #[.int .i64 a3, .int .i64 4] rfl (by (try simp only [List.map_toArray, List.map_cons, List.map_nil]); first | done | rfl | (simp only [List.length_drop, List.length_take]; rfl)) ?_; (with_reducible refine (busbarlaw0_Within.calls a3 4 t248 _ A48.out).mono ?_); rintro e w' ⟨rfl, ⟨nd, rfl⟩⟩; refine ⟨_, rfl, ?_⟩; (try (rw [drewN_self w70]; generalize hq_ : World.drewN w70 _ = w70; have n0_ : Aside0 (Kd.R k47 47 w70 w.heap.size (fun k_ => k_ ≠ gb232) (.slice Ao69 t243.length co69) t243) := ⟨by rw [← hq_]; exact (by (with_reducible repeat (first | apply Kd.R_alloc | apply Kd.R_drewN | apply Kd.R_drew)); exact Kd.R_mono HO245.out (fun _ hk => by first | exact hk.2 | exact hk))⟩; have n1_ : Aside0 (w70.heap[gb232]? = some (.cells #[.int .i64 a0_0, .int .i64 a0_1, .int .i64 a0_2] 47 (0, 0))) := ⟨by rw [← hq_]; exact (by (with_reducible repeat (first | refine blk_drewN ?_ _ | refine blk_drew ?_ | refine blk_alloc ?_ _)); exact BK232.out)⟩; have n2_ : Aside0 (Below w.heap.size w w70) := ⟨by rw [← hq_]; exact (by repeat (first | (with_reducible first | exact HB.out | apply below_alloc | apply pw_below_drewN | apply below_drew1 | refine below_set ?_ GE232.out) | exact HB.out))⟩; clear HO245 BK232 HB hq_; have HO245 := n0_; have BK232 := n1_; have HB := n2_; clear n0_ n1_ n2_)); have p65 : 0 ≤ (t247 : Int) := of_decide_eq_true (by first | (with_reducible assumption) | assumption); have q65 : (t247 : Int) < ((t243.length : Int) : Int) := of_decide_eq_true (by first | (with_reducible assumption) | assumption); obtain ⟨go65, co65, eo65, gb65, gl65, cl65, HG65⟩ := Kd.R_form HO245.out (by omega); (first | cases eo65 | (injection eo65 with ea_ en_ ec_; (first | subst ea_ | (injection ea_ with ea_; subst ea_)); subst ec_; clear en_)); have GB65 := Aside0.mk gb65; have GG65 := Aside0.mk HG65; clear gb65 gl65 HG65; obtain ⟨ce65, hcl65, hM65, hcc65, hfr65⟩ := Kd.R_elem HO245.out z47 (t247 : Int) p65 q65; obtain rfl := k47_openM hM65; have hx65_0 : w70.cell? ⟨go65, (t247 : Int).toNat * 3, none⟩ = some (.int .i64 ((rd_T47 t243 t247).f0)) := hcc65 0 _ rfl; have hx65_1 : w70.cell? ⟨go65, (t247 : Int).toNat * 3 + 1, none⟩ = some (.int .i64 ((rd_T47 t243 t247).f1)) := hcc65 1 _ rfl; have hx65_2 : w70.cell? ⟨go65, (t247 : Int).toNat * 3 + 2, none⟩ = some (.int .i64 ((rd_T47 t243 t247).f2)) := hcc65 2 _ rfl; have hf65_0 : w70.frozen? ⟨go65, (t247 : Int).toNat * 3, none⟩ = false := hfr65 0; have hf65_1 : w70.frozen? ⟨go65, (t247 : Int).toNat * 3 + 1, none⟩ = false := hfr65 1; have hf65_2 : w70.frozen? ⟨go65, (t247 : Int).toNat * 3 + 2, none⟩ = false := hfr65 2; clear hcl65 hcc65 hfr65 hM65; replace p65 := eq_true p65; replace q65 := eq_true q65; have n_ := Aside0.mk (Kd.R_mono (ok' := (fun k_ => k_ ≠ gb232)) HO245.out (fun k_ hk => by first | exact hk | exact hk.2)); clear HO245; have HO245 := n_; clear n_; have HX71 := Aside0.mk (show Kd.R k47 47 w70 w.heap.size (fun k_ => k_ ≠ gb232) (.slice (some ⟨go65, 0, none⟩) t243.length co69) t243 from (by (with_reducible repeat (first | apply Kd.R_alloc | apply Kd.R_drewN | apply Kd.R_drew)); exact HO245.out)); obtain ⟨ce71, hcl71, hM71, hcc71, hfr71⟩ := Kd.R_elem HX71.out z47 (t247 : Int) (of_decide_eq_true (by first | (with_reducible assumption) | assumption)) (by have h_ : (t247 : Int) < ((t243.length : Int) : Int) := of_decide_eq_true (by first | (with_reducible assumption) | assumption); first | exact h_ | (have e_ := (Kd.R_reads' HO245.out).1; omega) | simpa using h_); obtain rfl := k47_openM hM71; have HP71 := Kd.R_seg HX71.out (t247 : Int) (of_decide_eq_true (by first | (with_reducible assumption) | assumption)) (by have h_ : (t247 : Int) < ((t243.length : Int) : Int) := of_decide_eq_true (by first | (with_reducible assumption) | assumption); first | exact h_ | (have e_ := (Kd.R_reads' HO245.out).1; omega) | simpa using h_) (seg := [.int .i64 a4]) (j := 1) hcl71 hcc71 (show 2 ≤ 3 from by decide) (x' := (⟨(rd_T47 t243 t247).f0, a4, (rd_T47 t243 t247).f2⟩ : S47)) (k47_mkM _ _ _ (⟨(rd_T47 t243 t247).f0, a4, (rd_T47 t243 t247).f2⟩ : S47) ) (fun _ hk => hk); have hx71_1 := hcc71 1 _ rfl; (try simp only [show (k47).sz = 3 from rfl, Nat.mul_one, Nat.add_zero] at hx71_1); have hf71_1 := hfr71 1; (try simp only [show (k47).sz = 3 from rfl, Nat.mul_one, Nat.add_zero] at hf71_1); clear hcl71 hcc71 hfr71 hM71) | ((with_reducible refine gate_store (t := 3) (p := 69) rfl ?_); refine store_event (t := 3) (p := 69) (v := ?vo_w72) (w1 := (w70.setCell ⟨go65, (t247 : Int).toNat * 3 + 1, none⟩ (.int .i64 a4))) ?hg ?ho ?hn ?hr ?_; (case ho => rfl); (case hg => rfl); (case hn => rfl); (case hr => first | (go_simp; done) | (go_simp; rfl)); intro w72 hw; have hg : w70.grownBy w72 (some go65) := (by rw [hw]; exact HP71.2); have hp_ : Kd.R k47 47 w72 w.heap.size (fun k_ => k_ ≠ gb232) (.slice (some ⟨go65, 0, none⟩) t243.length co69) y252 := (by rw [hw, Ny252.out]; exact HP71.1); clear HP71; have n0_ := Aside0.mk (blk_grown (g := gb232) (o := .cells #[.int .i64 a0_0, .int .i64 a0_1, .int .i64 a0_2] 47 (0, 0)) (by (with_reducible repeat (first | refine blk_drewN ?_ _ | refine blk_drew ?_ | refine blk_alloc ?_ _)); exact BK232.out) hg (Kd.R_away HO245.out (fun _ hk => hk))); have n1_ := Aside0.mk (hp_); have n2_ := Aside0.mk ((by rw [hw]; exact below_set (HB.out) GB65.out : Below w.heap.size w w72)); clear BK232; clear HO245; clear HB; have BK232 := n0_; have HO245 := n1_; have HB := n2_; clear n0_ n1_ n2_; clear hg hw hp_) | ((with_reducible refine gate_callee (f := 27) rfl ?_); refine goesL_ (some 87) rfl rfl Try.func27 (by kernel_rfl) rfl #[.slice (some ⟨go65, 0, none⟩) y252.length co69] rfl (by (try simp only [List.map_toArray, List.map_cons, List.map_nil]); first | done | (rw [show y252.length = t243.length from (Kd.R_reads' HO245.out).1.symm] <;> rfl) | rfl | (simp only [List.length_drop, List.length_take]; rfl)) ?_; (with_reducible refine (span_Canon.calls kj14 _ _ y252 t253 _ ?side1 ?side2 A66.out).mono ?_); (case side1 => repeat (first | exact (Kd.R_reads' HO245.out).2.2 | (with_reducible refine Kd.C_alloc ?_ _) | (with_reducible refine Kd.C_drewN ?_ _) | (with_reducible refine Kd.C_drew ?_))); (case side2 => rw [show y252.length = t243.length from (Kd.R_reads' HO245.out).1.symm]; exact (Kd.R_reads' HO245.out).2.1); rintro e w73 ⟨rfl, hb⟩; refine ⟨_, rfl, ?_⟩; have n0_ := Aside0.mk (Kd.R_below (by (with_reducible repeat (first | apply Kd.R_alloc | apply Kd.R_drewN | apply Kd.R_drew)); exact HO245.out) hb); have n1_ := Aside0.mk (blk_below (g := gb232) (o := .cells #[.int .i64 a0_0, .int .i64 a0_1, .int .i64 a0_2] 47 (0, 0)) (by (with_reducible repeat (first | refine blk_drewN ?_ _ | refine blk_drew ?_ | refine blk_alloc ?_ _)); exact BK232.out) hb); have n2_ := Aside0.mk (below_step (by repeat (first | (with_reducible first | exact HB.out | apply below_alloc | apply pw_below_drewN | apply below_drew1 | refine below_set ?_ GE232.out) | exact HB.out)) hb); clear HO245; clear BK232; clear HB; have HO245 := n0_; have BK232 := n1_; have HB := n2_; clear n0_ n1_ n2_; (try clear hb); (try clear hb2); (try clear hk); (try clear hi)) | ((with_reducible refine gate_callee (f := 28) rfl ?_); refine goesL_ (some 89) rfl rfl Try.func28 (by kernel_rfl) rfl #[.slice (some ⟨go65, 0, none⟩) y252.length co69] rfl (by (try simp only [List.map_toArray, List.map_cons, List.map_nil]); first | done | (rw [show y252.length = t243.length from (Kd.R_reads' HO245.out).1.symm] <;> rfl) | rfl | (simp only [List.length_drop, List.length_take]; rfl)) ?_; (with_reducible refine (busbarref12_Canon.calls kj14 _ _ y252 t254 _ ?side1 ?side2 A67.out).mono ?_); (case side1 => repeat (first | exact (Kd.R_reads' HO245.out).2.2 | (with_reducible refine Kd.C_alloc ?_ _) | (with_reducible refine Kd.C_drewN ?_ _) | (with_reducible refine Kd.C_drew ?_))); (case side2 => rw [show y252.length = t243.length from (Kd.R_reads' HO245.out).1.symm]; exact (Kd.R_reads' HO245.out).2.1); rintro e w74 ⟨rfl, hb⟩; refine ⟨_, rfl, ?_⟩; have n0_ := Aside0.mk (Kd.R_below (by (with_reducible repeat (first | apply Kd.R_alloc | apply Kd.R_drewN | apply Kd.R_drew)); exact HO245.out) hb); have n1_ := Aside0.mk (blk_below (g := gb232) (o := .cells #[.int .i64 a0_0, .int .i64 a0_1, .int .i64 a0_2] 47 (0, 0)) (by (with_reducible repeat (first | refine blk_drewN ?_ _ | refine blk_drew ?_ | refine blk_alloc ?_ _)); exact BK232.out) hb); have n2_ := Aside0.mk (below_step (by repeat (first | (with_reducible first | exact HB.out | apply below_alloc | apply pw_below_drewN | apply below_drew1 | refine below_set ?_ GE232.out) | exact HB.out)) hb); clear HO245; clear BK232; clear HB; have HO245 := n0_; have BK232 := n1_; have HB := n2_; clear n0_ n1_ n2_; (try clear hb); (try clear hb2); (try clear hk); (try clear hi)))
             go_ret
             exact ⟨by first | rfl | (simp [errW_none, errW_some] <;> rfl) | (simp [*, errW_none, errW_some] <;> rfl), by repeat (first | (with_reducible first | exact HB.out | apply below_alloc | apply pw_below_drewN | apply below_drew1 | refine below_set ?_ GE232.out) | exact HB.out)⟩
            ·
             rw [if_neg c64] at H
             exact absurd H (by simp)
           ·
            rw [if_neg c63] at H
            exact absurd H (by simp)
          ·
           rw [if_neg c62] at H
           have c62b0 : (t248 == 1) = false := beq_eq_false_iff_ne.mpr c62
           have c62b1 : (t248 != 1) = true := bne_iff_ne.mpr c62
           by_cases c75 : t248 = 2
           ·
            rw [if_pos c75] at H
            have c75b0 : (t248 == 2) = true := beq_iff_eq.mpr c75
            have c75b1 : (t248 != 2) = false := bne_eq_false_iff_eq.mpr c75
            clear c75
            by_cases c76 : 0 ≤ t247
            ·
             rw [if_pos c76] at H
             have c76b0 : decide (0 ≤ t247) = true := decide_eq_true c76
             clear c76
             by_cases c77 : t247 < (t243.length : Int)
             ·
              rw [if_pos c77] at H
              have c77b0 : decide (t247 < (t243.length : Int)) = true := decide_eq_true c77
              clear c77
              obtain ⟨y255, hy255⟩ : ∃ y_ : List (S47), y_ = (t243.set (t247 : Int).toNat (⟨(rd_T47 t243 t247).f0, (rd_T47 t243 t247).f1, a4⟩ : S47)) := ⟨_, rfl⟩
              replace H : ((span_Canon.f kj14 y255).bind fun t256 => ((busbarref12_Canon.f kj14 y255).bind fun t257 => (some (t256 == t257)))) = some r := by first | (rw [hy255]; with_reducible exact H) | (have H2_ := (Option.bind_some _ _).symm.trans H; rw [hy255]; with_reducible exact H2_) | (have H2_ := (Option.bind_some _ _).symm.trans H; with_reducible exact H2_) | with_reducible exact H | (rw [hy255]; exact H) | exact H
              have Ny255 := Aside0.mk hy255
              clear hy255
              replace H := Option.bind_eq_some_iff.mp H
              obtain ⟨t256, A790, H⟩ := H
              replace H : ((busbarref12_Canon.f kj14 y255).bind fun t257 => (some (t256 == t257))) = some r := H
              have A79 := Aside0.mk A790
              clear A790
              replace H := Option.bind_eq_some_iff.mp H
              obtain ⟨t257, A800, H⟩ := H
              replace H : (some (t256 == t257)) = some r := H
              have A80 := Aside0.mk A800
              clear A800
              obtain rfl := Option.some.inj H
              go_wp2_with (first | ((with_reducible refine gate_callee (f := 30) rfl ?_); refine goesL_ (some 43) rfl rfl Try.func30 (by kernel_rfl) rfl #[.slice A2 l2.length c2] rfl (by (try simp only [List.map_toArray, List.map_cons, List.map_nil]); first | done | rfl | (simp only [List.length_drop, List.length_take]; rfl)) ?_; (with_reducible refine (busbarlaw0_Spans.calls kj14 _ _ l2 t243 _ ?side1 ?side2 A40.out).mono ?_); (case side1 => repeat (first | exact (Kd.C_below HR2.out HB.out) | (with_reducible refine Kd.C_alloc ?_ _) | (with_reducible refine Kd.C_drewN ?_ _) | (with_reducible refine Kd.C_drew ?_))); (case side2 => exact HC2.out); rintro e w81 ⟨v244, rfl, ho0, hb⟩; refine ⟨_, rfl, ?_⟩; have n0_ := Aside0.mk (Kd.R_lower (Kd.R_newB ho0 (g := gb232) (o := .cells #[.int .i64 a0_0, .int .i64 a0_1, .int .i64 a0_2] 47 (0, 0)) (by (with_reducible repeat (first | refine blk_drewN ?_ _ | refine blk_drew ?_ | refine blk_alloc ?_ _)); exact BK232.out)) (below_size (by repeat (first | (with_reducible first | exact HB.out | apply below_alloc | apply pw_below_drewN | apply below_drew1 | refine below_set ?_ GE232.out) | exact HB.out)))); have n1_ := Aside0.mk (blk_below (g := gb232) (o := .cells #[.int .i64 a0_0, .int .i64 a0_1, .int .i64 a0_2] 47 (0, 0)) (by (with_reducible repeat (first | refine blk_drewN ?_ _ | refine blk_drew ?_ | refine blk_alloc ?_ _)); exact BK232.out) hb); have n2_ := Aside0.mk (below_step (by repeat (first | (with_reducible first | exact HB.out | apply below_alloc | apply pw_below_drewN | apply below_drew1 | refine below_set ?_ GE232.out) | exact HB.out)) hb); clear BK232; clear HB; have HO245 := n0_; have BK232 := n1_; have HB := n2_; clear n0_ n1_ n2_; (try clear hb); (try clear hb2); (try clear hk); (try clear hi); (try clear ho0); obtain ⟨Ao82, co82, eo82⟩ := Kd.R_slice HO245.out; subst eo82) | ((with_reducible refine gate_callee (f := 27) rfl ?_); refine goesL_ (some 45) rfl rfl Try.func27 (by kernel_rfl) rfl #[.slice Ao82 t243.length co82] rfl (by (try simp only [List.map_toArray, List.map_cons, List.map_nil]); first | done | rfl | (simp only [List.length_drop, List.length_take]; rfl)) ?_; (with_reducible refine (span_Canon.calls kj14 _ _ t243 true _ ?side1 ?side2 A41.out).mono ?_); (case side1 => repeat (first | exact (Kd.R_reads' HO245.out).2.2 | (with_reducible refine Kd.C_alloc ?_ _) | (with_reducible refine Kd.C_drewN ?_ _) | (with_reducible refine Kd.C_drew ?_))); (case side2 => exact (Kd.R_reads' HO245.out).2.1); rintro e w83 ⟨rfl, hb⟩; refine ⟨_, rfl, ?_⟩; have n0_ := Aside0.mk (Kd.R_below (by (with_reducible repeat (first | apply Kd.R_alloc | apply Kd.R_drewN | apply Kd.R_drew)); exact HO245.out) hb); have n1_ := Aside0.mk (blk_below (g := gb232) (o := .cells #[.int .i64 a0_0, .int .i64 a0_1, .int .i64 a0_2] 47 (0, 0)) (by (with_reducible repeat (first | refine blk_drewN ?_ _ | refine blk_drew ?_ | refine blk_alloc ?_ _)); exact BK232.out) hb); have n2_ := Aside0.mk (below_step (by repeat (first | (with_reducible first | exact HB.out | apply below_alloc | apply pw_below_drewN | apply below_drew1 | refine below_set ?_ GE232.out) | exact HB.out)) hb); clear HO245; clear BK232; clear HB; have HO245 := n0_; have BK232 := n1_; have HB := n2_; clear n0_ n1_ n2_; (try clear hb); (try clear hb2); (try clear hk); (try clear hi)) | ((with_reducible refine gate_callee (f := 31) rfl ?_); refine goesL_ (some 53) rfl rfl Try.func31 (by kernel_rfl) rfl #[.int .i64 a3, .int .i64 4, .int .i64 (t243.length : Int)] rfl (by (try simp only [List.map_toArray, List.map_cons, List.map_nil]); first | done | rfl | (simp only [List.length_drop, List.length_take]; rfl)) ?_; (with_reducible refine (busbarlaw0_Digit.calls a3 4 (t243.length : Int) t247 _ A47.out).mono ?_); rintro e w' ⟨rfl, ⟨nd, rfl⟩⟩; refine ⟨_, rfl, ?_⟩; (try (rw [drewN_self w83]; generalize hq_ : World.drewN w83 _ = w83; have n0_ : Aside0 (Kd.R k47 47 w83 w.heap.size (fun k_ => k_ ≠ gb232) (.slice Ao82 t243.length co82) t243) := ⟨by rw [← hq_]; exact (by (with_reducible repeat (first | apply Kd.R_alloc | apply Kd.R_drewN | apply Kd.R_drew)); exact Kd.R_mono HO245.out (fun _ hk => by first | exact hk.2 | exact hk))⟩; have n1_ : Aside0 (w83.heap[gb232]? = some (.cells #[.int .i64 a0_0, .int .i64 a0_1, .int .i64 a0_2] 47 (0, 0))) := ⟨by rw [← hq_]; exact (by (with_reducible repeat (first | refine blk_drewN ?_ _ | refine blk_drew ?_ | refine blk_alloc ?_ _)); exact BK232.out)⟩; have n2_ : Aside0 (Below w.heap.size w w83) := ⟨by rw [← hq_]; exact (by repeat (first | (with_reducible first | exact HB.out | apply below_alloc | apply pw_below_drewN | apply below_drew1 | refine below_set ?_ GE232.out) | exact HB.out))⟩; clear HO245 BK232 HB hq_; have HO245 := n0_; have BK232 := n1_; have HB := n2_; clear n0_ n1_ n2_))) | ((with_reducible refine gate_callee (f := 16) rfl ?_); refine goesL_ (some 55) rfl rfl Try.func16 (by kernel_rfl) rfl #[.int .i64 a3, .int .i64 4] rfl (by (try simp only [List.map_toArray, List.map_cons, List.map_nil]); first | done | rfl | (simp only [List.length_drop, List.length_take]; rfl)) ?_; (with_reducible refine (busbarlaw0_Within.calls a3 4 t248 _ A48.out).mono ?_); rintro e w' ⟨rfl, ⟨nd, rfl⟩⟩; refine ⟨_, rfl, ?_⟩; (try (rw [drewN_self w83]; generalize hq_ : World.drewN w83 _ = w83; have n0_ : Aside0 (Kd.R k47 47 w83 w.heap.size (fun k_ => k_ ≠ gb232) (.slice Ao82 t243.length co82) t243) := ⟨by rw [← hq_]; exact (by (with_reducible repeat (first | apply Kd.R_alloc | apply Kd.R_drewN | apply Kd.R_drew)); exact Kd.R_mono HO245.out (fun _ hk => by first | exact hk.2 | exact hk))⟩; have n1_ : Aside0 (w83.heap[gb232]? = some (.cells #[.int .i64 a0_0, .int .i64 a0_1, .int .i64 a0_2] 47 (0, 0))) := ⟨by rw [← hq_]; exact (by (with_reducible repeat (first | refine blk_drewN ?_ _ | refine blk_drew ?_ | refine blk_alloc ?_ _)); exact BK232.out)⟩; have n2_ : Aside0 (Below w.heap.size w w83) := ⟨by rw [← hq_]; exact (by repeat (first | (with_reducible first | exact HB.out | apply below_alloc | apply pw_below_drewN | apply below_drew1 | refine below_set ?_ GE232.out) | exact HB.out))⟩; clear HO245 BK232 HB hq_; have HO245 := n0_; have BK232 := n1_; have HB := n2_; clear n0_ n1_ n2_)); have p78 : 0 ≤ (t247 : Int) := of_decide_eq_true (by first | (with_reducible assumption) | assumption); have q78 : (t247 : Int) < ((t243.length : Int) : Int) := of_decide_eq_true (by first | (with_reducible assumption) | assumption); obtain ⟨go78, co78, eo78, gb78, gl78, cl78, HG78⟩ := Kd.R_form HO245.out (by omega); (first | cases eo78 | (injection eo78 with ea_ en_ ec_; (first | subst ea_ | (injection ea_ with ea_; subst ea_)); subst ec_; clear en_)); have GB78 := Aside0.mk gb78; have GG78 := Aside0.mk HG78; clear gb78 gl78 HG78; obtain ⟨ce78, hcl78, hM78, hcc78, hfr78⟩ := Kd.R_elem HO245.out z47 (t247 : Int) p78 q78; obtain rfl := k47_openM hM78; have hx78_0 : w83.cell? ⟨go78, (t247 : Int).toNat * 3, none⟩ = some (.int .i64 ((rd_T47 t243 t247).f0)) := hcc78 0 _ rfl; have hx78_1 : w83.cell? ⟨go78, (t247 : Int).toNat * 3 + 1, none⟩ = some (.int .i64 ((rd_T47 t243 t247).f1)) := hcc78 1 _ rfl; have hx78_2 : w83.cell? ⟨go78, (t247 : Int).toNat * 3 + 2, none⟩ = some (.int .i64 ((rd_T47 t243 t247).f2)) := hcc78 2 _ rfl; have hf78_0 : w83.frozen? ⟨go78, (t247 : Int).toNat * 3, none⟩ = false := hfr78 0; have hf78_1 : w83.frozen? ⟨go78, (t247 : Int).toNat * 3 + 1, none⟩ = false := hfr78 1; have hf78_2 : w83.frozen? ⟨go78, (t247 : Int).toNat * 3 + 2, none⟩ = false := hfr78 2; clear hcl78 hcc78 hfr78 hM78; replace p78 := eq_true p78; replace q78 := eq_true q78; have n_ := Aside0.mk (Kd.R_mono (ok' := (fun k_ => k_ ≠ gb232)) HO245.out (fun k_ hk => by first | exact hk | exact hk.2)); clear HO245; have HO245 := n_; clear n_; have HX84 := Aside0.mk (show Kd.R k47 47 w83 w.heap.size (fun k_ => k_ ≠ gb232) (.slice (some ⟨go78, 0, none⟩) t243.length co82) t243 from (by (with_reducible repeat (first | apply Kd.R_alloc | apply Kd.R_drewN | apply Kd.R_drew)); exact HO245.out)); obtain ⟨ce84, hcl84, hM84, hcc84, hfr84⟩ := Kd.R_elem HX84.out z47 (t247 : Int) (of_decide_eq_true (by first | (with_reducible assumption) | assumption)) (by have h_ : (t247 : Int) < ((t243.length : Int) : Int) := of_decide_eq_true (by first | (with_reducible assumption) | assumption); first | exact h_ | (have e_ := (Kd.R_reads' HO245.out).1; omega) | simpa using h_); obtain rfl := k47_openM hM84; have HP84 := Kd.R_seg HX84.out (t247 : Int) (of_decide_eq_true (by first | (with_reducible assumption) | assumption)) (by have h_ : (t247 : Int) < ((t243.length : Int) : Int) := of_decide_eq_true (by first | (with_reducible assumption) | assumption); first | exact h_ | (have e_ := (Kd.R_reads' HO245.out).1; omega) | simpa using h_) (seg := [.int .i64 a4]) (j := 2) hcl84 hcc84 (show 3 ≤ 3 from by decide) (x' := (⟨(rd_T47 t243 t247).f0, (rd_T47 t243 t247).f1, a4⟩ : S47)) (k47_mkM _ _ _ (⟨(rd_T47 t243 t247).f0, (rd_T47 t243 t247).f1, a4⟩ : S47) ) (fun _ hk => hk); have hx84_2 := hcc84 2 _ rfl; (try simp only [show (k47).sz = 3 from rfl, Nat.mul_one, Nat.add_zero] at hx84_2); have hf84_2 := hfr84 2; (try simp only [show (k47).sz = 3 from rfl, Nat.mul_one, Nat.add_zero] at hf84_2); clear hcl84 hcc84 hfr84 hM84) | ((with_reducible refine gate_store (t := 3) (p := 76) rfl ?_); refine store_event (t := 3) (p := 76) (v := ?vo_w85) (w1 := (w83.setCell ⟨go78, (t247 : Int).toNat * 3 + 2, none⟩ (.int .i64 a4))) ?hg ?ho ?hn ?hr ?_; (case ho => rfl); (case hg => rfl); (case hn => rfl); (case hr => first | (go_simp; done) | (go_simp; rfl)); intro w85 hw; have hg : w83.grownBy w85 (some go78) := (by rw [hw]; exact HP84.2); have hp_ : Kd.R k47 47 w85 w.heap.size (fun k_ => k_ ≠ gb232) (.slice (some ⟨go78, 0, none⟩) t243.length co82) y255 := (by rw [hw, Ny255.out]; exact HP84.1); clear HP84; have n0_ := Aside0.mk (blk_grown (g := gb232) (o := .cells #[.int .i64 a0_0, .int .i64 a0_1, .int .i64 a0_2] 47 (0, 0)) (by (with_reducible repeat (first | refine blk_drewN ?_ _ | refine blk_drew ?_ | refine blk_alloc ?_ _)); exact BK232.out) hg (Kd.R_away HO245.out (fun _ hk => hk))); have n1_ := Aside0.mk (hp_); have n2_ := Aside0.mk ((by rw [hw]; exact below_set (HB.out) GB78.out : Below w.heap.size w w85)); clear BK232; clear HO245; clear HB; have BK232 := n0_; have HO245 := n1_; have HB := n2_; clear n0_ n1_ n2_; clear hg hw hp_) | ((with_reducible refine gate_callee (f := 27) rfl ?_); refine goesL_ (some 87) rfl rfl Try.func27 (by kernel_rfl) rfl #[.slice (some ⟨go78, 0, none⟩) y255.length co82] rfl (by (try simp only [List.map_toArray, List.map_cons, List.map_nil]); first | done | (rw [show y255.length = t243.length from (Kd.R_reads' HO245.out).1.symm] <;> rfl) | rfl | (simp only [List.length_drop, List.length_take]; rfl)) ?_; (with_reducible refine (span_Canon.calls kj14 _ _ y255 t256 _ ?side1 ?side2 A79.out).mono ?_); (case side1 => repeat (first | exact (Kd.R_reads' HO245.out).2.2 | (with_reducible refine Kd.C_alloc ?_ _) | (with_reducible refine Kd.C_drewN ?_ _) | (with_reducible refine Kd.C_drew ?_))); (case side2 => rw [show y255.length = t243.length from (Kd.R_reads' HO245.out).1.symm]; exact (Kd.R_reads' HO245.out).2.1); rintro e w86 ⟨rfl, hb⟩; refine ⟨_, rfl, ?_⟩; have n0_ := Aside0.mk (Kd.R_below (by (with_reducible repeat (first | apply Kd.R_alloc | apply Kd.R_drewN | apply Kd.R_drew)); exact HO245.out) hb); have n1_ := Aside0.mk (blk_below (g := gb232) (o := .cells #[.int .i64 a0_0, .int .i64 a0_1, .int .i64 a0_2] 47 (0, 0)) (by (with_reducible repeat (first | refine blk_drewN ?_ _ | refine blk_drew ?_ | refine blk_alloc ?_ _)); exact BK232.out) hb); have n2_ := Aside0.mk (below_step (by repeat (first | (with_reducible first | exact HB.out | apply below_alloc | apply pw_below_drewN | apply below_drew1 | refine below_set ?_ GE232.out) | exact HB.out)) hb); clear HO245; clear BK232; clear HB; have HO245 := n0_; have BK232 := n1_; have HB := n2_; clear n0_ n1_ n2_; (try clear hb); (try clear hb2); (try clear hk); (try clear hi)) | ((with_reducible refine gate_callee (f := 28) rfl ?_); refine goesL_ (some 89) rfl rfl Try.func28 (by kernel_rfl) rfl #[.slice (some ⟨go78, 0, none⟩) y255.length co82] rfl (by (try simp only [List.map_toArray, List.map_cons, List.map_nil]); first | done | (rw [show y255.length = t243.length from (Kd.R_reads' HO245.out).1.symm] <;> rfl) | rfl | (simp only [List.length_drop, List.length_take]; rfl)) ?_; (with_reducible refine (busbarref12_Canon.calls kj14 _ _ y255 t257 _ ?side1 ?side2 A80.out).mono ?_); (case side1 => repeat (first | exact (Kd.R_reads' HO245.out).2.2 | (with_reducible refine Kd.C_alloc ?_ _) | (with_reducible refine Kd.C_drewN ?_ _) | (with_reducible refine Kd.C_drew ?_))); (case side2 => rw [show y255.length = t243.length from (Kd.R_reads' HO245.out).1.symm]; exact (Kd.R_reads' HO245.out).2.1); rintro e w87 ⟨rfl, hb⟩; refine ⟨_, rfl, ?_⟩; have n0_ := Aside0.mk (Kd.R_below (by (with_reducible repeat (first | apply Kd.R_alloc | apply Kd.R_drewN | apply Kd.R_drew)); exact HO245.out) hb); have n1_ := Aside0.mk (blk_below (g := gb232) (o := .cells #[.int .i64 a0_0, .int .i64 a0_1, .int .i64 a0_2] 47 (0, 0)) (by (with_reducible repeat (first | refine blk_drewN ?_ _ | refine blk_drew ?_ | refine blk_alloc ?_ _)); exact BK232.out) hb); have n2_ := Aside0.mk (below_step (by repeat (first | (with_reducible first | exact HB.out | apply below_alloc | apply pw_below_drewN | apply below_drew1 | refine below_set ?_ GE232.out) | exact HB.out)) hb); clear HO245; clear BK232; clear HB; have HO245 := n0_; have BK232 := n1_; have HB := n2_; clear n0_ n1_ n2_; (try clear hb); (try clear hb2); (try clear hk); (try clear hi)))
              go_ret
              exact ⟨by first | rfl | (simp [errW_none, errW_some] <;> rfl) | (simp [*, errW_none, errW_some] <;> rfl), by repeat (first | (with_reducible first | exact HB.out | apply below_alloc | apply pw_below_drewN | apply below_drew1 | refine below_set ?_ GE232.out) | exact HB.out)⟩
             ·
              rw [if_neg c77] at H
              exact absurd H (by simp)
            ·
             rw [if_neg c76] at H
             exact absurd H (by simp)
           ·
            rw [if_neg c75] at H
            have c75b0 : (t248 == 2) = false := beq_eq_false_iff_ne.mpr c75
            have c75b1 : (t248 != 2) = true := bne_iff_ne.mpr c75
            by_cases c88 : t248 = 3
            ·
             rw [if_pos c88] at H
             have c88b0 : (t248 == 3) = true := beq_iff_eq.mpr c88
             have c88b1 : (t248 != 3) = false := bne_eq_false_iff_eq.mpr c88
             clear c88
             by_cases c89 : 0 ≤ t247
             ·
              rw [if_pos c89] at H
              have c89b0 : decide (0 ≤ t247) = true := decide_eq_true c89
              clear c89
              by_cases c90 : t247 < (t243.length : Int)
              ·
               rw [if_pos c90] at H
               have c90b0 : decide (t247 < (t243.length : Int)) = true := decide_eq_true c90
               clear c90
               by_cases c91 : t243.length < 5864062014805
               ·
                rw [if_pos c91] at H
                have LMc91 := Aside0.mk c91
                clear c91
                obtain ⟨y259, hy259⟩ : ∃ y_ : List (S47), y_ = (t243 ++ [(⟨(rd_T47 t243 t247).f0, (rd_T47 t243 t247).f1, (rd_T47 t243 t247).f2⟩ : S47)]) := ⟨_, rfl⟩
                replace H : ((span_Canon.f kj14 y259).bind fun t262 => ((busbarref12_Canon.f kj14 y259).bind fun t263 => (some (t262 == t263)))) = some r := by first | (rw [hy259]; with_reducible exact H) | (have H2_ := (Option.bind_some _ _).symm.trans H; rw [hy259]; with_reducible exact H2_) | (have H2_ := (Option.bind_some _ _).symm.trans H; with_reducible exact H2_) | with_reducible exact H | (rw [hy259]; exact H) | exact H
                have Ny259 := Aside0.mk hy259
                clear hy259
                replace H := Option.bind_eq_some_iff.mp H
                obtain ⟨t262, A920, H⟩ := H
                replace H : ((busbarref12_Canon.f kj14 y259).bind fun t263 => (some (t262 == t263))) = some r := H
                have A92 := Aside0.mk A920
                clear A920
                replace H := Option.bind_eq_some_iff.mp H
                obtain ⟨t263, A930, H⟩ := H
                replace H : (some (t262 == t263)) = some r := H
                have A93 := Aside0.mk A930
                clear A930
                obtain rfl := Option.some.inj H
                go_wp2_with (first | ((with_reducible refine gate_callee (f := 30) rfl ?_); refine goesL_ (some 43) rfl rfl Try.func30 (by kernel_rfl) rfl #[.slice A2 l2.length c2] rfl (by (try simp only [List.map_toArray, List.map_cons, List.map_nil]); first | done | rfl | (simp only [List.length_drop, List.length_take]; rfl)) ?_; (with_reducible refine (busbarlaw0_Spans.calls kj14 _ _ l2 t243 _ ?side1 ?side2 A40.out).mono ?_); (case side1 => repeat (first | exact (Kd.C_below HR2.out HB.out) | (with_reducible refine Kd.C_alloc ?_ _) | (with_reducible refine Kd.C_drewN ?_ _) | (with_reducible refine Kd.C_drew ?_))); (case side2 => exact HC2.out); rintro e w94 ⟨v244, rfl, ho0, hb⟩; refine ⟨_, rfl, ?_⟩; have n0_ := Aside0.mk (Kd.R_lower (Kd.R_newB ho0 (g := gb232) (o := .cells #[.int .i64 a0_0, .int .i64 a0_1, .int .i64 a0_2] 47 (0, 0)) (by (with_reducible repeat (first | refine blk_drewN ?_ _ | refine blk_drew ?_ | refine blk_alloc ?_ _)); exact BK232.out)) (below_size (by repeat (first | (with_reducible first | exact HB.out | apply below_alloc | apply pw_below_drewN | apply below_drew1 | refine below_set ?_ GE232.out) | exact HB.out)))); have n1_ := Aside0.mk (blk_below (g := gb232) (o := .cells #[.int .i64 a0_0, .int .i64 a0_1, .int .i64 a0_2] 47 (0, 0)) (by (with_reducible repeat (first | refine blk_drewN ?_ _ | refine blk_drew ?_ | refine blk_alloc ?_ _)); exact BK232.out) hb); have n2_ := Aside0.mk (below_step (by repeat (first | (with_reducible first | exact HB.out | apply below_alloc | apply pw_below_drewN | apply below_drew1 | refine below_set ?_ GE232.out) | exact HB.out)) hb); clear BK232; clear HB; have HO245 := n0_; have BK232 := n1_; have HB := n2_; clear n0_ n1_ n2_; (try clear hb); (try clear hb2); (try clear hk); (try clear hi); (try clear ho0); obtain ⟨Ao95, co95, eo95⟩ := Kd.R_slice HO245.out; subst eo95) | ((with_reducible refine gate_callee (f := 27) rfl ?_); refine goesL_ (some 45) rfl rfl Try.func27 (by kernel_rfl) rfl #[.slice Ao95 t243.length co95] rfl (by (try simp only [List.map_toArray, List.map_cons, List.map_nil]); first | done | rfl | (simp only [List.length_drop, List.length_take]; rfl)) ?_; (with_reducible refine (span_Canon.calls kj14 _ _ t243 true _ ?side1 ?side2 A41.out).mono ?_); (case side1 => repeat (first | exact (Kd.R_reads' HO245.out).2.2 | (with_reducible refine Kd.C_alloc ?_ _) | (with_reducible refine Kd.C_drewN ?_ _) | (with_reducible refine Kd.C_drew ?_))); (case side2 => exact (Kd.R_reads' HO245.out).2.1); rintro e w96 ⟨rfl, hb⟩; refine ⟨_, rfl, ?_⟩; have n0_ := Aside0.mk (Kd.R_below (by (with_reducible repeat (first | apply Kd.R_alloc | apply Kd.R_drewN | apply Kd.R_drew)); exact HO245.out) hb); have n1_ := Aside0.mk (blk_below (g := gb232) (o := .cells #[.int .i64 a0_0, .int .i64 a0_1, .int .i64 a0_2] 47 (0, 0)) (by (with_reducible repeat (first | refine blk_drewN ?_ _ | refine blk_drew ?_ | refine blk_alloc ?_ _)); exact BK232.out) hb); have n2_ := Aside0.mk (below_step (by repeat (first | (with_reducible first | exact HB.out | apply below_alloc | apply pw_below_drewN | apply below_drew1 | refine below_set ?_ GE232.out) | exact HB.out)) hb); clear HO245; clear BK232; clear HB; have HO245 := n0_; have BK232 := n1_; have HB := n2_; clear n0_ n1_ n2_; (try clear hb); (try clear hb2); (try clear hk); (try clear hi)) | ((with_reducible refine gate_callee (f := 31) rfl ?_); refine goesL_ (some 53) rfl rfl Try.func31 (by kernel_rfl) rfl #[.int .i64 a3, .int .i64 4, .int .i64 (t243.length : Int)] rfl (by (try simp only [List.map_toArray, List.map_cons, List.map_nil]); first | done | rfl | (simp only [List.length_drop, List.length_take]; rfl)) ?_; (with_reducible refine (busbarlaw0_Digit.calls a3 4 (t243.length : Int) t247 _ A47.out).mono ?_); rintro e w' ⟨rfl, ⟨nd, rfl⟩⟩; refine ⟨_, rfl, ?_⟩) | ((with_reducible refine gate_callee (f := 16) rfl ?_); refine goesL_ (some 55) rfl rfl Try.func16 (by kernel_rfl) rfl #[.int .i64 a3, .int .i64 4] rfl (by (try simp only [List.map_toArray, List.map_cons, List.map_nil]); first | done | rfl | (simp only [List.length_drop, List.length_take]; rfl)) ?_; (with_reducible refine (busbarlaw0_Within.calls a3 4 t248 _ A48.out).mono ?_); rintro e w' ⟨rfl, ⟨nd, rfl⟩⟩; refine ⟨_, rfl, ?_⟩; have p258 : 0 ≤ (t247 : Int) := of_decide_eq_true (by first | (with_reducible assumption) | assumption); have q258 : t247 < (t243.length : Int) := of_decide_eq_true (by first | (with_reducible assumption) | assumption); obtain ⟨ad258, e258, hx258_0, hx258_1, hx258_2⟩ := at_T47 (Kd.R_reads' HO245.out).2.2 t247 p258 q258; cases e258; replace p258 := eq_true p258; replace q258 := eq_true q258) | ((with_reducible refine gate_builtin (b := .append) (xs := #[.tmp 79, .tmp 84]) rfl ?_); at_builtin; refine Kd.R_append k47 (w0 := w) w.heap.size rfl (.tmp 79) (.tmp 84) 48 47 (.agg #[(.int .i64 0), (.int .i64 0), (.int .i64 0)]) 24 rfl Try.underlying48 info47 rfl (by decide) (by omega) (.slice (some ad258) t243.length co95) t243 (⟨(rd_T47 t243 t247).f0, (rd_T47 t243 t247).f1, (rd_T47 t243 t247).f2⟩ : S47) [.int .i64 ((rd_T47 t243 t247).f0), .int .i64 ((rd_T47 t243 t247).f1), .int .i64 ((rd_T47 t243 t247).f2)] (fun k_ => k_ ≠ gb232) (fun _ => False) rfl rfl ?aP (fun _ hk => hk.elim) ?aF ?aO ?aB ?aS ?aL ?_; (case aP => exact k47_mkM _ _ _ (⟨(rd_T47 t243 t247).f0, (rd_T47 t243 t247).f1, (rd_T47 t243 t247).f2⟩ : S47)); (case aB => exact (by repeat (first | (with_reducible first | exact HB.out | apply below_alloc | apply pw_below_drewN | apply below_drew1 | refine below_set ?_ GE232.out) | exact HB.out))); (case aF => exact (fun k_ hk => Kd.freshB (g := gb232) (o := .cells #[.int .i64 a0_0, .int .i64 a0_1, .int .i64 a0_2] 47 (0, 0)) (by (with_reducible repeat (first | refine blk_drewN ?_ _ | refine blk_drew ?_ | refine blk_alloc ?_ _)); exact BK232.out) k_ hk)); (case aO => exact (by (with_reducible repeat (first | apply Kd.R_alloc | apply Kd.R_drewN | apply Kd.R_drew)); exact Kd.R_mono HO245.out (fun _ hk => by first | exact hk.2 | exact hk))); (case aS => exact (below_size (by repeat (first | (with_reducible first | exact HB.out | apply below_alloc | apply pw_below_drewN | apply below_drew1 | refine below_set ?_ GE232.out) | exact HB.out)))); (case aL => have := LMc91.out; omega); intro v260 w97 ho hb hg hat; rw [← Ny259.out] at ho; have n0_ := Aside0.mk (blk_grown (g := gb232) (o := .cells #[.int .i64 a0_0, .int .i64 a0_1, .int .i64 a0_2] 47 (0, 0)) (by (with_reducible repeat (first | refine blk_drewN ?_ _ | refine blk_drew ?_ | refine blk_alloc ?_ _)); exact BK232.out) hg (Kd.R_away HO245.out (fun _ hk => hk.2))); have n1_ := Aside0.mk (hb); have n2_ := Aside0.mk (ho); clear BK232; clear HB; clear HO245; have BK232 := n0_; have HB := n1_; have HO261 := n2_; clear n0_ n1_ n2_; clear ho hb hg hat; obtain ⟨Ao98, co98, eo98⟩ := Kd.R_slice HO261.out; subst eo98) | ((with_reducible refine gate_callee (f := 27) rfl ?_); refine goesL_ (some 87) rfl rfl Try.func27 (by kernel_rfl) rfl #[.slice Ao98 y259.length co98] rfl (by (try simp only [List.map_toArray, List.map_cons, List.map_nil]); first | done | rfl | (simp only [List.length_drop, List.length_take]; rfl)) ?_; (with_reducible refine (span_Canon.calls kj14 _ _ y259 t262 _ ?side1 ?side2 A92.out).mono ?_); (case side1 => repeat (first | exact (Kd.R_reads' HO261.out).2.2 | (with_reducible refine Kd.C_alloc ?_ _) | (with_reducible refine Kd.C_drewN ?_ _) | (with_reducible refine Kd.C_drew ?_))); (case side2 => exact (Kd.R_reads' HO261.out).2.1); rintro e w99 ⟨rfl, hb⟩; refine ⟨_, rfl, ?_⟩; have n0_ := Aside0.mk (Kd.R_below (by (with_reducible repeat (first | apply Kd.R_alloc | apply Kd.R_drewN | apply Kd.R_drew)); exact HO261.out) hb); have n1_ := Aside0.mk (blk_below (g := gb232) (o := .cells #[.int .i64 a0_0, .int .i64 a0_1, .int .i64 a0_2] 47 (0, 0)) (by (with_reducible repeat (first | refine blk_drewN ?_ _ | refine blk_drew ?_ | refine blk_alloc ?_ _)); exact BK232.out) hb); have n2_ := Aside0.mk (below_step (by repeat (first | (with_reducible first | exact HB.out | apply below_alloc | apply pw_below_drewN | apply below_drew1 | refine below_set ?_ GE232.out) | exact HB.out)) hb); clear HO261; clear BK232; clear HB; have HO261 := n0_; have BK232 := n1_; have HB := n2_; clear n0_ n1_ n2_; (try clear hb); (try clear hb2); (try clear hk); (try clear hi)) | ((with_reducible refine gate_callee (f := 28) rfl ?_); refine goesL_ (some 89) rfl rfl Try.func28 (by kernel_rfl) rfl #[.slice Ao98 y259.length co98] rfl (by (try simp only [List.map_toArray, List.map_cons, List.map_nil]); first | done | rfl | (simp only [List.length_drop, List.length_take]; rfl)) ?_; (with_reducible refine (busbarref12_Canon.calls kj14 _ _ y259 t263 _ ?side1 ?side2 A93.out).mono ?_); (case side1 => repeat (first | exact (Kd.R_reads' HO261.out).2.2 | (with_reducible refine Kd.C_alloc ?_ _) | (with_reducible refine Kd.C_drewN ?_ _) | (with_reducible refine Kd.C_drew ?_))); (case side2 => exact (Kd.R_reads' HO261.out).2.1); rintro e w100 ⟨rfl, hb⟩; refine ⟨_, rfl, ?_⟩; have n0_ := Aside0.mk (Kd.R_below (by (with_reducible repeat (first | apply Kd.R_alloc | apply Kd.R_drewN | apply Kd.R_drew)); exact HO261.out) hb); have n1_ := Aside0.mk (blk_below (g := gb232) (o := .cells #[.int .i64 a0_0, .int .i64 a0_1, .int .i64 a0_2] 47 (0, 0)) (by (with_reducible repeat (first | refine blk_drewN ?_ _ | refine blk_drew ?_ | refine blk_alloc ?_ _)); exact BK232.out) hb); have n2_ := Aside0.mk (below_step (by repeat (first | (with_reducible first | exact HB.out | apply below_alloc | apply pw_below_drewN | apply below_drew1 | refine below_set ?_ GE232.out) | exact HB.out)) hb); clear HO261; clear BK232; clear HB; have HO261 := n0_; have BK232 := n1_; have HB := n2_; clear n0_ n1_ n2_; (try clear hb); (try clear hb2); (try clear hk); (try clear hi)))
                go_ret
                exact ⟨by first | rfl | (simp [errW_none, errW_some] <;> rfl) | (simp [*, errW_none, errW_some] <;> rfl), by repeat (first | (with_reducible first | exact HB.out | apply below_alloc | apply pw_below_drewN | apply below_drew1 | refine below_set ?_ GE232.out) | exact HB.out)⟩
               ·
                rw [if_neg c91] at H
                exact absurd H (by simp)
              ·
               rw [if_neg c90] at H
               exact absurd H (by simp)
             ·
              rw [if_neg c89] at H
              exact absurd H (by simp)
            ·
             rw [if_neg c88] at H
             have c88b0 : (t248 == 3) = false := beq_eq_false_iff_ne.mpr c88
             have c88b1 : (t248 != 3) = true := bne_iff_ne.mpr c88
             replace H := Option.bind_eq_some_iff.mp H
             obtain ⟨t264, A1010, H⟩ := H
             replace H : ((busbarref12_Canon.f kj14 t243).bind fun t265 => (some (t264 == t265))) = some r := H
             have A101 := Aside0.mk A1010
             clear A1010
             replace H := Option.bind_eq_some_iff.mp H
             obtain ⟨t265, A1020, H⟩ := H
             replace H : (some (t264 == t265)) = some r := H
             have A102 := Aside0.mk A1020
             clear A1020
             obtain rfl := Option.some.inj H
             go_wp2_with (first | ((with_reducible refine gate_callee (f := 30) rfl ?_); refine goesL_ (some 43) rfl rfl Try.func30 (by kernel_rfl) rfl #[.slice A2 l2.length c2] rfl (by (try simp only [List.map_toArray, List.map_cons, List.map_nil]); first | done | rfl | (simp only [List.length_drop, List.length_take]; rfl)) ?_; (with_reducible refine (busbarlaw0_Spans.calls kj14 _ _ l2 t243 _ ?side1 ?side2 A40.out).mono ?_); (case side1 => repeat (first | exact (Kd.C_below HR2.out HB.out) | (with_reducible refine Kd.C_alloc ?_ _) | (with_reducible refine Kd.C_drewN ?_ _) | (with_reducible refine Kd.C_drew ?_))); (case side2 => exact HC2.out); rintro e w103 ⟨v244, rfl, ho0, hb⟩; refine ⟨_, rfl, ?_⟩; have n0_ := Aside0.mk (Kd.R_lower (Kd.R_newB ho0 (g := gb232) (o := .cells #[.int .i64 a0_0, .int .i64 a0_1, .int .i64 a0_2] 47 (0, 0)) (by (with_reducible repeat (first | refine blk_drewN ?_ _ | refine blk_drew ?_ | refine blk_alloc ?_ _)); exact BK232.out)) (below_size (by repeat (first | (with_reducible first | exact HB.out | apply below_alloc | apply pw_below_drewN | apply below_drew1 | refine below_set ?_ GE232.out) | exact HB.out)))); have n1_ := Aside0.mk (blk_below (g := gb232) (o := .cells #[.int .i64 a0_0, .int .i64 a0_1, .int .i64 a0_2] 47 (0, 0)) (by (with_reducible repeat (first | refine blk_drewN ?_ _ | refine blk_drew ?_ | refine blk_alloc ?_ _)); exact BK232.out) hb); have n2_ := Aside0.mk (below_step (by repeat (first | (with_reducible first | exact HB.out | apply below_alloc | apply pw_below_drewN | apply below_drew1 | refine below_set ?_ GE232.out) | exact HB.out)) hb); clear BK232; clear HB; have HO245 := n0_; have BK232 := n1_; have HB := n2_; clear n0_ n1_ n2_; (try clear hb); (try clear hb2); (try clear hk); (try clear hi); (try clear ho0); obtain ⟨Ao104, co104, eo104⟩ := Kd.R_slice HO245.out; subst eo104) | ((with_reducible refine gate_callee (f := 27) rfl ?_); refine goesL_ (some 45) rfl rfl Try.func27 (by kernel_rfl) rfl #[.slice Ao104 t243.length co104] rfl (by (try simp only [List.map_toArray, List.map_cons, List.map_nil]); first | done | rfl | (simp only [List.length_drop, List.length_take]; rfl)) ?_; (with_reducible refine (span_Canon.calls kj14 _ _ t243 true _ ?side1 ?side2 A41.out).mono ?_); (case side1 => repeat (first | exact (Kd.R_reads' HO245.out).2.2 | (with_reducible refine Kd.C_alloc ?_ _) | (with_reducible refine Kd.C_drewN ?_ _) | (with_reducible refine Kd.C_drew ?_))); (case side2 => exact (Kd.R_reads' HO245.out).2.1); rintro e w105 ⟨rfl, hb⟩; refine ⟨_, rfl, ?_⟩; have n0_ := Aside0.mk (Kd.R_below (by (with_reducible repeat (first | apply Kd.R_alloc | apply Kd.R_drewN | apply Kd.R_drew)); exact HO245.out) hb); have n1_ := Aside0.mk (blk_below (g := gb232) (o := .cells #[.int .i64 a0_0, .int .i64 a0_1, .int .i64 a0_2] 47 (0, 0)) (by (with_reducible repeat (first | refine blk_drewN ?_ _ | refine blk_drew ?_ | refine blk_alloc ?_ _)); exact BK232.out) hb); have n2_ := Aside0.mk (below_step (by repeat (first | (with_reducible first | exact HB.out | apply below_alloc | apply pw_below_drewN | apply below_drew1 | refine below_set ?_ GE232.out) | exact HB.out)) hb); clear HO245; clear BK232; clear HB; have HO245 := n0_; have BK232 := n1_; have HB := n2_; clear n0_ n1_ n2_; (try clear hb); (try clear hb2); (try clear hk); (try clear hi)) | ((with_reducible refine gate_callee (f := 31) rfl ?_); refine goesL_ (some 53) rfl rfl Try.func31 (by kernel_rfl) rfl #[.int .i64 a3, .int .i64 4, .int .i64 (t243.length : Int)] rfl (by (try simp only [List.map_toArray, List.map_cons, List.map_nil]); first | done | rfl | (simp only [List.length_drop, List.length_take]; rfl)) ?_; (with_reducible refine (busbarlaw0_Digit.calls a3 4 (t243.length : Int) t247 _ A47.out).mono ?_); rintro e w' ⟨rfl, ⟨nd, rfl⟩⟩; refine ⟨_, rfl, ?_⟩) | ((with_reducible refine gate_callee (f := 16) rfl ?_); refine goesL_ (some 55) rfl rfl Try.func16 (by kernel_rfl) rfl #[.int .i64 a3, .int .i64 4] rfl (by (try simp only [List.map_toArray, List.map_cons, List.map_nil]); first | done | rfl | (simp only [List.length_drop, List.length_take]; rfl)) ?_; (with_reducible refine (busbarlaw0_Within.calls a3 4 t248 _ A48.out).mono ?_); rintro e w' ⟨rfl, ⟨nd, rfl⟩⟩; refine ⟨_, rfl, ?_⟩) | ((with_reducible refine gate_callee (f := 27) rfl ?_); refine goesL_ (some 87) rfl rfl Try.func27 (by kernel_rfl) rfl #[.slice Ao104 t243.length co104] rfl (by (try simp only [List.map_toArray, List.map_cons, List.map_nil]); first | done | rfl | (simp only [List.length_drop, List.length_take]; rfl)) ?_; (with_reducible refine (span_Canon.calls kj14 _ _ t243 t264 _ ?side1 ?side2 A101.out).mono ?_); (case side1 => repeat (first | exact (Kd.R_reads' HO245.out).2.2 | (with_reducible refine Kd.C_alloc ?_ _) | (with_reducible refine Kd.C_drewN ?_ _) | (with_reducible refine Kd.C_drew ?_))); (case side2 => exact (Kd.R_reads' HO245.out).2.1); rintro e w106 ⟨rfl, hb⟩; refine ⟨_, rfl, ?_⟩; have n0_ := Aside0.mk (Kd.R_below (by (with_reducible repeat (first | apply Kd.R_alloc | apply Kd.R_drewN | apply Kd.R_drew)); exact HO245.out) hb); have n1_ := Aside0.mk (blk_below (g := gb232) (o := .cells #[.int .i64 a0_0, .int .i64 a0_1, .int .i64 a0_2] 47 (0, 0)) (by (with_reducible repeat (first | refine blk_drewN ?_ _ | refine blk_drew ?_ | refine blk_alloc ?_ _)); exact BK232.out) hb); have n2_ := Aside0.mk (below_step (by repeat (first | (with_reducible first | exact HB.out | apply below_alloc | apply pw_below_drewN | apply below_drew1 | refine below_set ?_ GE232.out) | exact HB.out)) hb); clear HO245; clear BK232; clear HB; have HO245 := n0_; have BK232 := n1_; have HB := n2_; clear n0_ n1_ n2_; (try clear hb); (try clear hb2); (try clear hk); (try clear hi)) | ((with_reducible refine gate_callee (f := 28) rfl ?_); refine goesL_ (some 89) rfl rfl Try.func28 (by kernel_rfl) rfl #[.slice Ao104 t243.length co104] rfl (by (try simp only [List.map_toArray, List.map_cons, List.map_nil]); first | done | rfl | (simp only [List.length_drop, List.length_take]; rfl)) ?_; (with_reducible refine (busbarref12_Canon.calls kj14 _ _ t243 t265 _ ?side1 ?side2 A102.out).mono ?_); (case side1 => repeat (first | exact (Kd.R_reads' HO245.out).2.2 | (with_reducible refine Kd.C_alloc ?_ _) | (with_reducible refine Kd.C_drewN ?_ _) | (with_reducible refine Kd.C_drew ?_))); (case side2 => exact (Kd.R_reads' HO245.out).2.1); rintro e w107 ⟨rfl, hb⟩; refine ⟨_, rfl, ?_⟩; have n0_ := Aside0.mk (Kd.R_below (by (with_reducible repeat (first | apply Kd.R_alloc | apply Kd.R_drewN | apply Kd.R_drew)); exact HO245.out) hb); have n1_ := Aside0.mk (blk_below (g := gb232) (o := .cells #[.int .i64 a0_0, .int .i64 a0_1, .int .i64 a0_2] 47 (0, 0)) (by (with_reducible repeat (first | refine blk_drewN ?_ _ | refine blk_drew ?_ | refine blk_alloc ?_ _)); exact BK232.out) hb); have n2_ := Aside0.mk (below_step (by repeat (first | (with_reducible first | exact HB.out | apply below_alloc | apply pw_below_drewN | apply below_drew1 | refine below_set ?_ GE232.out) | exact HB.out)) hb); clear HO245; clear BK232; clear HB; have HO245 := n0_; have BK232 := n1_; have HB := n2_; clear n0_ n1_ n2_; (try clear hb); (try clear hb2); (try clear hk); (try clear hi)))
             go_ret
             exact ⟨by first | rfl | (simp [errW_none, errW_some] <;> rfl) | (simp [*, errW_none, errW_some] <;> rfl), by repeat (first | (with_reducible first | exact HB.out | apply below_alloc | apply pw_below_drewN | apply below_drew1 | refine below_set ?_ GE232.out) | exact HB.out)⟩
       ·
        replace c42 := Bool.eq_false_iff.mpr c42
        subst c42
        have H1 : (some false) = some r := by rw [if_neg (show ¬ (false = true) by decide)] at H; exact H
        clear H
        have H := H1
        clear H1
        obtain rfl := Option.some.inj H
        go_wp2_with (first | ((with_reducible refine gate_callee (f := 30) rfl ?_); refine goesL_ (some 43) rfl rfl Try.func30 (by kernel_rfl) rfl #[.slice A2 l2.length c2] rfl (by (try simp only [List.map_toArray, List.map_cons, List.map_nil]); first | done | rfl | (simp only [List.length_drop, List.length_take]; rfl)) ?_; (with_reducible refine (busbarlaw0_Spans.calls kj14 _ _ l2 t243 _ ?side1 ?side2 A40.out).mono ?_); (case side1 => repeat (first | exact (Kd.C_below HR2.out HB.out) | (with_reducible refine Kd.C_alloc ?_ _) | (with_reducible refine Kd.C_drewN ?_ _) | (with_reducible refine Kd.C_drew ?_))); (case side2 => exact HC2.out); rintro e w108 ⟨v244, rfl, ho0, hb⟩; refine ⟨_, rfl, ?_⟩; have n0_ := Aside0.mk (Kd.R_lower (Kd.R_newB ho0 (g := gb232) (o := .cells #[.int .i64 a0_0, .int .i64 a0_1, .int .i64 a0_2] 47 (0, 0)) (by (with_reducible repeat (first | refine blk_drewN ?_ _ | refine blk_drew ?_ | refine blk_alloc ?_ _)); exact BK232.out)) (below_size (by repeat (first | (with_reducible first | exact HB.out | apply below_alloc | apply pw_below_drewN | apply below_drew1 | refine below_set ?_ GE232.out) | exact HB.out)))); have n1_ := Aside0.mk (blk_below (g := gb232) (o := .cells #[.int .i64 a0_0, .int .i64 a0_1, .int .i64 a0_2] 47 (0, 0)) (by (with_reducible repeat (first | refine blk_drewN ?_ _ | refine blk_drew ?_ | refine blk_alloc ?_ _)); exact BK232.out) hb); have n2_ := Aside0.mk (below_step (by repeat (first | (with_reducible first | exact HB.out | apply below_alloc | apply pw_below_drewN | apply below_drew1 | refine below_set ?_ GE232.out) | exact HB.out)) hb); clear BK232; clear HB; have HO245 := n0_; have BK232 := n1_; have HB := n2_; clear n0_ n1_ n2_; (try clear hb); (try clear hb2); (try clear hk); (try clear hi); (try clear ho0); obtain ⟨Ao109, co109, eo109⟩ := Kd.R_slice HO245.out; subst eo109) | ((with_reducible refine gate_callee (f := 27) rfl ?_); refine goesL_ (some 45) rfl rfl Try.func27 (by kernel_rfl) rfl #[.slice Ao109 t243.length co109] rfl (by (try simp only [List.map_toArray, List.map_cons, List.map_nil]); first | done | rfl | (simp only [List.length_drop, List.length_take]; rfl)) ?_; (with_reducible refine (span_Canon.calls kj14 _ _ t243 false _ ?side1 ?side2 A41.out).mono ?_); (case side1 => repeat (first | exact (Kd.R_reads' HO245.out).2.2 | (with_reducible refine Kd.C_alloc ?_ _) | (with_reducible refine Kd.C_drewN ?_ _) | (with_reducible refine Kd.C_drew ?_))); (case side2 => exact (Kd.R_reads' HO245.out).2.1); rintro e w110 ⟨rfl, hb⟩; refine ⟨_, rfl, ?_⟩; have n0_ := Aside0.mk (Kd.R_below (by (with_reducible repeat (first | apply Kd.R_alloc | apply Kd.R_drewN | apply Kd.R_drew)); exact HO245.out) hb); have n1_ := Aside0.mk (blk_below (g := gb232) (o := .cells #[.int .i64 a0_0, .int .i64 a0_1, .int .i64 a0_2] 47 (0, 0)) (by (with_reducible repeat (first | refine blk_drewN ?_ _ | refine blk_drew ?_ | refine blk_alloc ?_ _)); exact BK232.out) hb); have n2_ := Aside0.mk (below_step (by repeat (first | (with_reducible first | exact HB.out | apply below_alloc | apply pw_below_drewN | apply below_drew1 | refine below_set ?_ GE232.out) | exact HB.out)) hb); clear HO245; clear BK232; clear HB; have HO245 := n0_; have BK232 := n1_; have HB := n2_; clear n0_ n1_ n2_; (try clear hb); (try clear hb2); (try clear hk); (try clear hi)))
        go_ret
        exact ⟨by first | rfl | (simp [errW_none, errW_some] <;> rfl) | (simp [*, errW_none, errW_some] <;> rfl), by repeat (first | (with_reducible first | exact HB.out | apply below_alloc | apply pw_below_drewN | apply below_drew1 | refine below_set ?_ GE232.out) | exact HB.out)⟩

end Go.Proofs.Ytkioalfallhegaa.PSpanL
